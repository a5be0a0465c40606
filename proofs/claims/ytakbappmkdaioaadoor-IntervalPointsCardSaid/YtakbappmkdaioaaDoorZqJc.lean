/-
  Walks: package interval: least, most, Subset, Interior, Hull, Mag, Mig.
-/
import Derived.Test.YtakbappmkdaioaaDoorZqJA
namespace Go.Proofs.YtakbappmkdaioaaDoor
open Go.RowKit Sp

attribute [local irreducible] Calls
theorem fless_self (a : Nat) : fless a a = false := by
  unfold fless fcmpv
  split <;> simp [cmpI]
theorem fmax2_self (a : Nat) : fmax2 a a = a := by unfold fmax2; rw [fless_self]; rfl
theorem fmin2_self (a : Nat) : fmin2 a a = a := by unfold fmin2; rw [fless_self]; rfl
def fmaxL (L : Nat → Nat) : Nat → Nat
  | 0 => L 0
  | k + 1 => fmax2 (fmaxL L k) (L k)
def fminL (L : Nat → Nat) : Nat → Nat
  | 0 => L 0
  | k + 1 => fmin2 (fminL L k) (L k)
theorem fmaxL_lt {L : Nat → Nat} {n : Nat} (h : ∀ i, i < n → L i < 18446744073709551616) (h0 : 0 < n) : ∀ k, k ≤ n → fmaxL L k < 18446744073709551616
  | 0, _ => h 0 h0
  | k + 1, hk => fmax2_lt (fmaxL_lt h h0 k (by omega)) (h k (by omega))
theorem fminL_lt {L : Nat → Nat} {n : Nat} (h : ∀ i, i < n → L i < 18446744073709551616) (h0 : 0 < n) : ∀ k, k ≤ n → fminL L k < 18446744073709551616
  | 0, _ => h 0 h0
  | k + 1, hk => fmin2_lt (fminL_lt h h0 k (by omega)) (h k (by omega))

set_option maxRecDepth 100000 in
set_option maxHeartbeats 8000000 in
theorem imost_any (w : World) (g n : Nat) (L : Nat → Nat) (hn : n ≤ 1000) (hp : 0 < n) (hL : ∀ i, i < n → L i < 18446744073709551616) (hg : g < w.heap.size) (hc : FRow w g n L) :
    Calls Tryd.prog 38 #[.slice (some ⟨g, 0, none⟩) n n] w fun e w' => e = .returned (.int .u64 (fmaxL L n : Nat)) ∧ Below w.heap.size w w' := by
  have c0 := hc 0 hp
  have HC := Lib.hid hc
  have HL := Lib.hid hL
  clear hc hL
  go_enter Tryd.func38, Tryd.ntmps38
  go_wp2_with fail
  go_loopw [3, 11] (fun o i wr => ∃ k : Nat, k ≤ n ∧ i = .int .i64 k ∧ o = .int .u64 (fmaxL L k : Nat) ∧ Below w.heap.size w wr) (fun _ i _ => n - (intOf i).toNat)
  case atStart => exact ⟨0, Nat.zero_le _, rfl, rfl, zbh⟩
  case round =>
    obtain ⟨k, hk, rfl, rfl, hb⟩ := hrel
    have hL := HL.out
    by_cases hlt : k < n
    · have c1 := (hb.cell (p := ⟨g, k, none⟩) hg).trans (HC.out k hlt)
      have H1 := fun W => Lib.hid (frm (iless_any W (fmaxL L k) (L k) (fmaxL_lt hL hp k hk) (hL k hlt)))
      have hs : fmaxL L (k + 1) = if fless (fmaxL L k) (L k) then L k else fmaxL L k := rfl
      have BE := Beh.mk hb
      clear c0 hb hL
      generalize fless (fmaxL L k) (L k) = q at H1 hs
      cases q
      · have HS := Lib.hid (show ((fmaxL L k : Nat) : Int) = ((fmaxL L (k + 1) : Nat) : Int) from by rw [hs]; rfl)
        clear hs
        generalize ((fmaxL L k : Nat) : Int) = x at *
        generalize ((L k : Nat) : Int) = y at *
        go_wp2_with fail
        refine (H1 _).out.mono ?_
        rintro e w1 ⟨rfl, b1⟩
        go_wp2_with fail
        go_roundw
        case rel => exact ⟨k + 1, by omega, by go_num, by rw [HS.out], zbh⟩
        case measure => simp [intOf]; omega
      · have HS := Lib.hid (show ((L k : Nat) : Int) = ((fmaxL L (k + 1) : Nat) : Int) from by rw [hs]; rfl)
        clear hs
        generalize ((fmaxL L k : Nat) : Int) = x at *
        generalize ((L k : Nat) : Int) = y at *
        go_wp2_with fail
        refine (H1 _).out.mono ?_
        rintro e w1 ⟨rfl, b1⟩
        go_wp2_with fail
        go_roundw
        case rel => exact ⟨k + 1, by omega, by go_num, by rw [HS.out], zbh⟩
        case measure => simp [intOf]; omega
    · obtain rfl : k = n := by omega
      have BE := Beh.mk hb
      go_wp2
      go_ret
      exact ⟨rfl, zbh⟩

set_option maxRecDepth 100000 in
set_option maxHeartbeats 8000000 in
theorem ileast_any (w : World) (g n : Nat) (L : Nat → Nat) (hn : n ≤ 1000) (hp : 0 < n) (hL : ∀ i, i < n → L i < 18446744073709551616) (hg : g < w.heap.size) (hc : FRow w g n L) :
    Calls Tryd.prog 37 #[.slice (some ⟨g, 0, none⟩) n n] w fun e w' => e = .returned (.int .u64 (fminL L n : Nat)) ∧ Below w.heap.size w w' := by
  have c0 := hc 0 hp
  have HC := Lib.hid hc
  have HL := Lib.hid hL
  clear hc hL
  go_enter Tryd.func37, Tryd.ntmps37
  go_wp2_with fail
  go_loopw [3, 11] (fun o i wr => ∃ k : Nat, k ≤ n ∧ i = .int .i64 k ∧ o = .int .u64 (fminL L k : Nat) ∧ Below w.heap.size w wr) (fun _ i _ => n - (intOf i).toNat)
  case atStart => exact ⟨0, Nat.zero_le _, rfl, rfl, zbh⟩
  case round =>
    obtain ⟨k, hk, rfl, rfl, hb⟩ := hrel
    have hL := HL.out
    by_cases hlt : k < n
    · have c1 := (hb.cell (p := ⟨g, k, none⟩) hg).trans (HC.out k hlt)
      have H1 := fun W => Lib.hid (frm (iless_any W (L k) (fminL L k) (hL k hlt) (fminL_lt hL hp k hk)))
      have hs : fminL L (k + 1) = if fless (L k) (fminL L k) then L k else fminL L k := rfl
      have BE := Beh.mk hb
      clear c0 hb hL
      generalize fless (L k) (fminL L k) = q at H1 hs
      cases q
      · have HS := Lib.hid (show ((fminL L k : Nat) : Int) = ((fminL L (k + 1) : Nat) : Int) from by rw [hs]; rfl)
        clear hs
        generalize ((fminL L k : Nat) : Int) = x at *
        generalize ((L k : Nat) : Int) = y at *
        go_wp2_with fail
        refine (H1 _).out.mono ?_
        rintro e w1 ⟨rfl, b1⟩
        go_wp2_with fail
        go_roundw
        case rel => exact ⟨k + 1, by omega, by go_num, by rw [HS.out], zbh⟩
        case measure => simp [intOf]; omega
      · have HS := Lib.hid (show ((L k : Nat) : Int) = ((fminL L (k + 1) : Nat) : Int) from by rw [hs]; rfl)
        clear hs
        generalize ((fminL L k : Nat) : Int) = x at *
        generalize ((L k : Nat) : Int) = y at *
        go_wp2_with fail
        refine (H1 _).out.mono ?_
        rintro e w1 ⟨rfl, b1⟩
        go_wp2_with fail
        go_roundw
        case rel => exact ⟨k + 1, by omega, by go_num, by rw [HS.out], zbh⟩
        case measure => simp [intOf]; omega
    · obtain rfl : k = n := by omega
      have BE := Beh.mk hb
      go_wp2
      go_ret
      exact ⟨rfl, zbh⟩

set_option maxRecDepth 100000 in
set_option maxHeartbeats 8000000 in
theorem isubset_any (w : World) (a : Nat) (b : Nat) (c : Nat) (d : Nat) (ha : a < 18446744073709551616) (hb : b < 18446744073709551616) (hc : c < 18446744073709551616) (hd : d < 18446744073709551616) : Calls Tryd.prog 13 #[.agg #[.int .u64 (a : Nat), .int .u64 (b : Nat)], .agg #[.int .u64 (c : Nat), .int .u64 (d : Nat)]] w fun e w' => e = .returned (.bool (isubset (a, b) (c, d))) ∧ Below w.heap.size w w' := by
  have HB := fun W => Lib.hid (frm (iboth_any W a b c d ha hb hc hd))
  have H1 := fun W => Lib.hid (frm (iless_any W a c ha hc))
  have H2 := fun W => Lib.hid (frm (iless_any W d b hd hb))
  show Calls _ _ _ _ fun e w' => e = .returned (.bool (iok (a, b) && iok (c, d) && !fless a c && !fless d b)) ∧ Below w.heap.size w w'
  generalize (iok (a, b) && iok (c, d)) = k0 at *
  generalize fless a c = k1 at *
  generalize fless d b = k2 at *
  generalize ((a : Nat) : Int) = p at *
  generalize ((b : Nat) : Int) = q at *
  generalize ((c : Nat) : Int) = r at *
  generalize ((d : Nat) : Int) = s at *
  cases k0
  · skip
    go_enter Tryd.func13, Tryd.ntmps13
    go_wp2_with fail
    refine (HB _).out.mono ?_
    rintro e w1 ⟨rfl, b1⟩
    go_wp2_with fail
    go_ret
    exact ⟨rfl, zbh⟩
  · cases k1
    · skip
      go_enter Tryd.func13, Tryd.ntmps13
      go_wp2_with fail
      refine (HB _).out.mono ?_
      rintro e w1 ⟨rfl, b1⟩
      go_wp2_with fail
      refine (H1 _).out.mono ?_
      rintro e w2 ⟨rfl, b2⟩
      go_wp2_with fail
      refine (H2 _).out.mono ?_
      rintro e w3 ⟨rfl, b3⟩
      go_wp2_with fail
      go_ret
      exact ⟨rfl, zbh⟩
    · skip
      go_enter Tryd.func13, Tryd.ntmps13
      go_wp2_with fail
      refine (HB _).out.mono ?_
      rintro e w1 ⟨rfl, b1⟩
      go_wp2_with fail
      refine (H1 _).out.mono ?_
      rintro e w2 ⟨rfl, b2⟩
      go_wp2_with fail
      go_ret
      exact ⟨rfl, zbh⟩

end Go.Proofs.YtakbappmkdaioaaDoor


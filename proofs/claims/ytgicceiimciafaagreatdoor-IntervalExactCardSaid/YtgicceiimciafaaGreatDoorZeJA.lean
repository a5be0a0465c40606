/-
  Walks: package interval: clean, result, less, Valid, both, zero, Point, Neg, Add, Sub.
  Walks: package interval: least, most, Subset, Interior, Hull, Mag, Mig.
-/
import Derived.Test.YtgicceiimciafaaGreatDoorZeCL
import Derived.Test.YtgicceiimciafaaGreatDoorZeGA
import Derived.Test.YtgicceiimciafaaGreatDoorZeIP
set_option maxRecDepth 100000
set_option maxHeartbeats 8000000
namespace Go.Proofs.YtgicceiimciafaaGreatDoor
open Go.RowKit Sp
theorem iclean_any (w : World) (f : Nat) (_hf : f < 18446744073709551616) : Calls Tryz.prog 100 #[.int .u64 (f : Nat)] w fun e w' => e = .returned (.int .u64 (fclean f : Nat)) ∧ w = w' := by
 unfold fclean
 by_cases h : f = 9223372036854775808
 · rw [if_pos h]
   subst h
   go_enter Tryz.func100, Tryz.ntmps100
   go_wp2
   go_ret
   exact ⟨rfl, rfl⟩
 · rw [if_neg h]
   have hq : ¬ ((f : Nat) : Int) = 9223372036854775808 := by omega
   generalize ((f : Nat) : Int) = p at *
   go_enter Tryz.func100, Tryz.ntmps100
   go_wp2
   go_ret
   exact ⟨rfl, rfl⟩
theorem iresult_any (w : World) (a b : Nat) (ha : a < 18446744073709551616) (hb : b < 18446744073709551616) : Calls Tryz.prog 52 #[.int .u64 (a : Nat), .int .u64 (b : Nat)] w fun e w' => e = .returned (.agg #[.int .u64 (fclean a : Nat), .int .u64 (fclean b : Nat)]) ∧ Below w.heap.size w w' := by
 have H1 := fun W => Lib.hid (iclean_any W a ha)
 have H2 := fun W => Lib.hid (iclean_any W b hb)
 generalize ((fclean a : Nat) : Int) = p at *
 generalize ((fclean b : Nat) : Int) = q at *
 generalize ((a : Nat) : Int) = p' at *
 generalize ((b : Nat) : Int) = q' at *
 go_enter Tryz.func52, Tryz.ntmps52
 go_wp2_with fail
 refine (H1 _).out.mono ?_
 rintro e w1 ⟨rfl, rfl⟩
 go_wp2_with fail
 refine (H2 _).out.mono ?_
 rintro e w1 ⟨rfl, rfl⟩
 go_wp2_with fail
 refine bodyPost_ret (v := .agg #[.int .u64 p, .int .u64 q]) (by simp only [results, Tryz.results52]; go_simp) rfl ?_
 exact ⟨rfl, zbh⟩
theorem iwhole_any (w : World) : Calls Tryz.prog 51 #[] w fun e w' => e = .returned (.agg #[.int .u64 (fNInf : Nat), .int .u64 (fInf : Nat)]) ∧ Below w.heap.size w w' := by
 show Calls _ _ _ _ fun e w' => e = .returned (.agg #[.int .u64 18442240474082181120, .int .u64 9218868437227405312]) ∧ Below w.heap.size w w'
 go_enter Tryz.func51, Tryz.ntmps51
 go_wp2_with fail
 refine bodyPost_ret (v := .agg #[.int .u64 18442240474082181120, .int .u64 9218868437227405312]) (by simp only [results, Tryz.results51]; go_simp) rfl ?_
 exact ⟨rfl, zbh⟩
theorem iless_any (w : World) (a b : Nat) (ha : a < 18446744073709551616) (hb : b < 18446744073709551616) : Calls Tryz.prog 72 #[.int .u64 (a : Nat), .int .u64 (b : Nat)] w fun e w' => e = .returned (.bool (fless a b)) ∧ Below w.heap.size w w' := by
 have H1 := fun W => Lib.hid (frm (fcmp_any W a b ha hb))
 unfold fless
 generalize fcmpv a b = c at *
 generalize fcmpok a b = k at *
 generalize ((a : Nat) : Int) = p at *
 generalize ((b : Nat) : Int) = q at *
 go_enter Tryz.func72, Tryz.ntmps72
 go_wp2_with fail
 refine (H1 _).out.mono ?_
 rintro e w1 ⟨rfl, b1⟩
 go_wp2_with fail
 go_ret
 exact ⟨rfl, zbh⟩
theorem beq_nat (a N : Nat) (z : Int) (h : z = (N : Int)) : (((a : Nat) : Int) == z) = decide (a = N) := by
 subst h; rw [Bool.eq_iff_iff]; simp; omega
theorem two_ways (b : Bool) : b = true ∨ b = false := by cases b <;> simp
theorem ivalid_any (w : World) (a b : Nat) (ha : a < 18446744073709551616) (hb : b < 18446744073709551616) : Calls Tryz.prog 13 #[.agg #[.int .u64 (a : Nat), .int .u64 (b : Nat)]] w fun e w' => e = .returned (.bool (iok (a, b))) ∧ Below w.heap.size w w' := by
 have H1 := fun W => Lib.hid (frm (fcmp_any W a b ha hb))
 have e1 := beq_nat a fInf 9218868437227405312 (by decide)
 have e2 := beq_nat b fNInf 18442240474082181120 (by decide)
 have hv : iok (a, b) = (fcmpok a b && decide (fcmpv a b ≤ 0) && !(((a : Nat) : Int) == 9218868437227405312) && !(((b : Nat) : Int) == 18442240474082181120)) := by
  rw [e1, e2]; unfold iok; simp only [ne_eq, decide_not]
 rw [hv]
 clear hv e1 e2
 generalize fcmpv a b = c at *
 generalize fcmpok a b = k at *
 generalize ((a : Nat) : Int) = p at *
 generalize ((b : Nat) : Int) = q at *
 rcases two_ways k with rfl | rfl <;> rcases two_ways (decide (c ≤ 0)) with hc | hc <;> rcases two_ways (p == 9218868437227405312) with hp | hp
 all_goals (
  rw [hc, hp]
  simp only [decide_eq_true_eq, decide_eq_false_iff_not, beq_iff_eq, beq_eq_false_iff_ne, ne_eq] at hc hp
  (try subst hp)
  go_enter Tryz.func13, Tryz.ntmps13
  go_wp2_with fail
  refine (H1 _).out.mono ?_
  rintro e w1 ⟨rfl, b1⟩
  go_wp2_with fail
  go_ret
  first | exact ⟨rfl, zbh⟩ | (refine ⟨?_, zbh⟩; simp [bne, hp]; done) | (refine ⟨?_, zbh⟩; simp [bne]; done))
theorem iboth_any (w : World) (a : Nat) (b : Nat) (c : Nat) (d : Nat) (ha : a < 18446744073709551616) (hb : b < 18446744073709551616) (hc : c < 18446744073709551616) (hd : d < 18446744073709551616) : Calls Tryz.prog 56 #[.agg #[.int .u64 (a : Nat), .int .u64 (b : Nat)], .agg #[.int .u64 (c : Nat), .int .u64 (d : Nat)]] w fun e w' => e = .returned (.bool (iok (a, b) && iok (c, d))) ∧ Below w.heap.size w w' := by
 have H1 := fun W => Lib.hid (frm (ivalid_any W a b ha hb))
 have H2 := fun W => Lib.hid (frm (ivalid_any W c d hc hd))
 generalize iok (a, b) = k1 at *
 generalize iok (c, d) = k2 at *
 generalize ((a : Nat) : Int) = p at *
 generalize ((b : Nat) : Int) = q at *
 generalize ((c : Nat) : Int) = r at *
 generalize ((d : Nat) : Int) = s at *
 cases k1
 · go_enter Tryz.func56, Tryz.ntmps56
   go_wp2_with fail
   refine (H1 _).out.mono ?_
   rintro e w1 ⟨rfl, b1⟩
   go_wp2_with fail
   go_ret
   exact ⟨rfl, zbh⟩
 · go_enter Tryz.func56, Tryz.ntmps56
   go_wp2_with fail
   refine (H1 _).out.mono ?_
   rintro e w1 ⟨rfl, b1⟩
   go_wp2_with fail
   refine (H2 _).out.mono ?_
   rintro e w2 ⟨rfl, b2⟩
   go_wp2_with fail
   go_ret
   exact ⟨rfl, zbh⟩
theorem izero_any (w : World) (a : Nat) (b : Nat) (ha : a < 18446744073709551616) (hb : b < 18446744073709551616) : Calls Tryz.prog 66 #[.agg #[.int .u64 (a : Nat), .int .u64 (b : Nat)]] w fun e w' => e = .returned (.bool (izero (a, b))) ∧ Below w.heap.size w w' := by
 have H1 := fun W => Lib.hid (show Calls Tryz.prog 72 #[.int .u64 0, .int .u64 (a : Nat)] W fun e w' => e = .returned (.bool (fless 0 a)) ∧ From W w' from frm (iless_any W 0 a (by decide) ha))
 have H2 := fun W => Lib.hid (show Calls Tryz.prog 72 #[.int .u64 (b : Nat), .int .u64 0] W fun e w' => e = .returned (.bool (fless b 0)) ∧ From W w' from frm (iless_any W b 0 hb (by decide)))
 show Calls _ _ _ _ fun e w' => e = .returned (.bool (!fless 0 a && !fless b 0)) ∧ Below w.heap.size w w'
 generalize fless 0 a = k1 at *
 generalize fless b 0 = k2 at *
 generalize ((a : Nat) : Int) = p at *
 generalize ((b : Nat) : Int) = q at *
 cases k1
 · go_enter Tryz.func66, Tryz.ntmps66
   go_wp2_with fail
   refine (H1 _).out.mono ?_
   rintro e w1 ⟨rfl, b1⟩
   go_wp2_with fail
   refine (H2 _).out.mono ?_
   rintro e w2 ⟨rfl, b2⟩
   go_wp2_with fail
   go_ret
   exact ⟨rfl, zbh⟩
 · go_enter Tryz.func66, Tryz.ntmps66
   go_wp2_with fail
   refine (H1 _).out.mono ?_
   rintro e w1 ⟨rfl, b1⟩
   go_wp2_with fail
   go_ret
   exact ⟨rfl, zbh⟩
theorem ipoint_any (w : World) (a : Nat) (ha : a < 18446744073709551616) : Calls Tryz.prog 15 #[.int .u64 (a : Nat)] w fun e w' => e = .returned (.agg #[.int .u64 ((ipoint a).1 : Nat), .int .u64 ((ipoint a).2 : Nat)]) ∧ Below w.heap.size w w' := by
 have H1 := fun W => Lib.hid (ffin_any W a)
 have H2 := fun W => Lib.hid (frm (iresult_any W a a ha ha))
 have HW := fun W => Lib.hid (show Calls Tryz.prog 51 #[] W fun e w' => e = .returned (.agg #[.int .u64 18442240474082181120, .int .u64 9218868437227405312]) ∧ From W w' from frm (iwhole_any W))
 unfold ipoint ires iall
 generalize ffin a = k1 at *
 cases k1
 · show Calls _ _ _ _ fun e w' => e = .returned (.agg #[.int .u64 18442240474082181120, .int .u64 9218868437227405312]) ∧ Below w.heap.size w w'
   generalize ((a : Nat) : Int) = p at *
   go_enter Tryz.func15, Tryz.ntmps15
   go_wp2_with fail
   refine (H1 _).out.mono ?_
   rintro e w1 ⟨rfl, rfl⟩
   go_wp2_with fail
   refine (HW _).out.mono ?_
   rintro e w2 ⟨rfl, b2⟩
   go_wp2_with fail
   refine bodyPost_ret (v := .agg #[.int .u64 18442240474082181120, .int .u64 9218868437227405312]) (by simp only [results, Tryz.results15]; go_simp) rfl ?_
   exact ⟨rfl, zbh⟩
 · show Calls _ _ _ _ fun e w' => e = .returned (.agg #[.int .u64 (fclean a : Nat), .int .u64 (fclean a : Nat)]) ∧ Below w.heap.size w w'
   generalize ((fclean a : Nat) : Int) = q at *
   generalize ((a : Nat) : Int) = p at *
   go_enter Tryz.func15, Tryz.ntmps15
   go_wp2_with fail
   refine (H1 _).out.mono ?_
   rintro e w1 ⟨rfl, rfl⟩
   go_wp2_with fail
   refine (H2 _).out.mono ?_
   rintro e w2 ⟨rfl, b2⟩
   go_wp2_with fail
   refine bodyPost_ret (v := .agg #[.int .u64 q, .int .u64 q]) (by simp only [results, Tryz.results15]; go_simp) rfl ?_
   exact ⟨rfl, zbh⟩
theorem ineg_any (w : World) (a : Nat) (b : Nat) (ha : a < 18446744073709551616) (hb : b < 18446744073709551616) : Calls Tryz.prog 17 #[.agg #[.int .u64 (a : Nat), .int .u64 (b : Nat)]] w fun e w' => e = .returned (.agg #[.int .u64 ((ineg (a, b)).1 : Nat), .int .u64 ((ineg (a, b)).2 : Nat)]) ∧ Below w.heap.size w w' := by
 have H1 := fun W => Lib.hid (frm (ivalid_any W a b ha hb))
 have HA := fun W => Lib.hid (frm (fneg_any W b hb))
 have HB := fun W => Lib.hid (frm (fneg_any W a ha))
 have HR := fun W => Lib.hid (frm (iresult_any W (fneg b) (fneg a) (fneg_lt _) (fneg_lt _)))
 have HW := fun W => Lib.hid (show Calls Tryz.prog 51 #[] W fun e w' => e = .returned (.agg #[.int .u64 18442240474082181120, .int .u64 9218868437227405312]) ∧ From W w' from frm (iwhole_any W))
 unfold ineg ires iall
 generalize iok (a, b) = k1 at *
 cases k1
 · show Calls _ _ _ _ fun e w' => e = .returned (.agg #[.int .u64 18442240474082181120, .int .u64 9218868437227405312]) ∧ Below w.heap.size w w'
   generalize ((a : Nat) : Int) = p at *
   generalize ((b : Nat) : Int) = q at *
   go_enter Tryz.func17, Tryz.ntmps17
   go_wp2_with fail
   refine (H1 _).out.mono ?_
   rintro e w1 ⟨rfl, b1⟩
   go_wp2_with fail
   refine (HW _).out.mono ?_
   rintro e w2 ⟨rfl, b2⟩
   go_wp2_with fail
   refine bodyPost_ret (v := .agg #[.int .u64 18442240474082181120, .int .u64 9218868437227405312]) (by simp only [results, Tryz.results17]; go_simp) rfl ?_
   exact ⟨rfl, zbh⟩
 · show Calls _ _ _ _ fun e w' => e = .returned (.agg #[.int .u64 (fclean (fneg b) : Nat), .int .u64 (fclean (fneg a) : Nat)]) ∧ Below w.heap.size w w'
   generalize ((fclean (fneg b) : Nat) : Int) = p2 at *
   generalize ((fclean (fneg a) : Nat) : Int) = q2 at *
   generalize ((fneg b : Nat) : Int) = p1 at *
   generalize ((fneg a : Nat) : Int) = q1 at *
   generalize ((a : Nat) : Int) = p at *
   generalize ((b : Nat) : Int) = q at *
   go_enter Tryz.func17, Tryz.ntmps17
   go_wp2_with fail
   refine (H1 _).out.mono ?_
   rintro e w1 ⟨rfl, b1⟩
   go_wp2_with fail
   first
   | go_region_held3 (fun w' => w'.cell? ⟨w.heap.size, 0, none⟩ = some (.int .u64 p) ∧ w'.cell? ⟨w.heap.size, 1, none⟩ = some (.int .u64 q)) (first | (go_simp; done))
    (first
     | (go_at_call 52; refine (HR _).out.mono ?_; rintro e w4 ⟨rfl, b4⟩)
     | (go_at_call 55; refine (HA _).out.mono ?_; rintro e w2 ⟨rfl, b2⟩)
     | (go_at_call 55; refine (HB _).out.mono ?_; rintro e w3 ⟨rfl, b3⟩)
     | fail)
   | fail "region"
   all_goals (
    go_wp2_with fail
    refine bodyPost_ret (v := .agg #[.int .u64 p2, .int .u64 q2]) (by simp only [results, Tryz.results17]; go_simp) rfl ?_
    exact ⟨rfl, zbh⟩)
end Go.Proofs.YtgicceiimciafaaGreatDoor
namespace Go.Proofs.YtgicceiimciafaaGreatDoor
open Go.RowKit Sp
attribute [local irreducible] Calls
theorem fless_self (a : Nat) : fless a a = false := by
 unfold fless fcmpv
 split <;> simp [cmpI]
theorem fabs_lt64 (a : Nat) : fabs a < 18446744073709551616 := Nat.lt_trans (fabs_lt' a) (by decide)
theorem fmax2_self (a : Nat) : fmax2 a a = a := by unfold fmax2; rw [fless_self]; rfl
theorem fmin2_self (a : Nat) : fmin2 a a = a := by unfold fmin2; rw [fless_self]; rfl
def fmaxL (L : Nat → Nat) : Nat → Nat
 | 0 => L 0
 | k + 1 => fmax2 (fmaxL L k) (L k)
def fminL (L : Nat → Nat) : Nat → Nat
 | 0 => L 0
 | k + 1 => fmin2 (fminL L k) (L k)
theorem fmaxL_lt {L : Nat → Nat} {n : Nat} (h : ∀ i, i < n → L i < 18446744073709551616) (h0 : 0 < n) : ∀ k, k ≤ n → fmaxL L k < 18446744073709551616
 | 0, _ => h 0 h0
 | k + 1, hk => fmax2_lt (fmaxL_lt h h0 k (by omega)) (h k (by omega))
theorem fminL_lt {L : Nat → Nat} {n : Nat} (h : ∀ i, i < n → L i < 18446744073709551616) (h0 : 0 < n) : ∀ k, k ≤ n → fminL L k < 18446744073709551616
 | 0, _ => h 0 h0
 | k + 1, hk => fmin2_lt (fminL_lt h h0 k (by omega)) (h k (by omega))
theorem imost_any (w : World) (g n : Nat) (L : Nat → Nat) (hn : n ≤ 1000) (hp : 0 < n) (hL : ∀ i, i < n → L i < 18446744073709551616) (hg : g < w.heap.size) (hc : FRow w g n L) :
 Calls Tryz.prog 74 #[.slice (some ⟨g, 0, none⟩) n n] w fun e w' => e = .returned (.int .u64 (fmaxL L n : Nat)) ∧ Below w.heap.size w w' := by
 have c0 := hc 0 hp
 have HC := Lib.hid hc
 have HL := Lib.hid hL
 clear hc hL
 go_enter Tryz.func74, Tryz.ntmps74
 go_wp2_with fail
 go_loopw [3, 11] (fun o i wr => ∃ k : Nat, k ≤ n ∧ i = .int .i64 k ∧ o = .int .u64 (fmaxL L k : Nat) ∧ Below w.heap.size w wr) (fun _ i _ => n - (intOf i).toNat)
 case atStart => exact ⟨0, Nat.zero_le _, rfl, rfl, zbh⟩
 case round =>
  obtain ⟨k, hk, rfl, rfl, hb⟩ := hrel
  have hL := HL.out
  by_cases hlt : k < n
  · have c1 := (hb.cell (p := ⟨g, k, none⟩) hg).trans (HC.out k hlt)
    have H1 := fun W => Lib.hid (frm (iless_any W (fmaxL L k) (L k) (fmaxL_lt hL hp k hk) (hL k hlt)))
    have hs : fmaxL L (k + 1) = if fless (fmaxL L k) (L k) then L k else fmaxL L k := rfl
    have BE := Beh.mk hb
    clear c0 hb hL
    generalize fless (fmaxL L k) (L k) = q at H1 hs
    cases q
    · have HS := Lib.hid (show ((fmaxL L k : Nat) : Int) = ((fmaxL L (k + 1) : Nat) : Int) from by rw [hs]; rfl)
      clear hs
      generalize ((fmaxL L k : Nat) : Int) = x at *
      generalize ((L k : Nat) : Int) = y at *
      go_wp2_with fail
      refine (H1 _).out.mono ?_
      rintro e w1 ⟨rfl, b1⟩
      go_wp2_with fail
      go_roundw
      case rel => exact ⟨k + 1, by omega, by go_num, by rw [HS.out], zbh⟩
      case measure => simp [intOf]; omega
    · have HS := Lib.hid (show ((L k : Nat) : Int) = ((fmaxL L (k + 1) : Nat) : Int) from by rw [hs]; rfl)
      clear hs
      generalize ((fmaxL L k : Nat) : Int) = x at *
      generalize ((L k : Nat) : Int) = y at *
      go_wp2_with fail
      refine (H1 _).out.mono ?_
      rintro e w1 ⟨rfl, b1⟩
      go_wp2_with fail
      go_roundw
      case rel => exact ⟨k + 1, by omega, by go_num, by rw [HS.out], zbh⟩
      case measure => simp [intOf]; omega
  · obtain rfl : k = n := by omega
    have BE := Beh.mk hb
    go_wp2
    go_ret
    exact ⟨rfl, zbh⟩
theorem ileast_any (w : World) (g n : Nat) (L : Nat → Nat) (hn : n ≤ 1000) (hp : 0 < n) (hL : ∀ i, i < n → L i < 18446744073709551616) (hg : g < w.heap.size) (hc : FRow w g n L) :
 Calls Tryz.prog 76 #[.slice (some ⟨g, 0, none⟩) n n] w fun e w' => e = .returned (.int .u64 (fminL L n : Nat)) ∧ Below w.heap.size w w' := by
 have c0 := hc 0 hp
 have HC := Lib.hid hc
 have HL := Lib.hid hL
 clear hc hL
 go_enter Tryz.func76, Tryz.ntmps76
 go_wp2_with fail
 go_loopw [3, 11] (fun o i wr => ∃ k : Nat, k ≤ n ∧ i = .int .i64 k ∧ o = .int .u64 (fminL L k : Nat) ∧ Below w.heap.size w wr) (fun _ i _ => n - (intOf i).toNat)
 case atStart => exact ⟨0, Nat.zero_le _, rfl, rfl, zbh⟩
 case round =>
  obtain ⟨k, hk, rfl, rfl, hb⟩ := hrel
  have hL := HL.out
  by_cases hlt : k < n
  · have c1 := (hb.cell (p := ⟨g, k, none⟩) hg).trans (HC.out k hlt)
    have H1 := fun W => Lib.hid (frm (iless_any W (L k) (fminL L k) (hL k hlt) (fminL_lt hL hp k hk)))
    have hs : fminL L (k + 1) = if fless (L k) (fminL L k) then L k else fminL L k := rfl
    have BE := Beh.mk hb
    clear c0 hb hL
    generalize fless (L k) (fminL L k) = q at H1 hs
    cases q
    · have HS := Lib.hid (show ((fminL L k : Nat) : Int) = ((fminL L (k + 1) : Nat) : Int) from by rw [hs]; rfl)
      clear hs
      generalize ((fminL L k : Nat) : Int) = x at *
      generalize ((L k : Nat) : Int) = y at *
      go_wp2_with fail
      refine (H1 _).out.mono ?_
      rintro e w1 ⟨rfl, b1⟩
      go_wp2_with fail
      go_roundw
      case rel => exact ⟨k + 1, by omega, by go_num, by rw [HS.out], zbh⟩
      case measure => simp [intOf]; omega
    · have HS := Lib.hid (show ((L k : Nat) : Int) = ((fminL L (k + 1) : Nat) : Int) from by rw [hs]; rfl)
      clear hs
      generalize ((fminL L k : Nat) : Int) = x at *
      generalize ((L k : Nat) : Int) = y at *
      go_wp2_with fail
      refine (H1 _).out.mono ?_
      rintro e w1 ⟨rfl, b1⟩
      go_wp2_with fail
      go_roundw
      case rel => exact ⟨k + 1, by omega, by go_num, by rw [HS.out], zbh⟩
      case measure => simp [intOf]; omega
  · obtain rfl : k = n := by omega
    have BE := Beh.mk hb
    go_wp2
    go_ret
    exact ⟨rfl, zbh⟩
theorem imost2 (w : World) (g a b : Nat) (ha : a < 18446744073709551616) (hb : b < 18446744073709551616) [h : FV w g (.int .u64 (a : Nat)) (.int .u64 (b : Nat))] :
 Calls Tryz.prog 74 #[.slice (some ⟨g, 0, none⟩) 2 2] w fun e w' => e = .returned (.int .u64 (fmax2 a b : Nat)) ∧ Below w.heap.size w w' := by
 have H := imost_any w g 2 (fun i => if i = 0 then a else b) (by decide) (by decide) (fun i _ => by split <;> assumption) h.lt (fun i hi => by
  rcases (show i = 0 ∨ i = 1 by omega) with rfl | rfl
  · exact h.c0
  · exact h.c1)
 have e : fmaxL (fun i => if i = 0 then a else b) 2 = fmax2 a b := by
  show fmax2 (fmax2 a a) b = _
  rw [fmax2_self]
 rwa [e] at H
theorem ileast2 (w : World) (g a b : Nat) (ha : a < 18446744073709551616) (hb : b < 18446744073709551616) [h : FV w g (.int .u64 (a : Nat)) (.int .u64 (b : Nat))] :
 Calls Tryz.prog 76 #[.slice (some ⟨g, 0, none⟩) 2 2] w fun e w' => e = .returned (.int .u64 (fmin2 a b : Nat)) ∧ Below w.heap.size w w' := by
 have H := ileast_any w g 2 (fun i => if i = 0 then a else b) (by decide) (by decide) (fun i _ => by split <;> assumption) h.lt (fun i hi => by
  rcases (show i = 0 ∨ i = 1 by omega) with rfl | rfl
  · exact h.c0
  · exact h.c1)
 have e : fminL (fun i => if i = 0 then a else b) 2 = fmin2 a b := by
  show fmin2 (fmin2 a a) b = _
  rw [fmin2_self]
 rwa [e] at H
theorem isubset_any (w : World) (a : Nat) (b : Nat) (c : Nat) (d : Nat) (ha : a < 18446744073709551616) (hb : b < 18446744073709551616) (hc : c < 18446744073709551616) (hd : d < 18446744073709551616) : Calls Tryz.prog 77 #[.agg #[.int .u64 (a : Nat), .int .u64 (b : Nat)], .agg #[.int .u64 (c : Nat), .int .u64 (d : Nat)]] w fun e w' => e = .returned (.bool (isubset (a, b) (c, d))) ∧ Below w.heap.size w w' := by
 have HB := fun W => Lib.hid (frm (iboth_any W a b c d ha hb hc hd))
 have H1 := fun W => Lib.hid (frm (iless_any W a c ha hc))
 have H2 := fun W => Lib.hid (frm (iless_any W d b hd hb))
 show Calls _ _ _ _ fun e w' => e = .returned (.bool (iok (a, b) && iok (c, d) && !fless a c && !fless d b)) ∧ Below w.heap.size w w'
 generalize (iok (a, b) && iok (c, d)) = k0 at *
 generalize fless a c = k1 at *
 generalize fless d b = k2 at *
 generalize ((a : Nat) : Int) = p at *
 generalize ((b : Nat) : Int) = q at *
 generalize ((c : Nat) : Int) = r at *
 generalize ((d : Nat) : Int) = s at *
 cases k0
 · skip
   go_enter Tryz.func77, Tryz.ntmps77
   go_wp2_with fail
   refine (HB _).out.mono ?_
   rintro e w1 ⟨rfl, b1⟩
   go_wp2_with fail
   go_ret
   exact ⟨rfl, zbh⟩
 · cases k1
   · skip
     go_enter Tryz.func77, Tryz.ntmps77
     go_wp2_with fail
     refine (HB _).out.mono ?_
     rintro e w1 ⟨rfl, b1⟩
     go_wp2_with fail
     refine (H1 _).out.mono ?_
     rintro e w2 ⟨rfl, b2⟩
     go_wp2_with fail
     refine (H2 _).out.mono ?_
     rintro e w3 ⟨rfl, b3⟩
     go_wp2_with fail
     go_ret
     exact ⟨rfl, zbh⟩
   · skip
     go_enter Tryz.func77, Tryz.ntmps77
     go_wp2_with fail
     refine (HB _).out.mono ?_
     rintro e w1 ⟨rfl, b1⟩
     go_wp2_with fail
     refine (H1 _).out.mono ?_
     rintro e w2 ⟨rfl, b2⟩
     go_wp2_with fail
     go_ret
     exact ⟨rfl, zbh⟩
theorem ihull_any (w : World) (a : Nat) (b : Nat) (c : Nat) (d : Nat) (ha : a < 18446744073709551616) (hb : b < 18446744073709551616) (hc : c < 18446744073709551616) (hd : d < 18446744073709551616) : Calls Tryz.prog 31 #[.agg #[.int .u64 (a : Nat), .int .u64 (b : Nat)], .agg #[.int .u64 (c : Nat), .int .u64 (d : Nat)]] w fun e w' => e = .returned (.agg #[.int .u64 ((ihull (a, b) (c, d)).1 : Nat), .int .u64 ((ihull (a, b) (c, d)).2 : Nat)]) ∧ Below w.heap.size w w' := by
 have H1 := fun W => Lib.hid (frm (iboth_any W a b c d ha hb hc hd))
 have HA := fun W g [FV W g (.int .u64 (a : Nat)) (.int .u64 (c : Nat))] => Lib.hid (frm (ileast2 W g a c ha hc))
 have HB := fun W g [FV W g (.int .u64 (b : Nat)) (.int .u64 (d : Nat))] => Lib.hid (frm (imost2 W g b d hb hd))
 have HR := fun W => Lib.hid (frm (iresult_any W (fmin2 a c) (fmax2 b d) (fmin2_lt ha hc) (fmax2_lt hb hd)))
 have HW := fun W => Lib.hid (show Calls Tryz.prog 51 #[] W fun e w' => e = .returned (.agg #[.int .u64 18442240474082181120, .int .u64 9218868437227405312]) ∧ From W w' from frm (iwhole_any W))
 unfold ihull ires iall
 generalize (iok (a, b) && iok (c, d)) = k1 at *
 cases k1
 · show Calls _ _ _ _ fun e w' => e = .returned (.agg #[.int .u64 18442240474082181120, .int .u64 9218868437227405312]) ∧ Below w.heap.size w w'
   generalize ((a : Nat) : Int) = p at *
   generalize ((b : Nat) : Int) = q at *
   generalize ((c : Nat) : Int) = r at *
   generalize ((d : Nat) : Int) = s at *
   go_enter Tryz.func31, Tryz.ntmps31
   go_wp2_with fail
   refine (H1 _).out.mono ?_
   rintro e w1 ⟨rfl, b1⟩
   go_wp2_with fail
   refine (HW _).out.mono ?_
   rintro e w2 ⟨rfl, b2⟩
   go_wp2_with fail
   refine bodyPost_ret (v := .agg #[.int .u64 18442240474082181120, .int .u64 9218868437227405312]) (by simp only [results, Tryz.results31]; go_simp) rfl ?_
   exact ⟨rfl, zbh⟩
 · show Calls _ _ _ _ fun e w' => e = .returned (.agg #[.int .u64 (fclean (fmin2 a c) : Nat), .int .u64 (fclean (fmax2 b d) : Nat)]) ∧ Below w.heap.size w w'
   generalize ((fclean (fmin2 a c) : Nat) : Int) = p2 at *
   generalize ((fclean (fmax2 b d) : Nat) : Int) = q2 at *
   generalize ((fmin2 a c : Nat) : Int) = p1 at *
   generalize ((fmax2 b d : Nat) : Int) = q1 at *
   generalize ((a : Nat) : Int) = p at *
   generalize ((b : Nat) : Int) = q at *
   generalize ((c : Nat) : Int) = r at *
   generalize ((d : Nat) : Int) = s at *
   go_enter Tryz.func31, Tryz.ntmps31
   go_wp2_with fail
   refine (H1 _).out.mono ?_
   rintro e w1 ⟨rfl, b1⟩
   go_wp2_with fail
   first
   | go_region_held3 (fun w' => w'.cell? ⟨w.heap.size, 0, none⟩ = some (.int .u64 p) ∧ w'.cell? ⟨w.heap.size, 1, none⟩ = some (.int .u64 q) ∧ w'.cell? ⟨w.heap.size + 1, 0, none⟩ = some (.int .u64 r) ∧ w'.cell? ⟨w.heap.size + 1, 1, none⟩ = some (.int .u64 s)) (first | (go_simp; done))
    (first
     | (go_at_call 52; refine (HR _).out.mono ?_; rintro e w4 ⟨rfl, b4⟩)
     | (go_at_call 76; refine (HA _ _).out.mono ?_; rintro e w2 ⟨rfl, b2⟩)
     | (go_at_call 74; refine (HB _ _).out.mono ?_; rintro e w3 ⟨rfl, b3⟩)
     | fail)
   | fail "region"
   all_goals (
    go_wp2_with fail
    refine bodyPost_ret (v := .agg #[.int .u64 p2, .int .u64 q2]) (by simp only [results, Tryz.results31]; go_simp) rfl ?_
    exact ⟨rfl, zbh⟩)
theorem imag_any (w : World) (a : Nat) (b : Nat) (ha : a < 18446744073709551616) (hb : b < 18446744073709551616) : Calls Tryz.prog 71 #[.agg #[.int .u64 (a : Nat), .int .u64 (b : Nat)]] w fun e w' => e = .returned (.int .u64 (imag (a, b) : Nat)) ∧ Below w.heap.size w w' := by
 have H1 := fun W => Lib.hid (frm (ivalid_any W a b ha hb))
 have HA := fun W => Lib.hid (frm (fabs_any W a ha))
 have HB := fun W => Lib.hid (frm (fabs_any W b hb))
 have HM := fun W g [FV W g (.int .u64 (fabs a : Nat)) (.int .u64 (fabs b : Nat))] => Lib.hid (frm (imost2 W g (fabs a) (fabs b) (fabs_lt64 a) (fabs_lt64 b)))
 unfold imag
 generalize iok (a, b) = k1 at *
 cases k1
 · show Calls _ _ _ _ fun e w' => e = .returned (.int .u64 9221120237041090560) ∧ Below w.heap.size w w'
   generalize ((a : Nat) : Int) = p at *
   generalize ((b : Nat) : Int) = q at *
   go_enter Tryz.func71, Tryz.ntmps71
   go_wp2_with fail
   refine (H1 _).out.mono ?_
   rintro e w1 ⟨rfl, b1⟩
   go_wp2_with fail
   go_ret
   exact ⟨rfl, zbh⟩
 · show Calls _ _ _ _ fun e w' => e = .returned (.int .u64 (fmax2 (fabs a) (fabs b) : Nat)) ∧ Below w.heap.size w w'
   generalize ((fmax2 (fabs a) (fabs b) : Nat) : Int) = m at *
   generalize ((fabs a : Nat) : Int) = p1 at *
   generalize ((fabs b : Nat) : Int) = q1 at *
   generalize ((a : Nat) : Int) = p at *
   generalize ((b : Nat) : Int) = q at *
   go_enter Tryz.func71, Tryz.ntmps71
   go_wp2_with fail
   refine (H1 _).out.mono ?_
   rintro e w1 ⟨rfl, b1⟩
   go_wp2_with fail
   first
   | go_region_held3 (fun w' => w'.cell? ⟨w.heap.size, 0, none⟩ = some (.int .u64 p) ∧ w'.cell? ⟨w.heap.size, 1, none⟩ = some (.int .u64 q)) (first | (go_simp; done))
    (first
     | (go_at_call 74; refine (HM _ _).out.mono ?_; rintro e w4 ⟨rfl, b4⟩)
     | (go_at_call 118; refine (HA _).out.mono ?_; rintro e w2 ⟨rfl, b2⟩)
     | (go_at_call 118; refine (HB _).out.mono ?_; rintro e w3 ⟨rfl, b3⟩)
     | fail)
   | fail "region"
   all_goals (
    go_wp2_with fail
    go_ret
    exact ⟨rfl, zbh⟩)
theorem imig_any (w : World) (a : Nat) (b : Nat) (ha : a < 18446744073709551616) (hb : b < 18446744073709551616) : Calls Tryz.prog 70 #[.agg #[.int .u64 (a : Nat), .int .u64 (b : Nat)]] w fun e w' => e = .returned (.int .u64 (imig (a, b) : Nat)) ∧ Below w.heap.size w w' := by
 have H1 := fun W => Lib.hid (frm (ivalid_any W a b ha hb))
 have HZ := fun W => Lib.hid (frm (izero_any W a b ha hb))
 have HA := fun W => Lib.hid (frm (fabs_any W a ha))
 have HB := fun W => Lib.hid (frm (fabs_any W b hb))
 have HM := fun W g [FV W g (.int .u64 (fabs a : Nat)) (.int .u64 (fabs b : Nat))] => Lib.hid (frm (ileast2 W g (fabs a) (fabs b) (fabs_lt64 a) (fabs_lt64 b)))
 unfold imig
 generalize iok (a, b) = k1 at *
 generalize izero (a, b) = k2 at *
 cases k1
 · show Calls _ _ _ _ fun e w' => e = .returned (.int .u64 9221120237041090560) ∧ Below w.heap.size w w'
   generalize ((a : Nat) : Int) = p at *
   generalize ((b : Nat) : Int) = q at *
   go_enter Tryz.func70, Tryz.ntmps70
   go_wp2_with fail
   refine (H1 _).out.mono ?_
   rintro e w1 ⟨rfl, b1⟩
   go_wp2_with fail
   go_ret
   exact ⟨rfl, zbh⟩
 · cases k2
   · show Calls _ _ _ _ fun e w' => e = .returned (.int .u64 (fmin2 (fabs a) (fabs b) : Nat)) ∧ Below w.heap.size w w'
     generalize ((fmin2 (fabs a) (fabs b) : Nat) : Int) = m at *
     generalize ((fabs a : Nat) : Int) = p1 at *
     generalize ((fabs b : Nat) : Int) = q1 at *
     generalize ((a : Nat) : Int) = p at *
     generalize ((b : Nat) : Int) = q at *
     go_enter Tryz.func70, Tryz.ntmps70
     go_wp2_with fail
     refine (H1 _).out.mono ?_
     rintro e w1 ⟨rfl, b1⟩
     go_wp2_with fail
     refine (HZ _).out.mono ?_
     rintro e w5 ⟨rfl, b5⟩
     go_wp2_with fail
     first
     | go_region_held3 (fun w' => w'.cell? ⟨w.heap.size, 0, none⟩ = some (.int .u64 p) ∧ w'.cell? ⟨w.heap.size, 1, none⟩ = some (.int .u64 q)) (first | (go_simp; done))
      (first
       | (go_at_call 76; refine (HM _ _).out.mono ?_; rintro e w4 ⟨rfl, b4⟩)
       | (go_at_call 118; refine (HA _).out.mono ?_; rintro e w2 ⟨rfl, b2⟩)
       | (go_at_call 118; refine (HB _).out.mono ?_; rintro e w3 ⟨rfl, b3⟩)
       | fail)
     | fail "region"
     all_goals (
      go_wp2_with fail
      go_ret
      exact ⟨rfl, zbh⟩)
   · show Calls _ _ _ _ fun e w' => e = .returned (.int .u64 0) ∧ Below w.heap.size w w'
     generalize ((a : Nat) : Int) = p at *
     generalize ((b : Nat) : Int) = q at *
     go_enter Tryz.func70, Tryz.ntmps70
     go_wp2_with fail
     refine (H1 _).out.mono ?_
     rintro e w1 ⟨rfl, b1⟩
     go_wp2_with fail
     refine (HZ _).out.mono ?_
     rintro e w2 ⟨rfl, b2⟩
     go_wp2_with fail
     go_ret
     exact ⟨rfl, zbh⟩
end Go.Proofs.YtgicceiimciafaaGreatDoor

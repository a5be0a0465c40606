/-
  Walks: slices.Clone, integer.divide.
-/
import Derived.Test.YtjhngehajahbnaaDoorDigit
namespace Go.Proofs.YtjhngehajahbnaaDoor
open Go.RowKit Sp

set_option maxRecDepth 100000 in
set_option maxHeartbeats 400000 in
/-- slices.Clone: a copy, as long as the original -/
theorem clone_any (w : World) (a : Option Addr) (n cap x : Nat) (hx : Mag w a n cap x) (hlim : n ≤ 1099511627776) :
    Calls Tryd.prog 95 #[.slice a n cap] w fun e w' => ∃ a' cap', e = .returned (.slice a' n cap') ∧ Mag w' a' n cap' x ∧ Below w.heap.size w w' ∧ (0 < n → w.heap.size ≤ ab a') := by
  cases a with
  | none =>
    have hn : n = 0 := by
      rcases Nat.eq_zero_or_pos n with h | h
      · exact h
      · have := hx.addr h; cases this
    subst hn
    rw [hx.zero]
    have hnil := fun w => Lib.run_eql_slice_nil (P := Tryd.prog) w 23 22 none 0 cap 0 0 undU
    go_enter Tryd.func95, Tryd.ntmps95
    go_wp2
    go_ret
    exact ⟨none, 0, rfl, Mag.nil w, Below.refl _ _, by omega⟩
  | some ad =>
    have hnil := fun w => Lib.run_eql_slice_nil (P := Tryd.prog) w 23 22 (some ad) n cap 0 0 undU
    obtain ⟨i0, hi, hz0, hz1, hz2⟩ := info_parts infU
    have hown0 := World.ownsRow_made (base := w.heap.size) (e := 22) (size := 1) w #[] 0 (Nat.le_refl _) (by unfold maxLen; omega) rfl
    go_enter Tryd.func95, Tryd.ntmps95
    go_wp2_with (at_builtin; (refine wpList_append_own _ rfl _ _ 23 rfl w.heap.size 22 i0 (.int .u32 0) 1 4 undU hi hz0 hz1 hz2 rfl (by decide) _ _ _ rfl hown0 ad n cap (digs x n) rfl (by rw [digs_length, Nat.mul_one]) ((hx.below ((Below.refl _ _).alloc (Nat.le_refl _) _)).news rfl) (digs_one x n) (by unfold maxLen; omega) (by omega) (by rw [World.size_alloc]; omega) ?_); intro v1 w1 hown1 hgr1 _)
    go_ret
    rw [List.nil_append, Nat.zero_add] at hown1
    obtain ⟨a1, c1, hv, hm1, hfr⟩ := mag_of_owns hown1 hx.lt
    exact ⟨a1, c1, congrArg Ending.returned hv, hm1, ((Below.refl _ _).alloc (Nat.le_refl _) _).trans (below_of_owns hown0 hgr1 (by rw [World.size_alloc]; omega)), hfr⟩

/-- A call's two results: two slices that read as z and r. -/
def RetNat2 (w : World) (z r : Nat) (e : Ending) (w' : World) : Prop :=
  ∃ a cap a' cap', e = .returned (.tuple #[.slice a (nl z) cap, .slice a' (nl r) cap']) ∧ Mag w' a (nl z) cap z ∧ Mag w' a' (nl r) cap' r ∧ Below w.heap.size w w' ∧ (0 < nl z → w.heap.size ≤ ab a) ∧ (0 < nl r → w.heap.size ≤ ab a')

set_option maxRecDepth 100000 in
set_option maxHeartbeats 2000000 in
/-- a / b and the remainder, where a is the lesser -/
theorem divide_less (w : World) (a a' : Option Addr) (n m cap cap' x y : Nat) (hx : Mag w a n cap x) (hy : Mag w a' m cap' y) (hn : n = nl x) (hm : m = nl y) (hlim : n ≤ 1099511627776) (hxy : x < y) :
    Calls Tryd.prog 104 #[.slice a n cap, .slice a' m cap'] w (RetNat2 w (x / y) (x % y)) := by
  have hcmp := cmpI_lt (m := (x : Int)) (n := (y : Int)) (by omega)
  have cc := compare_any w a a' n m cap cap' x y hx hy hn hm
  rw [hcmp] at cc
  have HC := Lib.hid cc
  have HN := Lib.hid hn
  have HM := Lib.hid hm
  clear cc hcmp hn hm
  go_enter Tryd.func104, Tryd.ntmps104
  go_wp2_with (first | (go_at_call 73; refine HC.out.mono ?_; rintro e w' ⟨rfl, q, rfl⟩) | (go_at_call 95; refine (clone_any _ _ _ _ _ (hx.drewN _) hlim).mono ?_; rintro e w1 ⟨a1, c1, rfl, hm1, hb1, hf1⟩))
  go_ret2
  rw [Nat.div_eq_of_lt hxy, Nat.mod_eq_of_lt hxy]
  have e : n = nl x := HN.out
  subst e
  exact ⟨none, 0, a1, c1, rfl, Mag.nil _, hm1, ((below_drewN (Below.refl _ _) q).trans hb1), nl0, hf1⟩

set_option maxRecDepth 100000 in
set_option maxHeartbeats 2000000 in
/-- .. where b has one limb -/
theorem divide_short (w : World) (a a' : Option Addr) (n m cap cap' x y : Nat) (hx : Mag w a n cap x) (hy : Mag w a' m cap' y) (hn : n = nl x) (hm : m = nl y) (hlim : n ≤ 1099511627776) (hxy : y ≤ x) (hm1 : m = 1) :
    Calls Tryd.prog 104 #[.slice a n cap, .slice a' m cap'] w (RetNat2 w (x / y) (x % y)) := by
  have cc := compare_any w a a' n m cap cap' x y hx hy hn hm
  have hy0 : 0 < y := by
    rcases Nat.eq_zero_or_pos y with h | h
    · rw [h] at hm; rw [hm] at hm1; cases hm1
    · exact h
  subst hm1
  have hd : dig y 0 = y := by
    have := hy.lt
    unfold dig
    rw [Nat.pow_one] at this
    rw [Nat.pow_zero, Nat.div_one, Nat.mod_eq_of_lt this]
  have hyl : y < 4294967296 := by have := hy.lt; rw [Nat.pow_one, B_eq] at this; exact this
  obtain ⟨k, hk, hk0⟩ : ∃ k : Int, cmpI x y = k ∧ 0 ≤ k := ⟨_, rfl, cmpI_nonneg (by omega)⟩
  rw [hk] at cc
  have hkd : decide (k < 0) = false := by simp; omega
  have c1 := hy.cell 0 (by omega)
  rw [hd, Nat.add_zero] at c1
  have i1 := hy.idx' (P := Tryd.prog) 23 und siz 0 (by omega) 0 rfl
  simp only [Nat.add_zero] at i1
  have HC := Lib.hid cc
  have HN := Lib.hid hn
  have HM := Lib.hid hm
  clear cc hk hn hm hd
  go_enter Tryd.func104, Tryd.ntmps104
  go_wp2_with (first | (go_at_call 73; refine HC.out.mono ?_; rintro e w' ⟨rfl, q, rfl⟩) | (go_at_call 111; refine (short_any _ _ _ _ _ _ (hx.drewN _) hlim hy0 hyl).mono ?_; rintro e w1 ⟨a1, c1, rfl, hm1, hb1, hf1⟩) | (go_at_call 70; refine (trim_any _ _ _ _ _ (Mag.one _ _ _ (Nat.lt_trans (Nat.mod_lt _ hy0) hyl))).mono ?_; rintro e w' ⟨rfl, rfl⟩))
  go_ret2
  have hrl : x % y < 4294967296 := Nat.lt_trans (Nat.mod_lt _ hy0) hyl
  have hbl : Below w1.heap.size w1 (w1.alloc (.cells #[.int .u32 ((x % y : Nat) : Int)] 22)) := (Below.refl _ _).alloc (Nat.le_refl _) _
  refine ⟨a1, c1, some ⟨w1.heap.size, 0, none⟩, 1, rfl, hm1.below hbl, (Mag.one w1 22 (x % y) hrl).trim, ?_, hf1, fun _ => hb1.size⟩
  exact ((below_drewN (Below.refl _ _) q).trans hb1).trans (hbl.mono hb1.size)

set_option maxRecDepth 100000 in
set_option maxHeartbeats 4000000 in
/-- .. where b has two limbs or more: Knuth's algorithm D -/
theorem divide_long (w : World) (a a' : Option Addr) (n m cap cap' x y : Nat) (hx : Mag w a m cap x) (hy : Mag w a' n cap' y) (hm : m = nl x) (hn : n = nl y) (hlim : m ≤ 1099511627776) (hxy : y ≤ x) (hn2 : 2 ≤ n) :
    Calls Tryd.prog 104 #[.slice a m cap, .slice a' n cap'] w (RetNat2 w (x / y) (x % y)) := by
  have cc := compare_any w a a' m n cap cap' x y hx hy hm hn
  have hnm : n ≤ m := by rw [hn, hm]; exact nl_mono hxy
  have l1 := hx.lim
  have l2 := hx.fits
  have l3 := hy.lim
  have l4 := hy.fits
  have hy0 : 0 < y := by
    rcases Nat.eq_zero_or_pos y with h | h
    · rw [h] at hn; rw [hn] at hn2; exact absurd hn2 (by decide)
    · exact h
  obtain ⟨k, hk, hk0⟩ : ∃ k : Int, cmpI x y = k ∧ 0 ≤ k := ⟨_, rfl, cmpI_nonneg (by omega)⟩
  rw [hk] at cc
  have hkd : decide (k < 0) = false := by simp; omega
  have hn1 : ((n : Int) == 1) = false := by rw [beq_eq_false_iff_ne]; omega
  have ct := hy.cell (n - 1) (by omega)
  have it := hy.idx' (P := Tryd.prog) 23 und siz (n - 1) (by omega) ((n : Int) - 1) (by omega)
  have hdt := dig_lt y (n - 1)
  have htop : dig y (n - 1) ≠ 0 := by rw [hn]; exact dig_top hy0
  have hbt : blen (dig y (n - 1)) ≤ 32 := blen_le (by omega)
  have hbt1 : 1 ≤ blen (dig y (n - 1)) := blen_pos (Nat.pos_of_ne_zero htop)
  obtain ⟨s, hs⟩ : ∃ s, s + blen (dig y (n - 1)) = 32 := ⟨32 - blen (dig y (n - 1)), by omega⟩
  have hsI : (32 : Int) - (blen (dig y (n - 1)) : Int) = ((s : Nat) : Int) := by omega
  have hlead := fun W => leading_any W (dig y (n - 1)) hdt
  simp only [hsI] at hlead
  have hs31 : s ≤ 31 := by omega
  have hscale := scale_facts hy0 s (by rw [← hn]; exact hs)
  rw [← hn] at hscale
  obtain ⟨v, hv⟩ : ∃ v, v = y * 2 ^ s := ⟨_, rfl⟩
  rw [← hv] at hscale
  have hlt := scaled_lt hx.lt hs31 hscale.2 (by omega) (show n ≤ m + 1 by omega)
  have HC := Lib.hid cc
  have HN := Lib.hid hn
  have HM := Lib.hid hm
  have HL := Lib.hid hlead
  have HV := Lib.hid hv
  have HS := Lib.hid hscale
  have HLT := Lib.hid hlt
  have hmk := make_len 23 22 infU undU ((m : Int) + 1) (by omega) (by omega)
  clear cc hk hn hm hlead hv hscale hlt hsI hs
  go_enter Tryd.func104, Tryd.ntmps104
  go_wp2_with (first | (go_at_call 73; refine HC.out.mono ?_; rintro e w' ⟨rfl, q, rfl⟩) | (go_at_call 112; refine (HL.out _).mono ?_; rintro e w' ⟨rfl, rfl⟩))
  refine (up_any _ _ _ _ _ _ (hy.drewN q) (by omega) (by omega) (by omega)).mono ?_
  rintro e w1 ⟨av, cv, rfl, hmv, hb1, _⟩
  rw [Int.toNat_natCast, ← HV.out] at hmv ⊢
  rw [HS.out.1] at hmv ⊢
  have hb1' := (below_drewN (Below.refl w.heap.size w) q).trans hb1
  go_wp2_with fail
  have hbm : Below w1.heap.size w1 (w1.alloc (.cells (madeCells #[.int .u32 0] (m + 1)) 22)) := (Below.refl _ _).alloc (Nat.le_refl _) _
  have hrow0 := Row.made w1 (m + 1) 22 (by omega)
  have hx2 := (hx.below hb1').below hbm
  refine (up_any _ _ _ _ _ _ hx2 (by omega) (by omega) (by omega)).mono ?_
  rintro e w2 ⟨au, cu, rfl, hmu, hb2, _⟩
  rw [Int.toNat_natCast] at hmu ⊢
  have hz1 := hb1'.size
  have hz2 := hb2.size
  rw [World.size_alloc] at hz2
  have hrow2 := hrow0.below hb2 (by rw [World.size_alloc]; omega)
  have hmv2 := (hmv.below hbm).below hb2
  have hb2' := hb1'.trans ((hbm.trans (hb2.mono (by rw [World.size_alloc]; omega))).mono hz1)
  have hva : ab av ≠ w1.heap.size := by have := hmv.old (by omega); omega
  have hnu := nl_le HLT.out.2
  have hmk2 := make_len 23 22 infU undU ((m : Int) + 1 - n) (by omega) (by omega)
  go_wp2_with (with_reducible refine copy_limbs rfl (.tmp 48) (.tmp 51) 23 22 rfl undU infU w1.heap.size (m + 1) rfl au _ cu (x * 2 ^ s) rfl hmu hrow2 hnu w1.heap.size w2 (Below.refl _ _) (Nat.le_refl _) ?_; intro cv0 w3 hrow3 hb3)
  clear hmk2 hrow0 hrow2 hmk
  have hz3 := hb3.size
  have hbq : Below w3.heap.size w3 (w3.alloc (.cells (madeCells #[.int .u32 0] (m + 1 - n)) 22)) := (Below.refl _ _).alloc (Nat.le_refl _) _
  have hrq := Row.made w3 (m + 1 - n) 22 (by omega)
  have hru := hrow3.below hbq (by omega)
  have hmv3 := (hmv2.below' hb3 (fun h => by have := hmv.old h; omega)).below hbq
  have hb4 := (hb2'.trans (hb3.mono hz1)).trans (hbq.mono (by omega))
  have hgq : w3.heap.size ≠ w1.heap.size := by omega
  have hav := hmv.old (by omega)
  obtain ⟨gq, hgq'⟩ : ∃ gq, gq = w3.heap.size := ⟨_, rfl⟩
  obtain ⟨gu, hgu'⟩ : ∃ gu, gu = w1.heap.size := ⟨_, rfl⟩
  go_loopw [12] (fun i wr => ∃ k Z K : Nat, k ≤ m + 1 - n ∧ i = .int .i64 ((k : Int) - 1) ∧ Row wr w1.heap.size (m + 1) 22 Z ∧ Row wr w3.heap.size (m + 1 - n) 22 (K * B ^ k) ∧ Z + K * B ^ k * v = x * 2 ^ s ∧ Z < v * B ^ k ∧ Mag wr av n cv v ∧ Below w.heap.size w wr) (fun i _ => (intOf i + 1).toNat)
  case atStart => exact ⟨m + 1 - n, x * 2 ^ s, 0, Nat.le_refl _, rfl, hru, by rw [Nat.zero_mul]; exact hrq, by rw [Nat.zero_mul, Nat.zero_mul, Nat.add_zero], HLT.out.1, hmv3, hb4⟩
  case round =>
    obtain ⟨k, Z, K, hk, rfl, hru', hrq', hZ, hZv, hmv', hb'⟩ := hrel
    have HZ := Lib.hid hZ
    have HZV := Lib.hid hZv
    clear hZ hZv hru hrq hmv3 hb4 hmv2 hrow3
    by_cases h0 : 0 < k
    · obtain ⟨j, rfl⟩ : ∃ j, k = j + 1 := ⟨k - 1, by omega⟩
      have hv0 : 0 < v := by
        rcases Nat.eq_zero_or_pos v with h | h
        · have := HZV.out; rw [h, Nat.zero_mul] at this; omega
        · exact h
      have hR := div_round (K := K) hv0 HZV.out
      have hru2 := hru'
      rw [hR.1] at hru2
      have hqB : Z / B ^ j / v < 4294967296 := by rw [Nat.div_lt_iff_lt_mul hv0, Nat.mul_comm]; exact hR.2.1
      have HR := Lib.hid hR
      have HQB := Lib.hid hqB
      clear hR hqB
      go_wp2_with fail
      rw [show j + n + 1 - j = n + 1 by omega]
      refine (digit_any wr w1.heap.size j (m + 1) n (m + 1 - j) cv (Z / B ^ j) v (Z % B ^ j) av hru2 (mod_lt' Z j) (by omega) (by omega) (by omega) (by omega) hmv' hva (by omega) HS.out.2 HR.out.2.1).mono ?_
      rintro e w5 ⟨rfl, hr5, hon⟩
      have hrq5 := hrq'.only hon hgq
      have cq := hrq5.cell j (by omega)
      have fq := hrq5.free j
      obtain ⟨qj, hqj⟩ : ∃ qj : Nat, qj = Z / B ^ j / v := ⟨_, rfl⟩
      have hqI : ((Z / B ^ j : Nat) : Int) / ((v : Nat) : Int) = ((qj : Nat) : Int) := by rw [hqj]; rfl
      rw [hqI]
      have HQJ := Lib.hid hqj
      clear hqj hqI
      go_wp2
      go_roundw
      case rel =>
        have hb5 := Sp.Below.of_only hb' hon (by have := hb'.size; omega) (by omega)
        refine ⟨j, Z % B ^ j + Z / B ^ j % v * B ^ j, K * B + qj, by omega, rfl, ?_, ?_, ?_, ?_, ?_, hb5.setCell (by show _ ≤ w3.heap.size; omega) _⟩
        · exact hr5.below ((Below.refl w3.heap.size w5).setCell (Nat.le_refl _) _) (by omega)
        · rw [← setd_shift]; exact hrq5.store j qj (by omega) (by rw [HQJ.out]; exact HQB.out)
        · rw [HQJ.out, HR.out.2.2.2, HZ.out]
        · exact HR.out.2.2.1
        · exact (hmv'.only hon hva).below' ((Below.refl w3.heap.size w5).setCell (Nat.le_refl _) _) (fun _ => by omega)
      case measure => simp [intOf]
    · obtain rfl : k = 0 := by omega
      rw [Nat.pow_zero, Nat.mul_one] at hrq'
      have hZ := HZ.out
      have hZv := HZV.out
      rw [Nat.pow_zero, Nat.mul_one] at hZ hZv
      have hD := div_done HV.out hZv hZ
      have hzl : Z < B ^ n := Nat.lt_trans hZv hmv'.lt
      have hmr := hru'.mag.take n (by omega)
      rw [mod_of_lt hzl] at hmr
      have hnz : nl Z ≤ 1099511627776 := by have := nl_le hzl; omega
      have HD := Lib.hid hD
      clear hZ hZv hD
      go_wp2_with fail
      refine (trim_any _ _ _ _ _ hmr).mono ?_
      rintro e w' ⟨rfl, rfl⟩
      go_wp2_with fail
      refine (down_any _ _ _ _ _ _ hmr.trim rfl hnz (by omega) (by omega) _ rfl).mono ?_
      rintro e w6 ⟨a6, c6, rfl, hm6, hb6, hf6⟩
      rw [Int.toNat_natCast] at hm6 hf6 ⊢
      have hq6 := hrq'.mag.below hb6
      go_wp2_with fail
      refine (trim_any _ _ _ _ _ hq6).mono ?_
      rintro e w' ⟨rfl, rfl⟩
      go_wp2_with fail
      go_ret2
      have hd := HD.out
      have hz : Z / 2 ^ s = x % y := by rw [hd.2, Nat.mul_div_cancel _ (Nat.pow_pos (by decide))]
      rw [hz] at hm6 hf6 ⊢
      rw [hd.1] at hq6 ⊢
      exact ⟨some ⟨w3.heap.size, 0, none⟩, m + 1 - n, a6, c6, rfl, hq6.trim, hm6, hb'.trans (hb6.mono hb'.size), fun _ => (by show w.heap.size ≤ w3.heap.size; omega), fun h => Nat.le_trans hb'.size (hf6 h)⟩

/-- a / b and the remainder -/
theorem divide_any (w : World) (a a' : Option Addr) (n m cap cap' x y : Nat) (hx : Mag w a n cap x) (hy : Mag w a' m cap' y) (hn : n = nl x) (hm : m = nl y) (hlim : n ≤ 1099511627776) (hy0 : 0 < y) :
    Calls Tryd.prog 104 #[.slice a n cap, .slice a' m cap'] w (RetNat2 w (x / y) (x % y)) := by
  rcases Nat.lt_or_ge x y with h | h
  · exact divide_less w a a' n m cap cap' x y hx hy hn hm hlim h
  · have hm0 : 0 < m := by rw [hm]; exact nl_pos hy0
    by_cases h1 : m = 1
    · exact divide_short w a a' n m cap cap' x y hx hy hn hm hlim h h1
    · exact divide_long w a a' m n cap cap' x y hx hy hn hm hlim h (by omega)
end Go.Proofs.YtjhngehajahbnaaDoor

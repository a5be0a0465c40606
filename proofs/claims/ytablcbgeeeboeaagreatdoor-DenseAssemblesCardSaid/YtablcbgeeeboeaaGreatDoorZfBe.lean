/-
  Walks: package dyad: bad, right, left.
  Plain law: dyads as pairs of an integer and an exponent: their normal form, the operations on them, rounding. No program in sight.
  Walks: dyad.norm: the other two cases, and the whole.
  Whether a cell is there is not changed by a store: one law for the walk. No program in sight.
  Walks: package dyad: two (both arguments normalized).
  Walks: package dyad: Make, Valid, Norm, FromBig, FromInt.
-/
import Derived.Test.YtablcbgeeeboeaaGreatDoorZfBd
import Derived.Deep.RegionWith
import Derived.Test.YtablcbgeeeboeaaGreatDoorZfBa
set_option maxRecDepth 100000
set_option maxHeartbeats 2000000
namespace Go.Proofs.YtablcbgeeeboeaaGreatDoor
open Go.RowKit Sp
theorem right_any (w : World) (s : Bool) (a : Option Addr) (n cap x : Nat) (k : Int) (hx : Mag w a n cap x) (hlim : n ≤ 1099511627776) (h0 : 0 ≤ k) (h1 : k ≤ 1048576) :
 Calls Tryz.prog 149 #[.agg #[.bool s, .slice a n cap], .int .i64 k] w (RetBig w (shl (sgn s x) (-k))) := by
 have t1 : decide ((1048576 : Int) < k) = false := by simp <;> omega
 have HS := fun W h => Lib.hid (shift_any W s a n cap x (-k) h hlim (by omega) (by omega))
 obtain ⟨z, hz⟩ : ∃ z, z = shl (sgn s x) (-k) := ⟨_, rfl⟩
 rw [← hz] at HS ⊢
 clear hz
 have e2 : ¬ w.heap.size + 1 = w.heap.size := by omega
 go_enter Tryz.func149, Tryz.ntmps149
 go_wp2_with fail
 go_loopw [1] (fun v wr => v = .int .i64 k ∧ wr = (w.alloc (.cells #[.bool s, .slice a n cap] 44)).alloc (.cells #[.bool false, .slice none 0 0] 44)) (fun _ _ => 0)
 case atStart => exact ⟨rfl, rfl⟩
 case round =>
  obtain ⟨rfl, rfl⟩ := hrel
  go_wp2_with fail
  refine (HS _ (hx.below zbh)).out.mono ?_
  rintro e w1 ⟨a1, c1, rfl, hm1, hb, hf1⟩
  obtain ⟨hc1, hz1⟩ := bcell (hb.mono (show w.heap.size + 2 ≤ _ by simp))
  go_wp2_with fail
  refine bodyPost_ret (v := .agg #[.bool (decide (z < 0)), .slice a1 (nl z.natAbs) c1]) (by simp [results, Tryz.results149, go_sem, hc1]) rfl ?_
  have hfr : 0 < nl z.natAbs → w.heap.size + 2 ≤ ab a1 := fun h => by have := hf1 h; simpa using this
  have hbw := below_box (w := w) zbh hb
  refine ret_big ((hm1.set (fun h => by have := hfr h; omega) _ _).set (fun h => by have := hfr h; omega) _ _) (fun h => by have := hfr h; omega) ((hbw.setCell (Nat.le_refl _) _).setCell (Nat.le_refl _) _) (by omega)
theorem left_any (w : World) (s : Bool) (a : Option Addr) (n cap x : Nat) (k : Int) (hx : Mag w a n cap x) (hlim : n ≤ 1099511627776) (h0 : 0 ≤ k) (h1 : k ≤ 1048576) :
 Calls Tryz.prog 131 #[.agg #[.bool s, .slice a n cap], .int .i64 k] w (RetBig w (shl (sgn s x) k)) := by
 have HS := fun W h => Lib.hid (shift_any W s a n cap x k h hlim (by omega) (by omega))
 obtain ⟨z, hz⟩ : ∃ z, z = shl (sgn s x) k := ⟨_, rfl⟩
 rw [← hz] at HS ⊢
 clear hz
 have e2 : ¬ w.heap.size + 1 = w.heap.size := by omega
 go_enter Tryz.func131, Tryz.ntmps131
 go_wp2_with fail
 · refine (HS _ (hx.below zbh)).out.mono ?_
   rintro e w1 ⟨a1, c1, rfl, hm1, hb, hf1⟩
   obtain ⟨hc1, hz1⟩ := bcell (hb.mono (show w.heap.size + 2 ≤ _ by simp))
   go_wp2_with fail
   refine bodyPost_ret (v := .agg #[.bool (decide (z < 0)), .slice a1 (nl z.natAbs) c1]) (by simp [results, Tryz.results131, go_sem, hc1]) rfl ?_
   have hfr : 0 < nl z.natAbs → w.heap.size + 2 ≤ ab a1 := fun h => by have := hf1 h; simpa using this
   have hbw := below_box (w := w) zbh hb
   refine ret_big ((hm1.set (fun h => by have := hfr h; omega) _ _).set (fun h => by have := hfr h; omega) _ _) (fun h => by have := hfr h; omega) ((hbw.setCell (Nat.le_refl _) _).setCell (Nat.le_refl _) _) (by omega)
theorem old2 {a b : Nat} (h : a + 2 ≤ b) : (¬ b = a) ∧ (¬ b = a + 1) ∧ (¬ a = b) ∧ (¬ a + 1 = b) ∧ a < b ∧ a + 1 < b ∧ a < b + 1 := by omega
theorem sign_z (w : World) (a : Option Addr) (cap : Nat) (z : Int) (hm : Mag w a (nl z.natAbs) cap z.natAbs) :
 Calls Tryz.prog 138 #[.agg #[.bool (decide (z < 0)), .slice a (nl z.natAbs) cap]] w fun e w' => e = .returned (.int .i64 (sg z)) ∧ Below w.heap.size w w' := by
 have h := sign_any w (decide (z < 0)) a _ cap _ hm
 rwa [sgn_self] at h
theorem sign_0 (w : World) (a : Option Addr) (cap : Nat) (hm : Mag w a (nl 0) cap 0) :
 Calls Tryz.prog 138 #[.agg #[.bool false, .slice a (nl 0) cap]] w fun e w' => e = .returned (.int .i64 0) ∧ Below w.heap.size w w' := sign_z w a cap 0 hm
def nrm (m e : Int) : Option (Int × Int) :=
 if m = 0 then some (0, 0) else if 65536 - (blen m.natAbs : Int) < e ∨ e < -65536 - (tz m.natAbs : Int) then none else some (m / 2 ^ tz m.natAbs, e + tz m.natAbs)
def nrmB (b : Bool) (m e : Int) : Option (Int × Int) := if b then none else nrm m e
def dman (d : Option (Int × Int)) : Int := (d.getD (0, 0)).1
def dexp (d : Option (Int × Int)) : Int := (d.getD (0, 0)).2
def dbad (d : Option (Int × Int)) : Bool := d.isNone
def RetDy (w : World) (d : Option (Int × Int)) (e : Ending) (w' : World) : Prop :=
 ∃ a cap, e = .returned (.agg #[.bool (dbad d), (.bool (decide (dman d < 0))), .slice a (nl (dman d).natAbs) cap, .int .i64 (dexp d)]) ∧ Mag w' a (nl (dman d).natAbs) cap (dman d).natAbs ∧ Below w.heap.size w w' ∧ (0 < nl (dman d).natAbs → w.heap.size ≤ ab a)
def RetDyB (w : World) (d : Option (Int × Int)) (e : Ending) (w' : World) : Prop :=
 ∃ a cap, e = .returned (.tuple #[.agg #[.bool (dbad d), (.bool (decide (dman d < 0))), .slice a (nl (dman d).natAbs) cap, .int .i64 (dexp d)], .bool (!dbad d)]) ∧ Mag w' a (nl (dman d).natAbs) cap (dman d).natAbs ∧ Below w.heap.size w w' ∧ (0 < nl (dman d).natAbs → w.heap.size ≤ ab a)
theorem bad_any (w : World) :
 Calls Tryz.prog 120 #[] w fun e w' => e = .returned (.agg #[.bool true, .bool false, .slice none 0 0, .int .i64 0]) ∧ Below w.heap.size w w' := by
 go_enter Tryz.func120, Tryz.ntmps120
 go_wp2_with fail
 refine bodyPost_ret (v := .agg #[.bool true, .bool false, .slice none 0 0, .int .i64 0]) (by simp [results, Tryz.results120, go_sem]) rfl ?_
 exact ⟨rfl, zbh⟩
theorem dnorm_bad (w : World) (s : Bool) (a : Option Addr) (n cap : Nat) (e : Int) :
 Calls Tryz.prog 116 #[.agg #[.bool true, .bool s, .slice a n cap, .int .i64 e]] w (RetDyB w none) := by
 have e2 : ¬ w.heap.size + 1 = w.heap.size := by omega
 go_enter Tryz.func116, Tryz.ntmps116
 go_wp2_with fail
 refine (bad_any _).mono ?_
 rintro e w1 ⟨rfl, hb⟩
 obtain ⟨hc1, hz1⟩ := bcell (hb.mono (show w.heap.size + 2 ≤ _ by simp))
 go_wp2_with fail
 refine bodyPost_ret2 (v := .tuple #[.agg #[.bool true, .bool false, .slice none 0 0, .int .i64 0], .bool false]) (by simp [results, Tryz.results116, go_sem, hc1]) rfl ?_
 have hbw := below_box (w := w) zbh hb
 exact ⟨none, 0, rfl, Mag.nil .., (have := Beh.mk hbw; zbh), nl0⟩
theorem dnorm_zero (w : World) (s : Bool) (a : Option Addr) (n cap x : Nat) (e : Int) (hx : Mag w a n cap x) (hlim : n ≤ 1099511627776) (hx0 : x = 0) :
 Calls Tryz.prog 116 #[.agg #[.bool false, .bool s, .slice a n cap, .int .i64 e]] w (RetDyB w (some (0, 0))) := by
 have e2 : ¬ w.heap.size + 1 = w.heap.size := by omega
 have hz : sgn s x = 0 := by subst hx0; cases s <;> rfl
 have HN := fun W h => Lib.hid (norm_any W s a n cap x h hlim)
 rw [hz] at HN
 have HG := fun W b c h => Lib.hid (sign_0 W b c h)
 go_enter Tryz.func116, Tryz.ntmps116
 go_wp2_with fail
 refine (HN _ (hx.below zbh)).out.mono ?_
 rintro e w1 ⟨a1, c1, rfl, hm1, hb, hf1⟩
 obtain ⟨hc1, hz1⟩ := bcell (hb.mono (show w.heap.size + 2 ≤ _ by simp))
 have hg1 : w.heap.size + 2 ≤ w1.heap.size := by have := hb.size; simpa using this
 obtain ⟨g1, g2, g3, g4, l1, l2, l3⟩ := old2 hg1
 go_wp2_with fail
 refine (HG _ a1 c1 (hm1.below zbh)).out.mono ?_
 rintro e w2 ⟨rfl, hb2⟩
 obtain ⟨hc2, hz2⟩ := bcell (hb2.mono (show w1.heap.size + 1 ≤ _ by simp))
 go_wp2_with fail
 refine bodyPost_ret2 (v := .tuple #[.agg #[.bool false, .bool false, .slice none 0 0, .int .i64 0], .bool true]) (by simp [results, Tryz.results116, go_sem, hc2, hc1, l1, l2]) rfl ?_
 have hbw0 := below_box (w := w) zbh hb
 have hbw1 : Below w.heap.size w _ := hbw0.alloc (by omega) (.cells #[.bool false, .slice a1 (nl 0) c1] 44)
 have hbw := below_box hbw1 hb2
 exact ⟨none, 0, rfl, Mag.nil .., (have := Beh.mk hbw; zbh), nl0⟩
theorem dnorm_hi (w : World) (s : Bool) (a : Option Addr) (n cap x : Nat) (e : Int) (hx : Mag w a n cap x) (hlim : n ≤ 1099511627776) (hx0 : x ≠ 0) (hT : Tab w) (hB : blen x ≤ 1048576) (_he0 : -9223372036854775808 ≤ e) (_he1 : e ≤ 9223372036854775807) (hh : 65536 - (blen x : Int) < e) :
 Calls Tryz.prog 116 #[.agg #[.bool false, .bool s, .slice a n cap, .int .i64 e]] w (RetDyB w none) := by
 have e2 : ¬ w.heap.size + 1 = w.heap.size := by omega
 have HN := fun W h => Lib.hid (norm_any W s a n cap x h hlim)
 have HB := fun W b c h => Lib.hid (bitlen_any W (decide (sgn s x < 0)) b (nl x) c x h (Nat.le_trans (nl_le hx.lt) hlim))
 have HT := fun W b c hw h => Lib.hid (trailing_any W hw (decide (sgn s x < 0)) b (nl x) c x h (Nat.le_trans (nl_le hx.lt) hlim))
 obtain ⟨z, hz⟩ : ∃ z, z = sgn s x := ⟨_, rfl⟩
 have hzx : x = z.natAbs := by rw [hz, sgn_natAbs]
 have hz0 : z ≠ 0 := by omega
 rw [← hz] at HN HB HT
 obtain ⟨B, hB2⟩ : ∃ B, B = blen x := ⟨_, rfl⟩
 obtain ⟨T, hT2⟩ : ∃ T, T = tz x := ⟨_, rfl⟩
 rw [← hB2] at HB hB hh
 rw [← hT2] at HT
 rw [hzx] at HB HT
 clear hz hzx hB2 hT2
 have HG := fun W b c h => Lib.hid (sign_z W b c z h)
 obtain ⟨g, hg⟩ : ∃ g, g = sg z := ⟨_, rfl⟩
 rw [← hg] at HG
 have hg0 : decide (g = 0) = false := by
  have : z ≠ 0 := hz0
  subst hg; unfold sg cmpI; simp; split <;> (try split) <;> omega
 clear hg
 have hge : (g == 0) = false := by simpa using hg0
 have hd : decide (IntKind.i64.wrap (65536 - (B : Int)) < e) = true := by rw [IntKind.wrap_i64]; simp; omega
 go_enter Tryz.func116, Tryz.ntmps116
 go_wp2_with fail
 refine (HN _ (hx.below zbh)).out.mono ?_
 rintro e w1 ⟨a1, c1, rfl, hm1, hb, hf1⟩
 obtain ⟨hc1, hz1⟩ := bcell (hb.mono (show w.heap.size + 2 ≤ _ by simp))
 have hg1 : w.heap.size + 2 ≤ w1.heap.size := by have := hb.size; simpa using this
 obtain ⟨g1, g2, g3, g4, l1, l2, l3⟩ := old2 hg1
 go_wp2_with fail
 refine (HG _ a1 c1 (hm1.below zbh)).out.mono ?_
 rintro e w2 ⟨rfl, hb2⟩
 obtain ⟨hc2, hz2⟩ := bcell (hb2.mono (show w1.heap.size + 1 ≤ _ by simp))
 go_wp2_with fail
 have hbw0 := below_box (w := w) zbh hb
 have hbw1 : Below w.heap.size w _ := hbw0.alloc (by omega) (.cells #[.bool (decide (z < 0)), .slice a1 (nl z.natAbs) c1] 44)
 have hbw2 := below_box hbw1 hb2
 have hs2 : w1.heap.size + 1 ≤ w2.heap.size := by have := hb2.size; simpa using this
 have hm2 : Mag w2 a1 (nl z.natAbs) c1 z.natAbs := (hm1.below zbh).below hb2
 refine (HT w2 a1 c1 (hT.below hbw2) hm2).out.mono ?_
 rintro e w3 ⟨rfl, hb3⟩
 obtain ⟨hc3, hz3⟩ := bcell (hb3.mono (show w1.heap.size + 1 ≤ _ from hs2))
 have hm3 := hm2.below hb3
 have hbw3 := below_box hbw2 hb3
 have hs3 : w1.heap.size + 1 ≤ w3.heap.size := Nat.le_trans hs2 hb3.size
 go_wp2_with fail
 first | go_region_with (first | (go_at_call 148; refine (HB _ a1 c1 (hm3.below zbh)).out.mono ?_; rintro e w4 ⟨rfl, hb4⟩; obtain ⟨hc4, hz4⟩ := bcell (hb4.mono (show w1.heap.size + 1 ≤ _ from hs3)))) | fail "region"
 all_goals go_wp2_with fail
 all_goals (
  have hbw4 := below_box hbw3.drew hb4
  have hs4 : w1.heap.size + 1 ≤ w4.heap.size := Nat.le_trans hs3 hb4.size
  refine (bad_any _).mono ?_
  rintro e w5 ⟨rfl, hb5⟩
  obtain ⟨hc5, hz5⟩ := bcell (hb5.mono (show w1.heap.size + 1 ≤ _ from hs4))
  have hbw := below_box hbw4 hb5
  go_wp2_with fail
  refine bodyPost_ret2 (v := .tuple #[.agg #[.bool true, .bool false, .slice none 0 0, .int .i64 0], .bool false]) (by simp [results, Tryz.results116, go_sem, hc5, hc4, hc3, hc2, hc1, l1, l2]) rfl ?_
  exact ⟨none, 0, rfl, Mag.nil .., (have := Beh.mk hbw; zbh), nl0⟩)
end Go.Proofs.YtablcbgeeeboeaaGreatDoor
namespace Go.Proofs.YtablcbgeeeboeaaGreatDoor
open Go.RowKit Sp
theorem nl_le_blen (x : Nat) : nl x ≤ blen x := by unfold nl blen; split <;> omega
def Okd (m e : Int) : Prop := (m = 0 ∧ e = 0) ∨ (m % 2 = 1 ∧ -65536 ≤ e ∧ e + blen m.natAbs ≤ 65536)
theorem pow2_pos (k : Nat) : (0 : Int) < 2 ^ k := Int.pow_pos (by decide)
theorem pow2_nat (k : Nat) : ((2 ^ k : Nat) : Int) = (2 : Int) ^ k := by simp
theorem natAbs_mul_pow (m : Int) (k : Nat) : (m * 2 ^ k).natAbs = m.natAbs * 2 ^ k := by
 rw [Int.natAbs_mul, Int.natAbs_pow]; rfl
theorem pow2_dvd_of_natAbs {m : Int} {t : Nat} (h : 2 ^ t ∣ m.natAbs) : ((2 : Int) ^ t) ∣ m := by
 rw [← pow2_nat]; exact Int.ofNat_dvd_left.2 h
theorem int_split {m : Int} (h : m ≠ 0) : ∃ y : Int, m = y * 2 ^ tz m.natAbs ∧ y % 2 = 1 ∧ m / 2 ^ tz m.natAbs = y := by
 have hp : 0 < m.natAbs := Int.natAbs_pos.2 h
 obtain ⟨y, hy⟩ := pow2_dvd_of_natAbs (tz_dvd hp)
 have hy' : m = y * 2 ^ tz m.natAbs := by rw [Int.mul_comm]; exact hy
 have hdiv : m / 2 ^ tz m.natAbs = y := by
  conv => lhs; lhs; rw [hy']
  exact Int.mul_ediv_cancel _ (Int.ne_of_gt (pow2_pos _))
 refine ⟨y, hy', ?_, hdiv⟩
 have hn : m.natAbs = y.natAbs * 2 ^ tz m.natAbs := by conv => lhs; rw [hy', natAbs_mul_pow]
 have ho := odd_div hp
 have : m.natAbs / 2 ^ tz m.natAbs = y.natAbs := by
  conv => lhs; lhs; rw [hn]
  exact Nat.mul_div_cancel _ (Nat.pow_pos (by decide))
 rw [this] at ho
 omega
theorem tz_odd_int {m : Int} (h : m % 2 = 1) : tz m.natAbs = 0 := tz_odd (by omega)
theorem nrm_zero (e : Int) : nrm 0 e = some (0, 0) := rfl
theorem nrm_ok {m e m' e' : Int} (h : nrm m e = some (m', e')) : Okd m' e' := by
 unfold nrm at h
 split at h
 · injection h with h; injection h with h1 h2; subst h1 h2; exact Or.inl ⟨rfl, rfl⟩
 · rename_i h0
   split at h
   · cases h
   · rename_i hc
     obtain ⟨y, hy, hodd, hdiv⟩ := int_split h0
     injection h with h; injection h with h1 h2
     rw [hdiv] at h1; subst h1
     have hb : blen m.natAbs = blen y.natAbs + tz m.natAbs := by
      conv => lhs; rw [hy, natAbs_mul_pow]
      exact blen_mul_pow (Int.natAbs_pos.2 (by omega)) _
     exact Or.inr ⟨hodd, by omega, by omega⟩
theorem nrm_self {m e : Int} (h : Okd m e) : nrm m e = some (m, e) := by
 rcases h with ⟨rfl, rfl⟩ | ⟨h1, h2, h3⟩
 · rfl
 · have ht := tz_odd_int h1
   unfold nrm
   rw [if_neg (by omega), ht, if_neg (by omega)]
   simp
theorem nrm_scale (m e : Int) (k : Nat) : nrm (m * 2 ^ k) e = nrm m (e + k) := by
 by_cases h0 : m = 0
 · subst h0; rw [Int.zero_mul]; rfl
 · have hp := Int.natAbs_pos.2 h0
   have hk : m * 2 ^ k ≠ 0 := Int.mul_ne_zero h0 (Int.ne_of_gt (pow2_pos _))
   unfold nrm
   rw [if_neg h0, if_neg hk, natAbs_mul_pow, blen_mul_pow hp, tz_mul_pow hp]
   have hd : m * 2 ^ k / 2 ^ (tz m.natAbs + k) = m / 2 ^ tz m.natAbs := by
    rw [Int.pow_add, Int.mul_ediv_mul_of_pos_left _ _ (pow2_pos k)]
   rw [hd]
   have e1 : (e + k) + (tz m.natAbs : Int) = e + ((tz m.natAbs + k : Nat) : Int) := by omega
   rw [e1]
   by_cases hc : 65536 - (blen m.natAbs : Int) < e + k ∨ e + k < -65536 - (tz m.natAbs : Int)
   · rw [if_pos hc, if_pos (by omega)]
   · rw [if_neg hc, if_neg (by omega)]
theorem nrm_some {m e m' e' : Int} (h0 : m ≠ 0) (h : nrm m e = some (m', e')) : ∃ t : Nat, m = m' * 2 ^ t ∧ e' = e + t ∧ m' % 2 = 1 ∧ -65536 ≤ e' ∧ e' + blen m'.natAbs ≤ 65536 := by
 have hk := nrm_ok h
 unfold nrm at h
 rw [if_neg h0] at h
 split at h
 · cases h
 · obtain ⟨y, hy, hodd, hdiv⟩ := int_split h0
   injection h with h; injection h with h1 h2
   rw [hdiv] at h1; subst h1
   rcases hk with ⟨rfl, _⟩ | hk
   · simp at hodd
   · exact ⟨_, hy, h2.symm, hk⟩
theorem nrm_none {m e : Int} : nrm m e = none ↔ m ≠ 0 ∧ (65536 - (blen m.natAbs : Int) < e ∨ e < -65536 - (tz m.natAbs : Int)) := by
 unfold nrm
 split
 · simp_all
 · rename_i h0
   split <;> simp_all
def IsN (d : Option (Int × Int)) : Prop := ∀ m e, d = some (m, e) → Okd m e
theorem isN_none : IsN none := fun _ _ h => by cases h
theorem isN_nrm (m e : Int) : IsN (nrm m e) := fun _ _ h => nrm_ok h
theorem isN_nrmB (b : Bool) (m e : Int) : IsN (nrmB b m e) := by
 cases b
 · exact isN_nrm m e
 · exact isN_none
theorem isN_some {m e : Int} (h : Okd m e) : IsN (some (m, e)) := fun _ _ h' => by injection h' with h'; injection h' with h1 h2; subst h1 h2; exact h
theorem okd_bounds {m e : Int} (h : Okd m e) : blen m.natAbs ≤ 131072 ∧ -65536 ≤ e ∧ e ≤ 65536 ∧ e + blen m.natAbs ≤ 65536 := by
 rcases h with ⟨rfl, rfl⟩ | ⟨h1, h2, h3⟩
 · decide
 · omega
theorem isN_bounds {d : Option (Int × Int)} (h : IsN d) : blen (dman d).natAbs ≤ 131072 ∧ -65536 ≤ dexp d ∧ dexp d ≤ 65536 := by
 cases d with
 | none => decide
 | some p => obtain ⟨m, e⟩ := p; have := okd_bounds (h m e rfl); exact ⟨this.1, this.2.1, this.2.2.1⟩
theorem isN_self {d : Option (Int × Int)} (h : IsN d) : nrmB (dbad d) (dman d) (dexp d) = d := by
 cases d with
 | none => rfl
 | some p => obtain ⟨m, e⟩ := p; exact nrm_self (h m e rfl)
def up (m e E : Int) : Int := m * 2 ^ (e - E).toNat
def dcmp : Option (Int × Int) → Option (Int × Int) → Int
 | some (m, e), some (m', e') => cmpI (up m e (min e e')) (up m' e' (min e e'))
 | _, _ => 0
def dadd : Option (Int × Int) → Option (Int × Int) → Option (Int × Int)
 | some (m, e), some (m', e') => nrm (up m e (min e e') + up m' e' (min e e')) (min e e')
 | _, _ => none
def dmul : Option (Int × Int) → Option (Int × Int) → Option (Int × Int)
 | some (m, e), some (m', e') => nrm (m * m') (e + e')
 | _, _ => none
def dneg : Option (Int × Int) → Option (Int × Int)
 | some (m, e) => some (-m, e)
 | none => none
def dabs : Option (Int × Int) → Option (Int × Int)
 | some (m, e) => some ((m.natAbs : Int), e)
 | none => none
theorem okd_neg {m e : Int} (h : Okd m e) : Okd (-m) e := by
 rcases h with ⟨rfl, rfl⟩ | ⟨h1, h2, h3⟩
 · exact Or.inl ⟨rfl, rfl⟩
 · exact Or.inr ⟨by omega, h2, by rw [Int.natAbs_neg]; exact h3⟩
theorem okd_abs {m e : Int} (h : Okd m e) : Okd (m.natAbs : Int) e := by
 rcases Int.natAbs_eq m with h1 | h1
 · rwa [← h1]
 · have := okd_neg h
   rwa [show -m = (m.natAbs : Int) by omega] at this
theorem isN_neg {d : Option (Int × Int)} (h : IsN d) : IsN (dneg d) := by
 cases d with
 | none => exact isN_none
 | some p => obtain ⟨m, e⟩ := p; exact isN_some (okd_neg (h m e rfl))
theorem isN_abs {d : Option (Int × Int)} (h : IsN d) : IsN (dabs d) := by
 cases d with
 | none => exact isN_none
 | some p => obtain ⟨m, e⟩ := p; exact isN_some (okd_abs (h m e rfl))
theorem isN_add (a b : Option (Int × Int)) : IsN (dadd a b) := by
 unfold dadd; split
 · exact isN_nrm _ _
 · exact isN_none
theorem isN_mul (a b : Option (Int × Int)) : IsN (dmul a b) := by
 unfold dmul; split
 · exact isN_nrm _ _
 · exact isN_none
theorem up_self (m e : Int) : up m e e = m := by unfold up; simp
theorem up_nat (m e : Int) (k : Nat) : up m (e + k) e = m * 2 ^ k := by unfold up; congr 2; omega
theorem up_add (m m' e E : Int) : up (m + m') e E = up m e E + up m' e E := by unfold up; rw [Int.add_mul]
theorem up_zero (e E : Int) : up 0 e E = 0 := by unfold up; simp
theorem blen_up {m e E : Int} (h : E ≤ e) (hm : m ≠ 0) : (blen (up m e E).natAbs : Int) = blen m.natAbs + (e - E) := by
 unfold up; rw [natAbs_mul_pow, blen_mul_pow (Int.natAbs_pos.2 hm)]; omega
theorem blen_up_le {m e E : Int} {k : Nat} (h : E ≤ e) (hk : (blen m.natAbs : Int) + (e - E) ≤ k) : blen (up m e E).natAbs ≤ k := by
 by_cases h0 : m = 0
 · subst h0; rw [up_zero]; exact Nat.zero_le _
 · have := blen_up h h0; omega
theorem nrm_up (m e E : Int) (h : E ≤ e) : nrm (up m e E) E = nrm m e := by
 unfold up; rw [nrm_scale]; congr 1; omega
theorem up_up (m : Int) {e F E : Int} (h1 : E ≤ F) (h2 : F ≤ e) : up (up m e F) F E = up m e E := by
 unfold up; rw [Int.mul_assoc, ← Int.pow_add]; congr 2; omega
theorem dadd_nrm (M N E : Int) (hM : nrm M E ≠ none) (hN : nrm N E ≠ none) : dadd (nrm M E) (nrm N E) = nrm (M + N) E := by
 by_cases h0 : M = 0
 · subst h0
   rw [nrm_zero, Int.zero_add]
   cases h : nrm N E with
   | none => exact absurd h hN
   | some p =>
    obtain ⟨m, e⟩ := p
    show nrm (up 0 0 _ + up m e (min 0 e)) (min 0 e) = _
    rw [up_zero, Int.zero_add, nrm_up _ _ _ (by omega), nrm_self (nrm_ok h)]
 · by_cases h1 : N = 0
   · subst h1
     rw [nrm_zero, Int.add_zero]
     cases h : nrm M E with
     | none => exact absurd h hM
     | some p =>
      obtain ⟨m, e⟩ := p
      show nrm (up m e (min e 0) + up 0 0 _) (min e 0) = _
      rw [up_zero, Int.add_zero, nrm_up _ _ _ (by omega), nrm_self (nrm_ok h)]
   · cases h : nrm M E with
     | none => exact absurd h hM
     | some p =>
      cases k : nrm N E with
      | none => exact absurd k hN
      | some q =>
       obtain ⟨m, e⟩ := p
       obtain ⟨n, f⟩ := q
       obtain ⟨t, ht, he, _⟩ := nrm_some h0 h
       obtain ⟨u, hu, hf, _⟩ := nrm_some h1 k
       show nrm (up m e (min e f) + up n f (min e f)) (min e f) = _
       rw [← nrm_up _ (min e f) E (by omega), up_add, up_up _ (by omega) (by omega), up_up _ (by omega) (by omega)]
       subst he hf
       rw [up_nat, up_nat, ← ht, ← hu]
theorem dmul_nrm (M N E F : Int) (hM : nrm M E ≠ none) (hN : nrm N F ≠ none) : dmul (nrm M E) (nrm N F) = nrm (M * N) (E + F) := by
 cases h : nrm M E with
 | none => exact absurd h hM
 | some p =>
  cases k : nrm N F with
  | none => exact absurd k hN
  | some q =>
   obtain ⟨m, e⟩ := p
   obtain ⟨n, f⟩ := q
   show nrm (m * n) (e + f) = _
   by_cases h0 : M = 0
   · subst h0; rw [nrm_zero] at h; injection h with h; injection h with h1 h2; subst h1 h2; simp [nrm_zero]
   · by_cases h1 : N = 0
     · subst h1; rw [nrm_zero] at k; injection k with k; injection k with h1 h2; subst h1 h2; simp [nrm_zero]
     · obtain ⟨t, ht, he, _⟩ := nrm_some h0 h
       obtain ⟨u, hu, hf, _⟩ := nrm_some h1 k
       have e1 : M * N = (m * n) * 2 ^ (t + u) := by rw [ht, hu, Int.pow_add]; grind
       rw [e1, nrm_scale]; congr 1; omega
theorem cmpI_sign {m n : Int} (h1 : m < 0 ↔ n < 0) (h2 : 0 < m ↔ 0 < n) : cmpI m 0 = cmpI n 0 ∧ cmpI 0 m = cmpI 0 n := by
 unfold cmpI; simp only [h1, h2]; exact ⟨trivial, trivial⟩
theorem mul_pow_neg (m : Int) (k : Nat) : (m * 2 ^ k < 0 ↔ m < 0) ∧ (0 < m * 2 ^ k ↔ 0 < m) := by
 have hp := pow2_pos k
 have h1 : m * 2 ^ k < 0 * 2 ^ k ↔ m < 0 := Int.mul_lt_mul_right hp
 have h2 : 0 * 2 ^ k < m * 2 ^ k ↔ 0 < m := Int.mul_lt_mul_right hp
 rw [Int.zero_mul] at h1 h2
 exact ⟨h1, h2⟩
def rdn (x : Nat) (E q : Int) : Nat := if q ≤ E then x * 2 ^ (E - q).toNat else x / 2 ^ (q - E).toNat
def rex (x : Nat) (more : Bool) (k : Nat) : Bool := decide (x % 2 ^ k = 0) && !more
def rcm (x : Nat) (more : Bool) (k : Nat) : Int :=
 if cmpI ((x % 2 ^ k : Nat) : Int) ((2 ^ (k - 1) : Nat) : Int) = 0 ∧ more = true then 1 else cmpI ((x % 2 ^ k : Nat) : Int) ((2 ^ (k - 1) : Nat) : Int)
def raw (s : Bool) (n : Nat) (c : Int) (ex : Bool) (mode : Int) : Bool :=
 if ex then false else if mode = 1 then s else if mode = 2 then !s else if mode = 3 then false else decide (0 < c) || (decide (c = 0) && decide (n % 2 = 1))
def rax (s : Bool) (x : Nat) (E : Int) (more : Bool) (q mode : Int) : Bool :=
 if q ≤ E then false else raw s (rdn x E q) (rcm x more (q - E).toNat) (rex x more (q - E).toNat) mode
def rmag (s : Bool) (x : Nat) (E : Int) (more : Bool) (q mode : Int) : Nat := rdn x E q + if rax s x E more q mode then 1 else 0
def rlg (x : Nat) (E : Int) : Int := E + blen x - 1
def qsh (a b : Int) (prec : Int) : Nat := (max 0 (prec + 3 + blen b.natAbs - blen a.natAbs)).toNat
end Go.Proofs.YtablcbgeeeboeaaGreatDoor
namespace Go.Proofs.YtablcbgeeeboeaaGreatDoor
open Go.RowKit Sp
theorem right_z (w : World) (a : Option Addr) (cap : Nat) (z : Int) (T : Nat) (hm : Mag w a (nl z.natAbs) cap z.natAbs) (hlim : nl z.natAbs ≤ 1099511627776) (hT : T ≤ 1048576) :
 Calls Tryz.prog 149 #[.agg #[.bool (decide (z < 0)), .slice a (nl z.natAbs) cap], .int .i64 T] w (RetBig w (shl z (-(T : Int)))) := by
 have h := right_any w (decide (z < 0)) a _ cap _ (T : Int) hm hlim (by omega) (by omega)
 rwa [sgn_self] at h
theorem dnorm_lo (w : World) (s : Bool) (a : Option Addr) (n cap x : Nat) (e : Int) (hx : Mag w a n cap x) (hlim : n ≤ 1099511627776) (hx0 : x ≠ 0) (hT : Tab w) (hB : blen x ≤ 1048576) (hTz : tz x ≤ 1048576) (_he0 : -9223372036854775808 ≤ e) (_he1 : e ≤ 9223372036854775807) (hh : ¬ 65536 - (blen x : Int) < e) (hl : e < -65536 - (tz x : Int)) :
 Calls Tryz.prog 116 #[.agg #[.bool false, .bool s, .slice a n cap, .int .i64 e]] w (RetDyB w none) := by
 have e2 : ¬ w.heap.size + 1 = w.heap.size := by omega
 have HN := fun W h => Lib.hid (norm_any W s a n cap x h hlim)
 have HB := fun W b c h => Lib.hid (bitlen_any W (decide (sgn s x < 0)) b (nl x) c x h (Nat.le_trans (nl_le hx.lt) hlim))
 have HT := fun W b c hw h => Lib.hid (trailing_any W hw (decide (sgn s x < 0)) b (nl x) c x h (Nat.le_trans (nl_le hx.lt) hlim))
 obtain ⟨z, hz⟩ : ∃ z, z = sgn s x := ⟨_, rfl⟩
 have hzx : x = z.natAbs := by rw [hz, sgn_natAbs]
 have hz0 : z ≠ 0 := by omega
 rw [← hz] at HN HB HT; (try rw [← hz] at hzx')
 obtain ⟨B, hB2⟩ : ∃ B, B = blen x := ⟨_, rfl⟩
 obtain ⟨T, hT2⟩ : ∃ T, T = tz x := ⟨_, rfl⟩
 rw [← hB2] at HB hB hh
 rw [← hT2] at HT; (try rw [← hT2] at hl hTz); (try rw [← hT2] at hf); (try rw [← hT2, ← hz] at hy)
 rw [hzx] at HB HT
 clear hz hzx hB2 hT2
 have HG := fun W b c h => Lib.hid (sign_z W b c z h)
 obtain ⟨g, hg⟩ : ∃ g, g = sg z := ⟨_, rfl⟩
 rw [← hg] at HG
 have hg0 : decide (g = 0) = false := by
  have : z ≠ 0 := hz0
  subst hg; unfold sg cmpI; simp; split <;> (try split) <;> omega
 clear hg
 have hge : (g == 0) = false := by simpa using hg0
 have hd : decide (IntKind.i64.wrap (65536 - (B : Int)) < e) = false := by rw [IntKind.wrap_i64]; simp; omega
 have hd2 : decide (e < IntKind.i64.wrap (-65536 - (T : Int))) = true := by rw [IntKind.wrap_i64]; simp; omega
 go_enter Tryz.func116, Tryz.ntmps116
 go_wp2_with fail
 refine (HN _ (hx.below zbh)).out.mono ?_
 rintro e w1 ⟨a1, c1, rfl, hm1, hb, hf1⟩
 obtain ⟨hc1, hz1⟩ := bcell (hb.mono (show w.heap.size + 2 ≤ _ by simp))
 have hg1 : w.heap.size + 2 ≤ w1.heap.size := by have := hb.size; simpa using this
 obtain ⟨g1, g2, g3, g4, l1, l2, l3⟩ := old2 hg1
 go_wp2_with fail
 refine (HG _ a1 c1 (hm1.below zbh)).out.mono ?_
 rintro e w2 ⟨rfl, hb2⟩
 obtain ⟨hc2, hz2⟩ := bcell (hb2.mono (show w1.heap.size + 1 ≤ _ by simp))
 go_wp2_with fail
 have hbw0 := below_box (w := w) zbh hb
 have hbw1 : Below w.heap.size w _ := hbw0.alloc (by omega) (.cells #[.bool (decide (z < 0)), .slice a1 (nl z.natAbs) c1] 44)
 have hbw2 := below_box hbw1 hb2
 have hs2 : w1.heap.size + 1 ≤ w2.heap.size := by have := hb2.size; simpa using this
 have hm2 : Mag w2 a1 (nl z.natAbs) c1 z.natAbs := (hm1.below zbh).below hb2
 refine (HT w2 a1 c1 (hT.below hbw2) hm2).out.mono ?_
 rintro e w3 ⟨rfl, hb3⟩
 obtain ⟨hc3, hz3⟩ := bcell (hb3.mono (show w1.heap.size + 1 ≤ _ from hs2))
 have hm3 := hm2.below hb3
 have hbw3 := below_box hbw2 hb3
 have hs3 : w1.heap.size + 1 ≤ w3.heap.size := Nat.le_trans hs2 hb3.size
 go_wp2_with fail
 first | go_region_held3 (fun w' => w'.cell? ⟨w.heap.size, 3, none⟩ = some (.int .i64 e) ∧ w'.cell? ⟨w1.heap.size, 0, none⟩ = some (.bool (decide (z < 0))) ∧ w'.cell? ⟨w1.heap.size, 1, none⟩ = some (.slice a1 (nl z.natAbs) c1)) (first | go_keep)
  (first | (go_at_call 148; refine (HB _ a1 c1 (hm3.below zbh)).out.mono ?_; rintro e w4 ⟨rfl, hb4⟩; obtain ⟨hc4, hz4⟩ := bcell (hb4.mono (show w1.heap.size + 1 ≤ _ from hs3)))) | fail "region"
 go_wp2_with fail
 have hbw4 := below_box hbw3.drew hb4
 have hs4 : w1.heap.size + 1 ≤ w4.heap.size := Nat.le_trans hs3 hb4.size
 refine (bad_any _).mono ?_
 rintro e w5 ⟨rfl, hb5⟩
 obtain ⟨hc5, hz5⟩ := bcell (hb5.mono (show w1.heap.size + 1 ≤ _ from hs4))
 have hbw := below_box hbw4 hb5
 go_wp2_with fail
 refine bodyPost_ret2 (v := .tuple #[.agg #[.bool true, .bool false, .slice none 0 0, .int .i64 0], .bool false]) (by simp [results, Tryz.results116, go_sem, hc5, hc4, hc3, hc2, hc1, l1, l2]) rfl ?_
 exact ⟨none, 0, rfl, Mag.nil .., (have := Beh.mk hbw; zbh), nl0⟩
theorem dnorm_in (w : World) (s : Bool) (a : Option Addr) (n cap x : Nat) (e : Int) (hx : Mag w a n cap x) (hlim : n ≤ 1099511627776) (hx0 : x ≠ 0) (hT : Tab w) (hB : blen x ≤ 1048576) (hTz : tz x ≤ 1048576) (he0 : -9223372036854775808 ≤ e) (he1 : e ≤ 9223372036854775807) (hh : ¬ 65536 - (blen x : Int) < e) (hl : ¬ e < -65536 - (tz x : Int)) (y f : Int) (hy : y = shl (sgn s x) (-(tz x : Int))) (hf : f = e + tz x) :
 Calls Tryz.prog 116 #[.agg #[.bool false, .bool s, .slice a n cap, .int .i64 e]] w (RetDyB w (some (y, f))) := by
 have hzx' : (sgn s x).natAbs = x := sgn_natAbs s x
 have e2 : ¬ w.heap.size + 1 = w.heap.size := by omega
 have HN := fun W h => Lib.hid (norm_any W s a n cap x h hlim)
 have HB := fun W b c h => Lib.hid (bitlen_any W (decide (sgn s x < 0)) b (nl x) c x h (Nat.le_trans (nl_le hx.lt) hlim))
 have HT := fun W b c hw h => Lib.hid (trailing_any W hw (decide (sgn s x < 0)) b (nl x) c x h (Nat.le_trans (nl_le hx.lt) hlim))
 obtain ⟨z, hz⟩ : ∃ z, z = sgn s x := ⟨_, rfl⟩
 have hzx : x = z.natAbs := by rw [hz, sgn_natAbs]
 have hz0 : z ≠ 0 := by omega
 rw [← hz] at HN HB HT; (try rw [← hz] at hzx')
 obtain ⟨B, hB2⟩ : ∃ B, B = blen x := ⟨_, rfl⟩
 obtain ⟨T, hT2⟩ : ∃ T, T = tz x := ⟨_, rfl⟩
 rw [← hB2] at HB hB hh
 rw [← hT2] at HT; (try rw [← hT2] at hl hTz); (try rw [← hT2] at hf); (try rw [← hT2, ← hz] at hy)
 rw [hzx] at HB HT
 clear hz hzx hB2 hT2
 have HG := fun W b c h => Lib.hid (sign_z W b c z h)
 obtain ⟨g, hg⟩ : ∃ g, g = sg z := ⟨_, rfl⟩
 rw [← hg] at HG
 have hg0 : decide (g = 0) = false := by
  have : z ≠ 0 := hz0
  subst hg; unfold sg cmpI; simp; split <;> (try split) <;> omega
 clear hg
 have hge : (g == 0) = false := by simpa using hg0
 have hd : decide (IntKind.i64.wrap (65536 - (B : Int)) < e) = false := by rw [IntKind.wrap_i64]; simp; omega
 have hd2 : decide (e < IntKind.i64.wrap (-65536 - (T : Int))) = false := by rw [IntKind.wrap_i64]; simp; omega
 have hw1 : IntKind.i64.wrap (e + (T : Int)) = f := by rw [IntKind.wrap_i64]; omega
 have HR := fun W b c h => Lib.hid (right_z W b c z T h (Nat.le_trans (hzx' ▸ nl_le hx.lt) hlim) hTz)
 rw [← hy] at HR
 clear hy hzx' hf
 go_enter Tryz.func116, Tryz.ntmps116
 go_wp2_with fail
 refine (HN _ (hx.below zbh)).out.mono ?_
 rintro e w1 ⟨a1, c1, rfl, hm1, hb, hf1⟩
 obtain ⟨hc1, hz1⟩ := bcell (hb.mono (show w.heap.size + 2 ≤ _ by simp))
 have hg1 : w.heap.size + 2 ≤ w1.heap.size := by have := hb.size; simpa using this
 obtain ⟨g1, g2, g3, g4, l1, l2, l3⟩ := old2 hg1
 go_wp2_with fail
 refine (HG _ a1 c1 (hm1.below zbh)).out.mono ?_
 rintro e w2 ⟨rfl, hb2⟩
 obtain ⟨hc2, hz2⟩ := bcell (hb2.mono (show w1.heap.size + 1 ≤ _ by simp))
 go_wp2_with fail
 have hbw0 := below_box (w := w) zbh hb
 have hbw1 : Below w.heap.size w _ := hbw0.alloc (by omega) (.cells #[.bool (decide (z < 0)), .slice a1 (nl z.natAbs) c1] 44)
 have hbw2 := below_box hbw1 hb2
 have hs2 : w1.heap.size + 1 ≤ w2.heap.size := by have := hb2.size; simpa using this
 have hm2 : Mag w2 a1 (nl z.natAbs) c1 z.natAbs := (hm1.below zbh).below hb2
 refine (HT w2 a1 c1 (hT.below hbw2) hm2).out.mono ?_
 rintro e w3 ⟨rfl, hb3⟩
 obtain ⟨hc3, hz3⟩ := bcell (hb3.mono (show w1.heap.size + 1 ≤ _ from hs2))
 have hm3 := hm2.below hb3
 have hbw3 := below_box hbw2 hb3
 have hs3 : w1.heap.size + 1 ≤ w3.heap.size := Nat.le_trans hs2 hb3.size
 go_wp2_with fail
 first | go_region_held3 (fun w' => w'.cell? ⟨w.heap.size, 3, none⟩ = some (.int .i64 e) ∧ w'.cell? ⟨w1.heap.size, 0, none⟩ = some (.bool (decide (z < 0))) ∧ w'.cell? ⟨w1.heap.size, 1, none⟩ = some (.slice a1 (nl z.natAbs) c1)) (first | go_keep)
  (first | (go_at_call 148; refine (HB _ a1 c1 (hm3.below zbh)).out.mono ?_; rintro e w4 ⟨rfl, hb4⟩; obtain ⟨hc4, hz4⟩ := bcell (hb4.mono (show w1.heap.size + 1 ≤ _ from hs3)))) | fail "region"
 go_wp2_with fail
 have hbw4 := below_box hbw3.drew hb4
 have hs4 : w1.heap.size + 1 ≤ w4.heap.size := Nat.le_trans hs3 hb4.size
 have hm4 := (hm3.below (Below.drew (Below.refl _ _))).below hb4
 first | go_region_held3 (fun w' => w'.cell? ⟨w.heap.size, 3, none⟩ = some (.int .i64 e) ∧ w'.cell? ⟨w1.heap.size, 0, none⟩ = some (.bool (decide (z < 0))) ∧ w'.cell? ⟨w1.heap.size, 1, none⟩ = some (.slice a1 (nl z.natAbs) c1)) (first | go_keep)
  (first | (go_at_call 149; refine (HR _ a1 c1 (hm4.below zbh)).out.mono ?_; rintro e w5 ⟨a5, c5, rfl, hm5, hb5, hf5⟩; obtain ⟨hc5, hz5⟩ := bcell (hb5.mono (show w1.heap.size + 1 ≤ _ from hs4)))) | fail "region"
 go_wp2_with fail
 have hbw5 := below_box (w := w) (hbw4.drew) hb5
 have hfr : 0 < nl y.natAbs → w1.heap.size + 1 ≤ ab a5 := fun h => by have := hf5 h; simp at this; omega
 have hbw : Below w.heap.size w w5 := by first | exact hbw5 | exact below_box hbw4 hb5
 refine bodyPost_ret2 (v := .tuple #[.agg #[.bool false, .bool (decide (y < 0)), .slice a5 (nl y.natAbs) c5, .int .i64 f], .bool true]) (by simp [results, Tryz.results116, go_sem, hc5, hc4, hc3, hc2, hc1, l1, l2]) rfl ?_
 exact ⟨a5, c5, rfl, (((hm5.set (fun h => by have := hfr h; omega) _ _).set (fun h => by have := hfr h; omega) _ _).set (fun h => by have := hfr h; omega) _ _).set (fun h => by have := hfr h; omega) _ _, (have := Beh.mk hbw; zbh), fun h => by have := hfr h; omega⟩
theorem dnorm_any (w : World) (bd s : Bool) (a : Option Addr) (n cap x : Nat) (e : Int) (hx : Mag w a n cap x) (hlim : n ≤ 1099511627776) (hT : Tab w) (hB : blen x ≤ 1048576) (hTz : tz x ≤ 1048576) (he0 : -9223372036854775808 ≤ e) (he1 : e ≤ 9223372036854775807) :
 Calls Tryz.prog 116 #[.agg #[.bool bd, .bool s, .slice a n cap, .int .i64 e]] w (RetDyB w (nrmB bd (sgn s x) e)) := by
 cases bd with
 | true => exact dnorm_bad w s a n cap e
 | false =>
  have hab := sgn_natAbs s x
  by_cases hx0 : x = 0
  · have h := dnorm_zero w s a n cap x e hx hlim hx0
    have ez : sgn s x = 0 := by subst hx0; cases s <;> rfl
    rw [ez]; exact h
  · have ez : sgn s x ≠ 0 := by omega
    unfold nrmB nrm
    rw [if_neg (by simp), if_neg ez, hab]
    by_cases h1 : 65536 - (blen x : Int) < e
    · rw [if_pos (Or.inl h1)]; exact dnorm_hi w s a n cap x e hx hlim hx0 hT hB he0 he1 h1
    · by_cases h2 : e < -65536 - (tz x : Int)
      · rw [if_pos (Or.inr h2)]; exact dnorm_lo w s a n cap x e hx hlim hx0 hT hB hTz he0 he1 h1 h2
      · rw [if_neg (by omega)]
        refine dnorm_in w s a n cap x e hx hlim hx0 hT hB hTz he0 he1 h1 h2 _ _ ?_ rfl
        unfold shl; split
        · rename_i h; have : tz x = 0 := by omega
          simp [this]
        · simp
end Go.Proofs.YtablcbgeeeboeaaGreatDoor
namespace Sp
open Go Go.RowKit
theorem heap_setCell_at (w : World) (p : Addr) (x : Value) : (w.setCell p x).heap[p.block]? = (w.heap[p.block]?).map fun | .cells c elem frozen => .cells (if p.spot.isSome then c else c.setIfInBounds p.off x) elem frozen | o => o := by
 unfold World.setCell
 simp only [Array.getElem?_modify, if_true]
 cases w.heap[p.block]? with
 | none => rfl
 | some o => cases o <;> rfl
@[go_sem] theorem isSome_setCell (w : World) (p q : Addr) (x : Value) : ((w.setCell p x).cell? q).isSome = (w.cell? q).isSome := by
 cases h : w.cell? q with
 | some v => obtain ⟨v', hv⟩ := cell?_setCell_some (p := p) (x := x) h; rw [hv]; rfl
 | none =>
  by_cases e : p = q
  · subst e
    unfold World.cell? at h ⊢
    rw [heap_setCell_at]
    cases hb : w.heap[p.block]? with
    | none => rfl
    | some o =>
     rw [hb] at h
     cases o with
     | cells c e f =>
      simp only [Option.map_some] at h ⊢
      by_cases hs : p.spot.isSome
      · simp [hs]
      · simp only [hs, if_false, Bool.false_eq_true] at h ⊢
        rw [Array.getElem?_setIfInBounds]
        simp at h ⊢
        omega
     | _ => rfl
  · rw [World.cell?_setCell_other w p q x e, h]
theorem Mag.drew {w : World} {a : Option Addr} {n cap x : Nat} (h : Mag w a n cap x) : Mag w.drew a n cap x := h.below (Below.drew (Below.refl _ _))
theorem Mag.alloc {w : World} {a : Option Addr} {n cap x : Nat} (h : Mag w a n cap x) (o : Obj) : Mag (w.alloc o) a n cap x := h.below ((Below.refl _ _).alloc (Nat.le_refl _) _)
end Sp
namespace Go.Proofs.YtablcbgeeeboeaaGreatDoor
open Go.RowKit Sp
def DyIn (w : World) (bd s : Bool) (a : Option Addr) (n cap : Nat) (e : Int) (d : Option (Int × Int)) : Prop :=
 ∃ x, Mag w a n cap x ∧ n ≤ 1099511627776 ∧ blen x ≤ 1048576 ∧ -9223372036854775808 ≤ e ∧ e ≤ 9223372036854775807 ∧ nrmB bd (sgn s x) e = d
theorem DyIn.below {w w' : World} {bd s : Bool} {a : Option Addr} {n cap : Nat} {e : Int} {d : Option (Int × Int)} (h : DyIn w bd s a n cap e d) (hb : Below w.heap.size w w') : DyIn w' bd s a n cap e d := by
 obtain ⟨x, h1, h2⟩ := h; exact ⟨x, h1.below hb, h2⟩
theorem DyIn.isN {w : World} {bd s : Bool} {a : Option Addr} {n cap : Nat} {e : Int} {d : Option (Int × Int)} (h : DyIn w bd s a n cap e d) : IsN d := by
 obtain ⟨x, _, _, _, _, _, h2⟩ := h; subst h2; exact isN_nrmB _ _ _
theorem tz_lim {x : Nat} (h : blen x ≤ 1048576) : tz x ≤ 1048576 := by
 rcases Nat.eq_zero_or_pos x with h0 | h0
 · subst h0; decide
 · have := tz_lt_blen h0; omega
theorem norm_in (w : World) {bd s : Bool} {a : Option Addr} {n cap : Nat} {e : Int} {d : Option (Int × Int)} (h : DyIn w bd s a n cap e d) (hT : Tab w) :
 Calls Tryz.prog 116 #[.agg #[.bool bd, .bool s, .slice a n cap, .int .i64 e]] w (RetDyB w d) := by
 obtain ⟨x, h1, h2, h3, h4, h5, h6⟩ := h
 have := dnorm_any w bd s a n cap x e h1 h2 hT h3 (tz_lim h3) h4 h5
 rwa [h6] at this
theorem dyin_of {w : World} {d : Option (Int × Int)} {a : Option Addr} {c : Nat} (hd : IsN d) (hm : Mag w a (nl (dman d).natAbs) c (dman d).natAbs) : DyIn w (dbad d) (decide (dman d < 0)) a (nl (dman d).natAbs) c (dexp d) d := by
 have hb := isN_bounds hd
 refine ⟨_, hm, ?_, by omega, by omega, by omega, ?_⟩
 · have h1 := hm.fits
   exact Nat.le_trans (nl_le_blen _) (by omega)
 · rw [sgn_self]; exact isN_self hd
def RetTwo (w : World) (d d' : Option (Int × Int)) (e : Ending) (w' : World) : Prop :=
 ∃ a c a' c', e = .returned (.tuple #[.agg #[.bool (dbad d), .bool (decide (dman d < 0)), .slice a (nl (dman d).natAbs) c, .int .i64 (dexp d)], .agg #[.bool (dbad d'), .bool (decide (dman d' < 0)), .slice a' (nl (dman d').natAbs) c', .int .i64 (dexp d')], .bool (!dbad d && !dbad d')]) ∧ Mag w' a (nl (dman d).natAbs) c (dman d).natAbs ∧ Mag w' a' (nl (dman d').natAbs) c' (dman d').natAbs ∧ Below w.heap.size w w' ∧ (0 < nl (dman d).natAbs → w.heap.size ≤ ab a) ∧ (0 < nl (dman d').natAbs → w.heap.size ≤ ab a')
theorem two_f (w : World) (bd s bd' s' : Bool) (a a' : Option Addr) (n n' cap cap' : Nat) (e e' : Int) (d d' : Option (Int × Int)) (hx : DyIn w bd s a n cap e d) (hy : DyIn w bd' s' a' n' cap' e' d') (hT : Tab w) (hbd : dbad d = false) :
 Calls Tryz.prog 119 #[.agg #[.bool bd, .bool s, .slice a n cap, .int .i64 e], .agg #[.bool bd', .bool s', .slice a' n' cap', .int .i64 e']] w (RetTwo w d d') := by
 have HN := fun W h ht => Lib.hid (@norm_in W bd s a n cap e d h ht)
 have HM := fun W h ht => Lib.hid (@norm_in W bd' s' a' n' cap' e' d' h ht)
 have e1 : ¬ w.heap.size + 1 = w.heap.size := by omega
 have e2 : ¬ w.heap.size + 1 + 1 = w.heap.size := by omega
 have e3 : ¬ w.heap.size + 1 + 1 + 1 = w.heap.size := by omega
 go_enter Tryz.func119, Tryz.ntmps119
 go_wp2_with fail
 refine (HN _ (hx.below zbh) (hT.below zbh)).out.mono ?_
 rintro e w1 ⟨a1, c1, rfl, hm1, hb, hf1⟩
 obtain ⟨hc1, hz1⟩ := bcell (hb.mono (show w.heap.size + 4 ≤ _ by simp))
 have hg1 : w.heap.size + 4 ≤ w1.heap.size := by have := hb.size; simpa using this
 have hfr1 : 0 < nl (dman d).natAbs → w.heap.size + 4 ≤ ab a1 := fun h => by have := hf1 h; simpa using this
 have hbw := below_box (w := w) zbh hb
 go_wp2_with fail
 refine (HM _ (hy.below (have := Beh.mk hbw; zbh)) (hT.below (have := Beh.mk hbw; zbh))).out.mono ?_
 rintro e w2 ⟨a2, c2, rfl, hm2, hb2, hf2⟩
 obtain ⟨hc2, hz2⟩ := bcell (hb2.mono (show w.heap.size + 4 ≤ _ by simpa using hg1))
 have hfr2 : 0 < nl (dman d').natAbs → w.heap.size + 4 ≤ ab a2 := fun h => by have := hf2 h; simp at this; omega
 obtain ⟨q0, q1, q2, q3, q4, q5, q6, q7⟩ : (w2.cell? ⟨w.heap.size + 1 + 1, 0, none⟩ = some (.bool (dbad d)) ∧ w2.cell? ⟨w.heap.size + 1 + 1, 1, none⟩ = some (.bool (decide (dman d < 0))) ∧ w2.cell? ⟨w.heap.size + 1 + 1, 2, none⟩ = some (.slice a1 (nl (dman d).natAbs) c1) ∧ w2.cell? ⟨w.heap.size + 1 + 1, 3, none⟩ = some (.int .i64 (dexp d))
  ∧ w2.cell? ⟨w.heap.size + 1 + 1 + 1, 0, none⟩ = some (.bool false) ∧ w2.cell? ⟨w.heap.size + 1 + 1 + 1, 1, none⟩ = some (.bool false) ∧ w2.cell? ⟨w.heap.size + 1 + 1 + 1, 2, none⟩ = some (.slice none 0 0) ∧ w2.cell? ⟨w.heap.size + 1 + 1 + 1, 3, none⟩ = some (.int .i64 0)) := by
  refine ⟨?_, ?_, ?_, ?_, ?_, ?_, ?_, ?_⟩ <;> go_simp
 clear hc2 hc1
 have hm1' : Mag w2 a1 (nl (dman d).natAbs) c1 (dman d).natAbs := Mag.below (by repeat (with_reducible first | refine Mag.set ?_ (fun h => by have := hfr1 h; omega) _ _ | refine Mag.drew ?_ | refine Mag.alloc ?_ _ | refine Mag.drewN ?_ _ | refine Mag.below ?_ (Below.drew (Below.refl _ _)) | refine Mag.below ?_ ((Below.refl _ _).alloc (Nat.le_refl _) _) | exact hm1)) hb2
 have hbw2 := below_box (w := w) (have := Beh.mk hbw; zbh) hb2
 clear hbw
 have hbw := hbw2
 have hg2 : w.heap.size + 4 ≤ w2.heap.size := by have := hb2.size; simp at this; omega
 go_wp2_with fail
 go_big_region
 all_goals go_wp2_with fail
 all_goals (
  refine bodyPost_ret2 (v := .tuple #[.agg #[.bool (dbad d), .bool (decide (dman d < 0)), .slice a1 (nl (dman d).natAbs) c1, .int .i64 (dexp d)], .agg #[.bool (dbad d'), .bool (decide (dman d' < 0)), .slice a2 (nl (dman d').natAbs) c2, .int .i64 (dexp d')], .bool (!dbad d && !dbad d')]) (by simp only [results, Tryz.results119]; go_simp) rfl ?_
  exact ⟨a1, c1, a2, c2, rfl, (by repeat (with_reducible first | refine Mag.set ?_ (fun h => by have := hfr1 h; omega) _ _ | refine Mag.drew ?_ | refine Mag.alloc ?_ _ | refine Mag.drewN ?_ _ | refine Mag.below ?_ (Below.drew (Below.refl _ _)) | refine Mag.below ?_ ((Below.refl _ _).alloc (Nat.le_refl _) _) | exact hm1')), (by repeat (with_reducible first | refine Mag.set ?_ (fun h => by have := hfr2 h; omega) _ _ | refine Mag.drew ?_ | refine Mag.alloc ?_ _ | refine Mag.drewN ?_ _ | refine Mag.below ?_ (Below.drew (Below.refl _ _)) | refine Mag.below ?_ ((Below.refl _ _).alloc (Nat.le_refl _) _) | exact hm2)), (by have hszw := hbw.size; repeat (with_reducible first | refine Below.setCell ?_ (by first | omega | (simp <;> omega)) _ | refine Below.alloc ?_ (by first | omega | (simp <;> omega)) _ | refine Below.drew ?_ | refine below_drewN ?_ _ | exact hbw)), fun h => by have := hfr1 h; omega, fun h => by have := hfr2 h; omega⟩)
theorem two_t (w : World) (bd s bd' s' : Bool) (a a' : Option Addr) (n n' cap cap' : Nat) (e e' : Int) (d d' : Option (Int × Int)) (hx : DyIn w bd s a n cap e d) (hy : DyIn w bd' s' a' n' cap' e' d') (hT : Tab w) (hbd : dbad d = true) :
 Calls Tryz.prog 119 #[.agg #[.bool bd, .bool s, .slice a n cap, .int .i64 e], .agg #[.bool bd', .bool s', .slice a' n' cap', .int .i64 e']] w (RetTwo w d d') := by
 have HN := fun W h ht => Lib.hid (@norm_in W bd s a n cap e d h ht)
 have HM := fun W h ht => Lib.hid (@norm_in W bd' s' a' n' cap' e' d' h ht)
 have e1 : ¬ w.heap.size + 1 = w.heap.size := by omega
 have e2 : ¬ w.heap.size + 1 + 1 = w.heap.size := by omega
 have e3 : ¬ w.heap.size + 1 + 1 + 1 = w.heap.size := by omega
 go_enter Tryz.func119, Tryz.ntmps119
 go_wp2_with fail
 refine (HN _ (hx.below zbh) (hT.below zbh)).out.mono ?_
 rintro e w1 ⟨a1, c1, rfl, hm1, hb, hf1⟩
 obtain ⟨hc1, hz1⟩ := bcell (hb.mono (show w.heap.size + 4 ≤ _ by simp))
 have hg1 : w.heap.size + 4 ≤ w1.heap.size := by have := hb.size; simpa using this
 have hfr1 : 0 < nl (dman d).natAbs → w.heap.size + 4 ≤ ab a1 := fun h => by have := hf1 h; simpa using this
 have hbw := below_box (w := w) zbh hb
 go_wp2_with fail
 refine (HM _ (hy.below (have := Beh.mk hbw; zbh)) (hT.below (have := Beh.mk hbw; zbh))).out.mono ?_
 rintro e w2 ⟨a2, c2, rfl, hm2, hb2, hf2⟩
 obtain ⟨hc2, hz2⟩ := bcell (hb2.mono (show w.heap.size + 4 ≤ _ by simpa using hg1))
 have hfr2 : 0 < nl (dman d').natAbs → w.heap.size + 4 ≤ ab a2 := fun h => by have := hf2 h; simp at this; omega
 obtain ⟨q0, q1, q2, q3, q4, q5, q6, q7⟩ : (w2.cell? ⟨w.heap.size + 1 + 1, 0, none⟩ = some (.bool (dbad d)) ∧ w2.cell? ⟨w.heap.size + 1 + 1, 1, none⟩ = some (.bool (decide (dman d < 0))) ∧ w2.cell? ⟨w.heap.size + 1 + 1, 2, none⟩ = some (.slice a1 (nl (dman d).natAbs) c1) ∧ w2.cell? ⟨w.heap.size + 1 + 1, 3, none⟩ = some (.int .i64 (dexp d))
  ∧ w2.cell? ⟨w.heap.size + 1 + 1 + 1, 0, none⟩ = some (.bool false) ∧ w2.cell? ⟨w.heap.size + 1 + 1 + 1, 1, none⟩ = some (.bool false) ∧ w2.cell? ⟨w.heap.size + 1 + 1 + 1, 2, none⟩ = some (.slice none 0 0) ∧ w2.cell? ⟨w.heap.size + 1 + 1 + 1, 3, none⟩ = some (.int .i64 0)) := by
  refine ⟨?_, ?_, ?_, ?_, ?_, ?_, ?_, ?_⟩ <;> go_simp
 clear hc2 hc1
 have hm1' : Mag w2 a1 (nl (dman d).natAbs) c1 (dman d).natAbs := Mag.below (by repeat (with_reducible first | refine Mag.set ?_ (fun h => by have := hfr1 h; omega) _ _ | refine Mag.drew ?_ | refine Mag.alloc ?_ _ | refine Mag.drewN ?_ _ | refine Mag.below ?_ (Below.drew (Below.refl _ _)) | refine Mag.below ?_ ((Below.refl _ _).alloc (Nat.le_refl _) _) | exact hm1)) hb2
 have hbw2 := below_box (w := w) (have := Beh.mk hbw; zbh) hb2
 clear hbw
 have hbw := hbw2
 have hg2 : w.heap.size + 4 ≤ w2.heap.size := by have := hb2.size; simp at this; omega
 go_wp2_with fail
 go_big_region
 all_goals go_wp2_with fail
 all_goals (
  refine bodyPost_ret2 (v := .tuple #[.agg #[.bool (dbad d), .bool (decide (dman d < 0)), .slice a1 (nl (dman d).natAbs) c1, .int .i64 (dexp d)], .agg #[.bool (dbad d'), .bool (decide (dman d' < 0)), .slice a2 (nl (dman d').natAbs) c2, .int .i64 (dexp d')], .bool (!dbad d && !dbad d')]) (by simp only [results, Tryz.results119]; go_simp) rfl ?_
  exact ⟨a1, c1, a2, c2, rfl, (by repeat (with_reducible first | refine Mag.set ?_ (fun h => by have := hfr1 h; omega) _ _ | refine Mag.drew ?_ | refine Mag.alloc ?_ _ | refine Mag.drewN ?_ _ | refine Mag.below ?_ (Below.drew (Below.refl _ _)) | refine Mag.below ?_ ((Below.refl _ _).alloc (Nat.le_refl _) _) | exact hm1')), (by repeat (with_reducible first | refine Mag.set ?_ (fun h => by have := hfr2 h; omega) _ _ | refine Mag.drew ?_ | refine Mag.alloc ?_ _ | refine Mag.drewN ?_ _ | refine Mag.below ?_ (Below.drew (Below.refl _ _)) | refine Mag.below ?_ ((Below.refl _ _).alloc (Nat.le_refl _) _) | exact hm2)), (by have hszw := hbw.size; repeat (with_reducible first | refine Below.setCell ?_ (by first | omega | (simp <;> omega)) _ | refine Below.alloc ?_ (by first | omega | (simp <;> omega)) _ | refine Below.drew ?_ | refine below_drewN ?_ _ | exact hbw)), fun h => by have := hfr1 h; omega, fun h => by have := hfr2 h; omega⟩)
theorem two_any (w : World) (bd s bd' s' : Bool) (a a' : Option Addr) (n n' cap cap' : Nat) (e e' : Int) (d d' : Option (Int × Int)) (hx : DyIn w bd s a n cap e d) (hy : DyIn w bd' s' a' n' cap' e' d') (hT : Tab w) :
 Calls Tryz.prog 119 #[.agg #[.bool bd, .bool s, .slice a n cap, .int .i64 e], .agg #[.bool bd', .bool s', .slice a' n' cap', .int .i64 e']] w (RetTwo w d d') := by
 cases h : dbad d
 · exact two_f w bd s bd' s' a a' n n' cap cap' e e' d d' hx hy hT h
 · exact two_t w bd s bd' s' a a' n n' cap cap' e e' d d' hx hy hT h
def RetDyV (w : World) (b : Bool) (z f : Int) (e : Ending) (w' : World) : Prop :=
 ∃ a c, e = .returned (.tuple #[.agg #[.bool b, .bool (decide (z < 0)), .slice a (nl z.natAbs) c, .int .i64 f], .bool (!b)]) ∧ Mag w' a (nl z.natAbs) c z.natAbs ∧ Below w.heap.size w w' ∧ (0 < nl z.natAbs → w.heap.size ≤ ab a)
theorem norm_v (w : World) {bd s : Bool} {a : Option Addr} {n cap : Nat} {e : Int} {d : Option (Int × Int)} (h : DyIn w bd s a n cap e d) (hT : Tab w) (b : Bool) (z f : Int) (hb : dbad d = b) (hz : dman d = z) (hf : dexp d = f) :
 Calls Tryz.prog 116 #[.agg #[.bool bd, .bool s, .slice a n cap, .int .i64 e]] w (RetDyV w b z f) := by
 subst hb hz hf; exact norm_in w h hT
def RetTwoV (w : World) (b : Bool) (z f : Int) (b' : Bool) (z' f' : Int) (k : Bool) (e : Ending) (w' : World) : Prop :=
 ∃ a c a' c', e = .returned (.tuple #[.agg #[.bool b, .bool (decide (z < 0)), .slice a (nl z.natAbs) c, .int .i64 f], .agg #[.bool b', .bool (decide (z' < 0)), .slice a' (nl z'.natAbs) c', .int .i64 f'], .bool k]) ∧ Mag w' a (nl z.natAbs) c z.natAbs ∧ Mag w' a' (nl z'.natAbs) c' z'.natAbs ∧ Below w.heap.size w w' ∧ (0 < nl z.natAbs → w.heap.size ≤ ab a) ∧ (0 < nl z'.natAbs → w.heap.size ≤ ab a')
theorem two_v (w : World) {bd s bd' s' : Bool} {a a' : Option Addr} {n n' cap cap' : Nat} {e e' : Int} {d d' : Option (Int × Int)} (hx : DyIn w bd s a n cap e d) (hy : DyIn w bd' s' a' n' cap' e' d') (hT : Tab w) (b : Bool) (z f : Int) (hb : dbad d = b) (hz : dman d = z) (hf : dexp d = f) (b' : Bool) (z' f' : Int) (hb' : dbad d' = b') (hz' : dman d' = z') (hf' : dexp d' = f') (k : Bool) (hk : (!b && !b') = k) :
 Calls Tryz.prog 119 #[.agg #[.bool bd, .bool s, .slice a n cap, .int .i64 e], .agg #[.bool bd', .bool s', .slice a' n' cap', .int .i64 e']] w (RetTwoV w b z f b' z' f' k) := by
 subst hb hz hf hb' hz' hf' hk; exact two_any w bd s bd' s' a a' n n' cap cap' e e' d d' hx hy hT
theorem nl_lim {x : Nat} (h : blen x ≤ 1048576) : nl x ≤ 1099511627776 := Nat.le_trans (nl_le_blen x) (by omega)
theorem ret_dy {w w' : World} {d : Option (Int × Int)} {a : Option Addr} {c : Nat} (b : Bool) (z f : Int) (hb : dbad d = b) (hz : dman d = z) (hf : dexp d = f) (hm : Mag w' a (nl z.natAbs) c z.natAbs) (hw : Below w.heap.size w w') (hfr : 0 < nl z.natAbs → w.heap.size ≤ ab a) :
 RetDy w d (.returned (.agg #[.bool b, .bool (decide (z < 0)), .slice a (nl z.natAbs) c, .int .i64 f])) w' := by
 subst hb hz hf; exact ⟨a, c, rfl, hm, hw, hfr⟩
theorem ret_bad {w w' : World} {d : Option (Int × Int)} (hd : d = none) (hw : Below w.heap.size w w') :
 RetDy w d (.returned (.agg #[.bool true, .bool false, .slice none 0 0, .int .i64 0])) w' := by
 subst hd; exact ⟨none, 0, rfl, Mag.nil _, hw, nl0⟩
end Go.Proofs.YtablcbgeeeboeaaGreatDoor
namespace Go.Proofs.YtablcbgeeeboeaaGreatDoor
open Go.RowKit Sp
theorem make_any (w : World) (s : Bool) (a : Option Addr) (n cap x : Nat) (e : Int) (hx : Mag w a n cap x) (hlim : n ≤ 1099511627776) (hT : Tab w) (hB : blen x ≤ 1048576) (hTz : tz x ≤ 1048576) (he0 : -9223372036854775808 ≤ e) (he1 : e ≤ 9223372036854775807) :
 Calls Tryz.prog 122 #[.agg #[.bool s, .slice a n cap], .int .i64 e] w (RetDy w (nrm (sgn s x) e)) := by
 have e2 : ¬ w.heap.size + 1 = w.heap.size := by omega
 have HN := fun W h ht => Lib.hid (dnorm_any W false s a n cap x e h hlim ht hB hTz he0 he1)
 have ez : nrmB false (sgn s x) e = nrm (sgn s x) e := rfl
 rw [ez] at HN
 obtain ⟨d, hd⟩ : ∃ d, d = nrm (sgn s x) e := ⟨_, rfl⟩
 rw [← hd] at HN ⊢
 clear hd ez
 go_enter Tryz.func122, Tryz.ntmps122
 go_wp2_with fail
 refine (HN _ (hx.below zbh) (hT.below zbh)).out.mono ?_
 rintro e w1 ⟨a1, c1, rfl, hm1, hb, hf1⟩
 obtain ⟨hc1, hz1⟩ := bcell (hb.mono (show w.heap.size + 2 ≤ _ by simp))
 have hg1 : w.heap.size + 2 ≤ w1.heap.size := by have := hb.size; simpa using this
 obtain ⟨g1, g2, g3, g4, l1, l2, l3⟩ := old2 hg1
 have hfr : 0 < nl (dman d).natAbs → w.heap.size + 2 ≤ ab a1 := fun h => by have := hf1 h; simpa using this
 have hbw := below_box (w := w) zbh hb
 go_wp2_with fail
 refine bodyPost_ret (v := .agg #[.bool (dbad d), .bool (decide (dman d < 0)), .slice a1 (nl (dman d).natAbs) c1, .int .i64 (dexp d)]) (by simp [results, Tryz.results122, go_sem, hc1, l2]) rfl ?_
 exact ⟨a1, c1, rfl, (by repeat (with_reducible first | refine Mag.set ?_ (fun h => by have := hfr h; omega) _ _ | refine Mag.drew ?_ | refine Mag.alloc ?_ _ | refine Mag.drewN ?_ _ | refine Mag.below ?_ (Below.drew (Below.refl _ _)) | refine Mag.below ?_ ((Below.refl _ _).alloc (Nat.le_refl _) _) | exact hm1)), (by have hszw := hbw.size; repeat (with_reducible first | refine Below.setCell ?_ (by first | omega | (simp <;> omega)) _ | refine Below.alloc ?_ (by first | omega | (simp <;> omega)) _ | refine Below.drew ?_ | refine below_drewN ?_ _ | exact hbw)), fun h => by have := hfr h; omega⟩
theorem dvalid_any (w : World) (bd s : Bool) (a : Option Addr) (n cap x : Nat) (e : Int) (hx : Mag w a n cap x) (hlim : n ≤ 1099511627776) (hT : Tab w) (hB : blen x ≤ 1048576) (hTz : tz x ≤ 1048576) (he0 : -9223372036854775808 ≤ e) (he1 : e ≤ 9223372036854775807) :
 Calls Tryz.prog 67 #[.agg #[.bool bd, .bool s, .slice a n cap, .int .i64 e]] w fun o w' => o = .returned (.bool (!dbad (nrmB bd (sgn s x) e))) ∧ Below w.heap.size w w' := by
 have HN := fun W h ht => Lib.hid (dnorm_any W bd s a n cap x e h hlim ht hB hTz he0 he1)
 obtain ⟨d, hd⟩ : ∃ d, d = nrmB bd (sgn s x) e := ⟨_, rfl⟩
 rw [← hd] at HN ⊢
 clear hd
 go_enter Tryz.func67, Tryz.ntmps67
 go_wp2_with fail
 refine (HN _ (hx.below zbh) (hT.below zbh)).out.mono ?_
 rintro e w1 ⟨a1, c1, rfl, hm1, hb, hf1⟩
 have hbw := below_box (w := w) zbh hb
 go_wp2_with fail
 go_ret
 exact ⟨rfl, (have := Beh.mk hbw; zbh)⟩
theorem dNorm_any (w : World) (bd s : Bool) (a : Option Addr) (n cap x : Nat) (e : Int) (hx : Mag w a n cap x) (hlim : n ≤ 1099511627776) (hT : Tab w) (hB : blen x ≤ 1048576) (hTz : tz x ≤ 1048576) (he0 : -9223372036854775808 ≤ e) (he1 : e ≤ 9223372036854775807) :
 Calls Tryz.prog 72 #[.agg #[.bool bd, .bool s, .slice a n cap, .int .i64 e]] w (RetDy w (nrmB bd (sgn s x) e)) := by
 have e2 : ¬ w.heap.size + 1 = w.heap.size := by omega
 have e3 : ¬ w.heap.size = w.heap.size + 1 := by omega
 have HN := fun W h ht => Lib.hid (dnorm_any W bd s a n cap x e h hlim ht hB hTz he0 he1)
 obtain ⟨d, hd⟩ : ∃ d, d = nrmB bd (sgn s x) e := ⟨_, rfl⟩
 rw [← hd] at HN ⊢
 clear hd
 go_enter Tryz.func72, Tryz.ntmps72
 go_wp2_with fail
 refine (HN _ (hx.below zbh) (hT.below zbh)).out.mono ?_
 rintro e w1 ⟨a1, c1, rfl, hm1, hb, hf1⟩
 obtain ⟨hc1, hz1⟩ := bcell (hb.mono (show w.heap.size + 2 ≤ _ by simp))
 have hfr : 0 < nl (dman d).natAbs → w.heap.size + 2 ≤ ab a1 := fun h => by have := hf1 h; simpa using this
 have hbw := below_box (w := w) zbh hb
 go_wp2_with fail
 refine bodyPost_ret (v := .agg #[.bool (dbad d), .bool (decide (dman d < 0)), .slice a1 (nl (dman d).natAbs) c1, .int .i64 (dexp d)]) (by simp [results, Tryz.results72, go_sem, hc1]) rfl ?_
 exact ⟨a1, c1, rfl, (by repeat (with_reducible first | refine Mag.set ?_ (fun h => by have := hfr h; omega) _ _ | refine Mag.drew ?_ | refine Mag.alloc ?_ _ | refine Mag.drewN ?_ _ | refine Mag.below ?_ (Below.drew (Below.refl _ _)) | refine Mag.below ?_ ((Below.refl _ _).alloc (Nat.le_refl _) _) | exact hm1)), (by have hszw := hbw.size; repeat (with_reducible first | refine Below.setCell ?_ (by first | omega | (simp <;> omega)) _ | refine Below.alloc ?_ (by first | omega | (simp <;> omega)) _ | refine Below.drew ?_ | refine below_drewN ?_ _ | exact hbw)), fun h => by have := hfr h; omega⟩
end Go.Proofs.YtablcbgeeeboeaaGreatDoor

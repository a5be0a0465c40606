/-
  Walks: package dyad: bad, right, left.
  Plain law: dyads as pairs of an integer and an exponent: their normal form, the operations on them, rounding. No program in sight.
  Walks: dyad.norm: the other two cases, and the whole.
  Whether a cell is there is not changed by a store: one law for the walk. No program in sight.
  Walks: package dyad: two (both arguments normalized).
  Walks: package dyad: Make, Valid, Norm, FromBig, FromInt.
-/
import Derived.Test.YtablcbgeeeboeaaGreatDoorZhBd
import Derived.Deep.RegionWith
import Derived.Test.YtablcbgeeeboeaaGreatDoorZhBa
set_option maxRecDepth 100000
set_option maxHeartbeats 2000000
namespace Go.Proofs.YtablcbgeeeboeaaGreatDoor
open Go.RowKit Sp
theorem zJz (w : World) (s : Bool) (a : Option Addr) (n cap x : Nat) (k : Int) (hx : Mag w a n cap x) (hlim : n ≤ 1099511627776) (h0 : 0 ≤ k) (h1 : k ≤ 1048576) :
 Calls Tryz.prog 149 #[.agg #[.bool s, .slice a n cap], .int .i64 k] w (zAj w (shl (sgn s x) (-k))) := by
 have t1 : decide ((1048576 : Int) < k) = false := by simp <;> omega
 have HS := fun W h => Lib.hid (zFM W s a n cap x (-k) h hlim (by omega) (by omega))
 obtain ⟨z, hz⟩ : ∃ z, z = shl (sgn s x) (-k) := ⟨_, rfl⟩
 rw [← hz] at HS ⊢
 clear hz
 have e2 : ¬ w.heap.size + 1 = w.heap.size := by omega
 go_enter Tryz.func149, Tryz.ntmps149
 go_wp2_with fail
 go_loopw [1] (fun v wr => v = .int .i64 k ∧ wr = (w.alloc (.cells #[.bool s, .slice a n cap] 44)).alloc (.cells #[.bool false, .slice none 0 0] 44)) (fun _ _ => 0)
 case atStart => exact ⟨rfl, rfl⟩
 case round =>
  obtain ⟨rfl, rfl⟩ := hrel
  go_wp2_with fail
  refine (HS _ (hx.below zbh)).out.mono ?_
  rintro e w1 ⟨a1, c1, rfl, hm1, hb, hf1⟩
  obtain ⟨hc1, hz1⟩ := zA8 (hb.mono (show w.heap.size + 2 ≤ _ by simp))
  go_wp2_with fail
  refine bodyPost_ret (v := .agg #[.bool (decide (z < 0)), .slice a1 (nl z.natAbs) c1]) (by simp [results, Tryz.results149, go_sem, hc1]) rfl ?_
  have hfr : 0 < nl z.natAbs → w.heap.size + 2 ≤ ab a1 := fun h => by have := hf1 h; simpa using this
  have hbw := zA0 (w := w) zbh hb
  refine zBV ((hm1.set (fun h => by have := hfr h; omega) _ _).set (fun h => by have := hfr h; omega) _ _) (fun h => by have := hfr h; omega) ((hbw.setCell (Nat.le_refl _) _).setCell (Nat.le_refl _) _) (by omega)
theorem zFs (w : World) (s : Bool) (a : Option Addr) (n cap x : Nat) (k : Int) (hx : Mag w a n cap x) (hlim : n ≤ 1099511627776) (h0 : 0 ≤ k) (h1 : k ≤ 1048576) :
 Calls Tryz.prog 131 #[.agg #[.bool s, .slice a n cap], .int .i64 k] w (zAj w (shl (sgn s x) k)) := by
 have HS := fun W h => Lib.hid (zFM W s a n cap x k h hlim (by omega) (by omega))
 obtain ⟨z, hz⟩ : ∃ z, z = shl (sgn s x) k := ⟨_, rfl⟩
 rw [← hz] at HS ⊢
 clear hz
 have e2 : ¬ w.heap.size + 1 = w.heap.size := by omega
 go_enter Tryz.func131, Tryz.ntmps131
 go_wp2_with fail
 · refine (HS _ (hx.below zbh)).out.mono ?_
   rintro e w1 ⟨a1, c1, rfl, hm1, hb, hf1⟩
   obtain ⟨hc1, hz1⟩ := zA8 (hb.mono (show w.heap.size + 2 ≤ _ by simp))
   go_wp2_with fail
   refine bodyPost_ret (v := .agg #[.bool (decide (z < 0)), .slice a1 (nl z.natAbs) c1]) (by simp [results, Tryz.results131, go_sem, hc1]) rfl ?_
   have hfr : 0 < nl z.natAbs → w.heap.size + 2 ≤ ab a1 := fun h => by have := hf1 h; simpa using this
   have hbw := zA0 (w := w) zbh hb
   refine zBV ((hm1.set (fun h => by have := hfr h; omega) _ _).set (fun h => by have := hfr h; omega) _ _) (fun h => by have := hfr h; omega) ((hbw.setCell (Nat.le_refl _) _).setCell (Nat.le_refl _) _) (by omega)
theorem zOw {a b : Nat} (h : a + 2 ≤ b) : (¬ b = a) ∧ (¬ b = a + 1) ∧ (¬ a = b) ∧ (¬ a + 1 = b) ∧ a < b ∧ a + 1 < b ∧ a < b + 1 := by omega
theorem zDD (w : World) (a : Option Addr) (cap : Nat) (z : Int) (hm : Mag w a (nl z.natAbs) cap z.natAbs) :
 Calls Tryz.prog 138 #[.agg #[.bool (decide (z < 0)), .slice a (nl z.natAbs) cap]] w fun e w' => e = .returned (.int .i64 (sg z)) ∧ Below w.heap.size w w' := by
 have h := zDQ w (decide (z < 0)) a _ cap _ hm
 rwa [zAg] at h
theorem zOd (w : World) (a : Option Addr) (cap : Nat) (hm : Mag w a (nl 0) cap 0) :
 Calls Tryz.prog 138 #[.agg #[.bool false, .slice a (nl 0) cap]] w fun e w' => e = .returned (.int .i64 0) ∧ Below w.heap.size w w' := zDD w a cap 0 hm
def nrm (m e : Int) : Option (Int × Int) :=
 if m = 0 then some (0, 0) else if 65536 - (zA4 m.natAbs : Int) < e ∨ e < -65536 - (tz m.natAbs : Int) then none else some (m / 2 ^ tz m.natAbs, e + tz m.natAbs)
def zFm (b : Bool) (m e : Int) : Option (Int × Int) := if b then none else nrm m e
def zA1 (d : Option (Int × Int)) : Int := (d.getD (0, 0)).1
def zA2 (d : Option (Int × Int)) : Int := (d.getD (0, 0)).2
def zA3 (d : Option (Int × Int)) : Bool := d.isNone
def zAy (w : World) (d : Option (Int × Int)) (e : Ending) (w' : World) : Prop :=
 ∃ a cap, e = .returned (.agg #[.bool (zA3 d), (.bool (decide (zA1 d < 0))), .slice a (nl (zA1 d).natAbs) cap, .int .i64 (zA2 d)]) ∧ Mag w' a (nl (zA1 d).natAbs) cap (zA1 d).natAbs ∧ Below w.heap.size w w' ∧ (0 < nl (zA1 d).natAbs → w.heap.size ≤ ab a)
def zEx (w : World) (d : Option (Int × Int)) (e : Ending) (w' : World) : Prop :=
 ∃ a cap, e = .returned (.tuple #[.agg #[.bool (zA3 d), (.bool (decide (zA1 d < 0))), .slice a (nl (zA1 d).natAbs) cap, .int .i64 (zA2 d)], .bool (!zA3 d)]) ∧ Mag w' a (nl (zA1 d).natAbs) cap (zA1 d).natAbs ∧ Below w.heap.size w w' ∧ (0 < nl (zA1 d).natAbs → w.heap.size ≤ ab a)
theorem zDA (w : World) :
 Calls Tryz.prog 120 #[] w fun e w' => e = .returned (.agg #[.bool true, .bool false, .slice none 0 0, .int .i64 0]) ∧ Below w.heap.size w w' := by
 go_enter Tryz.func120, Tryz.ntmps120
 go_wp2_with fail
 refine bodyPost_ret (v := .agg #[.bool true, .bool false, .slice none 0 0, .int .i64 0]) (by simp [results, Tryz.results120, go_sem]) rfl ?_
 exact ⟨rfl, zbh⟩
theorem zKG (w : World) (s : Bool) (a : Option Addr) (n cap : Nat) (e : Int) :
 Calls Tryz.prog 116 #[.agg #[.bool true, .bool s, .slice a n cap, .int .i64 e]] w (zEx w none) := by
 have e2 : ¬ w.heap.size + 1 = w.heap.size := by omega
 go_enter Tryz.func116, Tryz.ntmps116
 go_wp2_with fail
 refine (zDA _).mono ?_
 rintro e w1 ⟨rfl, hb⟩
 obtain ⟨hc1, hz1⟩ := zA8 (hb.mono (show w.heap.size + 2 ≤ _ by simp))
 go_wp2_with fail
 refine zAa (v := .tuple #[.agg #[.bool true, .bool false, .slice none 0 0, .int .i64 0], .bool false]) (by simp [results, Tryz.results116, go_sem, hc1]) rfl ?_
 have hbw := zA0 (w := w) zbh hb
 exact ⟨none, 0, rfl, Mag.nil .., (have := Beh.mk hbw; zbh), nl0⟩
theorem zIN (w : World) (s : Bool) (a : Option Addr) (n cap x : Nat) (e : Int) (hx : Mag w a n cap x) (hlim : n ≤ 1099511627776) (hx0 : x = 0) :
 Calls Tryz.prog 116 #[.agg #[.bool false, .bool s, .slice a n cap, .int .i64 e]] w (zEx w (some (0, 0))) := by
 have e2 : ¬ w.heap.size + 1 = w.heap.size := by omega
 have hz : sgn s x = 0 := by subst hx0; cases s <;> rfl
 have HN := fun W h => Lib.hid (zDW W s a n cap x h hlim)
 rw [hz] at HN
 have HG := fun W b c h => Lib.hid (zOd W b c h)
 go_enter Tryz.func116, Tryz.ntmps116
 go_wp2_with fail
 refine (HN _ (hx.below zbh)).out.mono ?_
 rintro e w1 ⟨a1, c1, rfl, hm1, hb, hf1⟩
 obtain ⟨hc1, hz1⟩ := zA8 (hb.mono (show w.heap.size + 2 ≤ _ by simp))
 have hg1 : w.heap.size + 2 ≤ w1.heap.size := by have := hb.size; simpa using this
 obtain ⟨g1, g2, g3, g4, l1, l2, l3⟩ := zOw hg1
 go_wp2_with fail
 refine (HG _ a1 c1 (hm1.below zbh)).out.mono ?_
 rintro e w2 ⟨rfl, hb2⟩
 obtain ⟨hc2, hz2⟩ := zA8 (hb2.mono (show w1.heap.size + 1 ≤ _ by simp))
 go_wp2_with fail
 refine zAa (v := .tuple #[.agg #[.bool false, .bool false, .slice none 0 0, .int .i64 0], .bool true]) (by simp [results, Tryz.results116, go_sem, hc2, hc1, l1, l2]) rfl ?_
 have hbw0 := zA0 (w := w) zbh hb
 have hbw1 : Below w.heap.size w _ := hbw0.alloc (by omega) (.cells #[.bool false, .slice a1 (nl 0) c1] 44)
 have hbw := zA0 hbw1 hb2
 exact ⟨none, 0, rfl, Mag.nil .., (have := Beh.mk hbw; zbh), nl0⟩
theorem zMe (w : World) (s : Bool) (a : Option Addr) (n cap x : Nat) (e : Int) (hx : Mag w a n cap x) (hlim : n ≤ 1099511627776) (hx0 : x ≠ 0) (hT : Tab w) (hB : zA4 x ≤ 1048576) (_he0 : -9223372036854775808 ≤ e) (_he1 : e ≤ 9223372036854775807) (hh : 65536 - (zA4 x : Int) < e) :
 Calls Tryz.prog 116 #[.agg #[.bool false, .bool s, .slice a n cap, .int .i64 e]] w (zEx w none) := by
 have e2 : ¬ w.heap.size + 1 = w.heap.size := by omega
 have HN := fun W h => Lib.hid (zDW W s a n cap x h hlim)
 have HB := fun W b c h => Lib.hid (zCO W (decide (sgn s x < 0)) b (nl x) c x h (Nat.le_trans (zAB hx.lt) hlim))
 have HT := fun W b c hw h => Lib.hid (zC1 W hw (decide (sgn s x < 0)) b (nl x) c x h (Nat.le_trans (zAB hx.lt) hlim))
 obtain ⟨z, hz⟩ : ∃ z, z = sgn s x := ⟨_, rfl⟩
 have hzx : x = z.natAbs := by rw [hz, zAb]
 have hz0 : z ≠ 0 := by omega
 rw [← hz] at HN HB HT
 obtain ⟨B, hB2⟩ : ∃ B, B = zA4 x := ⟨_, rfl⟩
 obtain ⟨T, hT2⟩ : ∃ T, T = tz x := ⟨_, rfl⟩
 rw [← hB2] at HB hB hh
 rw [← hT2] at HT
 rw [hzx] at HB HT
 clear hz hzx hB2 hT2
 have HG := fun W b c h => Lib.hid (zDD W b c z h)
 obtain ⟨g, hg⟩ : ∃ g, g = sg z := ⟨_, rfl⟩
 rw [← hg] at HG
 have hg0 : decide (g = 0) = false := by
  have : z ≠ 0 := hz0
  subst hg; unfold sg zAr; simp; split <;> (try split) <;> omega
 clear hg
 have hge : (g == 0) = false := by simpa using hg0
 have hd : decide (IntKind.i64.wrap (65536 - (B : Int)) < e) = true := by rw [IntKind.wrap_i64]; simp; omega
 go_enter Tryz.func116, Tryz.ntmps116
 go_wp2_with fail
 refine (HN _ (hx.below zbh)).out.mono ?_
 rintro e w1 ⟨a1, c1, rfl, hm1, hb, hf1⟩
 obtain ⟨hc1, hz1⟩ := zA8 (hb.mono (show w.heap.size + 2 ≤ _ by simp))
 have hg1 : w.heap.size + 2 ≤ w1.heap.size := by have := hb.size; simpa using this
 obtain ⟨g1, g2, g3, g4, l1, l2, l3⟩ := zOw hg1
 go_wp2_with fail
 refine (HG _ a1 c1 (hm1.below zbh)).out.mono ?_
 rintro e w2 ⟨rfl, hb2⟩
 obtain ⟨hc2, hz2⟩ := zA8 (hb2.mono (show w1.heap.size + 1 ≤ _ by simp))
 go_wp2_with fail
 have hbw0 := zA0 (w := w) zbh hb
 have hbw1 : Below w.heap.size w _ := hbw0.alloc (by omega) (.cells #[.bool (decide (z < 0)), .slice a1 (nl z.natAbs) c1] 44)
 have hbw2 := zA0 hbw1 hb2
 have hs2 : w1.heap.size + 1 ≤ w2.heap.size := by have := hb2.size; simpa using this
 have hm2 : Mag w2 a1 (nl z.natAbs) c1 z.natAbs := (hm1.below zbh).below hb2
 refine (HT w2 a1 c1 (hT.below hbw2) hm2).out.mono ?_
 rintro e w3 ⟨rfl, hb3⟩
 obtain ⟨hc3, hz3⟩ := zA8 (hb3.mono (show w1.heap.size + 1 ≤ _ from hs2))
 have hm3 := hm2.below hb3
 have hbw3 := zA0 hbw2 hb3
 have hs3 : w1.heap.size + 1 ≤ w3.heap.size := Nat.le_trans hs2 hb3.size
 go_wp2_with fail
 first | go_region_with (first | (go_at_call 148; refine (HB _ a1 c1 (hm3.below zbh)).out.mono ?_; rintro e w4 ⟨rfl, hb4⟩; obtain ⟨hc4, hz4⟩ := zA8 (hb4.mono (show w1.heap.size + 1 ≤ _ from hs3)))) | fail "region"
 all_goals go_wp2_with fail
 all_goals (
  have hbw4 := zA0 hbw3.drew hb4
  have hs4 : w1.heap.size + 1 ≤ w4.heap.size := Nat.le_trans hs3 hb4.size
  refine (zDA _).mono ?_
  rintro e w5 ⟨rfl, hb5⟩
  obtain ⟨hc5, hz5⟩ := zA8 (hb5.mono (show w1.heap.size + 1 ≤ _ from hs4))
  have hbw := zA0 hbw4 hb5
  go_wp2_with fail
  refine zAa (v := .tuple #[.agg #[.bool true, .bool false, .slice none 0 0, .int .i64 0], .bool false]) (by simp [results, Tryz.results116, go_sem, hc5, hc4, hc3, hc2, hc1, l1, l2]) rfl ?_
  exact ⟨none, 0, rfl, Mag.nil .., (have := Beh.mk hbw; zbh), nl0⟩)
end Go.Proofs.YtablcbgeeeboeaaGreatDoor
namespace Go.Proofs.YtablcbgeeeboeaaGreatDoor
open Go.RowKit Sp
theorem zAe (x : Nat) : nl x ≤ zA4 x := by unfold nl zA4; split <;> omega
def Okd (m e : Int) : Prop := (m = 0 ∧ e = 0) ∨ (m % 2 = 1 ∧ -65536 ≤ e ∧ e + zA4 m.natAbs ≤ 65536)
theorem zDU (k : Nat) : (0 : Int) < 2 ^ k := Int.pow_pos (by decide)
theorem zLK (k : Nat) : ((2 ^ k : Nat) : Int) = (2 : Int) ^ k := by simp
theorem zB9 (m : Int) (k : Nat) : (m * 2 ^ k).natAbs = m.natAbs * 2 ^ k := by
 rw [Int.natAbs_mul, Int.natAbs_pow]; rfl
theorem zDb {m : Int} {t : Nat} (h : 2 ^ t ∣ m.natAbs) : ((2 : Int) ^ t) ∣ m := by
 rw [← zLK]; exact Int.ofNat_dvd_left.2 h
theorem zEi {m : Int} (h : m ≠ 0) : ∃ y : Int, m = y * 2 ^ tz m.natAbs ∧ y % 2 = 1 ∧ m / 2 ^ tz m.natAbs = y := by
 have hp : 0 < m.natAbs := Int.natAbs_pos.2 h
 obtain ⟨y, hy⟩ := zDb (zJ4 hp)
 have hy' : m = y * 2 ^ tz m.natAbs := by rw [Int.mul_comm]; exact hy
 have hdiv : m / 2 ^ tz m.natAbs = y := by
  conv => lhs; lhs; rw [hy']
  exact Int.mul_ediv_cancel _ (Int.ne_of_gt (zDU _))
 refine ⟨y, hy', ?_, hdiv⟩
 have hn : m.natAbs = y.natAbs * 2 ^ tz m.natAbs := by conv => lhs; rw [hy', zB9]
 have ho := zJX hp
 have : m.natAbs / 2 ^ tz m.natAbs = y.natAbs := by
  conv => lhs; lhs; rw [hn]
  exact Nat.mul_div_cancel _ (Nat.pow_pos (by decide))
 rw [this] at ho
 omega
theorem zI7 {m : Int} (h : m % 2 = 1) : tz m.natAbs = 0 := zJ3 (by omega)
theorem zBc (e : Int) : nrm 0 e = some (0, 0) := rfl
theorem zHE {m e m' e' : Int} (h : nrm m e = some (m', e')) : Okd m' e' := by
 unfold nrm at h
 split at h
 · injection h with h; injection h with h1 h2; subst h1 h2; exact Or.inl ⟨rfl, rfl⟩
 · rename_i h0
   split at h
   · cases h
   · rename_i hc
     obtain ⟨y, hy, hodd, hdiv⟩ := zEi h0
     injection h with h; injection h with h1 h2
     rw [hdiv] at h1; subst h1
     have hb : zA4 m.natAbs = zA4 y.natAbs + tz m.natAbs := by
      conv => lhs; rw [hy, zB9]
      exact zAi (Int.natAbs_pos.2 (by omega)) _
     exact Or.inr ⟨hodd, by omega, by omega⟩
theorem zDV {m e : Int} (h : Okd m e) : nrm m e = some (m, e) := by
 rcases h with ⟨rfl, rfl⟩ | ⟨h1, h2, h3⟩
 · rfl
 · have ht := zI7 h1
   unfold nrm
   rw [if_neg (by omega), ht, if_neg (by omega)]
   simp
theorem zEc (m e : Int) (k : Nat) : nrm (m * 2 ^ k) e = nrm m (e + k) := by
 by_cases h0 : m = 0
 · subst h0; rw [Int.zero_mul]; rfl
 · have hp := Int.natAbs_pos.2 h0
   have hk : m * 2 ^ k ≠ 0 := Int.mul_ne_zero h0 (Int.ne_of_gt (zDU _))
   unfold nrm
   rw [if_neg h0, if_neg hk, zB9, zAi hp, zI8 hp]
   have hd : m * 2 ^ k / 2 ^ (tz m.natAbs + k) = m / 2 ^ tz m.natAbs := by
    rw [Int.pow_add, Int.mul_ediv_mul_of_pos_left _ _ (zDU k)]
   rw [hd]
   have e1 : (e + k) + (tz m.natAbs : Int) = e + ((tz m.natAbs + k : Nat) : Int) := by omega
   rw [e1]
   by_cases hc : 65536 - (zA4 m.natAbs : Int) < e + k ∨ e + k < -65536 - (tz m.natAbs : Int)
   · rw [if_pos hc, if_pos (by omega)]
   · rw [if_neg hc, if_neg (by omega)]
theorem zDc {m e m' e' : Int} (h0 : m ≠ 0) (h : nrm m e = some (m', e')) : ∃ t : Nat, m = m' * 2 ^ t ∧ e' = e + t ∧ m' % 2 = 1 ∧ -65536 ≤ e' ∧ e' + zA4 m'.natAbs ≤ 65536 := by
 have hk := zHE h
 unfold nrm at h
 rw [if_neg h0] at h
 split at h
 · cases h
 · obtain ⟨y, hy, hodd, hdiv⟩ := zEi h0
   injection h with h; injection h with h1 h2
   rw [hdiv] at h1; subst h1
   rcases hk with ⟨rfl, _⟩ | hk
   · simp at hodd
   · exact ⟨_, hy, h2.symm, hk⟩
theorem nrm_none {m e : Int} : nrm m e = none ↔ m ≠ 0 ∧ (65536 - (zA4 m.natAbs : Int) < e ∨ e < -65536 - (tz m.natAbs : Int)) := by
 unfold nrm
 split
 · simp_all
 · rename_i h0
   split <;> simp_all
def IsN (d : Option (Int × Int)) : Prop := ∀ m e, d = some (m, e) → Okd m e
theorem zBM : IsN none := fun _ _ h => by cases h
theorem zB7 (m e : Int) : IsN (nrm m e) := fun _ _ h => zHE h
theorem zFt (b : Bool) (m e : Int) : IsN (zFm b m e) := by
 cases b
 · exact zB7 m e
 · exact zBM
theorem zLW {m e : Int} (h : Okd m e) : IsN (some (m, e)) := fun _ _ h' => by injection h' with h'; injection h' with h1 h2; subst h1 h2; exact h
theorem zDs {m e : Int} (h : Okd m e) : zA4 m.natAbs ≤ 131072 ∧ -65536 ≤ e ∧ e ≤ 65536 ∧ e + zA4 m.natAbs ≤ 65536 := by
 rcases h with ⟨rfl, rfl⟩ | ⟨h1, h2, h3⟩
 · decide
 · omega
theorem zA7 {d : Option (Int × Int)} (h : IsN d) : zA4 (zA1 d).natAbs ≤ 131072 ∧ -65536 ≤ zA2 d ∧ zA2 d ≤ 65536 := by
 cases d with
 | none => decide
 | some p => obtain ⟨m, e⟩ := p; have := zDs (h m e rfl); exact ⟨this.1, this.2.1, this.2.2.1⟩
theorem zCF {d : Option (Int × Int)} (h : IsN d) : zFm (zA3 d) (zA1 d) (zA2 d) = d := by
 cases d with
 | none => rfl
 | some p => obtain ⟨m, e⟩ := p; exact zDV (h m e rfl)
def up (m e E : Int) : Int := m * 2 ^ (e - E).toNat
def zEX : Option (Int × Int) → Option (Int × Int) → Option (Int × Int)
 | some (m, e), some (m', e') => nrm (up m e (min e e') + up m' e' (min e e')) (min e e')
 | _, _ => none
def zCZ : Option (Int × Int) → Option (Int × Int) → Option (Int × Int)
 | some (m, e), some (m', e') => nrm (m * m') (e + e')
 | _, _ => none
def zIV : Option (Int × Int) → Option (Int × Int)
 | some (m, e) => some (-m, e)
 | none => none
theorem zJV {m e : Int} (h : Okd m e) : Okd (-m) e := by
 rcases h with ⟨rfl, rfl⟩ | ⟨h1, h2, h3⟩
 · exact Or.inl ⟨rfl, rfl⟩
 · exact Or.inr ⟨by omega, h2, by rw [Int.natAbs_neg]; exact h3⟩
theorem zNy {d : Option (Int × Int)} (h : IsN d) : IsN (zIV d) := by
 cases d with
 | none => exact zBM
 | some p => obtain ⟨m, e⟩ := p; exact zLW (zJV (h m e rfl))
theorem zFu (a b : Option (Int × Int)) : IsN (zEX a b) := by
 unfold zEX; split
 · exact zB7 _ _
 · exact zBM
theorem zDv (a b : Option (Int × Int)) : IsN (zCZ a b) := by
 unfold zCZ; split
 · exact zB7 _ _
 · exact zBM
theorem zCt (m e : Int) : up m e e = m := by unfold up; simp
theorem zJ2 (m e : Int) (k : Nat) : up m (e + k) e = m * 2 ^ k := by unfold up; congr 2; omega
theorem zHi (m m' e E : Int) : up (m + m') e E = up m e E + up m' e E := by unfold up; rw [Int.add_mul]
theorem zB6 (e E : Int) : up 0 e E = 0 := by unfold up; simp
theorem zL1 {m e E : Int} (h : E ≤ e) (hm : m ≠ 0) : (zA4 (up m e E).natAbs : Int) = zA4 m.natAbs + (e - E) := by
 unfold up; rw [zB9, zAi (Int.natAbs_pos.2 hm)]; omega
theorem zBx {m e E : Int} {k : Nat} (h : E ≤ e) (hk : (zA4 m.natAbs : Int) + (e - E) ≤ k) : zA4 (up m e E).natAbs ≤ k := by
 by_cases h0 : m = 0
 · subst h0; rw [zB6]; exact Nat.zero_le _
 · have := zL1 h h0; omega
theorem zEb (m e E : Int) (h : E ≤ e) : nrm (up m e E) E = nrm m e := by
 unfold up; rw [zEc]; congr 1; omega
theorem zJ1 (m : Int) {e F E : Int} (h1 : E ≤ F) (h2 : F ≤ e) : up (up m e F) F E = up m e E := by
 unfold up; rw [Int.mul_assoc, ← Int.pow_add]; congr 2; omega
theorem zMm (M N E : Int) (hM : nrm M E ≠ none) (hN : nrm N E ≠ none) : zEX (nrm M E) (nrm N E) = nrm (M + N) E := by
 by_cases h0 : M = 0
 · subst h0
   rw [zBc, Int.zero_add]
   cases h : nrm N E with
   | none => exact absurd h hN
   | some p =>
    obtain ⟨m, e⟩ := p
    show nrm (up 0 0 _ + up m e (min 0 e)) (min 0 e) = _
    rw [zB6, Int.zero_add, zEb _ _ _ (by omega), zDV (zHE h)]
 · by_cases h1 : N = 0
   · subst h1
     rw [zBc, Int.add_zero]
     cases h : nrm M E with
     | none => exact absurd h hM
     | some p =>
      obtain ⟨m, e⟩ := p
      show nrm (up m e (min e 0) + up 0 0 _) (min e 0) = _
      rw [zB6, Int.add_zero, zEb _ _ _ (by omega), zDV (zHE h)]
   · cases h : nrm M E with
     | none => exact absurd h hM
     | some p =>
      cases k : nrm N E with
      | none => exact absurd k hN
      | some q =>
       obtain ⟨m, e⟩ := p
       obtain ⟨n, f⟩ := q
       obtain ⟨t, ht, he, _⟩ := zDc h0 h
       obtain ⟨u, hu, hf, _⟩ := zDc h1 k
       show nrm (up m e (min e f) + up n f (min e f)) (min e f) = _
       rw [← zEb _ (min e f) E (by omega), zHi, zJ1 _ (by omega) (by omega), zJ1 _ (by omega) (by omega)]
       subst he hf
       rw [zJ2, zJ2, ← ht, ← hu]
theorem zMi (M N E F : Int) (hM : nrm M E ≠ none) (hN : nrm N F ≠ none) : zCZ (nrm M E) (nrm N F) = nrm (M * N) (E + F) := by
 cases h : nrm M E with
 | none => exact absurd h hM
 | some p =>
  cases k : nrm N F with
  | none => exact absurd k hN
  | some q =>
   obtain ⟨m, e⟩ := p
   obtain ⟨n, f⟩ := q
   show nrm (m * n) (e + f) = _
   by_cases h0 : M = 0
   · subst h0; rw [zBc] at h; injection h with h; injection h with h1 h2; subst h1 h2; simp [zBc]
   · by_cases h1 : N = 0
     · subst h1; rw [zBc] at k; injection k with k; injection k with h1 h2; subst h1 h2; simp [zBc]
     · obtain ⟨t, ht, he, _⟩ := zDc h0 h
       obtain ⟨u, hu, hf, _⟩ := zDc h1 k
       have e1 : M * N = (m * n) * 2 ^ (t + u) := by rw [ht, hu, Int.pow_add]; grind
       rw [e1, zEc]; congr 1; omega
theorem zHY {m n : Int} {p : Int} (hp : 0 < p) : zAr (m * p) (n * p) = zAr m n := by
 unfold zAr
 have h1 : m * p < n * p ↔ m < n := Int.mul_lt_mul_right hp
 have h2 : n * p < m * p ↔ n < m := Int.mul_lt_mul_right hp
 simp only [h1, h2]
theorem zGU (m : Int) (k : Nat) : (m * 2 ^ k < 0 ↔ m < 0) ∧ (0 < m * 2 ^ k ↔ 0 < m) := by
 have hp := zDU k
 have h1 : m * 2 ^ k < 0 * 2 ^ k ↔ m < 0 := Int.mul_lt_mul_right hp
 have h2 : 0 * 2 ^ k < m * 2 ^ k ↔ 0 < m := Int.mul_lt_mul_right hp
 rw [Int.zero_mul] at h1 h2
 exact ⟨h1, h2⟩
def rdn (x : Nat) (E q : Int) : Nat := if q ≤ E then x * 2 ^ (E - q).toNat else x / 2 ^ (q - E).toNat
def rex (x : Nat) (more : Bool) (k : Nat) : Bool := decide (x % 2 ^ k = 0) && !more
def rcm (x : Nat) (more : Bool) (k : Nat) : Int :=
 if zAr ((x % 2 ^ k : Nat) : Int) ((2 ^ (k - 1) : Nat) : Int) = 0 ∧ more = true then 1 else zAr ((x % 2 ^ k : Nat) : Int) ((2 ^ (k - 1) : Nat) : Int)
def raw (s : Bool) (n : Nat) (c : Int) (ex : Bool) (mode : Int) : Bool :=
 if ex then false else if mode = 1 then s else if mode = 2 then !s else if mode = 3 then false else decide (0 < c) || (decide (c = 0) && decide (n % 2 = 1))
def rax (s : Bool) (x : Nat) (E : Int) (more : Bool) (q mode : Int) : Bool :=
 if q ≤ E then false else raw s (rdn x E q) (rcm x more (q - E).toNat) (rex x more (q - E).toNat) mode
def zE3 (s : Bool) (x : Nat) (E : Int) (more : Bool) (q mode : Int) : Nat := rdn x E q + if rax s x E more q mode then 1 else 0
def rlg (x : Nat) (E : Int) : Int := E + zA4 x - 1
def qsh (a b : Int) (prec : Int) : Nat := (max 0 (prec + 3 + zA4 b.natAbs - zA4 a.natAbs)).toNat
end Go.Proofs.YtablcbgeeeboeaaGreatDoor
namespace Go.Proofs.YtablcbgeeeboeaaGreatDoor
open Go.RowKit Sp
theorem zJy (w : World) (a : Option Addr) (cap : Nat) (z : Int) (T : Nat) (hm : Mag w a (nl z.natAbs) cap z.natAbs) (hlim : nl z.natAbs ≤ 1099511627776) (hT : T ≤ 1048576) :
 Calls Tryz.prog 149 #[.agg #[.bool (decide (z < 0)), .slice a (nl z.natAbs) cap], .int .i64 T] w (zAj w (shl z (-(T : Int)))) := by
 have h := zJz w (decide (z < 0)) a _ cap _ (T : Int) hm hlim (by omega) (by omega)
 rwa [zAg] at h
theorem zMc (w : World) (s : Bool) (a : Option Addr) (n cap x : Nat) (e : Int) (hx : Mag w a n cap x) (hlim : n ≤ 1099511627776) (hx0 : x ≠ 0) (hT : Tab w) (hB : zA4 x ≤ 1048576) (hTz : tz x ≤ 1048576) (_he0 : -9223372036854775808 ≤ e) (_he1 : e ≤ 9223372036854775807) (hh : ¬ 65536 - (zA4 x : Int) < e) (hl : e < -65536 - (tz x : Int)) :
 Calls Tryz.prog 116 #[.agg #[.bool false, .bool s, .slice a n cap, .int .i64 e]] w (zEx w none) := by
 have e2 : ¬ w.heap.size + 1 = w.heap.size := by omega
 have HN := fun W h => Lib.hid (zDW W s a n cap x h hlim)
 have HB := fun W b c h => Lib.hid (zCO W (decide (sgn s x < 0)) b (nl x) c x h (Nat.le_trans (zAB hx.lt) hlim))
 have HT := fun W b c hw h => Lib.hid (zC1 W hw (decide (sgn s x < 0)) b (nl x) c x h (Nat.le_trans (zAB hx.lt) hlim))
 obtain ⟨z, hz⟩ : ∃ z, z = sgn s x := ⟨_, rfl⟩
 have hzx : x = z.natAbs := by rw [hz, zAb]
 have hz0 : z ≠ 0 := by omega
 rw [← hz] at HN HB HT; (try rw [← hz] at hzx')
 obtain ⟨B, hB2⟩ : ∃ B, B = zA4 x := ⟨_, rfl⟩
 obtain ⟨T, hT2⟩ : ∃ T, T = tz x := ⟨_, rfl⟩
 rw [← hB2] at HB hB hh
 rw [← hT2] at HT; (try rw [← hT2] at hl hTz); (try rw [← hT2] at hf); (try rw [← hT2, ← hz] at hy)
 rw [hzx] at HB HT
 clear hz hzx hB2 hT2
 have HG := fun W b c h => Lib.hid (zDD W b c z h)
 obtain ⟨g, hg⟩ : ∃ g, g = sg z := ⟨_, rfl⟩
 rw [← hg] at HG
 have hg0 : decide (g = 0) = false := by
  have : z ≠ 0 := hz0
  subst hg; unfold sg zAr; simp; split <;> (try split) <;> omega
 clear hg
 have hge : (g == 0) = false := by simpa using hg0
 have hd : decide (IntKind.i64.wrap (65536 - (B : Int)) < e) = false := by rw [IntKind.wrap_i64]; simp; omega
 have hd2 : decide (e < IntKind.i64.wrap (-65536 - (T : Int))) = true := by rw [IntKind.wrap_i64]; simp; omega
 go_enter Tryz.func116, Tryz.ntmps116
 go_wp2_with fail
 refine (HN _ (hx.below zbh)).out.mono ?_
 rintro e w1 ⟨a1, c1, rfl, hm1, hb, hf1⟩
 obtain ⟨hc1, hz1⟩ := zA8 (hb.mono (show w.heap.size + 2 ≤ _ by simp))
 have hg1 : w.heap.size + 2 ≤ w1.heap.size := by have := hb.size; simpa using this
 obtain ⟨g1, g2, g3, g4, l1, l2, l3⟩ := zOw hg1
 go_wp2_with fail
 refine (HG _ a1 c1 (hm1.below zbh)).out.mono ?_
 rintro e w2 ⟨rfl, hb2⟩
 obtain ⟨hc2, hz2⟩ := zA8 (hb2.mono (show w1.heap.size + 1 ≤ _ by simp))
 go_wp2_with fail
 have hbw0 := zA0 (w := w) zbh hb
 have hbw1 : Below w.heap.size w _ := hbw0.alloc (by omega) (.cells #[.bool (decide (z < 0)), .slice a1 (nl z.natAbs) c1] 44)
 have hbw2 := zA0 hbw1 hb2
 have hs2 : w1.heap.size + 1 ≤ w2.heap.size := by have := hb2.size; simpa using this
 have hm2 : Mag w2 a1 (nl z.natAbs) c1 z.natAbs := (hm1.below zbh).below hb2
 refine (HT w2 a1 c1 (hT.below hbw2) hm2).out.mono ?_
 rintro e w3 ⟨rfl, hb3⟩
 obtain ⟨hc3, hz3⟩ := zA8 (hb3.mono (show w1.heap.size + 1 ≤ _ from hs2))
 have hm3 := hm2.below hb3
 have hbw3 := zA0 hbw2 hb3
 have hs3 : w1.heap.size + 1 ≤ w3.heap.size := Nat.le_trans hs2 hb3.size
 go_wp2_with fail
 first | go_region_held3 (fun w' => w'.cell? ⟨w.heap.size, 3, none⟩ = some (.int .i64 e) ∧ w'.cell? ⟨w1.heap.size, 0, none⟩ = some (.bool (decide (z < 0))) ∧ w'.cell? ⟨w1.heap.size, 1, none⟩ = some (.slice a1 (nl z.natAbs) c1)) (first | go_keep)
  (first | (go_at_call 148; refine (HB _ a1 c1 (hm3.below zbh)).out.mono ?_; rintro e w4 ⟨rfl, hb4⟩; obtain ⟨hc4, hz4⟩ := zA8 (hb4.mono (show w1.heap.size + 1 ≤ _ from hs3)))) | fail "region"
 go_wp2_with fail
 have hbw4 := zA0 hbw3.drew hb4
 have hs4 : w1.heap.size + 1 ≤ w4.heap.size := Nat.le_trans hs3 hb4.size
 refine (zDA _).mono ?_
 rintro e w5 ⟨rfl, hb5⟩
 obtain ⟨hc5, hz5⟩ := zA8 (hb5.mono (show w1.heap.size + 1 ≤ _ from hs4))
 have hbw := zA0 hbw4 hb5
 go_wp2_with fail
 refine zAa (v := .tuple #[.agg #[.bool true, .bool false, .slice none 0 0, .int .i64 0], .bool false]) (by simp [results, Tryz.results116, go_sem, hc5, hc4, hc3, hc2, hc1, l1, l2]) rfl ?_
 exact ⟨none, 0, rfl, Mag.nil .., (have := Beh.mk hbw; zbh), nl0⟩
theorem zMd (w : World) (s : Bool) (a : Option Addr) (n cap x : Nat) (e : Int) (hx : Mag w a n cap x) (hlim : n ≤ 1099511627776) (hx0 : x ≠ 0) (hT : Tab w) (hB : zA4 x ≤ 1048576) (hTz : tz x ≤ 1048576) (he0 : -9223372036854775808 ≤ e) (he1 : e ≤ 9223372036854775807) (hh : ¬ 65536 - (zA4 x : Int) < e) (hl : ¬ e < -65536 - (tz x : Int)) (y f : Int) (hy : y = shl (sgn s x) (-(tz x : Int))) (hf : f = e + tz x) :
 Calls Tryz.prog 116 #[.agg #[.bool false, .bool s, .slice a n cap, .int .i64 e]] w (zEx w (some (y, f))) := by
 have hzx' : (sgn s x).natAbs = x := zAb s x
 have e2 : ¬ w.heap.size + 1 = w.heap.size := by omega
 have HN := fun W h => Lib.hid (zDW W s a n cap x h hlim)
 have HB := fun W b c h => Lib.hid (zCO W (decide (sgn s x < 0)) b (nl x) c x h (Nat.le_trans (zAB hx.lt) hlim))
 have HT := fun W b c hw h => Lib.hid (zC1 W hw (decide (sgn s x < 0)) b (nl x) c x h (Nat.le_trans (zAB hx.lt) hlim))
 obtain ⟨z, hz⟩ : ∃ z, z = sgn s x := ⟨_, rfl⟩
 have hzx : x = z.natAbs := by rw [hz, zAb]
 have hz0 : z ≠ 0 := by omega
 rw [← hz] at HN HB HT; (try rw [← hz] at hzx')
 obtain ⟨B, hB2⟩ : ∃ B, B = zA4 x := ⟨_, rfl⟩
 obtain ⟨T, hT2⟩ : ∃ T, T = tz x := ⟨_, rfl⟩
 rw [← hB2] at HB hB hh
 rw [← hT2] at HT; (try rw [← hT2] at hl hTz); (try rw [← hT2] at hf); (try rw [← hT2, ← hz] at hy)
 rw [hzx] at HB HT
 clear hz hzx hB2 hT2
 have HG := fun W b c h => Lib.hid (zDD W b c z h)
 obtain ⟨g, hg⟩ : ∃ g, g = sg z := ⟨_, rfl⟩
 rw [← hg] at HG
 have hg0 : decide (g = 0) = false := by
  have : z ≠ 0 := hz0
  subst hg; unfold sg zAr; simp; split <;> (try split) <;> omega
 clear hg
 have hge : (g == 0) = false := by simpa using hg0
 have hd : decide (IntKind.i64.wrap (65536 - (B : Int)) < e) = false := by rw [IntKind.wrap_i64]; simp; omega
 have hd2 : decide (e < IntKind.i64.wrap (-65536 - (T : Int))) = false := by rw [IntKind.wrap_i64]; simp; omega
 have hw1 : IntKind.i64.wrap (e + (T : Int)) = f := by rw [IntKind.wrap_i64]; omega
 have HR := fun W b c h => Lib.hid (zJy W b c z T h (Nat.le_trans (hzx' ▸ zAB hx.lt) hlim) hTz)
 rw [← hy] at HR
 clear hy hzx' hf
 go_enter Tryz.func116, Tryz.ntmps116
 go_wp2_with fail
 refine (HN _ (hx.below zbh)).out.mono ?_
 rintro e w1 ⟨a1, c1, rfl, hm1, hb, hf1⟩
 obtain ⟨hc1, hz1⟩ := zA8 (hb.mono (show w.heap.size + 2 ≤ _ by simp))
 have hg1 : w.heap.size + 2 ≤ w1.heap.size := by have := hb.size; simpa using this
 obtain ⟨g1, g2, g3, g4, l1, l2, l3⟩ := zOw hg1
 go_wp2_with fail
 refine (HG _ a1 c1 (hm1.below zbh)).out.mono ?_
 rintro e w2 ⟨rfl, hb2⟩
 obtain ⟨hc2, hz2⟩ := zA8 (hb2.mono (show w1.heap.size + 1 ≤ _ by simp))
 go_wp2_with fail
 have hbw0 := zA0 (w := w) zbh hb
 have hbw1 : Below w.heap.size w _ := hbw0.alloc (by omega) (.cells #[.bool (decide (z < 0)), .slice a1 (nl z.natAbs) c1] 44)
 have hbw2 := zA0 hbw1 hb2
 have hs2 : w1.heap.size + 1 ≤ w2.heap.size := by have := hb2.size; simpa using this
 have hm2 : Mag w2 a1 (nl z.natAbs) c1 z.natAbs := (hm1.below zbh).below hb2
 refine (HT w2 a1 c1 (hT.below hbw2) hm2).out.mono ?_
 rintro e w3 ⟨rfl, hb3⟩
 obtain ⟨hc3, hz3⟩ := zA8 (hb3.mono (show w1.heap.size + 1 ≤ _ from hs2))
 have hm3 := hm2.below hb3
 have hbw3 := zA0 hbw2 hb3
 have hs3 : w1.heap.size + 1 ≤ w3.heap.size := Nat.le_trans hs2 hb3.size
 go_wp2_with fail
 first | go_region_held3 (fun w' => w'.cell? ⟨w.heap.size, 3, none⟩ = some (.int .i64 e) ∧ w'.cell? ⟨w1.heap.size, 0, none⟩ = some (.bool (decide (z < 0))) ∧ w'.cell? ⟨w1.heap.size, 1, none⟩ = some (.slice a1 (nl z.natAbs) c1)) (first | go_keep)
  (first | (go_at_call 148; refine (HB _ a1 c1 (hm3.below zbh)).out.mono ?_; rintro e w4 ⟨rfl, hb4⟩; obtain ⟨hc4, hz4⟩ := zA8 (hb4.mono (show w1.heap.size + 1 ≤ _ from hs3)))) | fail "region"
 go_wp2_with fail
 have hbw4 := zA0 hbw3.drew hb4
 have hs4 : w1.heap.size + 1 ≤ w4.heap.size := Nat.le_trans hs3 hb4.size
 have hm4 := (hm3.below (Below.drew (Below.refl _ _))).below hb4
 first | go_region_held3 (fun w' => w'.cell? ⟨w.heap.size, 3, none⟩ = some (.int .i64 e) ∧ w'.cell? ⟨w1.heap.size, 0, none⟩ = some (.bool (decide (z < 0))) ∧ w'.cell? ⟨w1.heap.size, 1, none⟩ = some (.slice a1 (nl z.natAbs) c1)) (first | go_keep)
  (first | (go_at_call 149; refine (HR _ a1 c1 (hm4.below zbh)).out.mono ?_; rintro e w5 ⟨a5, c5, rfl, hm5, hb5, hf5⟩; obtain ⟨hc5, hz5⟩ := zA8 (hb5.mono (show w1.heap.size + 1 ≤ _ from hs4)))) | fail "region"
 go_wp2_with fail
 have hbw5 := zA0 (w := w) (hbw4.drew) hb5
 have hfr : 0 < nl y.natAbs → w1.heap.size + 1 ≤ ab a5 := fun h => by have := hf5 h; simp at this; omega
 have hbw : Below w.heap.size w w5 := by first | exact hbw5 | exact zA0 hbw4 hb5
 refine zAa (v := .tuple #[.agg #[.bool false, .bool (decide (y < 0)), .slice a5 (nl y.natAbs) c5, .int .i64 f], .bool true]) (by simp [results, Tryz.results116, go_sem, hc5, hc4, hc3, hc2, hc1, l1, l2]) rfl ?_
 exact ⟨a5, c5, rfl, (((hm5.set (fun h => by have := hfr h; omega) _ _).set (fun h => by have := hfr h; omega) _ _).set (fun h => by have := hfr h; omega) _ _).set (fun h => by have := hfr h; omega) _ _, (have := Beh.mk hbw; zbh), fun h => by have := hfr h; omega⟩
theorem zDi (w : World) (bd s : Bool) (a : Option Addr) (n cap x : Nat) (e : Int) (hx : Mag w a n cap x) (hlim : n ≤ 1099511627776) (hT : Tab w) (hB : zA4 x ≤ 1048576) (hTz : tz x ≤ 1048576) (he0 : -9223372036854775808 ≤ e) (he1 : e ≤ 9223372036854775807) :
 Calls Tryz.prog 116 #[.agg #[.bool bd, .bool s, .slice a n cap, .int .i64 e]] w (zEx w (zFm bd (sgn s x) e)) := by
 cases bd with
 | true => exact zKG w s a n cap e
 | false =>
  have hab := zAb s x
  by_cases hx0 : x = 0
  · have h := zIN w s a n cap x e hx hlim hx0
    have ez : sgn s x = 0 := by subst hx0; cases s <;> rfl
    rw [ez]; exact h
  · have ez : sgn s x ≠ 0 := by omega
    unfold zFm nrm
    rw [if_neg (by simp), if_neg ez, hab]
    by_cases h1 : 65536 - (zA4 x : Int) < e
    · rw [if_pos (Or.inl h1)]; exact zMe w s a n cap x e hx hlim hx0 hT hB he0 he1 h1
    · by_cases h2 : e < -65536 - (tz x : Int)
      · rw [if_pos (Or.inr h2)]; exact zMc w s a n cap x e hx hlim hx0 hT hB hTz he0 he1 h1 h2
      · rw [if_neg (by omega)]
        refine zMd w s a n cap x e hx hlim hx0 hT hB hTz he0 he1 h1 h2 _ _ ?_ rfl
        unfold shl; split
        · rename_i h; have : tz x = 0 := by omega
          simp [this]
        · simp
end Go.Proofs.YtablcbgeeeboeaaGreatDoor
namespace Sp
open Go Go.RowKit
theorem zEk (w : World) (p : Addr) (x : Value) : (w.setCell p x).heap[p.block]? = (w.heap[p.block]?).map fun | .cells c elem frozen => .cells (if p.spot.isSome then c else c.setIfInBounds p.off x) elem frozen | o => o := by
 unfold World.setCell
 simp only [Array.getElem?_modify, if_true]
 cases w.heap[p.block]? with
 | none => rfl
 | some o => cases o <;> rfl
@[go_sem] theorem zLe (w : World) (p q : Addr) (x : Value) : ((w.setCell p x).cell? q).isSome = (w.cell? q).isSome := by
 cases h : w.cell? q with
 | some v => obtain ⟨v', hv⟩ := cell?_setCell_some (p := p) (x := x) h; rw [hv]; rfl
 | none =>
  by_cases e : p = q
  · subst e
    unfold World.cell? at h ⊢
    rw [zEk]
    cases hb : w.heap[p.block]? with
    | none => rfl
    | some o =>
     rw [hb] at h
     cases o with
     | cells c e f =>
      simp only [Option.map_some] at h ⊢
      by_cases hs : p.spot.isSome
      · simp [hs]
      · simp only [hs, if_false, Bool.false_eq_true] at h ⊢
        rw [Array.getElem?_setIfInBounds]
        simp at h ⊢
        omega
     | _ => rfl
  · rw [World.cell?_setCell_other w p q x e, h]
theorem Mag.drew {w : World} {a : Option Addr} {n cap x : Nat} (h : Mag w a n cap x) : Mag w.drew a n cap x := h.below (Below.drew (Below.refl _ _))
theorem Mag.alloc {w : World} {a : Option Addr} {n cap x : Nat} (h : Mag w a n cap x) (o : Obj) : Mag (w.alloc o) a n cap x := h.below ((Below.refl _ _).alloc (Nat.le_refl _) _)
end Sp
namespace Go.Proofs.YtablcbgeeeboeaaGreatDoor
open Go.RowKit Sp
def DyIn (w : World) (bd s : Bool) (a : Option Addr) (n cap : Nat) (e : Int) (d : Option (Int × Int)) : Prop :=
 ∃ x, Mag w a n cap x ∧ n ≤ 1099511627776 ∧ zA4 x ≤ 1048576 ∧ -9223372036854775808 ≤ e ∧ e ≤ 9223372036854775807 ∧ zFm bd (sgn s x) e = d
theorem DyIn.below {w w' : World} {bd s : Bool} {a : Option Addr} {n cap : Nat} {e : Int} {d : Option (Int × Int)} (h : DyIn w bd s a n cap e d) (hb : Below w.heap.size w w') : DyIn w' bd s a n cap e d := by
 obtain ⟨x, h1, h2⟩ := h; exact ⟨x, h1.below hb, h2⟩
theorem DyIn.isN {w : World} {bd s : Bool} {a : Option Addr} {n cap : Nat} {e : Int} {d : Option (Int × Int)} (h : DyIn w bd s a n cap e d) : IsN d := by
 obtain ⟨x, _, _, _, _, _, h2⟩ := h; subst h2; exact zFt _ _ _
theorem zDC {x : Nat} (h : zA4 x ≤ 1048576) : tz x ≤ 1048576 := by
 rcases Nat.eq_zero_or_pos x with h0 | h0
 · subst h0; decide
 · have := zI9 h0; omega
theorem zDt (w : World) {bd s : Bool} {a : Option Addr} {n cap : Nat} {e : Int} {d : Option (Int × Int)} (h : DyIn w bd s a n cap e d) (hT : Tab w) :
 Calls Tryz.prog 116 #[.agg #[.bool bd, .bool s, .slice a n cap, .int .i64 e]] w (zEx w d) := by
 obtain ⟨x, h1, h2, h3, h4, h5, h6⟩ := h
 have := zDi w bd s a n cap x e h1 h2 hT h3 (zDC h3) h4 h5
 rwa [h6] at this
theorem zAI {w : World} {d : Option (Int × Int)} {a : Option Addr} {c : Nat} (hd : IsN d) (hm : Mag w a (nl (zA1 d).natAbs) c (zA1 d).natAbs) : DyIn w (zA3 d) (decide (zA1 d < 0)) a (nl (zA1 d).natAbs) c (zA2 d) d := by
 have hb := zA7 hd
 refine ⟨_, hm, ?_, by omega, by omega, by omega, ?_⟩
 · have h1 := hm.fits
   exact Nat.le_trans (zAe _) (by omega)
 · rw [zAg]; exact zCF hd
def zLc (w : World) (d d' : Option (Int × Int)) (e : Ending) (w' : World) : Prop :=
 ∃ a c a' c', e = .returned (.tuple #[.agg #[.bool (zA3 d), .bool (decide (zA1 d < 0)), .slice a (nl (zA1 d).natAbs) c, .int .i64 (zA2 d)], .agg #[.bool (zA3 d'), .bool (decide (zA1 d' < 0)), .slice a' (nl (zA1 d').natAbs) c', .int .i64 (zA2 d')], .bool (!zA3 d && !zA3 d')]) ∧ Mag w' a (nl (zA1 d).natAbs) c (zA1 d).natAbs ∧ Mag w' a' (nl (zA1 d').natAbs) c' (zA1 d').natAbs ∧ Below w.heap.size w w' ∧ (0 < nl (zA1 d).natAbs → w.heap.size ≤ ab a) ∧ (0 < nl (zA1 d').natAbs → w.heap.size ≤ ab a')
theorem zPe (w : World) (bd s bd' s' : Bool) (a a' : Option Addr) (n n' cap cap' : Nat) (e e' : Int) (d d' : Option (Int × Int)) (hx : DyIn w bd s a n cap e d) (hy : DyIn w bd' s' a' n' cap' e' d') (hT : Tab w) (hbd : zA3 d = false) :
 Calls Tryz.prog 119 #[.agg #[.bool bd, .bool s, .slice a n cap, .int .i64 e], .agg #[.bool bd', .bool s', .slice a' n' cap', .int .i64 e']] w (zLc w d d') := by
 have HN := fun W h ht => Lib.hid (@zDt W bd s a n cap e d h ht)
 have HM := fun W h ht => Lib.hid (@zDt W bd' s' a' n' cap' e' d' h ht)
 have e1 : ¬ w.heap.size + 1 = w.heap.size := by omega
 have e2 : ¬ w.heap.size + 1 + 1 = w.heap.size := by omega
 have e3 : ¬ w.heap.size + 1 + 1 + 1 = w.heap.size := by omega
 go_enter Tryz.func119, Tryz.ntmps119
 go_wp2_with fail
 refine (HN _ (hx.below zbh) (hT.below zbh)).out.mono ?_
 rintro e w1 ⟨a1, c1, rfl, hm1, hb, hf1⟩
 obtain ⟨hc1, hz1⟩ := zA8 (hb.mono (show w.heap.size + 4 ≤ _ by simp))
 have hg1 : w.heap.size + 4 ≤ w1.heap.size := by have := hb.size; simpa using this
 have hfr1 : 0 < nl (zA1 d).natAbs → w.heap.size + 4 ≤ ab a1 := fun h => by have := hf1 h; simpa using this
 have hbw := zA0 (w := w) zbh hb
 go_wp2_with fail
 refine (HM _ (hy.below (have := Beh.mk hbw; zbh)) (hT.below (have := Beh.mk hbw; zbh))).out.mono ?_
 rintro e w2 ⟨a2, c2, rfl, hm2, hb2, hf2⟩
 obtain ⟨hc2, hz2⟩ := zA8 (hb2.mono (show w.heap.size + 4 ≤ _ by simpa using hg1))
 have hfr2 : 0 < nl (zA1 d').natAbs → w.heap.size + 4 ≤ ab a2 := fun h => by have := hf2 h; simp at this; omega
 obtain ⟨q0, q1, q2, q3, q4, q5, q6, q7⟩ : (w2.cell? ⟨w.heap.size + 1 + 1, 0, none⟩ = some (.bool (zA3 d)) ∧ w2.cell? ⟨w.heap.size + 1 + 1, 1, none⟩ = some (.bool (decide (zA1 d < 0))) ∧ w2.cell? ⟨w.heap.size + 1 + 1, 2, none⟩ = some (.slice a1 (nl (zA1 d).natAbs) c1) ∧ w2.cell? ⟨w.heap.size + 1 + 1, 3, none⟩ = some (.int .i64 (zA2 d))
  ∧ w2.cell? ⟨w.heap.size + 1 + 1 + 1, 0, none⟩ = some (.bool false) ∧ w2.cell? ⟨w.heap.size + 1 + 1 + 1, 1, none⟩ = some (.bool false) ∧ w2.cell? ⟨w.heap.size + 1 + 1 + 1, 2, none⟩ = some (.slice none 0 0) ∧ w2.cell? ⟨w.heap.size + 1 + 1 + 1, 3, none⟩ = some (.int .i64 0)) := by
  refine ⟨?_, ?_, ?_, ?_, ?_, ?_, ?_, ?_⟩ <;> go_simp
 clear hc2 hc1
 have hm1' : Mag w2 a1 (nl (zA1 d).natAbs) c1 (zA1 d).natAbs := Mag.below (by repeat (with_reducible first | refine Mag.set ?_ (fun h => by have := hfr1 h; omega) _ _ | refine Mag.drew ?_ | refine Mag.alloc ?_ _ | refine Mag.drewN ?_ _ | refine Mag.below ?_ (Below.drew (Below.refl _ _)) | refine Mag.below ?_ ((Below.refl _ _).alloc (Nat.le_refl _) _) | exact hm1)) hb2
 have hbw2 := zA0 (w := w) (have := Beh.mk hbw; zbh) hb2
 clear hbw
 have hbw := hbw2
 have hg2 : w.heap.size + 4 ≤ w2.heap.size := by have := hb2.size; simp at this; omega
 go_wp2_with fail
 go_big_region
 all_goals go_wp2_with fail
 all_goals (
  refine zAa (v := .tuple #[.agg #[.bool (zA3 d), .bool (decide (zA1 d < 0)), .slice a1 (nl (zA1 d).natAbs) c1, .int .i64 (zA2 d)], .agg #[.bool (zA3 d'), .bool (decide (zA1 d' < 0)), .slice a2 (nl (zA1 d').natAbs) c2, .int .i64 (zA2 d')], .bool (!zA3 d && !zA3 d')]) (by simp only [results, Tryz.results119]; go_simp) rfl ?_
  exact ⟨a1, c1, a2, c2, rfl, (by repeat (with_reducible first | refine Mag.set ?_ (fun h => by have := hfr1 h; omega) _ _ | refine Mag.drew ?_ | refine Mag.alloc ?_ _ | refine Mag.drewN ?_ _ | refine Mag.below ?_ (Below.drew (Below.refl _ _)) | refine Mag.below ?_ ((Below.refl _ _).alloc (Nat.le_refl _) _) | exact hm1')), (by repeat (with_reducible first | refine Mag.set ?_ (fun h => by have := hfr2 h; omega) _ _ | refine Mag.drew ?_ | refine Mag.alloc ?_ _ | refine Mag.drewN ?_ _ | refine Mag.below ?_ (Below.drew (Below.refl _ _)) | refine Mag.below ?_ ((Below.refl _ _).alloc (Nat.le_refl _) _) | exact hm2)), (by have hszw := hbw.size; repeat (with_reducible first | refine Below.setCell ?_ (by first | omega | (simp <;> omega)) _ | refine Below.alloc ?_ (by first | omega | (simp <;> omega)) _ | refine Below.drew ?_ | refine below_drewN ?_ _ | exact hbw)), fun h => by have := hfr1 h; omega, fun h => by have := hfr2 h; omega⟩)
theorem zPd (w : World) (bd s bd' s' : Bool) (a a' : Option Addr) (n n' cap cap' : Nat) (e e' : Int) (d d' : Option (Int × Int)) (hx : DyIn w bd s a n cap e d) (hy : DyIn w bd' s' a' n' cap' e' d') (hT : Tab w) (hbd : zA3 d = true) :
 Calls Tryz.prog 119 #[.agg #[.bool bd, .bool s, .slice a n cap, .int .i64 e], .agg #[.bool bd', .bool s', .slice a' n' cap', .int .i64 e']] w (zLc w d d') := by
 have HN := fun W h ht => Lib.hid (@zDt W bd s a n cap e d h ht)
 have HM := fun W h ht => Lib.hid (@zDt W bd' s' a' n' cap' e' d' h ht)
 have e1 : ¬ w.heap.size + 1 = w.heap.size := by omega
 have e2 : ¬ w.heap.size + 1 + 1 = w.heap.size := by omega
 have e3 : ¬ w.heap.size + 1 + 1 + 1 = w.heap.size := by omega
 go_enter Tryz.func119, Tryz.ntmps119
 go_wp2_with fail
 refine (HN _ (hx.below zbh) (hT.below zbh)).out.mono ?_
 rintro e w1 ⟨a1, c1, rfl, hm1, hb, hf1⟩
 obtain ⟨hc1, hz1⟩ := zA8 (hb.mono (show w.heap.size + 4 ≤ _ by simp))
 have hg1 : w.heap.size + 4 ≤ w1.heap.size := by have := hb.size; simpa using this
 have hfr1 : 0 < nl (zA1 d).natAbs → w.heap.size + 4 ≤ ab a1 := fun h => by have := hf1 h; simpa using this
 have hbw := zA0 (w := w) zbh hb
 go_wp2_with fail
 refine (HM _ (hy.below (have := Beh.mk hbw; zbh)) (hT.below (have := Beh.mk hbw; zbh))).out.mono ?_
 rintro e w2 ⟨a2, c2, rfl, hm2, hb2, hf2⟩
 obtain ⟨hc2, hz2⟩ := zA8 (hb2.mono (show w.heap.size + 4 ≤ _ by simpa using hg1))
 have hfr2 : 0 < nl (zA1 d').natAbs → w.heap.size + 4 ≤ ab a2 := fun h => by have := hf2 h; simp at this; omega
 obtain ⟨q0, q1, q2, q3, q4, q5, q6, q7⟩ : (w2.cell? ⟨w.heap.size + 1 + 1, 0, none⟩ = some (.bool (zA3 d)) ∧ w2.cell? ⟨w.heap.size + 1 + 1, 1, none⟩ = some (.bool (decide (zA1 d < 0))) ∧ w2.cell? ⟨w.heap.size + 1 + 1, 2, none⟩ = some (.slice a1 (nl (zA1 d).natAbs) c1) ∧ w2.cell? ⟨w.heap.size + 1 + 1, 3, none⟩ = some (.int .i64 (zA2 d))
  ∧ w2.cell? ⟨w.heap.size + 1 + 1 + 1, 0, none⟩ = some (.bool false) ∧ w2.cell? ⟨w.heap.size + 1 + 1 + 1, 1, none⟩ = some (.bool false) ∧ w2.cell? ⟨w.heap.size + 1 + 1 + 1, 2, none⟩ = some (.slice none 0 0) ∧ w2.cell? ⟨w.heap.size + 1 + 1 + 1, 3, none⟩ = some (.int .i64 0)) := by
  refine ⟨?_, ?_, ?_, ?_, ?_, ?_, ?_, ?_⟩ <;> go_simp
 clear hc2 hc1
 have hm1' : Mag w2 a1 (nl (zA1 d).natAbs) c1 (zA1 d).natAbs := Mag.below (by repeat (with_reducible first | refine Mag.set ?_ (fun h => by have := hfr1 h; omega) _ _ | refine Mag.drew ?_ | refine Mag.alloc ?_ _ | refine Mag.drewN ?_ _ | refine Mag.below ?_ (Below.drew (Below.refl _ _)) | refine Mag.below ?_ ((Below.refl _ _).alloc (Nat.le_refl _) _) | exact hm1)) hb2
 have hbw2 := zA0 (w := w) (have := Beh.mk hbw; zbh) hb2
 clear hbw
 have hbw := hbw2
 have hg2 : w.heap.size + 4 ≤ w2.heap.size := by have := hb2.size; simp at this; omega
 go_wp2_with fail
 go_big_region
 all_goals go_wp2_with fail
 all_goals (
  refine zAa (v := .tuple #[.agg #[.bool (zA3 d), .bool (decide (zA1 d < 0)), .slice a1 (nl (zA1 d).natAbs) c1, .int .i64 (zA2 d)], .agg #[.bool (zA3 d'), .bool (decide (zA1 d' < 0)), .slice a2 (nl (zA1 d').natAbs) c2, .int .i64 (zA2 d')], .bool (!zA3 d && !zA3 d')]) (by simp only [results, Tryz.results119]; go_simp) rfl ?_
  exact ⟨a1, c1, a2, c2, rfl, (by repeat (with_reducible first | refine Mag.set ?_ (fun h => by have := hfr1 h; omega) _ _ | refine Mag.drew ?_ | refine Mag.alloc ?_ _ | refine Mag.drewN ?_ _ | refine Mag.below ?_ (Below.drew (Below.refl _ _)) | refine Mag.below ?_ ((Below.refl _ _).alloc (Nat.le_refl _) _) | exact hm1')), (by repeat (with_reducible first | refine Mag.set ?_ (fun h => by have := hfr2 h; omega) _ _ | refine Mag.drew ?_ | refine Mag.alloc ?_ _ | refine Mag.drewN ?_ _ | refine Mag.below ?_ (Below.drew (Below.refl _ _)) | refine Mag.below ?_ ((Below.refl _ _).alloc (Nat.le_refl _) _) | exact hm2)), (by have hszw := hbw.size; repeat (with_reducible first | refine Below.setCell ?_ (by first | omega | (simp <;> omega)) _ | refine Below.alloc ?_ (by first | omega | (simp <;> omega)) _ | refine Below.drew ?_ | refine below_drewN ?_ _ | exact hbw)), fun h => by have := hfr1 h; omega, fun h => by have := hfr2 h; omega⟩)
theorem zN2 (w : World) (bd s bd' s' : Bool) (a a' : Option Addr) (n n' cap cap' : Nat) (e e' : Int) (d d' : Option (Int × Int)) (hx : DyIn w bd s a n cap e d) (hy : DyIn w bd' s' a' n' cap' e' d') (hT : Tab w) :
 Calls Tryz.prog 119 #[.agg #[.bool bd, .bool s, .slice a n cap, .int .i64 e], .agg #[.bool bd', .bool s', .slice a' n' cap', .int .i64 e']] w (zLc w d d') := by
 cases h : zA3 d
 · exact zPe w bd s bd' s' a a' n n' cap cap' e e' d d' hx hy hT h
 · exact zPd w bd s bd' s' a a' n n' cap cap' e e' d d' hx hy hT h
def zP2 (w : World) (b : Bool) (z f : Int) (e : Ending) (w' : World) : Prop :=
 ∃ a c, e = .returned (.tuple #[.agg #[.bool b, .bool (decide (z < 0)), .slice a (nl z.natAbs) c, .int .i64 f], .bool (!b)]) ∧ Mag w' a (nl z.natAbs) c z.natAbs ∧ Below w.heap.size w w' ∧ (0 < nl z.natAbs → w.heap.size ≤ ab a)
theorem zJY (w : World) {bd s : Bool} {a : Option Addr} {n cap : Nat} {e : Int} {d : Option (Int × Int)} (h : DyIn w bd s a n cap e d) (hT : Tab w) (b : Bool) (z f : Int) (hb : zA3 d = b) (hz : zA1 d = z) (hf : zA2 d = f) :
 Calls Tryz.prog 116 #[.agg #[.bool bd, .bool s, .slice a n cap, .int .i64 e]] w (zP2 w b z f) := by
 subst hb hz hf; exact zDt w h hT
def zO2 (w : World) (b : Bool) (z f : Int) (b' : Bool) (z' f' : Int) (k : Bool) (e : Ending) (w' : World) : Prop :=
 ∃ a c a' c', e = .returned (.tuple #[.agg #[.bool b, .bool (decide (z < 0)), .slice a (nl z.natAbs) c, .int .i64 f], .agg #[.bool b', .bool (decide (z' < 0)), .slice a' (nl z'.natAbs) c', .int .i64 f'], .bool k]) ∧ Mag w' a (nl z.natAbs) c z.natAbs ∧ Mag w' a' (nl z'.natAbs) c' z'.natAbs ∧ Below w.heap.size w w' ∧ (0 < nl z.natAbs → w.heap.size ≤ ab a) ∧ (0 < nl z'.natAbs → w.heap.size ≤ ab a')
theorem zLl (w : World) {bd s bd' s' : Bool} {a a' : Option Addr} {n n' cap cap' : Nat} {e e' : Int} {d d' : Option (Int × Int)} (hx : DyIn w bd s a n cap e d) (hy : DyIn w bd' s' a' n' cap' e' d') (hT : Tab w) (b : Bool) (z f : Int) (hb : zA3 d = b) (hz : zA1 d = z) (hf : zA2 d = f) (b' : Bool) (z' f' : Int) (hb' : zA3 d' = b') (hz' : zA1 d' = z') (hf' : zA2 d' = f') (k : Bool) (hk : (!b && !b') = k) :
 Calls Tryz.prog 119 #[.agg #[.bool bd, .bool s, .slice a n cap, .int .i64 e], .agg #[.bool bd', .bool s', .slice a' n' cap', .int .i64 e']] w (zO2 w b z f b' z' f' k) := by
 subst hb hz hf hb' hz' hf' hk; exact zN2 w bd s bd' s' a a' n n' cap cap' e e' d d' hx hy hT
theorem zAz {x : Nat} (h : zA4 x ≤ 1048576) : nl x ≤ 1099511627776 := Nat.le_trans (zAe x) (by omega)
theorem zOm {w w' : World} {d : Option (Int × Int)} {a : Option Addr} {c : Nat} (b : Bool) (z f : Int) (hb : zA3 d = b) (hz : zA1 d = z) (hf : zA2 d = f) (hm : Mag w' a (nl z.natAbs) c z.natAbs) (hw : Below w.heap.size w w') (hfr : 0 < nl z.natAbs → w.heap.size ≤ ab a) :
 zAy w d (.returned (.agg #[.bool b, .bool (decide (z < 0)), .slice a (nl z.natAbs) c, .int .i64 f])) w' := by
 subst hb hz hf; exact ⟨a, c, rfl, hm, hw, hfr⟩
theorem zJA {w w' : World} {d : Option (Int × Int)} (hd : d = none) (hw : Below w.heap.size w w') :
 zAy w d (.returned (.agg #[.bool true, .bool false, .slice none 0 0, .int .i64 0])) w' := by
 subst hd; exact ⟨none, 0, rfl, Mag.nil _, hw, nl0⟩
end Go.Proofs.YtablcbgeeeboeaaGreatDoor
namespace Go.Proofs.YtablcbgeeeboeaaGreatDoor
open Go.RowKit Sp
theorem zLP (w : World) (s : Bool) (a : Option Addr) (n cap x : Nat) (e : Int) (hx : Mag w a n cap x) (hlim : n ≤ 1099511627776) (hT : Tab w) (hB : zA4 x ≤ 1048576) (hTz : tz x ≤ 1048576) (he0 : -9223372036854775808 ≤ e) (he1 : e ≤ 9223372036854775807) :
 Calls Tryz.prog 122 #[.agg #[.bool s, .slice a n cap], .int .i64 e] w (zAy w (nrm (sgn s x) e)) := by
 have e2 : ¬ w.heap.size + 1 = w.heap.size := by omega
 have HN := fun W h ht => Lib.hid (zDi W false s a n cap x e h hlim ht hB hTz he0 he1)
 have ez : zFm false (sgn s x) e = nrm (sgn s x) e := rfl
 rw [ez] at HN
 obtain ⟨d, hd⟩ : ∃ d, d = nrm (sgn s x) e := ⟨_, rfl⟩
 rw [← hd] at HN ⊢
 clear hd ez
 go_enter Tryz.func122, Tryz.ntmps122
 go_wp2_with fail
 refine (HN _ (hx.below zbh) (hT.below zbh)).out.mono ?_
 rintro e w1 ⟨a1, c1, rfl, hm1, hb, hf1⟩
 obtain ⟨hc1, hz1⟩ := zA8 (hb.mono (show w.heap.size + 2 ≤ _ by simp))
 have hg1 : w.heap.size + 2 ≤ w1.heap.size := by have := hb.size; simpa using this
 obtain ⟨g1, g2, g3, g4, l1, l2, l3⟩ := zOw hg1
 have hfr : 0 < nl (zA1 d).natAbs → w.heap.size + 2 ≤ ab a1 := fun h => by have := hf1 h; simpa using this
 have hbw := zA0 (w := w) zbh hb
 go_wp2_with fail
 refine bodyPost_ret (v := .agg #[.bool (zA3 d), .bool (decide (zA1 d < 0)), .slice a1 (nl (zA1 d).natAbs) c1, .int .i64 (zA2 d)]) (by simp [results, Tryz.results122, go_sem, hc1, l2]) rfl ?_
 exact ⟨a1, c1, rfl, (by repeat (with_reducible first | refine Mag.set ?_ (fun h => by have := hfr h; omega) _ _ | refine Mag.drew ?_ | refine Mag.alloc ?_ _ | refine Mag.drewN ?_ _ | refine Mag.below ?_ (Below.drew (Below.refl _ _)) | refine Mag.below ?_ ((Below.refl _ _).alloc (Nat.le_refl _) _) | exact hm1)), (by have hszw := hbw.size; repeat (with_reducible first | refine Below.setCell ?_ (by first | omega | (simp <;> omega)) _ | refine Below.alloc ?_ (by first | omega | (simp <;> omega)) _ | refine Below.drew ?_ | refine below_drewN ?_ _ | exact hbw)), fun h => by have := hfr h; omega⟩
theorem zCJ (w : World) (bd s : Bool) (a : Option Addr) (n cap x : Nat) (e : Int) (hx : Mag w a n cap x) (hlim : n ≤ 1099511627776) (hT : Tab w) (hB : zA4 x ≤ 1048576) (hTz : tz x ≤ 1048576) (he0 : -9223372036854775808 ≤ e) (he1 : e ≤ 9223372036854775807) :
 Calls Tryz.prog 67 #[.agg #[.bool bd, .bool s, .slice a n cap, .int .i64 e]] w fun o w' => o = .returned (.bool (!zA3 (zFm bd (sgn s x) e))) ∧ Below w.heap.size w w' := by
 have HN := fun W h ht => Lib.hid (zDi W bd s a n cap x e h hlim ht hB hTz he0 he1)
 obtain ⟨d, hd⟩ : ∃ d, d = zFm bd (sgn s x) e := ⟨_, rfl⟩
 rw [← hd] at HN ⊢
 clear hd
 go_enter Tryz.func67, Tryz.ntmps67
 go_wp2_with fail
 refine (HN _ (hx.below zbh) (hT.below zbh)).out.mono ?_
 rintro e w1 ⟨a1, c1, rfl, hm1, hb, hf1⟩
 have hbw := zA0 (w := w) zbh hb
 go_wp2_with fail
 go_ret
 exact ⟨rfl, (have := Beh.mk hbw; zbh)⟩
theorem zKT (w : World) (bd s : Bool) (a : Option Addr) (n cap x : Nat) (e : Int) (hx : Mag w a n cap x) (hlim : n ≤ 1099511627776) (hT : Tab w) (hB : zA4 x ≤ 1048576) (hTz : tz x ≤ 1048576) (he0 : -9223372036854775808 ≤ e) (he1 : e ≤ 9223372036854775807) :
 Calls Tryz.prog 72 #[.agg #[.bool bd, .bool s, .slice a n cap, .int .i64 e]] w (zAy w (zFm bd (sgn s x) e)) := by
 have e2 : ¬ w.heap.size + 1 = w.heap.size := by omega
 have e3 : ¬ w.heap.size = w.heap.size + 1 := by omega
 have HN := fun W h ht => Lib.hid (zDi W bd s a n cap x e h hlim ht hB hTz he0 he1)
 obtain ⟨d, hd⟩ : ∃ d, d = zFm bd (sgn s x) e := ⟨_, rfl⟩
 rw [← hd] at HN ⊢
 clear hd
 go_enter Tryz.func72, Tryz.ntmps72
 go_wp2_with fail
 refine (HN _ (hx.below zbh) (hT.below zbh)).out.mono ?_
 rintro e w1 ⟨a1, c1, rfl, hm1, hb, hf1⟩
 obtain ⟨hc1, hz1⟩ := zA8 (hb.mono (show w.heap.size + 2 ≤ _ by simp))
 have hfr : 0 < nl (zA1 d).natAbs → w.heap.size + 2 ≤ ab a1 := fun h => by have := hf1 h; simpa using this
 have hbw := zA0 (w := w) zbh hb
 go_wp2_with fail
 refine bodyPost_ret (v := .agg #[.bool (zA3 d), .bool (decide (zA1 d < 0)), .slice a1 (nl (zA1 d).natAbs) c1, .int .i64 (zA2 d)]) (by simp [results, Tryz.results72, go_sem, hc1]) rfl ?_
 exact ⟨a1, c1, rfl, (by repeat (with_reducible first | refine Mag.set ?_ (fun h => by have := hfr h; omega) _ _ | refine Mag.drew ?_ | refine Mag.alloc ?_ _ | refine Mag.drewN ?_ _ | refine Mag.below ?_ (Below.drew (Below.refl _ _)) | refine Mag.below ?_ ((Below.refl _ _).alloc (Nat.le_refl _) _) | exact hm1)), (by have hszw := hbw.size; repeat (with_reducible first | refine Below.setCell ?_ (by first | omega | (simp <;> omega)) _ | refine Below.alloc ?_ (by first | omega | (simp <;> omega)) _ | refine Below.drew ?_ | refine below_drewN ?_ _ | exact hbw)), fun h => by have := hfr h; omega⟩
end Go.Proofs.YtablcbgeeeboeaaGreatDoor

/-
  Walks: package dyad: Neg, Abs, Sign, Scale, Floor.
-/
import Derived.Test.YtjhngehajahbnaaDoorTwo
import Derived.Test.YtjhngehajahbnaaDoorMake
namespace Go.Proofs.YtjhngehajahbnaaDoor
open Go.RowKit Sp

theorem neg_z (w : World) (a : Option Addr) (cap : Nat) (z y : Int) (hy : y = -z) (hm : Mag w a (nl z.natAbs) cap z.natAbs) (hl : nl z.natAbs ≤ 1099511627776) :
    Calls Tryd.prog 62 #[.agg #[.bool (decide (z < 0)), .slice a (nl z.natAbs) cap]] w (RetBig w y) := by
  have h := neg_any w (decide (z < 0)) a _ cap _ hm hl
  rwa [sgn_not, sgn_self, ← hy] at h
theorem abs_z (w : World) (a : Option Addr) (cap : Nat) (z y : Int) (hy : y = (z.natAbs : Int)) (hm : Mag w a (nl z.natAbs) cap z.natAbs) (hl : nl z.natAbs ≤ 1099511627776) :
    Calls Tryd.prog 65 #[.agg #[.bool (decide (z < 0)), .slice a (nl z.natAbs) cap]] w (RetBig w y) := by
  have h := abs_any w (decide (z < 0)) a _ cap _ hm hl
  rwa [show sgn false z.natAbs = y by rw [hy]; rfl] at h

set_option maxRecDepth 100000 in
set_option maxHeartbeats 2000000 in
theorem dneg_bad (w : World) (bd s : Bool) (a : Option Addr) (n cap : Nat) (e : Int) (hx : DyIn w bd s a n cap e none) (hT : Tab w) :
    Calls Tryd.prog 32 #[.agg #[.bool bd, .bool s, .slice a n cap, .int .i64 e]] w (RetDy w none) := by
  have e2 : ¬ w.heap.size + 1 = w.heap.size := by omega
  have HN := fun W h ht => Lib.hid (@norm_v W bd s a n cap e none h ht true 0 0 rfl rfl rfl)
  go_enter Tryd.func32, Tryd.ntmps32
  go_wp2_with fail
  refine (HN _ (hx.below (by repeat (with_reducible first | refine Below.setCell ?_ (by simp <;> omega) _ | refine Below.alloc ?_ (by simp <;> omega) _ | refine Below.drew ?_ | refine below_drewN ?_ _ | exact Below.refl _ _))) (hT.below (by repeat (with_reducible first | refine Below.setCell ?_ (by simp <;> omega) _ | refine Below.alloc ?_ (by simp <;> omega) _ | refine Below.drew ?_ | refine below_drewN ?_ _ | exact Below.refl _ _)))).out.mono ?_
  rintro e w1 ⟨a1, c1, rfl, hm1, hb, hf1⟩
  obtain ⟨hc1, hz1⟩ := bcell (hb.mono (show w.heap.size + 2 ≤ _ by simp))
  have hbw := below_box (w := w) (by repeat (with_reducible first | refine Below.setCell ?_ (by simp <;> omega) _ | refine Below.alloc ?_ (by simp <;> omega) _ | refine Below.drew ?_ | refine below_drewN ?_ _ | exact Below.refl _ _)) hb
  go_wp2_with fail
  refine bodyPost_ret (v := .agg #[.bool true, .bool false, .slice a1 (nl 0) c1, .int .i64 0]) (by simp only [results, Tryd.results32]; go_simp) rfl ?_
  exact ⟨a1, c1, rfl, Mag.empty _ _ _ hm1.lim, (by have hszw := hbw.size; repeat (with_reducible first | refine Below.setCell ?_ (by first | omega | (simp <;> omega)) _ | refine Below.alloc ?_ (by first | omega | (simp <;> omega)) _ | refine Below.drew ?_ | refine below_drewN ?_ _ | exact hbw)), nl0⟩

set_option maxRecDepth 100000 in
set_option maxHeartbeats 2000000 in
theorem dneg_ok (w : World) (bd s : Bool) (a : Option Addr) (n cap : Nat) (e z f y : Int) (hx : DyIn w bd s a n cap e (some (z, f))) (hT : Tab w) (hy : y = -z) :
    Calls Tryd.prog 32 #[.agg #[.bool bd, .bool s, .slice a n cap, .int .i64 e]] w (RetDy w (some (y, f))) := by
  have e2 : ¬ w.heap.size + 1 = w.heap.size := by omega
  have hl := nl_lim (Nat.le_trans (isN_bounds hx.isN).1 (by omega))
  have HN := fun W h ht => Lib.hid (@norm_v W bd s a n cap e (some (z, f)) h ht false z f rfl rfl rfl)
  have HG := fun W b c h => Lib.hid (neg_z W b c z y hy h hl)
  clear hy
  go_enter Tryd.func32, Tryd.ntmps32
  go_wp2_with fail
  refine (HN _ (hx.below (by repeat (with_reducible first | refine Below.setCell ?_ (by simp <;> omega) _ | refine Below.alloc ?_ (by simp <;> omega) _ | refine Below.drew ?_ | refine below_drewN ?_ _ | exact Below.refl _ _))) (hT.below (by repeat (with_reducible first | refine Below.setCell ?_ (by simp <;> omega) _ | refine Below.alloc ?_ (by simp <;> omega) _ | refine Below.drew ?_ | refine below_drewN ?_ _ | exact Below.refl _ _)))).out.mono ?_
  rintro e w1 ⟨a1, c1, rfl, hm1, hb, hf1⟩
  obtain ⟨hc1, hz1⟩ := bcell (hb.mono (show w.heap.size + 2 ≤ _ by simp))
  have hg1 : w.heap.size + 2 ≤ w1.heap.size := by have := hb.size; simpa using this
  have hfr1 : 0 < nl z.natAbs → w.heap.size + 2 ≤ ab a1 := fun h => by have := hf1 h; simpa using this
  have hbw := below_box (w := w) (by repeat (with_reducible first | refine Below.setCell ?_ (by simp <;> omega) _ | refine Below.alloc ?_ (by simp <;> omega) _ | refine Below.drew ?_ | refine below_drewN ?_ _ | exact Below.refl _ _)) hb
  go_wp2_with fail
  refine (HG _ a1 c1 (by repeat (with_reducible first | refine Mag.set ?_ (fun h => by have := hfr1 h; omega) _ _ | refine Mag.drew ?_ | refine Mag.alloc ?_ _ | refine Mag.drewN ?_ _ | refine Mag.below ?_ (Below.drew (Below.refl _ _)) | refine Mag.below ?_ ((Below.refl _ _).alloc (Nat.le_refl _) _) | exact hm1))).out.mono ?_
  rintro e w2 ⟨a2, c2, rfl, hm2, hb2, hf2⟩
  obtain ⟨hc2, hz2⟩ := bcell (hb2.mono (show w.heap.size + 2 ≤ _ by simpa using hg1))
  have hfr2 : 0 < nl y.natAbs → w.heap.size + 2 ≤ ab a2 := fun h => by have := hf2 h; simp at this; omega
  have hbw2 := below_box (w := w) (by have hszw := hbw.size; repeat (with_reducible first | refine Below.setCell ?_ (by first | omega | (simp <;> omega)) _ | refine Below.alloc ?_ (by first | omega | (simp <;> omega)) _ | refine Below.drew ?_ | refine below_drewN ?_ _ | exact hbw)) hb2
  clear hbw
  have hbw := hbw2
  go_wp2_with fail
  refine bodyPost_ret (v := .agg #[.bool false, .bool (decide (y < 0)), .slice a2 (nl y.natAbs) c2, .int .i64 f]) (by simp only [results, Tryd.results32]; go_simp) rfl ?_
  exact ret_dy false y f rfl rfl rfl (by repeat (with_reducible first | refine Mag.set ?_ (fun h => by have := hfr2 h; omega) _ _ | refine Mag.drew ?_ | refine Mag.alloc ?_ _ | refine Mag.drewN ?_ _ | refine Mag.below ?_ (Below.drew (Below.refl _ _)) | refine Mag.below ?_ ((Below.refl _ _).alloc (Nat.le_refl _) _) | exact hm2)) (by have hszw := hbw.size; repeat (with_reducible first | refine Below.setCell ?_ (by first | omega | (simp <;> omega)) _ | refine Below.alloc ?_ (by first | omega | (simp <;> omega)) _ | refine Below.drew ?_ | refine below_drewN ?_ _ | exact hbw)) (fun h => by have := hfr2 h; omega)

theorem dneg_any (w : World) (bd s : Bool) (a : Option Addr) (n cap : Nat) (e : Int) (d : Option (Int × Int)) (hx : DyIn w bd s a n cap e d) (hT : Tab w) :
    Calls Tryd.prog 32 #[.agg #[.bool bd, .bool s, .slice a n cap, .int .i64 e]] w (RetDy w (dneg d)) := by
  rcases d with _ | ⟨z, f⟩
  · exact dneg_bad w bd s a n cap e hx hT
  · exact dneg_ok w bd s a n cap e z f _ hx hT rfl

set_option maxRecDepth 100000 in
set_option maxHeartbeats 2000000 in
theorem dabs_bad (w : World) (bd s : Bool) (a : Option Addr) (n cap : Nat) (e : Int) (hx : DyIn w bd s a n cap e none) (hT : Tab w) :
    Calls Tryd.prog 37 #[.agg #[.bool bd, .bool s, .slice a n cap, .int .i64 e]] w (RetDy w none) := by
  have e2 : ¬ w.heap.size + 1 = w.heap.size := by omega
  have HN := fun W h ht => Lib.hid (@norm_v W bd s a n cap e none h ht true 0 0 rfl rfl rfl)
  go_enter Tryd.func37, Tryd.ntmps37
  go_wp2_with fail
  refine (HN _ (hx.below (by repeat (with_reducible first | refine Below.setCell ?_ (by simp <;> omega) _ | refine Below.alloc ?_ (by simp <;> omega) _ | refine Below.drew ?_ | refine below_drewN ?_ _ | exact Below.refl _ _))) (hT.below (by repeat (with_reducible first | refine Below.setCell ?_ (by simp <;> omega) _ | refine Below.alloc ?_ (by simp <;> omega) _ | refine Below.drew ?_ | refine below_drewN ?_ _ | exact Below.refl _ _)))).out.mono ?_
  rintro e w1 ⟨a1, c1, rfl, hm1, hb, hf1⟩
  obtain ⟨hc1, hz1⟩ := bcell (hb.mono (show w.heap.size + 2 ≤ _ by simp))
  have hbw := below_box (w := w) (by repeat (with_reducible first | refine Below.setCell ?_ (by simp <;> omega) _ | refine Below.alloc ?_ (by simp <;> omega) _ | refine Below.drew ?_ | refine below_drewN ?_ _ | exact Below.refl _ _)) hb
  go_wp2_with fail
  refine bodyPost_ret (v := .agg #[.bool true, .bool false, .slice a1 (nl 0) c1, .int .i64 0]) (by simp only [results, Tryd.results37]; go_simp) rfl ?_
  exact ⟨a1, c1, rfl, Mag.empty _ _ _ hm1.lim, (by have hszw := hbw.size; repeat (with_reducible first | refine Below.setCell ?_ (by first | omega | (simp <;> omega)) _ | refine Below.alloc ?_ (by first | omega | (simp <;> omega)) _ | refine Below.drew ?_ | refine below_drewN ?_ _ | exact hbw)), nl0⟩

set_option maxRecDepth 100000 in
set_option maxHeartbeats 2000000 in
theorem dabs_ok (w : World) (bd s : Bool) (a : Option Addr) (n cap : Nat) (e z f y : Int) (hx : DyIn w bd s a n cap e (some (z, f))) (hT : Tab w) (hy : y = (z.natAbs : Int)) :
    Calls Tryd.prog 37 #[.agg #[.bool bd, .bool s, .slice a n cap, .int .i64 e]] w (RetDy w (some (y, f))) := by
  have e2 : ¬ w.heap.size + 1 = w.heap.size := by omega
  have hl := nl_lim (Nat.le_trans (isN_bounds hx.isN).1 (by omega))
  have HN := fun W h ht => Lib.hid (@norm_v W bd s a n cap e (some (z, f)) h ht false z f rfl rfl rfl)
  have HG := fun W b c h => Lib.hid (abs_z W b c z y hy h hl)
  clear hy
  go_enter Tryd.func37, Tryd.ntmps37
  go_wp2_with fail
  refine (HN _ (hx.below (by repeat (with_reducible first | refine Below.setCell ?_ (by simp <;> omega) _ | refine Below.alloc ?_ (by simp <;> omega) _ | refine Below.drew ?_ | refine below_drewN ?_ _ | exact Below.refl _ _))) (hT.below (by repeat (with_reducible first | refine Below.setCell ?_ (by simp <;> omega) _ | refine Below.alloc ?_ (by simp <;> omega) _ | refine Below.drew ?_ | refine below_drewN ?_ _ | exact Below.refl _ _)))).out.mono ?_
  rintro e w1 ⟨a1, c1, rfl, hm1, hb, hf1⟩
  obtain ⟨hc1, hz1⟩ := bcell (hb.mono (show w.heap.size + 2 ≤ _ by simp))
  have hg1 : w.heap.size + 2 ≤ w1.heap.size := by have := hb.size; simpa using this
  have hfr1 : 0 < nl z.natAbs → w.heap.size + 2 ≤ ab a1 := fun h => by have := hf1 h; simpa using this
  have hbw := below_box (w := w) (by repeat (with_reducible first | refine Below.setCell ?_ (by simp <;> omega) _ | refine Below.alloc ?_ (by simp <;> omega) _ | refine Below.drew ?_ | refine below_drewN ?_ _ | exact Below.refl _ _)) hb
  go_wp2_with fail
  refine (HG _ a1 c1 (by repeat (with_reducible first | refine Mag.set ?_ (fun h => by have := hfr1 h; omega) _ _ | refine Mag.drew ?_ | refine Mag.alloc ?_ _ | refine Mag.drewN ?_ _ | refine Mag.below ?_ (Below.drew (Below.refl _ _)) | refine Mag.below ?_ ((Below.refl _ _).alloc (Nat.le_refl _) _) | exact hm1))).out.mono ?_
  rintro e w2 ⟨a2, c2, rfl, hm2, hb2, hf2⟩
  obtain ⟨hc2, hz2⟩ := bcell (hb2.mono (show w.heap.size + 2 ≤ _ by simpa using hg1))
  have hfr2 : 0 < nl y.natAbs → w.heap.size + 2 ≤ ab a2 := fun h => by have := hf2 h; simp at this; omega
  have hbw2 := below_box (w := w) (by have hszw := hbw.size; repeat (with_reducible first | refine Below.setCell ?_ (by first | omega | (simp <;> omega)) _ | refine Below.alloc ?_ (by first | omega | (simp <;> omega)) _ | refine Below.drew ?_ | refine below_drewN ?_ _ | exact hbw)) hb2
  clear hbw
  have hbw := hbw2
  go_wp2_with fail
  refine bodyPost_ret (v := .agg #[.bool false, .bool (decide (y < 0)), .slice a2 (nl y.natAbs) c2, .int .i64 f]) (by simp only [results, Tryd.results37]; go_simp) rfl ?_
  exact ret_dy false y f rfl rfl rfl (by repeat (with_reducible first | refine Mag.set ?_ (fun h => by have := hfr2 h; omega) _ _ | refine Mag.drew ?_ | refine Mag.alloc ?_ _ | refine Mag.drewN ?_ _ | refine Mag.below ?_ (Below.drew (Below.refl _ _)) | refine Mag.below ?_ ((Below.refl _ _).alloc (Nat.le_refl _) _) | exact hm2)) (by have hszw := hbw.size; repeat (with_reducible first | refine Below.setCell ?_ (by first | omega | (simp <;> omega)) _ | refine Below.alloc ?_ (by first | omega | (simp <;> omega)) _ | refine Below.drew ?_ | refine below_drewN ?_ _ | exact hbw)) (fun h => by have := hfr2 h; omega)

theorem dabs_any (w : World) (bd s : Bool) (a : Option Addr) (n cap : Nat) (e : Int) (d : Option (Int × Int)) (hx : DyIn w bd s a n cap e d) (hT : Tab w) :
    Calls Tryd.prog 37 #[.agg #[.bool bd, .bool s, .slice a n cap, .int .i64 e]] w (RetDy w (dabs d)) := by
  rcases d with _ | ⟨z, f⟩
  · exact dabs_bad w bd s a n cap e hx hT
  · exact dabs_ok w bd s a n cap e z f _ hx hT rfl

set_option maxRecDepth 100000 in
set_option maxHeartbeats 2000000 in
theorem dsign_any (w : World) (bd s : Bool) (a : Option Addr) (n cap : Nat) (e : Int) (d : Option (Int × Int)) (hx : DyIn w bd s a n cap e d) (hT : Tab w) :
    Calls Tryd.prog 31 #[.agg #[.bool bd, .bool s, .slice a n cap, .int .i64 e]] w fun o w' => o = .returned (.int .i64 (cmpI (dman d) 0)) ∧ Below w.heap.size w w' := by
  have HN := fun W h ht => Lib.hid (@norm_v W bd s a n cap e d h ht _ _ _ rfl rfl rfl)
  obtain ⟨b, hb0⟩ : ∃ b, b = dbad d := ⟨_, rfl⟩
  obtain ⟨z, hz0⟩ : ∃ z, z = dman d := ⟨_, rfl⟩
  obtain ⟨f, hf0⟩ : ∃ f, f = dexp d := ⟨_, rfl⟩
  rw [← hb0, ← hz0, ← hf0] at HN
  rw [← hz0]
  clear hb0 hz0 hf0
  have HG := fun W b c h => Lib.hid (sign_z W b c z h)
  obtain ⟨g, hg⟩ : ∃ g, g = sg z := ⟨_, rfl⟩
  rw [← hg] at HG
  rw [show cmpI z 0 = g from hg.symm]
  clear hg
  go_enter Tryd.func31, Tryd.ntmps31
  go_wp2_with fail
  refine (HN _ (hx.below (by repeat (with_reducible first | refine Below.setCell ?_ (by simp <;> omega) _ | refine Below.alloc ?_ (by simp <;> omega) _ | refine Below.drew ?_ | refine below_drewN ?_ _ | exact Below.refl _ _))) (hT.below (by repeat (with_reducible first | refine Below.setCell ?_ (by simp <;> omega) _ | refine Below.alloc ?_ (by simp <;> omega) _ | refine Below.drew ?_ | refine below_drewN ?_ _ | exact Below.refl _ _)))).out.mono ?_
  rintro e w1 ⟨a1, c1, rfl, hm1, hb, hf1⟩
  obtain ⟨hc1, hz1⟩ := bcell (hb.mono (show w.heap.size + 1 ≤ _ by simp))
  have hfr1 : 0 < nl z.natAbs → w.heap.size + 1 ≤ ab a1 := fun h => by have := hf1 h; simpa using this
  have hbw := below_box (w := w) (by repeat (with_reducible first | refine Below.setCell ?_ (by simp <;> omega) _ | refine Below.alloc ?_ (by simp <;> omega) _ | refine Below.drew ?_ | refine below_drewN ?_ _ | exact Below.refl _ _)) hb
  go_wp2_with fail
  refine (HG _ a1 c1 (by repeat (with_reducible first | refine Mag.set ?_ (fun h => by have := hfr1 h; omega) _ _ | refine Mag.drew ?_ | refine Mag.alloc ?_ _ | refine Mag.drewN ?_ _ | refine Mag.below ?_ (Below.drew (Below.refl _ _)) | refine Mag.below ?_ ((Below.refl _ _).alloc (Nat.le_refl _) _) | exact hm1))).out.mono ?_
  rintro e w2 ⟨rfl, hb2⟩
  have hbw2 := below_box (w := w) (by have hszw := hbw.size; repeat (with_reducible first | refine Below.setCell ?_ (by first | omega | (simp <;> omega)) _ | refine Below.alloc ?_ (by first | omega | (simp <;> omega)) _ | refine Below.drew ?_ | refine below_drewN ?_ _ | exact hbw)) hb2
  clear hbw
  have hbw := hbw2
  go_wp2_with fail
  go_ret
  exact ⟨rfl, (by have hszw := hbw.size; repeat (with_reducible first | refine Below.setCell ?_ (by first | omega | (simp <;> omega)) _ | refine Below.alloc ?_ (by first | omega | (simp <;> omega)) _ | refine Below.drew ?_ | refine below_drewN ?_ _ | exact hbw))⟩

set_option maxRecDepth 100000 in
set_option maxHeartbeats 2000000 in
theorem dscale_bad (w : World) (bd s : Bool) (a : Option Addr) (n cap : Nat) (e k : Int) (hx : DyIn w bd s a n cap e none) (hT : Tab w) :
    Calls Tryd.prog 33 #[.agg #[.bool bd, .bool s, .slice a n cap, .int .i64 e], .int .i64 k] w (RetDy w none) := by
  have e2 : ¬ w.heap.size + 1 = w.heap.size := by omega
  have HN := fun W h ht => Lib.hid (@norm_v W bd s a n cap e none h ht true 0 0 rfl rfl rfl)
  go_enter Tryd.func33, Tryd.ntmps33
  go_wp2_with fail
  refine (HN _ (hx.below (by repeat (with_reducible first | refine Below.setCell ?_ (by simp <;> omega) _ | refine Below.alloc ?_ (by simp <;> omega) _ | refine Below.drew ?_ | refine below_drewN ?_ _ | exact Below.refl _ _))) (hT.below (by repeat (with_reducible first | refine Below.setCell ?_ (by simp <;> omega) _ | refine Below.alloc ?_ (by simp <;> omega) _ | refine Below.drew ?_ | refine below_drewN ?_ _ | exact Below.refl _ _)))).out.mono ?_
  rintro e w1 ⟨a1, c1, rfl, hm1, hb, hf1⟩
  obtain ⟨hc1, hz1⟩ := bcell (hb.mono (show w.heap.size + 2 ≤ _ by simp))
  have hg1 : w.heap.size + 2 ≤ w1.heap.size := by have := hb.size; simpa using this
  have hbw := below_box (w := w) (by repeat (with_reducible first | refine Below.setCell ?_ (by simp <;> omega) _ | refine Below.alloc ?_ (by simp <;> omega) _ | refine Below.drew ?_ | refine below_drewN ?_ _ | exact Below.refl _ _)) hb
  go_wp2_with fail
  refine (bad_any _).mono ?_
  rintro e w2 ⟨rfl, hb2⟩
  obtain ⟨hc2, hz2⟩ := bcell (hb2.mono (show w.heap.size + 2 ≤ _ by simpa using hg1))
  have hbw2 := below_box (w := w) (by have hszw := hbw.size; repeat (with_reducible first | refine Below.setCell ?_ (by first | omega | (simp <;> omega)) _ | refine Below.alloc ?_ (by first | omega | (simp <;> omega)) _ | refine Below.drew ?_ | refine below_drewN ?_ _ | exact hbw)) hb2
  clear hbw
  have hbw := hbw2
  go_wp2_with fail
  refine bodyPost_ret (v := .agg #[.bool true, .bool false, .slice none 0 0, .int .i64 0]) (by simp only [results, Tryd.results33]; go_simp) rfl ?_
  exact ret_bad rfl (by have hszw := hbw.size; repeat (with_reducible first | refine Below.setCell ?_ (by first | omega | (simp <;> omega)) _ | refine Below.alloc ?_ (by first | omega | (simp <;> omega)) _ | refine Below.drew ?_ | refine below_drewN ?_ _ | exact hbw))

set_option maxRecDepth 100000 in
set_option maxHeartbeats 2000000 in
theorem dscale_ok (w : World) (bd s : Bool) (a : Option Addr) (n cap : Nat) (e z f k : Int) (hx : DyIn w bd s a n cap e (some (z, f))) (hT : Tab w) (hk0 : -9223372036854775808 ≤ k) (hk1 : k ≤ 9223372036854775807) :
    Calls Tryd.prog 33 #[.agg #[.bool bd, .bool s, .slice a n cap, .int .i64 e], .int .i64 k] w (RetDy w (nrm z (f + max (min k 262144) (-262144)))) := by
  have e2 : ¬ w.heap.size + 1 = w.heap.size := by omega
  obtain ⟨hbl, hf0, hf1⟩ := isN_bounds hx.isN
  simp only [dman, dexp, Option.getD_some] at hbl hf0 hf1
  have hl := nl_lim (Nat.le_trans hbl (by omega))
  have HN := fun W h ht => Lib.hid (@norm_v W bd s a n cap e (some (z, f)) h ht false z f rfl rfl rfl)
  obtain ⟨g, hg⟩ : ∃ g, g = f + max (min k 262144) (-262144) := ⟨_, rfl⟩
  have hwr : IntKind.i64.wrap (f + max (min k 262144) (-262144)) = g := by rw [IntKind.wrap_i64]; omega
  have HG := fun W b c h ht => Lib.hid (make_any W (decide (z < 0)) b _ c z.natAbs g h hl ht (by omega) (tz_lim (by omega)) (by omega) (by omega))
  rw [sgn_self] at HG
  rw [← hg]
  obtain ⟨d, hd⟩ : ∃ d, d = nrm z g := ⟨_, rfl⟩
  rw [← hd] at HG ⊢
  clear hg hd hbl hf0 hf1 hk0 hk1
  go_enter Tryd.func33, Tryd.ntmps33
  go_wp2_with fail
  refine (HN _ (hx.below (by repeat (with_reducible first | refine Below.setCell ?_ (by simp <;> omega) _ | refine Below.alloc ?_ (by simp <;> omega) _ | refine Below.drew ?_ | refine below_drewN ?_ _ | exact Below.refl _ _))) (hT.below (by repeat (with_reducible first | refine Below.setCell ?_ (by simp <;> omega) _ | refine Below.alloc ?_ (by simp <;> omega) _ | refine Below.drew ?_ | refine below_drewN ?_ _ | exact Below.refl _ _)))).out.mono ?_
  rintro e w1 ⟨a1, c1, rfl, hm1, hb, hf1⟩
  obtain ⟨hc1, hz1⟩ := bcell (hb.mono (show w.heap.size + 2 ≤ _ by simp))
  have hg1 : w.heap.size + 2 ≤ w1.heap.size := by have := hb.size; simpa using this
  have hfr1 : 0 < nl z.natAbs → w.heap.size + 2 ≤ ab a1 := fun h => by have := hf1 h; simpa using this
  have hbw := below_box (w := w) (by repeat (with_reducible first | refine Below.setCell ?_ (by simp <;> omega) _ | refine Below.alloc ?_ (by simp <;> omega) _ | refine Below.drew ?_ | refine below_drewN ?_ _ | exact Below.refl _ _)) hb
  go_wp2_with fail
  refine (HG _ a1 c1 (by repeat (with_reducible first | refine Mag.set ?_ (fun h => by have := hfr1 h; omega) _ _ | refine Mag.drew ?_ | refine Mag.alloc ?_ _ | refine Mag.drewN ?_ _ | refine Mag.below ?_ (Below.drew (Below.refl _ _)) | refine Mag.below ?_ ((Below.refl _ _).alloc (Nat.le_refl _) _) | exact hm1)) (hT.below (by have hszw := hbw.size; repeat (with_reducible first | refine Below.setCell ?_ (by first | omega | (simp <;> omega)) _ | refine Below.alloc ?_ (by first | omega | (simp <;> omega)) _ | refine Below.drew ?_ | refine below_drewN ?_ _ | exact hbw)))).out.mono ?_
  rintro e w2 ⟨a2, c2, rfl, hm2, hb2, hf2⟩
  obtain ⟨hc2, hz2⟩ := bcell (hb2.mono (show w.heap.size + 2 ≤ _ by simpa using hg1))
  have hfr2 : 0 < nl (dman d).natAbs → w.heap.size + 2 ≤ ab a2 := fun h => by have := hf2 h; simp at this; omega
  have hbw2 := below_box (w := w) (by have hszw := hbw.size; repeat (with_reducible first | refine Below.setCell ?_ (by first | omega | (simp <;> omega)) _ | refine Below.alloc ?_ (by first | omega | (simp <;> omega)) _ | refine Below.drew ?_ | refine below_drewN ?_ _ | exact hbw)) hb2
  clear hbw
  have hbw := hbw2
  go_wp2_with fail
  refine bodyPost_ret (v := .agg #[.bool (dbad d), .bool (decide (dman d < 0)), .slice a2 (nl (dman d).natAbs) c2, .int .i64 (dexp d)]) (by simp only [results, Tryd.results33]; go_simp) rfl ?_
  exact ⟨a2, c2, rfl, (by repeat (with_reducible first | refine Mag.set ?_ (fun h => by have := hfr2 h; omega) _ _ | refine Mag.drew ?_ | refine Mag.alloc ?_ _ | refine Mag.drewN ?_ _ | refine Mag.below ?_ (Below.drew (Below.refl _ _)) | refine Mag.below ?_ ((Below.refl _ _).alloc (Nat.le_refl _) _) | exact hm2)), (by have hszw := hbw.size; repeat (with_reducible first | refine Below.setCell ?_ (by first | omega | (simp <;> omega)) _ | refine Below.alloc ?_ (by first | omega | (simp <;> omega)) _ | refine Below.drew ?_ | refine below_drewN ?_ _ | exact hbw)), fun h => by have := hfr2 h; omega⟩

theorem dscale_any (w : World) (bd s : Bool) (a : Option Addr) (n cap : Nat) (e k : Int) (d : Option (Int × Int)) (hx : DyIn w bd s a n cap e d) (hT : Tab w) (hk0 : -9223372036854775808 ≤ k) (hk1 : k ≤ 9223372036854775807) :
    Calls Tryd.prog 33 #[.agg #[.bool bd, .bool s, .slice a n cap, .int .i64 e], .int .i64 k] w (RetDy w (dscale d k)) := by
  rcases d with _ | ⟨z, f⟩
  · exact dscale_bad w bd s a n cap e k hx hT
  · exact dscale_ok w bd s a n cap e z f k hx hT hk0 hk1

end Go.Proofs.YtjhngehajahbnaaDoor

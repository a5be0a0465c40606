/-
  Walks: package dyad: Make, Valid, Norm, FromBig, FromInt.
-/
import Derived.Test.YtjhngehajahbnaaDoorDn
namespace Go.Proofs.YtjhngehajahbnaaDoor
open Go.RowKit Sp

set_option maxRecDepth 100000 in
set_option maxHeartbeats 2000000 in
theorem make_any (w : World) (s : Bool) (a : Option Addr) (n cap x : Nat) (e : Int) (hx : Mag w a n cap x) (hlim : n ≤ 1099511627776) (hT : Tab w) (hB : blen x ≤ 1048576) (hTz : tz x ≤ 1048576) (he0 : -9223372036854775808 ≤ e) (he1 : e ≤ 9223372036854775807) :
    Calls Tryd.prog 10 #[.agg #[.bool s, .slice a n cap], .int .i64 e] w (RetDy w (nrm (sgn s x) e)) := by
  have e2 : ¬ w.heap.size + 1 = w.heap.size := by omega
  have HN := fun W h ht => Lib.hid (dnorm_any W false s a n cap x e h hlim ht hB hTz he0 he1)
  have ez : nrmB false (sgn s x) e = nrm (sgn s x) e := rfl
  rw [ez] at HN
  obtain ⟨d, hd⟩ : ∃ d, d = nrm (sgn s x) e := ⟨_, rfl⟩
  rw [← hd] at HN ⊢
  clear hd ez
  go_enter Tryd.func10, Tryd.ntmps10
  go_wp2_with fail
  refine (HN _ (hx.below (by repeat (with_reducible first | refine Below.setCell ?_ (by simp <;> omega) _ | refine Below.alloc ?_ (by simp <;> omega) _ | refine Below.drew ?_ | refine below_drewN ?_ _ | exact Below.refl _ _))) (hT.below (by repeat (with_reducible first | refine Below.setCell ?_ (by simp <;> omega) _ | refine Below.alloc ?_ (by simp <;> omega) _ | refine Below.drew ?_ | refine below_drewN ?_ _ | exact Below.refl _ _)))).out.mono ?_
  rintro e w1 ⟨a1, c1, rfl, hm1, hb, hf1⟩
  obtain ⟨hc1, hz1⟩ := bcell (hb.mono (show w.heap.size + 2 ≤ _ by simp))
  have hg1 : w.heap.size + 2 ≤ w1.heap.size := by have := hb.size; simpa using this
  obtain ⟨g1, g2, g3, g4, l1, l2, l3⟩ := old2 hg1
  have hfr : 0 < nl (dman d).natAbs → w.heap.size + 2 ≤ ab a1 := fun h => by have := hf1 h; simpa using this
  have hbw := below_box (w := w) (by repeat (with_reducible first | refine Below.setCell ?_ (by simp <;> omega) _ | refine Below.alloc ?_ (by simp <;> omega) _ | refine Below.drew ?_ | refine below_drewN ?_ _ | exact Below.refl _ _)) hb
  go_wp2_with fail
  refine bodyPost_ret (v := .agg #[.bool (dbad d), .bool (decide (dman d < 0)), .slice a1 (nl (dman d).natAbs) c1, .int .i64 (dexp d)]) (by simp [results, Tryd.results10, go_sem, hc1, l2]) rfl ?_
  exact ⟨a1, c1, rfl, (by repeat (with_reducible first | refine Mag.set ?_ (fun h => by have := hfr h; omega) _ _ | refine Mag.drew ?_ | refine Mag.alloc ?_ _ | refine Mag.drewN ?_ _ | refine Mag.below ?_ (Below.drew (Below.refl _ _)) | refine Mag.below ?_ ((Below.refl _ _).alloc (Nat.le_refl _) _) | exact hm1)), (by have hszw := hbw.size; repeat (with_reducible first | refine Below.setCell ?_ (by first | omega | (simp <;> omega)) _ | refine Below.alloc ?_ (by first | omega | (simp <;> omega)) _ | refine Below.drew ?_ | refine below_drewN ?_ _ | exact hbw)), fun h => by have := hfr h; omega⟩

set_option maxRecDepth 100000 in
set_option maxHeartbeats 2000000 in
theorem dvalid_any (w : World) (bd s : Bool) (a : Option Addr) (n cap x : Nat) (e : Int) (hx : Mag w a n cap x) (hlim : n ≤ 1099511627776) (hT : Tab w) (hB : blen x ≤ 1048576) (hTz : tz x ≤ 1048576) (he0 : -9223372036854775808 ≤ e) (he1 : e ≤ 9223372036854775807) :
    Calls Tryd.prog 16 #[.agg #[.bool bd, .bool s, .slice a n cap, .int .i64 e]] w fun o w' => o = .returned (.bool (!dbad (nrmB bd (sgn s x) e))) ∧ Below w.heap.size w w' := by
  have HN := fun W h ht => Lib.hid (dnorm_any W bd s a n cap x e h hlim ht hB hTz he0 he1)
  obtain ⟨d, hd⟩ : ∃ d, d = nrmB bd (sgn s x) e := ⟨_, rfl⟩
  rw [← hd] at HN ⊢
  clear hd
  go_enter Tryd.func16, Tryd.ntmps16
  go_wp2_with fail
  refine (HN _ (hx.below (by repeat (with_reducible first | refine Below.setCell ?_ (by simp <;> omega) _ | refine Below.alloc ?_ (by simp <;> omega) _ | refine Below.drew ?_ | refine below_drewN ?_ _ | exact Below.refl _ _))) (hT.below (by repeat (with_reducible first | refine Below.setCell ?_ (by simp <;> omega) _ | refine Below.alloc ?_ (by simp <;> omega) _ | refine Below.drew ?_ | refine below_drewN ?_ _ | exact Below.refl _ _)))).out.mono ?_
  rintro e w1 ⟨a1, c1, rfl, hm1, hb, hf1⟩
  have hbw := below_box (w := w) (by repeat (with_reducible first | refine Below.setCell ?_ (by simp <;> omega) _ | refine Below.alloc ?_ (by simp <;> omega) _ | refine Below.drew ?_ | refine below_drewN ?_ _ | exact Below.refl _ _)) hb
  go_wp2_with fail
  go_ret
  exact ⟨rfl, (by have hszw := hbw.size; repeat (with_reducible first | refine Below.setCell ?_ (by first | omega | (simp <;> omega)) _ | refine Below.alloc ?_ (by first | omega | (simp <;> omega)) _ | refine Below.drew ?_ | refine below_drewN ?_ _ | exact hbw))⟩

set_option maxRecDepth 100000 in
set_option maxHeartbeats 2000000 in
theorem dNorm_any (w : World) (bd s : Bool) (a : Option Addr) (n cap x : Nat) (e : Int) (hx : Mag w a n cap x) (hlim : n ≤ 1099511627776) (hT : Tab w) (hB : blen x ≤ 1048576) (hTz : tz x ≤ 1048576) (he0 : -9223372036854775808 ≤ e) (he1 : e ≤ 9223372036854775807) :
    Calls Tryd.prog 60 #[.agg #[.bool bd, .bool s, .slice a n cap, .int .i64 e]] w (RetDy w (nrmB bd (sgn s x) e)) := by
  have e2 : ¬ w.heap.size + 1 = w.heap.size := by omega
  have e3 : ¬ w.heap.size = w.heap.size + 1 := by omega
  have HN := fun W h ht => Lib.hid (dnorm_any W bd s a n cap x e h hlim ht hB hTz he0 he1)
  obtain ⟨d, hd⟩ : ∃ d, d = nrmB bd (sgn s x) e := ⟨_, rfl⟩
  rw [← hd] at HN ⊢
  clear hd
  go_enter Tryd.func60, Tryd.ntmps60
  go_wp2_with fail
  refine (HN _ (hx.below (by repeat (with_reducible first | refine Below.setCell ?_ (by simp <;> omega) _ | refine Below.alloc ?_ (by simp <;> omega) _ | refine Below.drew ?_ | refine below_drewN ?_ _ | exact Below.refl _ _))) (hT.below (by repeat (with_reducible first | refine Below.setCell ?_ (by simp <;> omega) _ | refine Below.alloc ?_ (by simp <;> omega) _ | refine Below.drew ?_ | refine below_drewN ?_ _ | exact Below.refl _ _)))).out.mono ?_
  rintro e w1 ⟨a1, c1, rfl, hm1, hb, hf1⟩
  obtain ⟨hc1, hz1⟩ := bcell (hb.mono (show w.heap.size + 2 ≤ _ by simp))
  have hfr : 0 < nl (dman d).natAbs → w.heap.size + 2 ≤ ab a1 := fun h => by have := hf1 h; simpa using this
  have hbw := below_box (w := w) (by repeat (with_reducible first | refine Below.setCell ?_ (by simp <;> omega) _ | refine Below.alloc ?_ (by simp <;> omega) _ | refine Below.drew ?_ | refine below_drewN ?_ _ | exact Below.refl _ _)) hb
  go_wp2_with fail
  refine bodyPost_ret (v := .agg #[.bool (dbad d), .bool (decide (dman d < 0)), .slice a1 (nl (dman d).natAbs) c1, .int .i64 (dexp d)]) (by simp [results, Tryd.results60, go_sem, hc1]) rfl ?_
  exact ⟨a1, c1, rfl, (by repeat (with_reducible first | refine Mag.set ?_ (fun h => by have := hfr h; omega) _ _ | refine Mag.drew ?_ | refine Mag.alloc ?_ _ | refine Mag.drewN ?_ _ | refine Mag.below ?_ (Below.drew (Below.refl _ _)) | refine Mag.below ?_ ((Below.refl _ _).alloc (Nat.le_refl _) _) | exact hm1)), (by have hszw := hbw.size; repeat (with_reducible first | refine Below.setCell ?_ (by first | omega | (simp <;> omega)) _ | refine Below.alloc ?_ (by first | omega | (simp <;> omega)) _ | refine Below.drew ?_ | refine below_drewN ?_ _ | exact hbw)), fun h => by have := hfr h; omega⟩

set_option maxRecDepth 100000 in
set_option maxHeartbeats 2000000 in
theorem fromBig_any (w : World) (s : Bool) (a : Option Addr) (n cap x : Nat) (hx : Mag w a n cap x) (hlim : n ≤ 1099511627776) (hT : Tab w) (hB : blen x ≤ 1048576) (hTz : tz x ≤ 1048576) :
    Calls Tryd.prog 35 #[.agg #[.bool s, .slice a n cap]] w (RetDy w (nrm (sgn s x) 0)) := by
  have HN := fun W h ht => Lib.hid (make_any W s a n cap x 0 h hlim ht hB hTz (by omega) (by omega))
  obtain ⟨d, hd⟩ : ∃ d, d = nrm (sgn s x) 0 := ⟨_, rfl⟩
  rw [← hd] at HN ⊢
  clear hd
  go_enter Tryd.func35, Tryd.ntmps35
  go_wp2_with fail
  refine (HN _ (hx.below (by repeat (with_reducible first | refine Below.setCell ?_ (by simp <;> omega) _ | refine Below.alloc ?_ (by simp <;> omega) _ | refine Below.drew ?_ | refine below_drewN ?_ _ | exact Below.refl _ _))) (hT.below (by repeat (with_reducible first | refine Below.setCell ?_ (by simp <;> omega) _ | refine Below.alloc ?_ (by simp <;> omega) _ | refine Below.drew ?_ | refine below_drewN ?_ _ | exact Below.refl _ _)))).out.mono ?_
  rintro e w1 ⟨a1, c1, rfl, hm1, hb, hf1⟩
  obtain ⟨hc1, hz1⟩ := bcell (hb.mono (show w.heap.size + 2 ≤ _ by simp))
  have hfr : 0 < nl (dman d).natAbs → w.heap.size + 2 ≤ ab a1 := fun h => by have := hf1 h; simpa using this
  have hbw := below_box (w := w) (by repeat (with_reducible first | refine Below.setCell ?_ (by simp <;> omega) _ | refine Below.alloc ?_ (by simp <;> omega) _ | refine Below.drew ?_ | refine below_drewN ?_ _ | exact Below.refl _ _)) hb
  go_wp2_with fail
  refine bodyPost_ret (v := .agg #[.bool (dbad d), .bool (decide (dman d < 0)), .slice a1 (nl (dman d).natAbs) c1, .int .i64 (dexp d)]) (by simp [results, Tryd.results35, go_sem, hc1]) rfl ?_
  exact ⟨a1, c1, rfl, (by repeat (with_reducible first | refine Mag.set ?_ (fun h => by have := hfr h; omega) _ _ | refine Mag.drew ?_ | refine Mag.alloc ?_ _ | refine Mag.drewN ?_ _ | refine Mag.below ?_ (Below.drew (Below.refl _ _)) | refine Mag.below ?_ ((Below.refl _ _).alloc (Nat.le_refl _) _) | exact hm1)), (by have hszw := hbw.size; repeat (with_reducible first | refine Below.setCell ?_ (by first | omega | (simp <;> omega)) _ | refine Below.alloc ?_ (by first | omega | (simp <;> omega)) _ | refine Below.drew ?_ | refine below_drewN ?_ _ | exact hbw)), fun h => by have := hfr h; omega⟩

end Go.Proofs.YtjhngehajahbnaaDoor

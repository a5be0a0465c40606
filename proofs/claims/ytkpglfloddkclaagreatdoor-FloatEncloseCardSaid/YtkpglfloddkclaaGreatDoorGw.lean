/-
  Walks: the laws of floats: awake.
-/
import Derived.Test.YtkpglfloddkclaaGreatDoorGm
import Derived.Test.YtkpglfloddkclaaGreatDoorGs
namespace Go.Proofs.YtkpglfloddkclaaGreatDoor
open Go.RowKit Sp

theorem nrm_one : nrm 1 0 = some (1, 0) := nrm_self (Or.inr ⟨by decide, by decide, by decide⟩)

set_option maxRecDepth 100000 in
set_option maxHeartbeats 2000000 in
theorem awakeF_any (w : World) (hT : Tab w) : Calls Tryz.prog 8 #[] w fun o w' => o = .returned (.bool true) ∧ Below w.heap.size w w' := by
  have HA := fun W (ht : Tab W) => Lib.hid (show Calls Tryz.prog 41 #[.int .u64 4607182418800017408, .int .u64 4607182418800017408, .int .i64 0] W fun o w' => o = .returned (.int .u64 4611686018427387904) ∧ Below W.heap.size W w' from by
    have := wadd_any W fOne fOne (by decide) (by decide) 0 ht
    rw [awake_add] at this; exact this)
  have HD := fun W (ht : Tab W) => Lib.hid (show Calls Tryz.prog 47 #[.int .u64 4607182418800017408, .int .u64 4611686018427387904, .int .i64 2] W fun o w' => o = .returned (.int .u64 4602678819172646912) ∧ Below W.heap.size W w' from by
    have := wdiv_any W fOne fTwo (by decide) (by decide) 2 ht
    rw [awake_div] at this; exact this)
  have HK := fun W => Lib.hid (show Calls Tryz.prog 17 #[.int .u64 9218868437227405312] W fun o w' => o = .returned (.int .i64 2) ∧ W = w' from by
    have := fkind_any W fInf
    rw [show fkind fInf = 2 by decide] at this; exact this)
  have HM := fun W (ht : Tab W) => Lib.hid (show Calls Tryz.prog 45 #[.int .u64 1, .int .u64 1, .int .i64 2] W fun o w' => o = .returned (.int .u64 1) ∧ Below W.heap.size W w' from by
    have := wmul_any W 1 1 (by decide) (by decide) 2 ht
    rw [awake_mul] at this; exact this)
  have HI := fun W (ht : Tab W) => Lib.hid (show Calls Tryz.prog 53 #[.int .i64 1] W (RetDy W (some (1, 0))) from by
    have := dfromInt_any W 1 ht (by decide) (by decide)
    rw [nrm_one] at this; exact this)
  have N1 : IsN (some ((1 : Int), (0 : Int))) := by rw [← nrm_one]; exact isN_nrm _ _
  obtain ⟨d, hd⟩ : ∃ d : Option (Int × Int), d = some (1, 0) := ⟨_, rfl⟩
  rw [← hd] at N1 HI
  have HN := Lib.hid N1
  have HR := fun W b q (h : Mag W b (nl (dman d).natAbs) q (dman d).natAbs) (ht : Tab W) => Lib.hid (show Calls Tryz.prog 9 #[.agg #[.bool (dbad d), .bool (decide (dman d < 0)), .slice b (nl (dman d).natAbs) q, .int .i64 (dexp d)], .int .i64 1] W fun o w' => o = .returned (.int .u64 4607182418800017408) ∧ Below W.heap.size W w' from by
    have := fround_any W _ _ _ _ _ _ 1 _ (dyin_of HN.out h) ht
    rw [hd, awake_one] at this; rw [hd]; exact this)
  clear hd N1
  go_enter Tryz.func8, Tryz.ntmps8
  go_wp2_with fail
  refine (HA _ (hT.below (by repeat (with_reducible first | refine Below.setCell ?_ (by simp <;> omega) _ | refine Below.alloc ?_ (by simp <;> omega) _ | refine Below.drew ?_ | refine below_drewN ?_ _ | exact Below.refl _ _)))).out.mono ?_
  rintro e w1 ⟨rfl, hb⟩
  have B1 := below_box (w := w) (by repeat (with_reducible first | refine Below.setCell ?_ (by simp <;> omega) _ | refine Below.alloc ?_ (by simp <;> omega) _ | refine Below.drew ?_ | refine below_drewN ?_ _ | exact Below.refl _ _)) hb
  clear hb
  go_wp2_with fail
  refine (HD _ (hT.below (by have hszw := (B1).size; repeat (with_reducible first | refine Below.setCell ?_ (by first | omega | (simp <;> omega)) _ | refine Below.alloc ?_ (by first | omega | (simp <;> omega)) _ | refine Below.drew ?_ | refine below_drewN ?_ _ | exact B1)))).out.mono ?_
  rintro e w2 ⟨rfl, hb⟩
  have B2 := below_box (w := w) (by have hszw := (B1).size; repeat (with_reducible first | refine Below.setCell ?_ (by first | omega | (simp <;> omega)) _ | refine Below.alloc ?_ (by first | omega | (simp <;> omega)) _ | refine Below.drew ?_ | refine below_drewN ?_ _ | exact B1)) hb
  clear hb
  go_wp2_with fail
  refine (HI _ (hT.below (by have hszw := (B2).size; repeat (with_reducible first | refine Below.setCell ?_ (by first | omega | (simp <;> omega)) _ | refine Below.alloc ?_ (by first | omega | (simp <;> omega)) _ | refine Below.drew ?_ | refine below_drewN ?_ _ | exact B2)))).out.mono ?_
  rintro e w3 ⟨a3, c3, rfl, M3, hb, _⟩
  have B3 := below_box (w := w) (by have hszw := (B2).size; repeat (with_reducible first | refine Below.setCell ?_ (by first | omega | (simp <;> omega)) _ | refine Below.alloc ?_ (by first | omega | (simp <;> omega)) _ | refine Below.drew ?_ | refine below_drewN ?_ _ | exact B2)) hb
  clear hb
  go_wp2_with fail
  refine (HR _ a3 c3 (by repeat (with_reducible first | refine Mag.set ?_ (fun h => by have := M3 h; omega) _ _ | refine Mag.drew ?_ | refine Mag.alloc ?_ _ | refine Mag.drewN ?_ _ | refine Mag.below ?_ (Below.drew (Below.refl _ _)) | refine Mag.below ?_ ((Below.refl _ _).alloc (Nat.le_refl _) _) | exact M3)) (hT.below (by have hszw := (B3).size; repeat (with_reducible first | refine Below.setCell ?_ (by first | omega | (simp <;> omega)) _ | refine Below.alloc ?_ (by first | omega | (simp <;> omega)) _ | refine Below.drew ?_ | refine below_drewN ?_ _ | exact B3)))).out.mono ?_
  rintro e w4 ⟨rfl, hb⟩
  have B4 := below_box (w := w) (by have hszw := (B3).size; repeat (with_reducible first | refine Below.setCell ?_ (by first | omega | (simp <;> omega)) _ | refine Below.alloc ?_ (by first | omega | (simp <;> omega)) _ | refine Below.drew ?_ | refine below_drewN ?_ _ | exact B3)) hb
  clear hb
  go_wp2_with fail
  refine (HK _).out.mono ?_
  rintro e w5 ⟨rfl, rfl⟩
  go_wp2_with fail
  refine (HM _ (hT.below (by have hszw := (B4).size; repeat (with_reducible first | refine Below.setCell ?_ (by first | omega | (simp <;> omega)) _ | refine Below.alloc ?_ (by first | omega | (simp <;> omega)) _ | refine Below.drew ?_ | refine below_drewN ?_ _ | exact B4)))).out.mono ?_
  rintro e w6 ⟨rfl, hb⟩
  have B6 := below_box (w := w) (by have hszw := (B4).size; repeat (with_reducible first | refine Below.setCell ?_ (by first | omega | (simp <;> omega)) _ | refine Below.alloc ?_ (by first | omega | (simp <;> omega)) _ | refine Below.drew ?_ | refine below_drewN ?_ _ | exact B4)) hb
  clear hb
  go_wp2_with fail
  go_ret
  exact ⟨rfl, (by have hszw := (B6).size; repeat (with_reducible first | refine Below.setCell ?_ (by first | omega | (simp <;> omega)) _ | refine Below.alloc ?_ (by first | omega | (simp <;> omega)) _ | refine Below.drew ?_ | refine below_drewN ?_ _ | exact B6))⟩

end Go.Proofs.YtkpglfloddkclaaGreatDoor


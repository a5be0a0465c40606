/-
  Walks: the laws of floats: awake.
-/
import Derived.Test.YtakbappmkdaioaaGreatDoorZhGm
import Derived.Test.YtakbappmkdaioaaGreatDoorZhGs
namespace Go.Proofs.YtakbappmkdaioaaGreatDoor
open Go.RowKit Sp

theorem nrm_one : nrm 1 0 = some (1, 0) := nrm_self (Or.inr ⟨by decide, by decide, by decide⟩)

set_option maxRecDepth 100000 in
set_option maxHeartbeats 2000000 in
theorem awakeF_any (w : World) (hT : Tab w) : Calls Tryz.prog 41 #[] w fun o w' => o = .returned (.bool true) ∧ Below w.heap.size w w' := by
  have HA := fun W (ht : Tab W) => Lib.hid (show Calls Tryz.prog 70 #[.int .u64 4607182418800017408, .int .u64 4607182418800017408, .int .i64 0] W fun o w' => o = .returned (.int .u64 4611686018427387904) ∧ Below W.heap.size W w' from by
    have := wadd_any W fOne fOne (by decide) (by decide) 0 ht
    rw [awake_add] at this; exact this)
  have HD := fun W (ht : Tab W) => Lib.hid (show Calls Tryz.prog 76 #[.int .u64 4607182418800017408, .int .u64 4611686018427387904, .int .i64 2] W fun o w' => o = .returned (.int .u64 4602678819172646912) ∧ Below W.heap.size W w' from by
    have := wdiv_any W fOne fTwo (by decide) (by decide) 2 ht
    rw [awake_div] at this; exact this)
  have HK := fun W => Lib.hid (show Calls Tryz.prog 52 #[.int .u64 9218868437227405312] W fun o w' => o = .returned (.int .i64 2) ∧ W = w' from by
    have := fkind_any W fInf
    rw [show fkind fInf = 2 by decide] at this; exact this)
  have HM := fun W (ht : Tab W) => Lib.hid (show Calls Tryz.prog 74 #[.int .u64 1, .int .u64 1, .int .i64 2] W fun o w' => o = .returned (.int .u64 1) ∧ Below W.heap.size W w' from by
    have := wmul_any W 1 1 (by decide) (by decide) 2 ht
    rw [awake_mul] at this; exact this)
  have HI := fun W (ht : Tab W) => Lib.hid (show Calls Tryz.prog 125 #[.int .i64 1] W (RetDy W (some (1, 0))) from by
    have := dfromInt_any W 1 ht (by decide) (by decide)
    rw [nrm_one] at this; exact this)
  have N1 : IsN (some ((1 : Int), (0 : Int))) := by rw [← nrm_one]; exact isN_nrm _ _
  obtain ⟨d, hd⟩ : ∃ d : Option (Int × Int), d = some (1, 0) := ⟨_, rfl⟩
  rw [← hd] at N1 HI
  have HN := Lib.hid N1
  have HR := fun W b q (h : Mag W b (nl (dman d).natAbs) q (dman d).natAbs) (ht : Tab W) => Lib.hid (show Calls Tryz.prog 42 #[.agg #[.bool (dbad d), .bool (decide (dman d < 0)), .slice b (nl (dman d).natAbs) q, .int .i64 (dexp d)], .int .i64 1] W fun o w' => o = .returned (.int .u64 4607182418800017408) ∧ Below W.heap.size W w' from by
    have := fround_any W _ _ _ _ _ _ 1 _ (dyin_of HN.out h) ht
    rw [hd, awake_one] at this; rw [hd]; exact this)
  clear hd N1
  go_enter Tryz.func41, Tryz.ntmps41
  go_wp2_with fail
  refine (HA _ (hT.below zbh)).out.mono ?_
  rintro e w1 ⟨rfl, hb⟩
  have B1 := below_box (w := w) zbh hb
  clear hb
  go_wp2_with fail
  refine (HD _ (hT.below (have := Beh.mk B1; zbh))).out.mono ?_
  rintro e w2 ⟨rfl, hb⟩
  have B2 := below_box (w := w) (have := Beh.mk B1; zbh) hb
  clear hb
  go_wp2_with fail
  refine (HI _ (hT.below (have := Beh.mk B2; zbh))).out.mono ?_
  rintro e w3 ⟨a3, c3, rfl, M3, hb, _⟩
  have B3 := below_box (w := w) (have := Beh.mk B2; zbh) hb
  clear hb
  go_wp2_with fail
  refine (HR _ a3 c3 M3.on (hT.below (have := Beh.mk B3; zbh))).out.mono ?_
  rintro e w4 ⟨rfl, hb⟩
  have B4 := below_box (w := w) (have := Beh.mk B3; zbh) hb
  clear hb
  go_wp2_with fail
  refine (HK _).out.mono ?_
  rintro e w5 ⟨rfl, rfl⟩
  go_wp2_with fail
  refine (HM _ (hT.below (have := Beh.mk B4; zbh))).out.mono ?_
  rintro e w6 ⟨rfl, hb⟩
  have B6 := below_box (w := w) (have := Beh.mk B4; zbh) hb
  clear hb
  go_wp2_with fail
  go_ret
  exact ⟨rfl, (have := Beh.mk B6; zbh)⟩

end Go.Proofs.YtakbappmkdaioaaGreatDoor


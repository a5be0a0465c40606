/-
  Walks: the law AccumTwo.
-/
import Derived.Test.YtakbappmkdaioaaGreatDoorZcS6a
import Derived.Test.YtakbappmkdaioaaGreatDoorZcKf
namespace Go.Proofs.YtakbappmkdaioaaGreatDoor
open Go.RowKit Sp

set_option maxRecDepth 100000 in
set_option maxHeartbeats 20000000 in
theorem atwo_any (w : World) (hT : Tab w) (a b : Nat) (ha : a < 18446744073709551616) (hb : b < 18446744073709551616) :
    Calls Tryz.prog 4 #[.int .u64 a, .int .u64 b] w fun o w' => o = .returned (.bool true) ∧ Below w.heap.size w w' := by
  have H1 := fun W ht => Lib.hid (atwosum_any W ht a b ha hb)
  have H2 := fun W ht => Lib.hid (rtwosum_any W ht a b ha hb)
  have H3 := fun W ht => Lib.hid (atwomul_any W ht a b ha hb)
  have H4 := fun W ht => Lib.hid (rtwomul_any W ht a b ha hb)
  have HW := fun W ht => Lib.hid (awakeA_any W ht)
  generalize ((rstS (fadd a b 0) (dadd (fof a) (fof b)) : Nat) : Int) = s1 at *
  generalize ((rstT (fadd a b 0) (dadd (fof a) (fof b)) : Nat) : Int) = t1 at *
  generalize frestok (fadd a b 0) (dadd (fof a) (fof b)) = k1 at *
  generalize ((rstS (fmul a b 0) (dmul (fof a) (fof b)) : Nat) : Int) = s2 at *
  generalize ((rstT (fmul a b 0) (dmul (fof a) (fof b)) : Nat) : Int) = t2 at *
  generalize frestok (fmul a b 0) (dmul (fof a) (fof b)) = k2 at *
  go_enter Tryz.func4, Tryz.ntmps4
  go_wp2_with fail
  have B0 : Below w.heap.size w w := Below.refl _ _
  refine (H1 _ (hT.below (have := Beh.mk B0; zbh))).out.mono ?_
  rintro e w1 ⟨rfl, hb1⟩
  have B1 := below_box (w := w) (have := Beh.mk B0; zbh) hb1
  clear hb1
  (try clear xx)
  (try clear B0)
  go_wp2_with fail
  refine (H2 _ (hT.below (have := Beh.mk B1; zbh))).out.mono ?_
  rintro e w2 ⟨rfl, hb2⟩
  have B2 := below_box (w := w) (have := Beh.mk B1; zbh) hb2
  clear hb2
  (try clear xx)
  (try clear B1)
  go_wp2_with fail
  refine (H3 _ (hT.below (have := Beh.mk B2; zbh))).out.mono ?_
  rintro e w3 ⟨rfl, hb3⟩
  have B3 := below_box (w := w) (have := Beh.mk B2; zbh) hb3
  clear hb3
  (try clear xx)
  (try clear B2)
  go_wp2_with fail
  refine (H4 _ (hT.below (have := Beh.mk B3; zbh))).out.mono ?_
  rintro e w4 ⟨rfl, hb4⟩
  have B4 := below_box (w := w) (have := Beh.mk B3; zbh) hb4
  clear hb4
  (try clear xx)
  (try clear B3)
  go_wp2_with fail
  refine (HW _ (hT.below (have := Beh.mk B4; zbh))).out.mono ?_
  rintro e w5 ⟨rfl, hb5⟩
  have B5 := below_box (w := w) (have := Beh.mk B4; zbh) hb5
  clear hb5
  (try clear xx)
  (try clear B4)
  go_wp2_with fail
  go_ret
  exact ⟨rfl, (have := Beh.mk B5; zbh)⟩

end Go.Proofs.YtakbappmkdaioaaGreatDoor


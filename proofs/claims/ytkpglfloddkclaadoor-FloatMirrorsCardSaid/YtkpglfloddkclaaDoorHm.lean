/-
  Walks: the law FloatMirrors.
-/
import Derived.Test.YtkpglfloddkclaaDoorHk
namespace Go.Proofs.YtkpglfloddkclaaDoor
open Go.RowKit Sp

theorem fround_lt (d : Option (Int × Int)) (mode : Int) : fround d mode < 18446744073709551616 := by
  unfold fround; split
  · decide
  · split
    · decide
    · exact fcut_lt _ _ _
theorem fmul_lt (a b : Nat) (mode : Int) : fmul a b mode < 18446744073709551616 := by
  unfold fmul; split
  · decide
  · split
    · exact fsgn_lt (by decide)
    · split
      · exact fsgn_lt (by decide)
      · exact fround_lt _ _
theorem gquo_lt (d d' : Option (Int × Int)) (mode : Int) : fquo d d' mode < 18446744073709551616 := by
  unfold fquo; split
  · split
    · decide
    · split
      · decide
      · exact fcut_lt _ _ _
  · decide
theorem gdiv_lt (a b : Nat) (mode : Int) : fdiv a b mode < 18446744073709551616 := by
  unfold fdiv; split
  · decide
  · split
    · exact fsgn_lt (by decide)
    · split
      · exact fsgn_lt (by decide)
      · exact gquo_lt _ _ _
theorem fadd_lt {a b : Nat} (ha : a < 18446744073709551616) (hb : b < 18446744073709551616) (mode : Int) : fadd a b mode < 18446744073709551616 := by
  unfold fadd; split
  · decide
  · split
    · exact ha
    · split
      · exact hb
      · split
        · exact ha
        · split
          · exact fsgn_lt (by decide)
          · exact fround_lt _ _
theorem bne_self_eq (x : Int) : (x != x) = false := by simp
set_option maxRecDepth 100000 in
set_option maxHeartbeats 20000000 in
theorem mirr_na (w : World) (hT : Tab w) (a b : Nat) (_ha : a < 18446744073709551616) (_hb : b < 18446744073709551616) (bdd sd : Bool) (ad : Option Addr) (nd pd : Nat) (ed : Int) (mode : Int) (md : nd ≤ 9223372036854775807) (hsd : slim3B nd ed = false) :
    Calls Tryd.prog 3 #[.int .u64 a, .int .u64 b, .agg #[.bool bdd, .bool sd, .slice ad nd pd, .int .i64 ed], .int .i64 mode] w fun o w' => o = .returned (.bool true) ∧ Below w.heap.size w w' := by
  have HSl := fun W => Lib.hid (slimDyad3_any W bdd sd ad nd pd ed md false hsd)
  have HW := fun W ht => Lib.hid (awakeF_any W ht)
  go_enter Tryd.func3, Tryd.ntmps3
  go_wp2_with fail
  have I0 := DyV.made w 28 bdd sd (.slice ad nd pd) ed
  have B0 : Below w.heap.size w (w.alloc (.cells #[.bool bdd, .bool sd, .slice ad nd pd, .int .i64 ed] 28)) := (by repeat (with_reducible first | refine Below.setCell ?_ (by simp <;> omega) _ | refine Below.alloc ?_ (by simp <;> omega) _ | refine Below.drew ?_ | refine below_drewN ?_ _ | exact Below.refl _ _))
  generalize (w.alloc (.cells #[.bool bdd, .bool sd, .slice ad nd pd, .int .i64 ed] 28)) = w0 at I0 B0 ⊢
  generalize hb0 : w.heap.size = b0 at I0 ⊢
  obtain ⟨dc0, dc1, dc2, dc3, dc4, dc5⟩ := I0
  have Vd0 := Lib.hid (DyV.mk dc0 dc1 dc2 dc3 dc4 dc5)
  refine (HSl _).out.mono ?_
  rintro e w1 ⟨rfl, hb1⟩
  have Vd1 : DyV w1 b0 bdd sd (.slice ad nd pd) ed := (by refine DyV.below ?_ hb1; (repeat (with_reducible first | refine DyV.drew ?_ | refine DyV.drewN ?_ _ | refine DyV.alloc ?_ _)); exact Vd0.out)
  (try clear dc0 dc1 dc2 dc3 dc4)
  obtain ⟨dc0, dc1, dc2, dc3, dc4, dc5⟩ := Vd1
  have Vd1 := Lib.hid (DyV.mk dc0 dc1 dc2 dc3 dc4 dc5)
  have B1 := below_box (w := w) (by have hszw := (B0).size; repeat (with_reducible first | refine Below.setCell ?_ (by first | omega | (simp <;> omega)) _ | refine Below.alloc ?_ (by first | omega | (simp <;> omega)) _ | refine Below.drew ?_ | refine below_drewN ?_ _ | exact B0)) hb1
  clear hb1
  go_wp2_with fail
  refine (HW _ (hT.below (by have hszw := (B1).size; repeat (with_reducible first | refine Below.setCell ?_ (by first | omega | (simp <;> omega)) _ | refine Below.alloc ?_ (by first | omega | (simp <;> omega)) _ | refine Below.drew ?_ | refine below_drewN ?_ _ | exact B1)))).out.mono ?_
  rintro e w2 ⟨rfl, hb2⟩
  have Vd2 : DyV w2 b0 bdd sd (.slice ad nd pd) ed := (by refine DyV.below ?_ hb2; (repeat (with_reducible first | refine DyV.drew ?_ | refine DyV.drewN ?_ _ | refine DyV.alloc ?_ _)); exact Vd1.out)
  (try clear dc0 dc1 dc2 dc3 dc4)
  obtain ⟨dc0, dc1, dc2, dc3, dc4, dc5⟩ := Vd2
  have Vd2 := Lib.hid (DyV.mk dc0 dc1 dc2 dc3 dc4 dc5)
  have B2 := below_box (w := w) (by have hszw := (B1).size; repeat (with_reducible first | refine Below.setCell ?_ (by first | omega | (simp <;> omega)) _ | refine Below.alloc ?_ (by first | omega | (simp <;> omega)) _ | refine Below.drew ?_ | refine below_drewN ?_ _ | exact B1)) hb2
  clear hb2
  go_wp2_with fail
  go_ret
  exact ⟨rfl, (by have hszw := (B2).size; repeat (with_reducible first | refine Below.setCell ?_ (by first | omega | (simp <;> omega)) _ | refine Below.alloc ?_ (by first | omega | (simp <;> omega)) _ | refine Below.drew ?_ | refine below_drewN ?_ _ | exact B2))⟩

set_option maxRecDepth 100000 in
set_option maxHeartbeats 20000000 in
theorem mirr_00 (w : World) (hT : Tab w) (a b : Nat) (ha : a < 18446744073709551616) (hb : b < 18446744073709551616) (bdd sd : Bool) (ad : Option Addr) (nd pd : Nat) (ed : Int) (dd : Option (Int × Int)) (Hd : DyIs w bdd sd ad nd pd ed dd) (mode : Int) (md : nd ≤ 9223372036854775807) (hsd : slim3B nd ed = true) (kz : (fkind (fadd (fneg a) (fneg b) (fopp mode)) != 0) = false) (kk : fkind (fadd (fneg a) (fneg b) (fopp mode)) = fkind (fneg (fadd a b mode))) (sz : dman dd = 0) :
    Calls Tryd.prog 3 #[.int .u64 a, .int .u64 b, .agg #[.bool bdd, .bool sd, .slice ad nd pd, .int .i64 ed], .int .i64 mode] w fun o w' => o = .returned (.bool true) ∧ Below w.heap.size w w' := by
  have HSl := fun W => Lib.hid (slimDyad3_any W bdd sd ad nd pd ed md true hsd)
  have HW := fun W ht => Lib.hid (awakeF_any W ht)
  have Gd := Lib.hid Hd
  have HOp := fun W => Lib.hid (fopp_any W mode)
  have H1 := fun W => Lib.hid (fneg_any W a ha)
  have H2 := fun W => Lib.hid (fneg_any W b hb)
  obtain ⟨o, ho⟩ : ∃ o, o = fopp mode := ⟨_, rfl⟩
  have la := fneg_lt a
  have lb := fneg_lt b
  have m1 := mir_mul a b mode
  have m2 := mir_div a b mode
  rw [← ho] at HOp m1 m2 kz kk
  have lm : fmul a b mode < 18446744073709551616 := fmul_lt a b mode
  have ld : fdiv a b mode < 18446744073709551616 := gdiv_lt a b mode
  have ld2 : fadd a b mode < 18446744073709551616 := fadd_lt ha hb mode
  have H3 := fun W ht => Lib.hid (wmul_any W (fneg a) b la hb o ht)
  have H4 := fun W ht => Lib.hid (wmul_any W a b ha hb mode ht)
  have H5 := fun W => Lib.hid (fneg_any W (fmul a b mode) lm)
  rw [m1] at H3
  have H6 := fun W ht => Lib.hid (wdiv_any W a (fneg b) ha lb o ht)
  have H7 := fun W ht => Lib.hid (wdiv_any W a b ha hb mode ht)
  have H8 := fun W => Lib.hid (fneg_any W (fdiv a b mode) ld)
  rw [m2] at H6
  have H9 := fun W ht => Lib.hid (wadd_any W (fneg a) (fneg b) la lb o ht)
  have H10 := fun W ht => Lib.hid (wadd_any W a b ha hb mode ht)
  have H11 := fun W => Lib.hid (fneg_any W (fadd a b mode) ld2)
  have HK1 := fun W => Lib.hid (fkind_any W (fadd (fneg a) (fneg b) o))
  have HK2 := fun W => Lib.hid (fkind_any W (fneg (fadd a b mode)))
  rw [← kk] at HK2
  have HSg := fun W (h : DyIs W bdd sd ad nd pd ed dd) ht => Lib.hid (rdsign_any W bdd sd ad nd pd ed dd h ht)
  have hsz : (sg (dman dd) == 0) = true := by rw [sz]; rfl
  generalize sg (dman dd) = gs at *
  have e1 : (fkind (fadd (fneg a) (fneg b) o) != fkind (fadd (fneg a) (fneg b) o)) = false := bne_self_eq _
  generalize fkind (fadd (fneg a) (fneg b) o) = kv at *
  clear m1 m2 lm ld ld2 la lb ho kk sz Hd hsd
  generalize ((fneg (fmul a b mode) : Nat) : Int) = i1 at *
  generalize ((fneg (fdiv a b mode) : Nat) : Int) = i2 at *
  generalize ((fneg (fadd a b mode) : Nat) : Int) = i3 at *
  generalize ((fmul a b mode : Nat) : Int) = i4 at *
  generalize ((fdiv a b mode : Nat) : Int) = i5 at *
  generalize ((fadd a b mode : Nat) : Int) = i6 at *
  generalize ((fadd (fneg a) (fneg b) o : Nat) : Int) = i7 at *
  generalize ((fneg a : Nat) : Int) = ix at *
  generalize ((fneg b : Nat) : Int) = iy at *
  clear ha hb
  generalize (a : Int) = ia at *
  generalize (b : Int) = ib at *
  go_enter Tryd.func3, Tryd.ntmps3
  go_wp2_with fail
  have I0 := DyV.made w 28 bdd sd (.slice ad nd pd) ed
  have B0 : Below w.heap.size w (w.alloc (.cells #[.bool bdd, .bool sd, .slice ad nd pd, .int .i64 ed] 28)) := (by repeat (with_reducible first | refine Below.setCell ?_ (by simp <;> omega) _ | refine Below.alloc ?_ (by simp <;> omega) _ | refine Below.drew ?_ | refine below_drewN ?_ _ | exact Below.refl _ _))
  generalize (w.alloc (.cells #[.bool bdd, .bool sd, .slice ad nd pd, .int .i64 ed] 28)) = w0 at I0 B0 ⊢
  generalize hb0 : w.heap.size = b0 at I0 ⊢
  obtain ⟨dc0, dc1, dc2, dc3, dc4, dc5⟩ := I0
  have Vd0 := Lib.hid (DyV.mk dc0 dc1 dc2 dc3 dc4 dc5)
  refine (HSl _).out.mono ?_
  rintro e w1 ⟨rfl, hb1⟩
  have Vd1 : DyV w1 b0 bdd sd (.slice ad nd pd) ed := (by refine DyV.below ?_ hb1; (repeat (with_reducible first | refine DyV.drew ?_ | refine DyV.drewN ?_ _ | refine DyV.alloc ?_ _)); exact Vd0.out)
  (try clear dc0 dc1 dc2 dc3 dc4)
  obtain ⟨dc0, dc1, dc2, dc3, dc4, dc5⟩ := Vd1
  have Vd1 := Lib.hid (DyV.mk dc0 dc1 dc2 dc3 dc4 dc5)
  have B1 := below_box (w := w) (by have hszw := (B0).size; repeat (with_reducible first | refine Below.setCell ?_ (by first | omega | (simp <;> omega)) _ | refine Below.alloc ?_ (by first | omega | (simp <;> omega)) _ | refine Below.drew ?_ | refine below_drewN ?_ _ | exact B0)) hb1
  clear hb1
  go_wp2_with fail
  refine (HOp _).out.mono ?_
  rintro e wq ⟨rfl, rfl⟩
  go_wp2_with fail
  refine (H1 _).out.mono ?_
  rintro e w2 ⟨rfl, hb2⟩
  have Vd2 : DyV w2 b0 bdd sd (.slice ad nd pd) ed := (by refine DyV.below ?_ hb2; (repeat (with_reducible first | refine DyV.drew ?_ | refine DyV.drewN ?_ _ | refine DyV.alloc ?_ _)); exact Vd1.out)
  (try clear dc0 dc1 dc2 dc3 dc4)
  obtain ⟨dc0, dc1, dc2, dc3, dc4, dc5⟩ := Vd2
  have Vd2 := Lib.hid (DyV.mk dc0 dc1 dc2 dc3 dc4 dc5)
  have B2 := below_box (w := w) (by have hszw := (B1).size; repeat (with_reducible first | refine Below.setCell ?_ (by first | omega | (simp <;> omega)) _ | refine Below.alloc ?_ (by first | omega | (simp <;> omega)) _ | refine Below.drew ?_ | refine below_drewN ?_ _ | exact B1)) hb2
  clear hb2
  go_wp2_with fail
  refine (H2 _).out.mono ?_
  rintro e w3 ⟨rfl, hb3⟩
  have Vd3 : DyV w3 b0 bdd sd (.slice ad nd pd) ed := (by refine DyV.below ?_ hb3; (repeat (with_reducible first | refine DyV.drew ?_ | refine DyV.drewN ?_ _ | refine DyV.alloc ?_ _)); exact Vd2.out)
  (try clear dc0 dc1 dc2 dc3 dc4)
  obtain ⟨dc0, dc1, dc2, dc3, dc4, dc5⟩ := Vd3
  have Vd3 := Lib.hid (DyV.mk dc0 dc1 dc2 dc3 dc4 dc5)
  have B3 := below_box (w := w) (by have hszw := (B2).size; repeat (with_reducible first | refine Below.setCell ?_ (by first | omega | (simp <;> omega)) _ | refine Below.alloc ?_ (by first | omega | (simp <;> omega)) _ | refine Below.drew ?_ | refine below_drewN ?_ _ | exact B2)) hb3
  clear hb3
  go_wp2_with fail
  refine (H3 _ (hT.below (by have hszw := (B3).size; repeat (with_reducible first | refine Below.setCell ?_ (by first | omega | (simp <;> omega)) _ | refine Below.alloc ?_ (by first | omega | (simp <;> omega)) _ | refine Below.drew ?_ | refine below_drewN ?_ _ | exact B3)))).out.mono ?_
  rintro e w4 ⟨rfl, hb4⟩
  have Vd4 : DyV w4 b0 bdd sd (.slice ad nd pd) ed := (by refine DyV.below ?_ hb4; (repeat (with_reducible first | refine DyV.drew ?_ | refine DyV.drewN ?_ _ | refine DyV.alloc ?_ _)); exact Vd3.out)
  (try clear dc0 dc1 dc2 dc3 dc4)
  obtain ⟨dc0, dc1, dc2, dc3, dc4, dc5⟩ := Vd4
  have Vd4 := Lib.hid (DyV.mk dc0 dc1 dc2 dc3 dc4 dc5)
  have B4 := below_box (w := w) (by have hszw := (B3).size; repeat (with_reducible first | refine Below.setCell ?_ (by first | omega | (simp <;> omega)) _ | refine Below.alloc ?_ (by first | omega | (simp <;> omega)) _ | refine Below.drew ?_ | refine below_drewN ?_ _ | exact B3)) hb4
  clear hb4
  go_wp2_with fail
  refine (H4 _ (hT.below (by have hszw := (B4).size; repeat (with_reducible first | refine Below.setCell ?_ (by first | omega | (simp <;> omega)) _ | refine Below.alloc ?_ (by first | omega | (simp <;> omega)) _ | refine Below.drew ?_ | refine below_drewN ?_ _ | exact B4)))).out.mono ?_
  rintro e w5 ⟨rfl, hb5⟩
  have Vd5 : DyV w5 b0 bdd sd (.slice ad nd pd) ed := (by refine DyV.below ?_ hb5; (repeat (with_reducible first | refine DyV.drew ?_ | refine DyV.drewN ?_ _ | refine DyV.alloc ?_ _)); exact Vd4.out)
  (try clear dc0 dc1 dc2 dc3 dc4)
  obtain ⟨dc0, dc1, dc2, dc3, dc4, dc5⟩ := Vd5
  have Vd5 := Lib.hid (DyV.mk dc0 dc1 dc2 dc3 dc4 dc5)
  have B5 := below_box (w := w) (by have hszw := (B4).size; repeat (with_reducible first | refine Below.setCell ?_ (by first | omega | (simp <;> omega)) _ | refine Below.alloc ?_ (by first | omega | (simp <;> omega)) _ | refine Below.drew ?_ | refine below_drewN ?_ _ | exact B4)) hb5
  clear hb5
  go_wp2_with fail
  refine (H5 _).out.mono ?_
  rintro e w6 ⟨rfl, hb6⟩
  have Vd6 : DyV w6 b0 bdd sd (.slice ad nd pd) ed := (by refine DyV.below ?_ hb6; (repeat (with_reducible first | refine DyV.drew ?_ | refine DyV.drewN ?_ _ | refine DyV.alloc ?_ _)); exact Vd5.out)
  (try clear dc0 dc1 dc2 dc3 dc4)
  obtain ⟨dc0, dc1, dc2, dc3, dc4, dc5⟩ := Vd6
  have Vd6 := Lib.hid (DyV.mk dc0 dc1 dc2 dc3 dc4 dc5)
  have B6 := below_box (w := w) (by have hszw := (B5).size; repeat (with_reducible first | refine Below.setCell ?_ (by first | omega | (simp <;> omega)) _ | refine Below.alloc ?_ (by first | omega | (simp <;> omega)) _ | refine Below.drew ?_ | refine below_drewN ?_ _ | exact B5)) hb6
  clear hb6
  go_wp2_with fail
  refine (H6 _ (hT.below (by have hszw := (B6).size; repeat (with_reducible first | refine Below.setCell ?_ (by first | omega | (simp <;> omega)) _ | refine Below.alloc ?_ (by first | omega | (simp <;> omega)) _ | refine Below.drew ?_ | refine below_drewN ?_ _ | exact B6)))).out.mono ?_
  rintro e w7 ⟨rfl, hb7⟩
  have Vd7 : DyV w7 b0 bdd sd (.slice ad nd pd) ed := (by refine DyV.below ?_ hb7; (repeat (with_reducible first | refine DyV.drew ?_ | refine DyV.drewN ?_ _ | refine DyV.alloc ?_ _)); exact Vd6.out)
  (try clear dc0 dc1 dc2 dc3 dc4)
  obtain ⟨dc0, dc1, dc2, dc3, dc4, dc5⟩ := Vd7
  have Vd7 := Lib.hid (DyV.mk dc0 dc1 dc2 dc3 dc4 dc5)
  have B7 := below_box (w := w) (by have hszw := (B6).size; repeat (with_reducible first | refine Below.setCell ?_ (by first | omega | (simp <;> omega)) _ | refine Below.alloc ?_ (by first | omega | (simp <;> omega)) _ | refine Below.drew ?_ | refine below_drewN ?_ _ | exact B6)) hb7
  clear hb7
  go_wp2_with fail
  refine (H7 _ (hT.below (by have hszw := (B7).size; repeat (with_reducible first | refine Below.setCell ?_ (by first | omega | (simp <;> omega)) _ | refine Below.alloc ?_ (by first | omega | (simp <;> omega)) _ | refine Below.drew ?_ | refine below_drewN ?_ _ | exact B7)))).out.mono ?_
  rintro e w8 ⟨rfl, hb8⟩
  have Vd8 : DyV w8 b0 bdd sd (.slice ad nd pd) ed := (by refine DyV.below ?_ hb8; (repeat (with_reducible first | refine DyV.drew ?_ | refine DyV.drewN ?_ _ | refine DyV.alloc ?_ _)); exact Vd7.out)
  (try clear dc0 dc1 dc2 dc3 dc4)
  obtain ⟨dc0, dc1, dc2, dc3, dc4, dc5⟩ := Vd8
  have Vd8 := Lib.hid (DyV.mk dc0 dc1 dc2 dc3 dc4 dc5)
  have B8 := below_box (w := w) (by have hszw := (B7).size; repeat (with_reducible first | refine Below.setCell ?_ (by first | omega | (simp <;> omega)) _ | refine Below.alloc ?_ (by first | omega | (simp <;> omega)) _ | refine Below.drew ?_ | refine below_drewN ?_ _ | exact B7)) hb8
  clear hb8
  go_wp2_with fail
  refine (H8 _).out.mono ?_
  rintro e w9 ⟨rfl, hb9⟩
  have Vd9 : DyV w9 b0 bdd sd (.slice ad nd pd) ed := (by refine DyV.below ?_ hb9; (repeat (with_reducible first | refine DyV.drew ?_ | refine DyV.drewN ?_ _ | refine DyV.alloc ?_ _)); exact Vd8.out)
  (try clear dc0 dc1 dc2 dc3 dc4)
  obtain ⟨dc0, dc1, dc2, dc3, dc4, dc5⟩ := Vd9
  have Vd9 := Lib.hid (DyV.mk dc0 dc1 dc2 dc3 dc4 dc5)
  have B9 := below_box (w := w) (by have hszw := (B8).size; repeat (with_reducible first | refine Below.setCell ?_ (by first | omega | (simp <;> omega)) _ | refine Below.alloc ?_ (by first | omega | (simp <;> omega)) _ | refine Below.drew ?_ | refine below_drewN ?_ _ | exact B8)) hb9
  clear hb9
  go_wp2_with fail
  refine (H9 _ (hT.below (by have hszw := (B9).size; repeat (with_reducible first | refine Below.setCell ?_ (by first | omega | (simp <;> omega)) _ | refine Below.alloc ?_ (by first | omega | (simp <;> omega)) _ | refine Below.drew ?_ | refine below_drewN ?_ _ | exact B9)))).out.mono ?_
  rintro e w10 ⟨rfl, hb10⟩
  have Vd10 : DyV w10 b0 bdd sd (.slice ad nd pd) ed := (by refine DyV.below ?_ hb10; (repeat (with_reducible first | refine DyV.drew ?_ | refine DyV.drewN ?_ _ | refine DyV.alloc ?_ _)); exact Vd9.out)
  (try clear dc0 dc1 dc2 dc3 dc4)
  obtain ⟨dc0, dc1, dc2, dc3, dc4, dc5⟩ := Vd10
  have Vd10 := Lib.hid (DyV.mk dc0 dc1 dc2 dc3 dc4 dc5)
  have B10 := below_box (w := w) (by have hszw := (B9).size; repeat (with_reducible first | refine Below.setCell ?_ (by first | omega | (simp <;> omega)) _ | refine Below.alloc ?_ (by first | omega | (simp <;> omega)) _ | refine Below.drew ?_ | refine below_drewN ?_ _ | exact B9)) hb10
  clear hb10
  go_wp2_with fail
  refine (H10 _ (hT.below (by have hszw := (B10).size; repeat (with_reducible first | refine Below.setCell ?_ (by first | omega | (simp <;> omega)) _ | refine Below.alloc ?_ (by first | omega | (simp <;> omega)) _ | refine Below.drew ?_ | refine below_drewN ?_ _ | exact B10)))).out.mono ?_
  rintro e w11 ⟨rfl, hb11⟩
  have Vd11 : DyV w11 b0 bdd sd (.slice ad nd pd) ed := (by refine DyV.below ?_ hb11; (repeat (with_reducible first | refine DyV.drew ?_ | refine DyV.drewN ?_ _ | refine DyV.alloc ?_ _)); exact Vd10.out)
  (try clear dc0 dc1 dc2 dc3 dc4)
  obtain ⟨dc0, dc1, dc2, dc3, dc4, dc5⟩ := Vd11
  have Vd11 := Lib.hid (DyV.mk dc0 dc1 dc2 dc3 dc4 dc5)
  have B11 := below_box (w := w) (by have hszw := (B10).size; repeat (with_reducible first | refine Below.setCell ?_ (by first | omega | (simp <;> omega)) _ | refine Below.alloc ?_ (by first | omega | (simp <;> omega)) _ | refine Below.drew ?_ | refine below_drewN ?_ _ | exact B10)) hb11
  clear hb11
  go_wp2_with fail
  refine (H11 _).out.mono ?_
  rintro e w12 ⟨rfl, hb12⟩
  have Vd12 : DyV w12 b0 bdd sd (.slice ad nd pd) ed := (by refine DyV.below ?_ hb12; (repeat (with_reducible first | refine DyV.drew ?_ | refine DyV.drewN ?_ _ | refine DyV.alloc ?_ _)); exact Vd11.out)
  (try clear dc0 dc1 dc2 dc3 dc4)
  obtain ⟨dc0, dc1, dc2, dc3, dc4, dc5⟩ := Vd12
  have Vd12 := Lib.hid (DyV.mk dc0 dc1 dc2 dc3 dc4 dc5)
  have B12 := below_box (w := w) (by have hszw := (B11).size; repeat (with_reducible first | refine Below.setCell ?_ (by first | omega | (simp <;> omega)) _ | refine Below.alloc ?_ (by first | omega | (simp <;> omega)) _ | refine Below.drew ?_ | refine below_drewN ?_ _ | exact B11)) hb12
  clear hb12
  go_wp2_with fail
  refine (HK1 _).out.mono ?_
  rintro e wq ⟨rfl, rfl⟩
  go_wp2_with fail
  refine (HK1 _).out.mono ?_
  rintro e wq ⟨rfl, rfl⟩
  go_wp2_with fail
  refine (HK2 _).out.mono ?_
  rintro e wq ⟨rfl, rfl⟩
  go_wp2_with fail
  refine (HSg _ (Gd.out.below (by have hszw := (B12).size; repeat (with_reducible first | refine Below.setCell ?_ (by first | omega | (simp <;> omega)) _ | refine Below.alloc ?_ (by first | omega | (simp <;> omega)) _ | refine Below.drew ?_ | refine below_drewN ?_ _ | exact B12))) (hT.below (by have hszw := (B12).size; repeat (with_reducible first | refine Below.setCell ?_ (by first | omega | (simp <;> omega)) _ | refine Below.alloc ?_ (by first | omega | (simp <;> omega)) _ | refine Below.drew ?_ | refine below_drewN ?_ _ | exact B12)))).out.mono ?_
  rintro e w13 ⟨rfl, hb13⟩
  have Vd13 : DyV w13 b0 bdd sd (.slice ad nd pd) ed := (by refine DyV.below ?_ hb13; (repeat (with_reducible first | refine DyV.drew ?_ | refine DyV.drewN ?_ _ | refine DyV.alloc ?_ _)); exact Vd12.out)
  (try clear dc0 dc1 dc2 dc3 dc4)
  obtain ⟨dc0, dc1, dc2, dc3, dc4, dc5⟩ := Vd13
  have Vd13 := Lib.hid (DyV.mk dc0 dc1 dc2 dc3 dc4 dc5)
  have B13 := below_box (w := w) (by have hszw := (B12).size; repeat (with_reducible first | refine Below.setCell ?_ (by first | omega | (simp <;> omega)) _ | refine Below.alloc ?_ (by first | omega | (simp <;> omega)) _ | refine Below.drew ?_ | refine below_drewN ?_ _ | exact B12)) hb13
  clear hb13
  go_wp2_with fail
  refine (HW _ (hT.below (by have hszw := (B13).size; repeat (with_reducible first | refine Below.setCell ?_ (by first | omega | (simp <;> omega)) _ | refine Below.alloc ?_ (by first | omega | (simp <;> omega)) _ | refine Below.drew ?_ | refine below_drewN ?_ _ | exact B13)))).out.mono ?_
  rintro e w14 ⟨rfl, hb14⟩
  have Vd14 : DyV w14 b0 bdd sd (.slice ad nd pd) ed := (by refine DyV.below ?_ hb14; (repeat (with_reducible first | refine DyV.drew ?_ | refine DyV.drewN ?_ _ | refine DyV.alloc ?_ _)); exact Vd13.out)
  (try clear dc0 dc1 dc2 dc3 dc4)
  obtain ⟨dc0, dc1, dc2, dc3, dc4, dc5⟩ := Vd14
  have Vd14 := Lib.hid (DyV.mk dc0 dc1 dc2 dc3 dc4 dc5)
  have B14 := below_box (w := w) (by have hszw := (B13).size; repeat (with_reducible first | refine Below.setCell ?_ (by first | omega | (simp <;> omega)) _ | refine Below.alloc ?_ (by first | omega | (simp <;> omega)) _ | refine Below.drew ?_ | refine below_drewN ?_ _ | exact B13)) hb14
  clear hb14
  go_wp2_with fail
  go_ret
  exact ⟨rfl, (by have hszw := (B14).size; repeat (with_reducible first | refine Below.setCell ?_ (by first | omega | (simp <;> omega)) _ | refine Below.alloc ?_ (by first | omega | (simp <;> omega)) _ | refine Below.drew ?_ | refine below_drewN ?_ _ | exact B14))⟩

set_option maxRecDepth 100000 in
set_option maxHeartbeats 20000000 in
theorem mirr_01 (w : World) (hT : Tab w) (a b : Nat) (ha : a < 18446744073709551616) (hb : b < 18446744073709551616) (bdd sd : Bool) (ad : Option Addr) (nd pd : Nat) (ed : Int) (dd : Option (Int × Int)) (Hd : DyIs w bdd sd ad nd pd ed dd) (mode : Int) (md : nd ≤ 9223372036854775807) (hsd : slim3B nd ed = true) (kz : (fkind (fadd (fneg a) (fneg b) (fopp mode)) != 0) = false) (kk : fkind (fadd (fneg a) (fneg b) (fopp mode)) = fkind (fneg (fadd a b mode))) (sz : dman dd ≠ 0) :
    Calls Tryd.prog 3 #[.int .u64 a, .int .u64 b, .agg #[.bool bdd, .bool sd, .slice ad nd pd, .int .i64 ed], .int .i64 mode] w fun o w' => o = .returned (.bool true) ∧ Below w.heap.size w w' := by
  have HSl := fun W => Lib.hid (slimDyad3_any W bdd sd ad nd pd ed md true hsd)
  have HW := fun W ht => Lib.hid (awakeF_any W ht)
  have Gd := Lib.hid Hd
  have HOp := fun W => Lib.hid (fopp_any W mode)
  have H1 := fun W => Lib.hid (fneg_any W a ha)
  have H2 := fun W => Lib.hid (fneg_any W b hb)
  obtain ⟨o, ho⟩ : ∃ o, o = fopp mode := ⟨_, rfl⟩
  have la := fneg_lt a
  have lb := fneg_lt b
  have m1 := mir_mul a b mode
  have m2 := mir_div a b mode
  rw [← ho] at HOp m1 m2 kz kk
  have lm : fmul a b mode < 18446744073709551616 := fmul_lt a b mode
  have ld : fdiv a b mode < 18446744073709551616 := gdiv_lt a b mode
  have ld2 : fadd a b mode < 18446744073709551616 := fadd_lt ha hb mode
  have H3 := fun W ht => Lib.hid (wmul_any W (fneg a) b la hb o ht)
  have H4 := fun W ht => Lib.hid (wmul_any W a b ha hb mode ht)
  have H5 := fun W => Lib.hid (fneg_any W (fmul a b mode) lm)
  rw [m1] at H3
  have H6 := fun W ht => Lib.hid (wdiv_any W a (fneg b) ha lb o ht)
  have H7 := fun W ht => Lib.hid (wdiv_any W a b ha hb mode ht)
  have H8 := fun W => Lib.hid (fneg_any W (fdiv a b mode) ld)
  rw [m2] at H6
  have H9 := fun W ht => Lib.hid (wadd_any W (fneg a) (fneg b) la lb o ht)
  have H10 := fun W ht => Lib.hid (wadd_any W a b ha hb mode ht)
  have H11 := fun W => Lib.hid (fneg_any W (fadd a b mode) ld2)
  have HK1 := fun W => Lib.hid (fkind_any W (fadd (fneg a) (fneg b) o))
  have HK2 := fun W => Lib.hid (fkind_any W (fneg (fadd a b mode)))
  rw [← kk] at HK2
  have HSg := fun W (h : DyIs W bdd sd ad nd pd ed dd) ht => Lib.hid (rdsign_any W bdd sd ad nd pd ed dd h ht)
  have hsz : (sg (dman dd) == 0) = false := by unfold sg cmpI; split <;> (try split) <;> first | decide | (exfalso; omega)
  have HN := fun W (h : DyIs W bdd sd ad nd pd ed dd) ht => Lib.hid (dneg_any W bdd sd ad nd pd ed dd h.1 ht)
  have Nn := Lib.hid (isN_neg Hd.1.isN)
  have r1 := fround_opp sz mode
  rw [← ho] at r1
  have H12 := fun W b1 q1 (h : Mag W b1 (nl (dman (dneg dd)).natAbs) q1 (dman (dneg dd)).natAbs) ht => Lib.hid (fround_any W _ _ _ _ _ _ o _ (dyin_of Nn.out h) ht)
  rw [r1] at H12
  have H13 := fun W (h : DyIs W bdd sd ad nd pd ed dd) ht => Lib.hid (fround_any W bdd sd ad nd pd ed mode dd h.1 ht)
  have H14 := fun W => Lib.hid (fneg_any W (fround dd mode) (fround_lt dd mode))
  generalize dneg dd = dn at *
  clear r1
  generalize ((fneg (fround dd mode) : Nat) : Int) = i9 at *
  generalize ((fround dd mode : Nat) : Int) = i8 at *
  generalize sg (dman dd) = gs at *
  have e1 : (fkind (fadd (fneg a) (fneg b) o) != fkind (fadd (fneg a) (fneg b) o)) = false := bne_self_eq _
  generalize fkind (fadd (fneg a) (fneg b) o) = kv at *
  clear m1 m2 lm ld ld2 la lb ho kk sz Hd hsd
  generalize ((fneg (fmul a b mode) : Nat) : Int) = i1 at *
  generalize ((fneg (fdiv a b mode) : Nat) : Int) = i2 at *
  generalize ((fneg (fadd a b mode) : Nat) : Int) = i3 at *
  generalize ((fmul a b mode : Nat) : Int) = i4 at *
  generalize ((fdiv a b mode : Nat) : Int) = i5 at *
  generalize ((fadd a b mode : Nat) : Int) = i6 at *
  generalize ((fadd (fneg a) (fneg b) o : Nat) : Int) = i7 at *
  generalize ((fneg a : Nat) : Int) = ix at *
  generalize ((fneg b : Nat) : Int) = iy at *
  clear ha hb
  generalize (a : Int) = ia at *
  generalize (b : Int) = ib at *
  go_enter Tryd.func3, Tryd.ntmps3
  go_wp2_with fail
  have I0 := DyV.made w 28 bdd sd (.slice ad nd pd) ed
  have B0 : Below w.heap.size w (w.alloc (.cells #[.bool bdd, .bool sd, .slice ad nd pd, .int .i64 ed] 28)) := (by repeat (with_reducible first | refine Below.setCell ?_ (by simp <;> omega) _ | refine Below.alloc ?_ (by simp <;> omega) _ | refine Below.drew ?_ | refine below_drewN ?_ _ | exact Below.refl _ _))
  generalize (w.alloc (.cells #[.bool bdd, .bool sd, .slice ad nd pd, .int .i64 ed] 28)) = w0 at I0 B0 ⊢
  generalize hb0 : w.heap.size = b0 at I0 ⊢
  obtain ⟨dc0, dc1, dc2, dc3, dc4, dc5⟩ := I0
  have Vd0 := Lib.hid (DyV.mk dc0 dc1 dc2 dc3 dc4 dc5)
  refine (HSl _).out.mono ?_
  rintro e w1 ⟨rfl, hb1⟩
  have Vd1 : DyV w1 b0 bdd sd (.slice ad nd pd) ed := (by refine DyV.below ?_ hb1; (repeat (with_reducible first | refine DyV.drew ?_ | refine DyV.drewN ?_ _ | refine DyV.alloc ?_ _)); exact Vd0.out)
  (try clear dc0 dc1 dc2 dc3 dc4)
  obtain ⟨dc0, dc1, dc2, dc3, dc4, dc5⟩ := Vd1
  have Vd1 := Lib.hid (DyV.mk dc0 dc1 dc2 dc3 dc4 dc5)
  have B1 := below_box (w := w) (by have hszw := (B0).size; repeat (with_reducible first | refine Below.setCell ?_ (by first | omega | (simp <;> omega)) _ | refine Below.alloc ?_ (by first | omega | (simp <;> omega)) _ | refine Below.drew ?_ | refine below_drewN ?_ _ | exact B0)) hb1
  clear hb1
  go_wp2_with fail
  refine (HOp _).out.mono ?_
  rintro e wq ⟨rfl, rfl⟩
  go_wp2_with fail
  refine (H1 _).out.mono ?_
  rintro e w2 ⟨rfl, hb2⟩
  have Vd2 : DyV w2 b0 bdd sd (.slice ad nd pd) ed := (by refine DyV.below ?_ hb2; (repeat (with_reducible first | refine DyV.drew ?_ | refine DyV.drewN ?_ _ | refine DyV.alloc ?_ _)); exact Vd1.out)
  (try clear dc0 dc1 dc2 dc3 dc4)
  obtain ⟨dc0, dc1, dc2, dc3, dc4, dc5⟩ := Vd2
  have Vd2 := Lib.hid (DyV.mk dc0 dc1 dc2 dc3 dc4 dc5)
  have B2 := below_box (w := w) (by have hszw := (B1).size; repeat (with_reducible first | refine Below.setCell ?_ (by first | omega | (simp <;> omega)) _ | refine Below.alloc ?_ (by first | omega | (simp <;> omega)) _ | refine Below.drew ?_ | refine below_drewN ?_ _ | exact B1)) hb2
  clear hb2
  go_wp2_with fail
  refine (H2 _).out.mono ?_
  rintro e w3 ⟨rfl, hb3⟩
  have Vd3 : DyV w3 b0 bdd sd (.slice ad nd pd) ed := (by refine DyV.below ?_ hb3; (repeat (with_reducible first | refine DyV.drew ?_ | refine DyV.drewN ?_ _ | refine DyV.alloc ?_ _)); exact Vd2.out)
  (try clear dc0 dc1 dc2 dc3 dc4)
  obtain ⟨dc0, dc1, dc2, dc3, dc4, dc5⟩ := Vd3
  have Vd3 := Lib.hid (DyV.mk dc0 dc1 dc2 dc3 dc4 dc5)
  have B3 := below_box (w := w) (by have hszw := (B2).size; repeat (with_reducible first | refine Below.setCell ?_ (by first | omega | (simp <;> omega)) _ | refine Below.alloc ?_ (by first | omega | (simp <;> omega)) _ | refine Below.drew ?_ | refine below_drewN ?_ _ | exact B2)) hb3
  clear hb3
  go_wp2_with fail
  refine (H3 _ (hT.below (by have hszw := (B3).size; repeat (with_reducible first | refine Below.setCell ?_ (by first | omega | (simp <;> omega)) _ | refine Below.alloc ?_ (by first | omega | (simp <;> omega)) _ | refine Below.drew ?_ | refine below_drewN ?_ _ | exact B3)))).out.mono ?_
  rintro e w4 ⟨rfl, hb4⟩
  have Vd4 : DyV w4 b0 bdd sd (.slice ad nd pd) ed := (by refine DyV.below ?_ hb4; (repeat (with_reducible first | refine DyV.drew ?_ | refine DyV.drewN ?_ _ | refine DyV.alloc ?_ _)); exact Vd3.out)
  (try clear dc0 dc1 dc2 dc3 dc4)
  obtain ⟨dc0, dc1, dc2, dc3, dc4, dc5⟩ := Vd4
  have Vd4 := Lib.hid (DyV.mk dc0 dc1 dc2 dc3 dc4 dc5)
  have B4 := below_box (w := w) (by have hszw := (B3).size; repeat (with_reducible first | refine Below.setCell ?_ (by first | omega | (simp <;> omega)) _ | refine Below.alloc ?_ (by first | omega | (simp <;> omega)) _ | refine Below.drew ?_ | refine below_drewN ?_ _ | exact B3)) hb4
  clear hb4
  go_wp2_with fail
  refine (H4 _ (hT.below (by have hszw := (B4).size; repeat (with_reducible first | refine Below.setCell ?_ (by first | omega | (simp <;> omega)) _ | refine Below.alloc ?_ (by first | omega | (simp <;> omega)) _ | refine Below.drew ?_ | refine below_drewN ?_ _ | exact B4)))).out.mono ?_
  rintro e w5 ⟨rfl, hb5⟩
  have Vd5 : DyV w5 b0 bdd sd (.slice ad nd pd) ed := (by refine DyV.below ?_ hb5; (repeat (with_reducible first | refine DyV.drew ?_ | refine DyV.drewN ?_ _ | refine DyV.alloc ?_ _)); exact Vd4.out)
  (try clear dc0 dc1 dc2 dc3 dc4)
  obtain ⟨dc0, dc1, dc2, dc3, dc4, dc5⟩ := Vd5
  have Vd5 := Lib.hid (DyV.mk dc0 dc1 dc2 dc3 dc4 dc5)
  have B5 := below_box (w := w) (by have hszw := (B4).size; repeat (with_reducible first | refine Below.setCell ?_ (by first | omega | (simp <;> omega)) _ | refine Below.alloc ?_ (by first | omega | (simp <;> omega)) _ | refine Below.drew ?_ | refine below_drewN ?_ _ | exact B4)) hb5
  clear hb5
  go_wp2_with fail
  refine (H5 _).out.mono ?_
  rintro e w6 ⟨rfl, hb6⟩
  have Vd6 : DyV w6 b0 bdd sd (.slice ad nd pd) ed := (by refine DyV.below ?_ hb6; (repeat (with_reducible first | refine DyV.drew ?_ | refine DyV.drewN ?_ _ | refine DyV.alloc ?_ _)); exact Vd5.out)
  (try clear dc0 dc1 dc2 dc3 dc4)
  obtain ⟨dc0, dc1, dc2, dc3, dc4, dc5⟩ := Vd6
  have Vd6 := Lib.hid (DyV.mk dc0 dc1 dc2 dc3 dc4 dc5)
  have B6 := below_box (w := w) (by have hszw := (B5).size; repeat (with_reducible first | refine Below.setCell ?_ (by first | omega | (simp <;> omega)) _ | refine Below.alloc ?_ (by first | omega | (simp <;> omega)) _ | refine Below.drew ?_ | refine below_drewN ?_ _ | exact B5)) hb6
  clear hb6
  go_wp2_with fail
  refine (H6 _ (hT.below (by have hszw := (B6).size; repeat (with_reducible first | refine Below.setCell ?_ (by first | omega | (simp <;> omega)) _ | refine Below.alloc ?_ (by first | omega | (simp <;> omega)) _ | refine Below.drew ?_ | refine below_drewN ?_ _ | exact B6)))).out.mono ?_
  rintro e w7 ⟨rfl, hb7⟩
  have Vd7 : DyV w7 b0 bdd sd (.slice ad nd pd) ed := (by refine DyV.below ?_ hb7; (repeat (with_reducible first | refine DyV.drew ?_ | refine DyV.drewN ?_ _ | refine DyV.alloc ?_ _)); exact Vd6.out)
  (try clear dc0 dc1 dc2 dc3 dc4)
  obtain ⟨dc0, dc1, dc2, dc3, dc4, dc5⟩ := Vd7
  have Vd7 := Lib.hid (DyV.mk dc0 dc1 dc2 dc3 dc4 dc5)
  have B7 := below_box (w := w) (by have hszw := (B6).size; repeat (with_reducible first | refine Below.setCell ?_ (by first | omega | (simp <;> omega)) _ | refine Below.alloc ?_ (by first | omega | (simp <;> omega)) _ | refine Below.drew ?_ | refine below_drewN ?_ _ | exact B6)) hb7
  clear hb7
  go_wp2_with fail
  refine (H7 _ (hT.below (by have hszw := (B7).size; repeat (with_reducible first | refine Below.setCell ?_ (by first | omega | (simp <;> omega)) _ | refine Below.alloc ?_ (by first | omega | (simp <;> omega)) _ | refine Below.drew ?_ | refine below_drewN ?_ _ | exact B7)))).out.mono ?_
  rintro e w8 ⟨rfl, hb8⟩
  have Vd8 : DyV w8 b0 bdd sd (.slice ad nd pd) ed := (by refine DyV.below ?_ hb8; (repeat (with_reducible first | refine DyV.drew ?_ | refine DyV.drewN ?_ _ | refine DyV.alloc ?_ _)); exact Vd7.out)
  (try clear dc0 dc1 dc2 dc3 dc4)
  obtain ⟨dc0, dc1, dc2, dc3, dc4, dc5⟩ := Vd8
  have Vd8 := Lib.hid (DyV.mk dc0 dc1 dc2 dc3 dc4 dc5)
  have B8 := below_box (w := w) (by have hszw := (B7).size; repeat (with_reducible first | refine Below.setCell ?_ (by first | omega | (simp <;> omega)) _ | refine Below.alloc ?_ (by first | omega | (simp <;> omega)) _ | refine Below.drew ?_ | refine below_drewN ?_ _ | exact B7)) hb8
  clear hb8
  go_wp2_with fail
  refine (H8 _).out.mono ?_
  rintro e w9 ⟨rfl, hb9⟩
  have Vd9 : DyV w9 b0 bdd sd (.slice ad nd pd) ed := (by refine DyV.below ?_ hb9; (repeat (with_reducible first | refine DyV.drew ?_ | refine DyV.drewN ?_ _ | refine DyV.alloc ?_ _)); exact Vd8.out)
  (try clear dc0 dc1 dc2 dc3 dc4)
  obtain ⟨dc0, dc1, dc2, dc3, dc4, dc5⟩ := Vd9
  have Vd9 := Lib.hid (DyV.mk dc0 dc1 dc2 dc3 dc4 dc5)
  have B9 := below_box (w := w) (by have hszw := (B8).size; repeat (with_reducible first | refine Below.setCell ?_ (by first | omega | (simp <;> omega)) _ | refine Below.alloc ?_ (by first | omega | (simp <;> omega)) _ | refine Below.drew ?_ | refine below_drewN ?_ _ | exact B8)) hb9
  clear hb9
  go_wp2_with fail
  refine (H9 _ (hT.below (by have hszw := (B9).size; repeat (with_reducible first | refine Below.setCell ?_ (by first | omega | (simp <;> omega)) _ | refine Below.alloc ?_ (by first | omega | (simp <;> omega)) _ | refine Below.drew ?_ | refine below_drewN ?_ _ | exact B9)))).out.mono ?_
  rintro e w10 ⟨rfl, hb10⟩
  have Vd10 : DyV w10 b0 bdd sd (.slice ad nd pd) ed := (by refine DyV.below ?_ hb10; (repeat (with_reducible first | refine DyV.drew ?_ | refine DyV.drewN ?_ _ | refine DyV.alloc ?_ _)); exact Vd9.out)
  (try clear dc0 dc1 dc2 dc3 dc4)
  obtain ⟨dc0, dc1, dc2, dc3, dc4, dc5⟩ := Vd10
  have Vd10 := Lib.hid (DyV.mk dc0 dc1 dc2 dc3 dc4 dc5)
  have B10 := below_box (w := w) (by have hszw := (B9).size; repeat (with_reducible first | refine Below.setCell ?_ (by first | omega | (simp <;> omega)) _ | refine Below.alloc ?_ (by first | omega | (simp <;> omega)) _ | refine Below.drew ?_ | refine below_drewN ?_ _ | exact B9)) hb10
  clear hb10
  go_wp2_with fail
  refine (H10 _ (hT.below (by have hszw := (B10).size; repeat (with_reducible first | refine Below.setCell ?_ (by first | omega | (simp <;> omega)) _ | refine Below.alloc ?_ (by first | omega | (simp <;> omega)) _ | refine Below.drew ?_ | refine below_drewN ?_ _ | exact B10)))).out.mono ?_
  rintro e w11 ⟨rfl, hb11⟩
  have Vd11 : DyV w11 b0 bdd sd (.slice ad nd pd) ed := (by refine DyV.below ?_ hb11; (repeat (with_reducible first | refine DyV.drew ?_ | refine DyV.drewN ?_ _ | refine DyV.alloc ?_ _)); exact Vd10.out)
  (try clear dc0 dc1 dc2 dc3 dc4)
  obtain ⟨dc0, dc1, dc2, dc3, dc4, dc5⟩ := Vd11
  have Vd11 := Lib.hid (DyV.mk dc0 dc1 dc2 dc3 dc4 dc5)
  have B11 := below_box (w := w) (by have hszw := (B10).size; repeat (with_reducible first | refine Below.setCell ?_ (by first | omega | (simp <;> omega)) _ | refine Below.alloc ?_ (by first | omega | (simp <;> omega)) _ | refine Below.drew ?_ | refine below_drewN ?_ _ | exact B10)) hb11
  clear hb11
  go_wp2_with fail
  refine (H11 _).out.mono ?_
  rintro e w12 ⟨rfl, hb12⟩
  have Vd12 : DyV w12 b0 bdd sd (.slice ad nd pd) ed := (by refine DyV.below ?_ hb12; (repeat (with_reducible first | refine DyV.drew ?_ | refine DyV.drewN ?_ _ | refine DyV.alloc ?_ _)); exact Vd11.out)
  (try clear dc0 dc1 dc2 dc3 dc4)
  obtain ⟨dc0, dc1, dc2, dc3, dc4, dc5⟩ := Vd12
  have Vd12 := Lib.hid (DyV.mk dc0 dc1 dc2 dc3 dc4 dc5)
  have B12 := below_box (w := w) (by have hszw := (B11).size; repeat (with_reducible first | refine Below.setCell ?_ (by first | omega | (simp <;> omega)) _ | refine Below.alloc ?_ (by first | omega | (simp <;> omega)) _ | refine Below.drew ?_ | refine below_drewN ?_ _ | exact B11)) hb12
  clear hb12
  go_wp2_with fail
  refine (HK1 _).out.mono ?_
  rintro e wq ⟨rfl, rfl⟩
  go_wp2_with fail
  refine (HK1 _).out.mono ?_
  rintro e wq ⟨rfl, rfl⟩
  go_wp2_with fail
  refine (HK2 _).out.mono ?_
  rintro e wq ⟨rfl, rfl⟩
  go_wp2_with fail
  refine (HSg _ (Gd.out.below (by have hszw := (B12).size; repeat (with_reducible first | refine Below.setCell ?_ (by first | omega | (simp <;> omega)) _ | refine Below.alloc ?_ (by first | omega | (simp <;> omega)) _ | refine Below.drew ?_ | refine below_drewN ?_ _ | exact B12))) (hT.below (by have hszw := (B12).size; repeat (with_reducible first | refine Below.setCell ?_ (by first | omega | (simp <;> omega)) _ | refine Below.alloc ?_ (by first | omega | (simp <;> omega)) _ | refine Below.drew ?_ | refine below_drewN ?_ _ | exact B12)))).out.mono ?_
  rintro e w13 ⟨rfl, hb13⟩
  have Vd13 : DyV w13 b0 bdd sd (.slice ad nd pd) ed := (by refine DyV.below ?_ hb13; (repeat (with_reducible first | refine DyV.drew ?_ | refine DyV.drewN ?_ _ | refine DyV.alloc ?_ _)); exact Vd12.out)
  (try clear dc0 dc1 dc2 dc3 dc4)
  obtain ⟨dc0, dc1, dc2, dc3, dc4, dc5⟩ := Vd13
  have Vd13 := Lib.hid (DyV.mk dc0 dc1 dc2 dc3 dc4 dc5)
  have B13 := below_box (w := w) (by have hszw := (B12).size; repeat (with_reducible first | refine Below.setCell ?_ (by first | omega | (simp <;> omega)) _ | refine Below.alloc ?_ (by first | omega | (simp <;> omega)) _ | refine Below.drew ?_ | refine below_drewN ?_ _ | exact B12)) hb13
  clear hb13
  go_wp2_with fail
  first
  | go_region_held3 (fun w' => w'.cell? ⟨b0, 0, none⟩ = some (.bool bdd) ∧ w'.cell? ⟨b0, 1, none⟩ = some (.bool sd) ∧ w'.cell? ⟨b0, 2, none⟩ = some ((.slice ad nd pd)) ∧ w'.cell? ⟨b0, 3, none⟩ = some (.int .i64 ed)) (first | (go_keep; done) | (go_simp; done))
      (first
        | (go_at_call 11; have xx := B17; refine (HW _ (hT.below (by have hszw := (B17).size; repeat (with_reducible first | refine Below.setCell ?_ (by first | omega | (simp <;> omega)) _ | refine Below.alloc ?_ (by first | omega | (simp <;> omega)) _ | refine Below.drew ?_ | refine below_drewN ?_ _ | exact B17)))).out.mono ?_; rintro e w18 ⟨rfl, hb18⟩; have Vd18 : DyV w18 b0 bdd sd (.slice ad nd pd) ed := (by refine DyV.below ?_ hb18; (repeat (with_reducible first | refine DyV.drew ?_ | refine DyV.drewN ?_ _ | refine DyV.alloc ?_ _)); exact Vd17.out); (try clear dc0 dc1 dc2 dc3 dc4); obtain ⟨dc0, dc1, dc2, dc3, dc4, dc5⟩ := Vd18; have Vd18 := Lib.hid (DyV.mk dc0 dc1 dc2 dc3 dc4 dc5); have B18 := below_box (w := w) (by have hszw := (B17).size; repeat (with_reducible first | refine Below.setCell ?_ (by first | omega | (simp <;> omega)) _ | refine Below.alloc ?_ (by first | omega | (simp <;> omega)) _ | refine Below.drew ?_ | refine below_drewN ?_ _ | exact B17)) hb18; clear hb18)
        | (go_at_call 13; have xx := B16; refine (H14 _).out.mono ?_; rintro e w17 ⟨rfl, hb17⟩; have Vd17 : DyV w17 b0 bdd sd (.slice ad nd pd) ed := (by refine DyV.below ?_ hb17; (repeat (with_reducible first | refine DyV.drew ?_ | refine DyV.drewN ?_ _ | refine DyV.alloc ?_ _)); exact Vd16.out); (try clear dc0 dc1 dc2 dc3 dc4); obtain ⟨dc0, dc1, dc2, dc3, dc4, dc5⟩ := Vd17; have Vd17 := Lib.hid (DyV.mk dc0 dc1 dc2 dc3 dc4 dc5); have B17 := below_box (w := w) (by have hszw := (B16).size; repeat (with_reducible first | refine Below.setCell ?_ (by first | omega | (simp <;> omega)) _ | refine Below.alloc ?_ (by first | omega | (simp <;> omega)) _ | refine Below.drew ?_ | refine below_drewN ?_ _ | exact B16)) hb17; clear hb17)
        | (go_at_call 19; have xx := B15; refine (H13 _ (Gd.out.below (by have hszw := (B15).size; repeat (with_reducible first | refine Below.setCell ?_ (by first | omega | (simp <;> omega)) _ | refine Below.alloc ?_ (by first | omega | (simp <;> omega)) _ | refine Below.drew ?_ | refine below_drewN ?_ _ | exact B15))) (hT.below (by have hszw := (B15).size; repeat (with_reducible first | refine Below.setCell ?_ (by first | omega | (simp <;> omega)) _ | refine Below.alloc ?_ (by first | omega | (simp <;> omega)) _ | refine Below.drew ?_ | refine below_drewN ?_ _ | exact B15)))).out.mono ?_; rintro e w16 ⟨rfl, hb16⟩; have Vd16 : DyV w16 b0 bdd sd (.slice ad nd pd) ed := (by refine DyV.below ?_ hb16; (repeat (with_reducible first | refine DyV.drew ?_ | refine DyV.drewN ?_ _ | refine DyV.alloc ?_ _)); exact Vd15.out); (try clear dc0 dc1 dc2 dc3 dc4); obtain ⟨dc0, dc1, dc2, dc3, dc4, dc5⟩ := Vd16; have Vd16 := Lib.hid (DyV.mk dc0 dc1 dc2 dc3 dc4 dc5); have B16 := below_box (w := w) (by have hszw := (B15).size; repeat (with_reducible first | refine Below.setCell ?_ (by first | omega | (simp <;> omega)) _ | refine Below.alloc ?_ (by first | omega | (simp <;> omega)) _ | refine Below.drew ?_ | refine below_drewN ?_ _ | exact B15)) hb16; clear hb16)
        | (go_at_call 19; have xx := B14; refine (H12 _ an cn (by repeat (with_reducible first | refine Mag.set ?_ (fun h => by have := Mn14 h; omega) _ _ | refine Mag.drew ?_ | refine Mag.alloc ?_ _ | refine Mag.drewN ?_ _ | refine Mag.below ?_ (Below.drew (Below.refl _ _)) | refine Mag.below ?_ ((Below.refl _ _).alloc (Nat.le_refl _) _) | exact Mn14)) (hT.below (by have hszw := (B14).size; repeat (with_reducible first | refine Below.setCell ?_ (by first | omega | (simp <;> omega)) _ | refine Below.alloc ?_ (by first | omega | (simp <;> omega)) _ | refine Below.drew ?_ | refine below_drewN ?_ _ | exact B14)))).out.mono ?_; rintro e w15 ⟨rfl, hb15⟩; have Vd15 : DyV w15 b0 bdd sd (.slice ad nd pd) ed := (by refine DyV.below ?_ hb15; (repeat (with_reducible first | refine DyV.drew ?_ | refine DyV.drewN ?_ _ | refine DyV.alloc ?_ _)); exact Vd14.out); (try clear dc0 dc1 dc2 dc3 dc4); obtain ⟨dc0, dc1, dc2, dc3, dc4, dc5⟩ := Vd15; have Vd15 := Lib.hid (DyV.mk dc0 dc1 dc2 dc3 dc4 dc5); have B15 := below_box (w := w) (by have hszw := (B14).size; repeat (with_reducible first | refine Below.setCell ?_ (by first | omega | (simp <;> omega)) _ | refine Below.alloc ?_ (by first | omega | (simp <;> omega)) _ | refine Below.drew ?_ | refine below_drewN ?_ _ | exact B14)) hb15; clear hb15)
        | (go_at_call 20; have xx := B13; refine (HN _ (Gd.out.below (by have hszw := (B13).size; repeat (with_reducible first | refine Below.setCell ?_ (by first | omega | (simp <;> omega)) _ | refine Below.alloc ?_ (by first | omega | (simp <;> omega)) _ | refine Below.drew ?_ | refine below_drewN ?_ _ | exact B13))) (hT.below (by have hszw := (B13).size; repeat (with_reducible first | refine Below.setCell ?_ (by first | omega | (simp <;> omega)) _ | refine Below.alloc ?_ (by first | omega | (simp <;> omega)) _ | refine Below.drew ?_ | refine below_drewN ?_ _ | exact B13)))).out.mono ?_; rintro e w14 ⟨an, cn, rfl, Mn14, hb14, hf14⟩; have Vd14 : DyV w14 b0 bdd sd (.slice ad nd pd) ed := (by refine DyV.below ?_ hb14; (repeat (with_reducible first | refine DyV.drew ?_ | refine DyV.drewN ?_ _ | refine DyV.alloc ?_ _)); exact Vd13.out); (try clear dc0 dc1 dc2 dc3 dc4); obtain ⟨dc0, dc1, dc2, dc3, dc4, dc5⟩ := Vd14; have Vd14 := Lib.hid (DyV.mk dc0 dc1 dc2 dc3 dc4 dc5); have B14 := below_box (w := w) (by have hszw := (B13).size; repeat (with_reducible first | refine Below.setCell ?_ (by first | omega | (simp <;> omega)) _ | refine Below.alloc ?_ (by first | omega | (simp <;> omega)) _ | refine Below.drew ?_ | refine below_drewN ?_ _ | exact B13)) hb14; clear hb14 hf14)
        | fail)
  | fail "region"
  go_wp2_with fail
  go_ret
  exact ⟨rfl, (by have hszw := (B18).size; repeat (with_reducible first | refine Below.setCell ?_ (by first | omega | (simp <;> omega)) _ | refine Below.alloc ?_ (by first | omega | (simp <;> omega)) _ | refine Below.drew ?_ | refine below_drewN ?_ _ | exact B18))⟩

set_option maxRecDepth 100000 in
set_option maxHeartbeats 20000000 in
theorem mirr_10 (w : World) (hT : Tab w) (a b : Nat) (ha : a < 18446744073709551616) (hb : b < 18446744073709551616) (bdd sd : Bool) (ad : Option Addr) (nd pd : Nat) (ed : Int) (dd : Option (Int × Int)) (Hd : DyIs w bdd sd ad nd pd ed dd) (mode : Int) (md : nd ≤ 9223372036854775807) (hsd : slim3B nd ed = true) (kz : (fkind (fadd (fneg a) (fneg b) (fopp mode)) != 0) = true) (st : fadd (fneg a) (fneg b) (fopp mode) = fneg (fadd a b mode)) (kk : fkind (fadd (fneg a) (fneg b) (fopp mode)) = fkind (fneg (fadd a b mode))) (sz : dman dd = 0) :
    Calls Tryd.prog 3 #[.int .u64 a, .int .u64 b, .agg #[.bool bdd, .bool sd, .slice ad nd pd, .int .i64 ed], .int .i64 mode] w fun o w' => o = .returned (.bool true) ∧ Below w.heap.size w w' := by
  have HSl := fun W => Lib.hid (slimDyad3_any W bdd sd ad nd pd ed md true hsd)
  have HW := fun W ht => Lib.hid (awakeF_any W ht)
  have Gd := Lib.hid Hd
  have HOp := fun W => Lib.hid (fopp_any W mode)
  have H1 := fun W => Lib.hid (fneg_any W a ha)
  have H2 := fun W => Lib.hid (fneg_any W b hb)
  obtain ⟨o, ho⟩ : ∃ o, o = fopp mode := ⟨_, rfl⟩
  have la := fneg_lt a
  have lb := fneg_lt b
  have m1 := mir_mul a b mode
  have m2 := mir_div a b mode
  rw [← ho] at HOp m1 m2 kz kk
  have lm : fmul a b mode < 18446744073709551616 := fmul_lt a b mode
  have ld : fdiv a b mode < 18446744073709551616 := gdiv_lt a b mode
  have ld2 : fadd a b mode < 18446744073709551616 := fadd_lt ha hb mode
  have H3 := fun W ht => Lib.hid (wmul_any W (fneg a) b la hb o ht)
  have H4 := fun W ht => Lib.hid (wmul_any W a b ha hb mode ht)
  have H5 := fun W => Lib.hid (fneg_any W (fmul a b mode) lm)
  rw [m1] at H3
  have H6 := fun W ht => Lib.hid (wdiv_any W a (fneg b) ha lb o ht)
  have H7 := fun W ht => Lib.hid (wdiv_any W a b ha hb mode ht)
  have H8 := fun W => Lib.hid (fneg_any W (fdiv a b mode) ld)
  rw [m2] at H6
  have H9 := fun W ht => Lib.hid (wadd_any W (fneg a) (fneg b) la lb o ht)
  have H10 := fun W ht => Lib.hid (wadd_any W a b ha hb mode ht)
  have H11 := fun W => Lib.hid (fneg_any W (fadd a b mode) ld2)
  have HK1 := fun W => Lib.hid (fkind_any W (fadd (fneg a) (fneg b) o))
  have HK2 := fun W => Lib.hid (fkind_any W (fneg (fadd a b mode)))
  rw [← kk] at HK2
  have HSg := fun W (h : DyIs W bdd sd ad nd pd ed dd) ht => Lib.hid (rdsign_any W bdd sd ad nd pd ed dd h ht)
  have hsz : (sg (dman dd) == 0) = true := by rw [sz]; rfl
  rw [← ho] at st
  rw [st] at H9 HK1
  generalize sg (dman dd) = gs at *
  rw [st] at kz HK2
  generalize fkind (fneg (fadd a b mode)) = kv at *
  clear m1 m2 lm ld ld2 la lb ho kk sz Hd hsd
  clear st
  generalize ((fneg (fmul a b mode) : Nat) : Int) = i1 at *
  generalize ((fneg (fdiv a b mode) : Nat) : Int) = i2 at *
  generalize ((fneg (fadd a b mode) : Nat) : Int) = i3 at *
  generalize ((fmul a b mode : Nat) : Int) = i4 at *
  generalize ((fdiv a b mode : Nat) : Int) = i5 at *
  generalize ((fadd a b mode : Nat) : Int) = i6 at *
  generalize ((fadd (fneg a) (fneg b) o : Nat) : Int) = i7 at *
  generalize ((fneg a : Nat) : Int) = ix at *
  generalize ((fneg b : Nat) : Int) = iy at *
  clear ha hb
  generalize (a : Int) = ia at *
  generalize (b : Int) = ib at *
  go_enter Tryd.func3, Tryd.ntmps3
  go_wp2_with fail
  have I0 := DyV.made w 28 bdd sd (.slice ad nd pd) ed
  have B0 : Below w.heap.size w (w.alloc (.cells #[.bool bdd, .bool sd, .slice ad nd pd, .int .i64 ed] 28)) := (by repeat (with_reducible first | refine Below.setCell ?_ (by simp <;> omega) _ | refine Below.alloc ?_ (by simp <;> omega) _ | refine Below.drew ?_ | refine below_drewN ?_ _ | exact Below.refl _ _))
  generalize (w.alloc (.cells #[.bool bdd, .bool sd, .slice ad nd pd, .int .i64 ed] 28)) = w0 at I0 B0 ⊢
  generalize hb0 : w.heap.size = b0 at I0 ⊢
  obtain ⟨dc0, dc1, dc2, dc3, dc4, dc5⟩ := I0
  have Vd0 := Lib.hid (DyV.mk dc0 dc1 dc2 dc3 dc4 dc5)
  refine (HSl _).out.mono ?_
  rintro e w1 ⟨rfl, hb1⟩
  have Vd1 : DyV w1 b0 bdd sd (.slice ad nd pd) ed := (by refine DyV.below ?_ hb1; (repeat (with_reducible first | refine DyV.drew ?_ | refine DyV.drewN ?_ _ | refine DyV.alloc ?_ _)); exact Vd0.out)
  (try clear dc0 dc1 dc2 dc3 dc4)
  obtain ⟨dc0, dc1, dc2, dc3, dc4, dc5⟩ := Vd1
  have Vd1 := Lib.hid (DyV.mk dc0 dc1 dc2 dc3 dc4 dc5)
  have B1 := below_box (w := w) (by have hszw := (B0).size; repeat (with_reducible first | refine Below.setCell ?_ (by first | omega | (simp <;> omega)) _ | refine Below.alloc ?_ (by first | omega | (simp <;> omega)) _ | refine Below.drew ?_ | refine below_drewN ?_ _ | exact B0)) hb1
  clear hb1
  go_wp2_with fail
  refine (HOp _).out.mono ?_
  rintro e wq ⟨rfl, rfl⟩
  go_wp2_with fail
  refine (H1 _).out.mono ?_
  rintro e w2 ⟨rfl, hb2⟩
  have Vd2 : DyV w2 b0 bdd sd (.slice ad nd pd) ed := (by refine DyV.below ?_ hb2; (repeat (with_reducible first | refine DyV.drew ?_ | refine DyV.drewN ?_ _ | refine DyV.alloc ?_ _)); exact Vd1.out)
  (try clear dc0 dc1 dc2 dc3 dc4)
  obtain ⟨dc0, dc1, dc2, dc3, dc4, dc5⟩ := Vd2
  have Vd2 := Lib.hid (DyV.mk dc0 dc1 dc2 dc3 dc4 dc5)
  have B2 := below_box (w := w) (by have hszw := (B1).size; repeat (with_reducible first | refine Below.setCell ?_ (by first | omega | (simp <;> omega)) _ | refine Below.alloc ?_ (by first | omega | (simp <;> omega)) _ | refine Below.drew ?_ | refine below_drewN ?_ _ | exact B1)) hb2
  clear hb2
  go_wp2_with fail
  refine (H2 _).out.mono ?_
  rintro e w3 ⟨rfl, hb3⟩
  have Vd3 : DyV w3 b0 bdd sd (.slice ad nd pd) ed := (by refine DyV.below ?_ hb3; (repeat (with_reducible first | refine DyV.drew ?_ | refine DyV.drewN ?_ _ | refine DyV.alloc ?_ _)); exact Vd2.out)
  (try clear dc0 dc1 dc2 dc3 dc4)
  obtain ⟨dc0, dc1, dc2, dc3, dc4, dc5⟩ := Vd3
  have Vd3 := Lib.hid (DyV.mk dc0 dc1 dc2 dc3 dc4 dc5)
  have B3 := below_box (w := w) (by have hszw := (B2).size; repeat (with_reducible first | refine Below.setCell ?_ (by first | omega | (simp <;> omega)) _ | refine Below.alloc ?_ (by first | omega | (simp <;> omega)) _ | refine Below.drew ?_ | refine below_drewN ?_ _ | exact B2)) hb3
  clear hb3
  go_wp2_with fail
  refine (H3 _ (hT.below (by have hszw := (B3).size; repeat (with_reducible first | refine Below.setCell ?_ (by first | omega | (simp <;> omega)) _ | refine Below.alloc ?_ (by first | omega | (simp <;> omega)) _ | refine Below.drew ?_ | refine below_drewN ?_ _ | exact B3)))).out.mono ?_
  rintro e w4 ⟨rfl, hb4⟩
  have Vd4 : DyV w4 b0 bdd sd (.slice ad nd pd) ed := (by refine DyV.below ?_ hb4; (repeat (with_reducible first | refine DyV.drew ?_ | refine DyV.drewN ?_ _ | refine DyV.alloc ?_ _)); exact Vd3.out)
  (try clear dc0 dc1 dc2 dc3 dc4)
  obtain ⟨dc0, dc1, dc2, dc3, dc4, dc5⟩ := Vd4
  have Vd4 := Lib.hid (DyV.mk dc0 dc1 dc2 dc3 dc4 dc5)
  have B4 := below_box (w := w) (by have hszw := (B3).size; repeat (with_reducible first | refine Below.setCell ?_ (by first | omega | (simp <;> omega)) _ | refine Below.alloc ?_ (by first | omega | (simp <;> omega)) _ | refine Below.drew ?_ | refine below_drewN ?_ _ | exact B3)) hb4
  clear hb4
  go_wp2_with fail
  refine (H4 _ (hT.below (by have hszw := (B4).size; repeat (with_reducible first | refine Below.setCell ?_ (by first | omega | (simp <;> omega)) _ | refine Below.alloc ?_ (by first | omega | (simp <;> omega)) _ | refine Below.drew ?_ | refine below_drewN ?_ _ | exact B4)))).out.mono ?_
  rintro e w5 ⟨rfl, hb5⟩
  have Vd5 : DyV w5 b0 bdd sd (.slice ad nd pd) ed := (by refine DyV.below ?_ hb5; (repeat (with_reducible first | refine DyV.drew ?_ | refine DyV.drewN ?_ _ | refine DyV.alloc ?_ _)); exact Vd4.out)
  (try clear dc0 dc1 dc2 dc3 dc4)
  obtain ⟨dc0, dc1, dc2, dc3, dc4, dc5⟩ := Vd5
  have Vd5 := Lib.hid (DyV.mk dc0 dc1 dc2 dc3 dc4 dc5)
  have B5 := below_box (w := w) (by have hszw := (B4).size; repeat (with_reducible first | refine Below.setCell ?_ (by first | omega | (simp <;> omega)) _ | refine Below.alloc ?_ (by first | omega | (simp <;> omega)) _ | refine Below.drew ?_ | refine below_drewN ?_ _ | exact B4)) hb5
  clear hb5
  go_wp2_with fail
  refine (H5 _).out.mono ?_
  rintro e w6 ⟨rfl, hb6⟩
  have Vd6 : DyV w6 b0 bdd sd (.slice ad nd pd) ed := (by refine DyV.below ?_ hb6; (repeat (with_reducible first | refine DyV.drew ?_ | refine DyV.drewN ?_ _ | refine DyV.alloc ?_ _)); exact Vd5.out)
  (try clear dc0 dc1 dc2 dc3 dc4)
  obtain ⟨dc0, dc1, dc2, dc3, dc4, dc5⟩ := Vd6
  have Vd6 := Lib.hid (DyV.mk dc0 dc1 dc2 dc3 dc4 dc5)
  have B6 := below_box (w := w) (by have hszw := (B5).size; repeat (with_reducible first | refine Below.setCell ?_ (by first | omega | (simp <;> omega)) _ | refine Below.alloc ?_ (by first | omega | (simp <;> omega)) _ | refine Below.drew ?_ | refine below_drewN ?_ _ | exact B5)) hb6
  clear hb6
  go_wp2_with fail
  refine (H6 _ (hT.below (by have hszw := (B6).size; repeat (with_reducible first | refine Below.setCell ?_ (by first | omega | (simp <;> omega)) _ | refine Below.alloc ?_ (by first | omega | (simp <;> omega)) _ | refine Below.drew ?_ | refine below_drewN ?_ _ | exact B6)))).out.mono ?_
  rintro e w7 ⟨rfl, hb7⟩
  have Vd7 : DyV w7 b0 bdd sd (.slice ad nd pd) ed := (by refine DyV.below ?_ hb7; (repeat (with_reducible first | refine DyV.drew ?_ | refine DyV.drewN ?_ _ | refine DyV.alloc ?_ _)); exact Vd6.out)
  (try clear dc0 dc1 dc2 dc3 dc4)
  obtain ⟨dc0, dc1, dc2, dc3, dc4, dc5⟩ := Vd7
  have Vd7 := Lib.hid (DyV.mk dc0 dc1 dc2 dc3 dc4 dc5)
  have B7 := below_box (w := w) (by have hszw := (B6).size; repeat (with_reducible first | refine Below.setCell ?_ (by first | omega | (simp <;> omega)) _ | refine Below.alloc ?_ (by first | omega | (simp <;> omega)) _ | refine Below.drew ?_ | refine below_drewN ?_ _ | exact B6)) hb7
  clear hb7
  go_wp2_with fail
  refine (H7 _ (hT.below (by have hszw := (B7).size; repeat (with_reducible first | refine Below.setCell ?_ (by first | omega | (simp <;> omega)) _ | refine Below.alloc ?_ (by first | omega | (simp <;> omega)) _ | refine Below.drew ?_ | refine below_drewN ?_ _ | exact B7)))).out.mono ?_
  rintro e w8 ⟨rfl, hb8⟩
  have Vd8 : DyV w8 b0 bdd sd (.slice ad nd pd) ed := (by refine DyV.below ?_ hb8; (repeat (with_reducible first | refine DyV.drew ?_ | refine DyV.drewN ?_ _ | refine DyV.alloc ?_ _)); exact Vd7.out)
  (try clear dc0 dc1 dc2 dc3 dc4)
  obtain ⟨dc0, dc1, dc2, dc3, dc4, dc5⟩ := Vd8
  have Vd8 := Lib.hid (DyV.mk dc0 dc1 dc2 dc3 dc4 dc5)
  have B8 := below_box (w := w) (by have hszw := (B7).size; repeat (with_reducible first | refine Below.setCell ?_ (by first | omega | (simp <;> omega)) _ | refine Below.alloc ?_ (by first | omega | (simp <;> omega)) _ | refine Below.drew ?_ | refine below_drewN ?_ _ | exact B7)) hb8
  clear hb8
  go_wp2_with fail
  refine (H8 _).out.mono ?_
  rintro e w9 ⟨rfl, hb9⟩
  have Vd9 : DyV w9 b0 bdd sd (.slice ad nd pd) ed := (by refine DyV.below ?_ hb9; (repeat (with_reducible first | refine DyV.drew ?_ | refine DyV.drewN ?_ _ | refine DyV.alloc ?_ _)); exact Vd8.out)
  (try clear dc0 dc1 dc2 dc3 dc4)
  obtain ⟨dc0, dc1, dc2, dc3, dc4, dc5⟩ := Vd9
  have Vd9 := Lib.hid (DyV.mk dc0 dc1 dc2 dc3 dc4 dc5)
  have B9 := below_box (w := w) (by have hszw := (B8).size; repeat (with_reducible first | refine Below.setCell ?_ (by first | omega | (simp <;> omega)) _ | refine Below.alloc ?_ (by first | omega | (simp <;> omega)) _ | refine Below.drew ?_ | refine below_drewN ?_ _ | exact B8)) hb9
  clear hb9
  go_wp2_with fail
  refine (H9 _ (hT.below (by have hszw := (B9).size; repeat (with_reducible first | refine Below.setCell ?_ (by first | omega | (simp <;> omega)) _ | refine Below.alloc ?_ (by first | omega | (simp <;> omega)) _ | refine Below.drew ?_ | refine below_drewN ?_ _ | exact B9)))).out.mono ?_
  rintro e w10 ⟨rfl, hb10⟩
  have Vd10 : DyV w10 b0 bdd sd (.slice ad nd pd) ed := (by refine DyV.below ?_ hb10; (repeat (with_reducible first | refine DyV.drew ?_ | refine DyV.drewN ?_ _ | refine DyV.alloc ?_ _)); exact Vd9.out)
  (try clear dc0 dc1 dc2 dc3 dc4)
  obtain ⟨dc0, dc1, dc2, dc3, dc4, dc5⟩ := Vd10
  have Vd10 := Lib.hid (DyV.mk dc0 dc1 dc2 dc3 dc4 dc5)
  have B10 := below_box (w := w) (by have hszw := (B9).size; repeat (with_reducible first | refine Below.setCell ?_ (by first | omega | (simp <;> omega)) _ | refine Below.alloc ?_ (by first | omega | (simp <;> omega)) _ | refine Below.drew ?_ | refine below_drewN ?_ _ | exact B9)) hb10
  clear hb10
  go_wp2_with fail
  refine (H10 _ (hT.below (by have hszw := (B10).size; repeat (with_reducible first | refine Below.setCell ?_ (by first | omega | (simp <;> omega)) _ | refine Below.alloc ?_ (by first | omega | (simp <;> omega)) _ | refine Below.drew ?_ | refine below_drewN ?_ _ | exact B10)))).out.mono ?_
  rintro e w11 ⟨rfl, hb11⟩
  have Vd11 : DyV w11 b0 bdd sd (.slice ad nd pd) ed := (by refine DyV.below ?_ hb11; (repeat (with_reducible first | refine DyV.drew ?_ | refine DyV.drewN ?_ _ | refine DyV.alloc ?_ _)); exact Vd10.out)
  (try clear dc0 dc1 dc2 dc3 dc4)
  obtain ⟨dc0, dc1, dc2, dc3, dc4, dc5⟩ := Vd11
  have Vd11 := Lib.hid (DyV.mk dc0 dc1 dc2 dc3 dc4 dc5)
  have B11 := below_box (w := w) (by have hszw := (B10).size; repeat (with_reducible first | refine Below.setCell ?_ (by first | omega | (simp <;> omega)) _ | refine Below.alloc ?_ (by first | omega | (simp <;> omega)) _ | refine Below.drew ?_ | refine below_drewN ?_ _ | exact B10)) hb11
  clear hb11
  go_wp2_with fail
  refine (H11 _).out.mono ?_
  rintro e w12 ⟨rfl, hb12⟩
  have Vd12 : DyV w12 b0 bdd sd (.slice ad nd pd) ed := (by refine DyV.below ?_ hb12; (repeat (with_reducible first | refine DyV.drew ?_ | refine DyV.drewN ?_ _ | refine DyV.alloc ?_ _)); exact Vd11.out)
  (try clear dc0 dc1 dc2 dc3 dc4)
  obtain ⟨dc0, dc1, dc2, dc3, dc4, dc5⟩ := Vd12
  have Vd12 := Lib.hid (DyV.mk dc0 dc1 dc2 dc3 dc4 dc5)
  have B12 := below_box (w := w) (by have hszw := (B11).size; repeat (with_reducible first | refine Below.setCell ?_ (by first | omega | (simp <;> omega)) _ | refine Below.alloc ?_ (by first | omega | (simp <;> omega)) _ | refine Below.drew ?_ | refine below_drewN ?_ _ | exact B11)) hb12
  clear hb12
  go_wp2_with fail
  refine (HK1 _).out.mono ?_
  rintro e wq ⟨rfl, rfl⟩
  go_wp2_with fail
  refine (HK1 _).out.mono ?_
  rintro e wq ⟨rfl, rfl⟩
  go_wp2_with fail
  refine (HK2 _).out.mono ?_
  rintro e wq ⟨rfl, rfl⟩
  go_wp2_with fail
  refine (HSg _ (Gd.out.below (by have hszw := (B12).size; repeat (with_reducible first | refine Below.setCell ?_ (by first | omega | (simp <;> omega)) _ | refine Below.alloc ?_ (by first | omega | (simp <;> omega)) _ | refine Below.drew ?_ | refine below_drewN ?_ _ | exact B12))) (hT.below (by have hszw := (B12).size; repeat (with_reducible first | refine Below.setCell ?_ (by first | omega | (simp <;> omega)) _ | refine Below.alloc ?_ (by first | omega | (simp <;> omega)) _ | refine Below.drew ?_ | refine below_drewN ?_ _ | exact B12)))).out.mono ?_
  rintro e w13 ⟨rfl, hb13⟩
  have Vd13 : DyV w13 b0 bdd sd (.slice ad nd pd) ed := (by refine DyV.below ?_ hb13; (repeat (with_reducible first | refine DyV.drew ?_ | refine DyV.drewN ?_ _ | refine DyV.alloc ?_ _)); exact Vd12.out)
  (try clear dc0 dc1 dc2 dc3 dc4)
  obtain ⟨dc0, dc1, dc2, dc3, dc4, dc5⟩ := Vd13
  have Vd13 := Lib.hid (DyV.mk dc0 dc1 dc2 dc3 dc4 dc5)
  have B13 := below_box (w := w) (by have hszw := (B12).size; repeat (with_reducible first | refine Below.setCell ?_ (by first | omega | (simp <;> omega)) _ | refine Below.alloc ?_ (by first | omega | (simp <;> omega)) _ | refine Below.drew ?_ | refine below_drewN ?_ _ | exact B12)) hb13
  clear hb13
  go_wp2_with fail
  refine (HW _ (hT.below (by have hszw := (B13).size; repeat (with_reducible first | refine Below.setCell ?_ (by first | omega | (simp <;> omega)) _ | refine Below.alloc ?_ (by first | omega | (simp <;> omega)) _ | refine Below.drew ?_ | refine below_drewN ?_ _ | exact B13)))).out.mono ?_
  rintro e w14 ⟨rfl, hb14⟩
  have Vd14 : DyV w14 b0 bdd sd (.slice ad nd pd) ed := (by refine DyV.below ?_ hb14; (repeat (with_reducible first | refine DyV.drew ?_ | refine DyV.drewN ?_ _ | refine DyV.alloc ?_ _)); exact Vd13.out)
  (try clear dc0 dc1 dc2 dc3 dc4)
  obtain ⟨dc0, dc1, dc2, dc3, dc4, dc5⟩ := Vd14
  have Vd14 := Lib.hid (DyV.mk dc0 dc1 dc2 dc3 dc4 dc5)
  have B14 := below_box (w := w) (by have hszw := (B13).size; repeat (with_reducible first | refine Below.setCell ?_ (by first | omega | (simp <;> omega)) _ | refine Below.alloc ?_ (by first | omega | (simp <;> omega)) _ | refine Below.drew ?_ | refine below_drewN ?_ _ | exact B13)) hb14
  clear hb14
  go_wp2_with fail
  go_ret
  exact ⟨rfl, (by have hszw := (B14).size; repeat (with_reducible first | refine Below.setCell ?_ (by first | omega | (simp <;> omega)) _ | refine Below.alloc ?_ (by first | omega | (simp <;> omega)) _ | refine Below.drew ?_ | refine below_drewN ?_ _ | exact B14))⟩

set_option maxRecDepth 100000 in
set_option maxHeartbeats 20000000 in
theorem mirr_11 (w : World) (hT : Tab w) (a b : Nat) (ha : a < 18446744073709551616) (hb : b < 18446744073709551616) (bdd sd : Bool) (ad : Option Addr) (nd pd : Nat) (ed : Int) (dd : Option (Int × Int)) (Hd : DyIs w bdd sd ad nd pd ed dd) (mode : Int) (md : nd ≤ 9223372036854775807) (hsd : slim3B nd ed = true) (kz : (fkind (fadd (fneg a) (fneg b) (fopp mode)) != 0) = true) (st : fadd (fneg a) (fneg b) (fopp mode) = fneg (fadd a b mode)) (kk : fkind (fadd (fneg a) (fneg b) (fopp mode)) = fkind (fneg (fadd a b mode))) (sz : dman dd ≠ 0) :
    Calls Tryd.prog 3 #[.int .u64 a, .int .u64 b, .agg #[.bool bdd, .bool sd, .slice ad nd pd, .int .i64 ed], .int .i64 mode] w fun o w' => o = .returned (.bool true) ∧ Below w.heap.size w w' := by
  have HSl := fun W => Lib.hid (slimDyad3_any W bdd sd ad nd pd ed md true hsd)
  have HW := fun W ht => Lib.hid (awakeF_any W ht)
  have Gd := Lib.hid Hd
  have HOp := fun W => Lib.hid (fopp_any W mode)
  have H1 := fun W => Lib.hid (fneg_any W a ha)
  have H2 := fun W => Lib.hid (fneg_any W b hb)
  obtain ⟨o, ho⟩ : ∃ o, o = fopp mode := ⟨_, rfl⟩
  have la := fneg_lt a
  have lb := fneg_lt b
  have m1 := mir_mul a b mode
  have m2 := mir_div a b mode
  rw [← ho] at HOp m1 m2 kz kk
  have lm : fmul a b mode < 18446744073709551616 := fmul_lt a b mode
  have ld : fdiv a b mode < 18446744073709551616 := gdiv_lt a b mode
  have ld2 : fadd a b mode < 18446744073709551616 := fadd_lt ha hb mode
  have H3 := fun W ht => Lib.hid (wmul_any W (fneg a) b la hb o ht)
  have H4 := fun W ht => Lib.hid (wmul_any W a b ha hb mode ht)
  have H5 := fun W => Lib.hid (fneg_any W (fmul a b mode) lm)
  rw [m1] at H3
  have H6 := fun W ht => Lib.hid (wdiv_any W a (fneg b) ha lb o ht)
  have H7 := fun W ht => Lib.hid (wdiv_any W a b ha hb mode ht)
  have H8 := fun W => Lib.hid (fneg_any W (fdiv a b mode) ld)
  rw [m2] at H6
  have H9 := fun W ht => Lib.hid (wadd_any W (fneg a) (fneg b) la lb o ht)
  have H10 := fun W ht => Lib.hid (wadd_any W a b ha hb mode ht)
  have H11 := fun W => Lib.hid (fneg_any W (fadd a b mode) ld2)
  have HK1 := fun W => Lib.hid (fkind_any W (fadd (fneg a) (fneg b) o))
  have HK2 := fun W => Lib.hid (fkind_any W (fneg (fadd a b mode)))
  rw [← kk] at HK2
  have HSg := fun W (h : DyIs W bdd sd ad nd pd ed dd) ht => Lib.hid (rdsign_any W bdd sd ad nd pd ed dd h ht)
  have hsz : (sg (dman dd) == 0) = false := by unfold sg cmpI; split <;> (try split) <;> first | decide | (exfalso; omega)
  rw [← ho] at st
  rw [st] at H9 HK1
  have HN := fun W (h : DyIs W bdd sd ad nd pd ed dd) ht => Lib.hid (dneg_any W bdd sd ad nd pd ed dd h.1 ht)
  have Nn := Lib.hid (isN_neg Hd.1.isN)
  have r1 := fround_opp sz mode
  rw [← ho] at r1
  have H12 := fun W b1 q1 (h : Mag W b1 (nl (dman (dneg dd)).natAbs) q1 (dman (dneg dd)).natAbs) ht => Lib.hid (fround_any W _ _ _ _ _ _ o _ (dyin_of Nn.out h) ht)
  rw [r1] at H12
  have H13 := fun W (h : DyIs W bdd sd ad nd pd ed dd) ht => Lib.hid (fround_any W bdd sd ad nd pd ed mode dd h.1 ht)
  have H14 := fun W => Lib.hid (fneg_any W (fround dd mode) (fround_lt dd mode))
  generalize dneg dd = dn at *
  clear r1
  generalize ((fneg (fround dd mode) : Nat) : Int) = i9 at *
  generalize ((fround dd mode : Nat) : Int) = i8 at *
  generalize sg (dman dd) = gs at *
  rw [st] at kz HK2
  generalize fkind (fneg (fadd a b mode)) = kv at *
  clear m1 m2 lm ld ld2 la lb ho kk sz Hd hsd
  clear st
  generalize ((fneg (fmul a b mode) : Nat) : Int) = i1 at *
  generalize ((fneg (fdiv a b mode) : Nat) : Int) = i2 at *
  generalize ((fneg (fadd a b mode) : Nat) : Int) = i3 at *
  generalize ((fmul a b mode : Nat) : Int) = i4 at *
  generalize ((fdiv a b mode : Nat) : Int) = i5 at *
  generalize ((fadd a b mode : Nat) : Int) = i6 at *
  generalize ((fadd (fneg a) (fneg b) o : Nat) : Int) = i7 at *
  generalize ((fneg a : Nat) : Int) = ix at *
  generalize ((fneg b : Nat) : Int) = iy at *
  clear ha hb
  generalize (a : Int) = ia at *
  generalize (b : Int) = ib at *
  go_enter Tryd.func3, Tryd.ntmps3
  go_wp2_with fail
  have I0 := DyV.made w 28 bdd sd (.slice ad nd pd) ed
  have B0 : Below w.heap.size w (w.alloc (.cells #[.bool bdd, .bool sd, .slice ad nd pd, .int .i64 ed] 28)) := (by repeat (with_reducible first | refine Below.setCell ?_ (by simp <;> omega) _ | refine Below.alloc ?_ (by simp <;> omega) _ | refine Below.drew ?_ | refine below_drewN ?_ _ | exact Below.refl _ _))
  generalize (w.alloc (.cells #[.bool bdd, .bool sd, .slice ad nd pd, .int .i64 ed] 28)) = w0 at I0 B0 ⊢
  generalize hb0 : w.heap.size = b0 at I0 ⊢
  obtain ⟨dc0, dc1, dc2, dc3, dc4, dc5⟩ := I0
  have Vd0 := Lib.hid (DyV.mk dc0 dc1 dc2 dc3 dc4 dc5)
  refine (HSl _).out.mono ?_
  rintro e w1 ⟨rfl, hb1⟩
  have Vd1 : DyV w1 b0 bdd sd (.slice ad nd pd) ed := (by refine DyV.below ?_ hb1; (repeat (with_reducible first | refine DyV.drew ?_ | refine DyV.drewN ?_ _ | refine DyV.alloc ?_ _)); exact Vd0.out)
  (try clear dc0 dc1 dc2 dc3 dc4)
  obtain ⟨dc0, dc1, dc2, dc3, dc4, dc5⟩ := Vd1
  have Vd1 := Lib.hid (DyV.mk dc0 dc1 dc2 dc3 dc4 dc5)
  have B1 := below_box (w := w) (by have hszw := (B0).size; repeat (with_reducible first | refine Below.setCell ?_ (by first | omega | (simp <;> omega)) _ | refine Below.alloc ?_ (by first | omega | (simp <;> omega)) _ | refine Below.drew ?_ | refine below_drewN ?_ _ | exact B0)) hb1
  clear hb1
  go_wp2_with fail
  refine (HOp _).out.mono ?_
  rintro e wq ⟨rfl, rfl⟩
  go_wp2_with fail
  refine (H1 _).out.mono ?_
  rintro e w2 ⟨rfl, hb2⟩
  have Vd2 : DyV w2 b0 bdd sd (.slice ad nd pd) ed := (by refine DyV.below ?_ hb2; (repeat (with_reducible first | refine DyV.drew ?_ | refine DyV.drewN ?_ _ | refine DyV.alloc ?_ _)); exact Vd1.out)
  (try clear dc0 dc1 dc2 dc3 dc4)
  obtain ⟨dc0, dc1, dc2, dc3, dc4, dc5⟩ := Vd2
  have Vd2 := Lib.hid (DyV.mk dc0 dc1 dc2 dc3 dc4 dc5)
  have B2 := below_box (w := w) (by have hszw := (B1).size; repeat (with_reducible first | refine Below.setCell ?_ (by first | omega | (simp <;> omega)) _ | refine Below.alloc ?_ (by first | omega | (simp <;> omega)) _ | refine Below.drew ?_ | refine below_drewN ?_ _ | exact B1)) hb2
  clear hb2
  go_wp2_with fail
  refine (H2 _).out.mono ?_
  rintro e w3 ⟨rfl, hb3⟩
  have Vd3 : DyV w3 b0 bdd sd (.slice ad nd pd) ed := (by refine DyV.below ?_ hb3; (repeat (with_reducible first | refine DyV.drew ?_ | refine DyV.drewN ?_ _ | refine DyV.alloc ?_ _)); exact Vd2.out)
  (try clear dc0 dc1 dc2 dc3 dc4)
  obtain ⟨dc0, dc1, dc2, dc3, dc4, dc5⟩ := Vd3
  have Vd3 := Lib.hid (DyV.mk dc0 dc1 dc2 dc3 dc4 dc5)
  have B3 := below_box (w := w) (by have hszw := (B2).size; repeat (with_reducible first | refine Below.setCell ?_ (by first | omega | (simp <;> omega)) _ | refine Below.alloc ?_ (by first | omega | (simp <;> omega)) _ | refine Below.drew ?_ | refine below_drewN ?_ _ | exact B2)) hb3
  clear hb3
  go_wp2_with fail
  refine (H3 _ (hT.below (by have hszw := (B3).size; repeat (with_reducible first | refine Below.setCell ?_ (by first | omega | (simp <;> omega)) _ | refine Below.alloc ?_ (by first | omega | (simp <;> omega)) _ | refine Below.drew ?_ | refine below_drewN ?_ _ | exact B3)))).out.mono ?_
  rintro e w4 ⟨rfl, hb4⟩
  have Vd4 : DyV w4 b0 bdd sd (.slice ad nd pd) ed := (by refine DyV.below ?_ hb4; (repeat (with_reducible first | refine DyV.drew ?_ | refine DyV.drewN ?_ _ | refine DyV.alloc ?_ _)); exact Vd3.out)
  (try clear dc0 dc1 dc2 dc3 dc4)
  obtain ⟨dc0, dc1, dc2, dc3, dc4, dc5⟩ := Vd4
  have Vd4 := Lib.hid (DyV.mk dc0 dc1 dc2 dc3 dc4 dc5)
  have B4 := below_box (w := w) (by have hszw := (B3).size; repeat (with_reducible first | refine Below.setCell ?_ (by first | omega | (simp <;> omega)) _ | refine Below.alloc ?_ (by first | omega | (simp <;> omega)) _ | refine Below.drew ?_ | refine below_drewN ?_ _ | exact B3)) hb4
  clear hb4
  go_wp2_with fail
  refine (H4 _ (hT.below (by have hszw := (B4).size; repeat (with_reducible first | refine Below.setCell ?_ (by first | omega | (simp <;> omega)) _ | refine Below.alloc ?_ (by first | omega | (simp <;> omega)) _ | refine Below.drew ?_ | refine below_drewN ?_ _ | exact B4)))).out.mono ?_
  rintro e w5 ⟨rfl, hb5⟩
  have Vd5 : DyV w5 b0 bdd sd (.slice ad nd pd) ed := (by refine DyV.below ?_ hb5; (repeat (with_reducible first | refine DyV.drew ?_ | refine DyV.drewN ?_ _ | refine DyV.alloc ?_ _)); exact Vd4.out)
  (try clear dc0 dc1 dc2 dc3 dc4)
  obtain ⟨dc0, dc1, dc2, dc3, dc4, dc5⟩ := Vd5
  have Vd5 := Lib.hid (DyV.mk dc0 dc1 dc2 dc3 dc4 dc5)
  have B5 := below_box (w := w) (by have hszw := (B4).size; repeat (with_reducible first | refine Below.setCell ?_ (by first | omega | (simp <;> omega)) _ | refine Below.alloc ?_ (by first | omega | (simp <;> omega)) _ | refine Below.drew ?_ | refine below_drewN ?_ _ | exact B4)) hb5
  clear hb5
  go_wp2_with fail
  refine (H5 _).out.mono ?_
  rintro e w6 ⟨rfl, hb6⟩
  have Vd6 : DyV w6 b0 bdd sd (.slice ad nd pd) ed := (by refine DyV.below ?_ hb6; (repeat (with_reducible first | refine DyV.drew ?_ | refine DyV.drewN ?_ _ | refine DyV.alloc ?_ _)); exact Vd5.out)
  (try clear dc0 dc1 dc2 dc3 dc4)
  obtain ⟨dc0, dc1, dc2, dc3, dc4, dc5⟩ := Vd6
  have Vd6 := Lib.hid (DyV.mk dc0 dc1 dc2 dc3 dc4 dc5)
  have B6 := below_box (w := w) (by have hszw := (B5).size; repeat (with_reducible first | refine Below.setCell ?_ (by first | omega | (simp <;> omega)) _ | refine Below.alloc ?_ (by first | omega | (simp <;> omega)) _ | refine Below.drew ?_ | refine below_drewN ?_ _ | exact B5)) hb6
  clear hb6
  go_wp2_with fail
  refine (H6 _ (hT.below (by have hszw := (B6).size; repeat (with_reducible first | refine Below.setCell ?_ (by first | omega | (simp <;> omega)) _ | refine Below.alloc ?_ (by first | omega | (simp <;> omega)) _ | refine Below.drew ?_ | refine below_drewN ?_ _ | exact B6)))).out.mono ?_
  rintro e w7 ⟨rfl, hb7⟩
  have Vd7 : DyV w7 b0 bdd sd (.slice ad nd pd) ed := (by refine DyV.below ?_ hb7; (repeat (with_reducible first | refine DyV.drew ?_ | refine DyV.drewN ?_ _ | refine DyV.alloc ?_ _)); exact Vd6.out)
  (try clear dc0 dc1 dc2 dc3 dc4)
  obtain ⟨dc0, dc1, dc2, dc3, dc4, dc5⟩ := Vd7
  have Vd7 := Lib.hid (DyV.mk dc0 dc1 dc2 dc3 dc4 dc5)
  have B7 := below_box (w := w) (by have hszw := (B6).size; repeat (with_reducible first | refine Below.setCell ?_ (by first | omega | (simp <;> omega)) _ | refine Below.alloc ?_ (by first | omega | (simp <;> omega)) _ | refine Below.drew ?_ | refine below_drewN ?_ _ | exact B6)) hb7
  clear hb7
  go_wp2_with fail
  refine (H7 _ (hT.below (by have hszw := (B7).size; repeat (with_reducible first | refine Below.setCell ?_ (by first | omega | (simp <;> omega)) _ | refine Below.alloc ?_ (by first | omega | (simp <;> omega)) _ | refine Below.drew ?_ | refine below_drewN ?_ _ | exact B7)))).out.mono ?_
  rintro e w8 ⟨rfl, hb8⟩
  have Vd8 : DyV w8 b0 bdd sd (.slice ad nd pd) ed := (by refine DyV.below ?_ hb8; (repeat (with_reducible first | refine DyV.drew ?_ | refine DyV.drewN ?_ _ | refine DyV.alloc ?_ _)); exact Vd7.out)
  (try clear dc0 dc1 dc2 dc3 dc4)
  obtain ⟨dc0, dc1, dc2, dc3, dc4, dc5⟩ := Vd8
  have Vd8 := Lib.hid (DyV.mk dc0 dc1 dc2 dc3 dc4 dc5)
  have B8 := below_box (w := w) (by have hszw := (B7).size; repeat (with_reducible first | refine Below.setCell ?_ (by first | omega | (simp <;> omega)) _ | refine Below.alloc ?_ (by first | omega | (simp <;> omega)) _ | refine Below.drew ?_ | refine below_drewN ?_ _ | exact B7)) hb8
  clear hb8
  go_wp2_with fail
  refine (H8 _).out.mono ?_
  rintro e w9 ⟨rfl, hb9⟩
  have Vd9 : DyV w9 b0 bdd sd (.slice ad nd pd) ed := (by refine DyV.below ?_ hb9; (repeat (with_reducible first | refine DyV.drew ?_ | refine DyV.drewN ?_ _ | refine DyV.alloc ?_ _)); exact Vd8.out)
  (try clear dc0 dc1 dc2 dc3 dc4)
  obtain ⟨dc0, dc1, dc2, dc3, dc4, dc5⟩ := Vd9
  have Vd9 := Lib.hid (DyV.mk dc0 dc1 dc2 dc3 dc4 dc5)
  have B9 := below_box (w := w) (by have hszw := (B8).size; repeat (with_reducible first | refine Below.setCell ?_ (by first | omega | (simp <;> omega)) _ | refine Below.alloc ?_ (by first | omega | (simp <;> omega)) _ | refine Below.drew ?_ | refine below_drewN ?_ _ | exact B8)) hb9
  clear hb9
  go_wp2_with fail
  refine (H9 _ (hT.below (by have hszw := (B9).size; repeat (with_reducible first | refine Below.setCell ?_ (by first | omega | (simp <;> omega)) _ | refine Below.alloc ?_ (by first | omega | (simp <;> omega)) _ | refine Below.drew ?_ | refine below_drewN ?_ _ | exact B9)))).out.mono ?_
  rintro e w10 ⟨rfl, hb10⟩
  have Vd10 : DyV w10 b0 bdd sd (.slice ad nd pd) ed := (by refine DyV.below ?_ hb10; (repeat (with_reducible first | refine DyV.drew ?_ | refine DyV.drewN ?_ _ | refine DyV.alloc ?_ _)); exact Vd9.out)
  (try clear dc0 dc1 dc2 dc3 dc4)
  obtain ⟨dc0, dc1, dc2, dc3, dc4, dc5⟩ := Vd10
  have Vd10 := Lib.hid (DyV.mk dc0 dc1 dc2 dc3 dc4 dc5)
  have B10 := below_box (w := w) (by have hszw := (B9).size; repeat (with_reducible first | refine Below.setCell ?_ (by first | omega | (simp <;> omega)) _ | refine Below.alloc ?_ (by first | omega | (simp <;> omega)) _ | refine Below.drew ?_ | refine below_drewN ?_ _ | exact B9)) hb10
  clear hb10
  go_wp2_with fail
  refine (H10 _ (hT.below (by have hszw := (B10).size; repeat (with_reducible first | refine Below.setCell ?_ (by first | omega | (simp <;> omega)) _ | refine Below.alloc ?_ (by first | omega | (simp <;> omega)) _ | refine Below.drew ?_ | refine below_drewN ?_ _ | exact B10)))).out.mono ?_
  rintro e w11 ⟨rfl, hb11⟩
  have Vd11 : DyV w11 b0 bdd sd (.slice ad nd pd) ed := (by refine DyV.below ?_ hb11; (repeat (with_reducible first | refine DyV.drew ?_ | refine DyV.drewN ?_ _ | refine DyV.alloc ?_ _)); exact Vd10.out)
  (try clear dc0 dc1 dc2 dc3 dc4)
  obtain ⟨dc0, dc1, dc2, dc3, dc4, dc5⟩ := Vd11
  have Vd11 := Lib.hid (DyV.mk dc0 dc1 dc2 dc3 dc4 dc5)
  have B11 := below_box (w := w) (by have hszw := (B10).size; repeat (with_reducible first | refine Below.setCell ?_ (by first | omega | (simp <;> omega)) _ | refine Below.alloc ?_ (by first | omega | (simp <;> omega)) _ | refine Below.drew ?_ | refine below_drewN ?_ _ | exact B10)) hb11
  clear hb11
  go_wp2_with fail
  refine (H11 _).out.mono ?_
  rintro e w12 ⟨rfl, hb12⟩
  have Vd12 : DyV w12 b0 bdd sd (.slice ad nd pd) ed := (by refine DyV.below ?_ hb12; (repeat (with_reducible first | refine DyV.drew ?_ | refine DyV.drewN ?_ _ | refine DyV.alloc ?_ _)); exact Vd11.out)
  (try clear dc0 dc1 dc2 dc3 dc4)
  obtain ⟨dc0, dc1, dc2, dc3, dc4, dc5⟩ := Vd12
  have Vd12 := Lib.hid (DyV.mk dc0 dc1 dc2 dc3 dc4 dc5)
  have B12 := below_box (w := w) (by have hszw := (B11).size; repeat (with_reducible first | refine Below.setCell ?_ (by first | omega | (simp <;> omega)) _ | refine Below.alloc ?_ (by first | omega | (simp <;> omega)) _ | refine Below.drew ?_ | refine below_drewN ?_ _ | exact B11)) hb12
  clear hb12
  go_wp2_with fail
  refine (HK1 _).out.mono ?_
  rintro e wq ⟨rfl, rfl⟩
  go_wp2_with fail
  refine (HK1 _).out.mono ?_
  rintro e wq ⟨rfl, rfl⟩
  go_wp2_with fail
  refine (HK2 _).out.mono ?_
  rintro e wq ⟨rfl, rfl⟩
  go_wp2_with fail
  refine (HSg _ (Gd.out.below (by have hszw := (B12).size; repeat (with_reducible first | refine Below.setCell ?_ (by first | omega | (simp <;> omega)) _ | refine Below.alloc ?_ (by first | omega | (simp <;> omega)) _ | refine Below.drew ?_ | refine below_drewN ?_ _ | exact B12))) (hT.below (by have hszw := (B12).size; repeat (with_reducible first | refine Below.setCell ?_ (by first | omega | (simp <;> omega)) _ | refine Below.alloc ?_ (by first | omega | (simp <;> omega)) _ | refine Below.drew ?_ | refine below_drewN ?_ _ | exact B12)))).out.mono ?_
  rintro e w13 ⟨rfl, hb13⟩
  have Vd13 : DyV w13 b0 bdd sd (.slice ad nd pd) ed := (by refine DyV.below ?_ hb13; (repeat (with_reducible first | refine DyV.drew ?_ | refine DyV.drewN ?_ _ | refine DyV.alloc ?_ _)); exact Vd12.out)
  (try clear dc0 dc1 dc2 dc3 dc4)
  obtain ⟨dc0, dc1, dc2, dc3, dc4, dc5⟩ := Vd13
  have Vd13 := Lib.hid (DyV.mk dc0 dc1 dc2 dc3 dc4 dc5)
  have B13 := below_box (w := w) (by have hszw := (B12).size; repeat (with_reducible first | refine Below.setCell ?_ (by first | omega | (simp <;> omega)) _ | refine Below.alloc ?_ (by first | omega | (simp <;> omega)) _ | refine Below.drew ?_ | refine below_drewN ?_ _ | exact B12)) hb13
  clear hb13
  go_wp2_with fail
  first
  | go_region_held3 (fun w' => w'.cell? ⟨b0, 0, none⟩ = some (.bool bdd) ∧ w'.cell? ⟨b0, 1, none⟩ = some (.bool sd) ∧ w'.cell? ⟨b0, 2, none⟩ = some ((.slice ad nd pd)) ∧ w'.cell? ⟨b0, 3, none⟩ = some (.int .i64 ed)) (first | (go_keep; done) | (go_simp; done))
      (first
        | (go_at_call 11; have xx := B17; refine (HW _ (hT.below (by have hszw := (B17).size; repeat (with_reducible first | refine Below.setCell ?_ (by first | omega | (simp <;> omega)) _ | refine Below.alloc ?_ (by first | omega | (simp <;> omega)) _ | refine Below.drew ?_ | refine below_drewN ?_ _ | exact B17)))).out.mono ?_; rintro e w18 ⟨rfl, hb18⟩; have Vd18 : DyV w18 b0 bdd sd (.slice ad nd pd) ed := (by refine DyV.below ?_ hb18; (repeat (with_reducible first | refine DyV.drew ?_ | refine DyV.drewN ?_ _ | refine DyV.alloc ?_ _)); exact Vd17.out); (try clear dc0 dc1 dc2 dc3 dc4); obtain ⟨dc0, dc1, dc2, dc3, dc4, dc5⟩ := Vd18; have Vd18 := Lib.hid (DyV.mk dc0 dc1 dc2 dc3 dc4 dc5); have B18 := below_box (w := w) (by have hszw := (B17).size; repeat (with_reducible first | refine Below.setCell ?_ (by first | omega | (simp <;> omega)) _ | refine Below.alloc ?_ (by first | omega | (simp <;> omega)) _ | refine Below.drew ?_ | refine below_drewN ?_ _ | exact B17)) hb18; clear hb18)
        | (go_at_call 13; have xx := B16; refine (H14 _).out.mono ?_; rintro e w17 ⟨rfl, hb17⟩; have Vd17 : DyV w17 b0 bdd sd (.slice ad nd pd) ed := (by refine DyV.below ?_ hb17; (repeat (with_reducible first | refine DyV.drew ?_ | refine DyV.drewN ?_ _ | refine DyV.alloc ?_ _)); exact Vd16.out); (try clear dc0 dc1 dc2 dc3 dc4); obtain ⟨dc0, dc1, dc2, dc3, dc4, dc5⟩ := Vd17; have Vd17 := Lib.hid (DyV.mk dc0 dc1 dc2 dc3 dc4 dc5); have B17 := below_box (w := w) (by have hszw := (B16).size; repeat (with_reducible first | refine Below.setCell ?_ (by first | omega | (simp <;> omega)) _ | refine Below.alloc ?_ (by first | omega | (simp <;> omega)) _ | refine Below.drew ?_ | refine below_drewN ?_ _ | exact B16)) hb17; clear hb17)
        | (go_at_call 19; have xx := B15; refine (H13 _ (Gd.out.below (by have hszw := (B15).size; repeat (with_reducible first | refine Below.setCell ?_ (by first | omega | (simp <;> omega)) _ | refine Below.alloc ?_ (by first | omega | (simp <;> omega)) _ | refine Below.drew ?_ | refine below_drewN ?_ _ | exact B15))) (hT.below (by have hszw := (B15).size; repeat (with_reducible first | refine Below.setCell ?_ (by first | omega | (simp <;> omega)) _ | refine Below.alloc ?_ (by first | omega | (simp <;> omega)) _ | refine Below.drew ?_ | refine below_drewN ?_ _ | exact B15)))).out.mono ?_; rintro e w16 ⟨rfl, hb16⟩; have Vd16 : DyV w16 b0 bdd sd (.slice ad nd pd) ed := (by refine DyV.below ?_ hb16; (repeat (with_reducible first | refine DyV.drew ?_ | refine DyV.drewN ?_ _ | refine DyV.alloc ?_ _)); exact Vd15.out); (try clear dc0 dc1 dc2 dc3 dc4); obtain ⟨dc0, dc1, dc2, dc3, dc4, dc5⟩ := Vd16; have Vd16 := Lib.hid (DyV.mk dc0 dc1 dc2 dc3 dc4 dc5); have B16 := below_box (w := w) (by have hszw := (B15).size; repeat (with_reducible first | refine Below.setCell ?_ (by first | omega | (simp <;> omega)) _ | refine Below.alloc ?_ (by first | omega | (simp <;> omega)) _ | refine Below.drew ?_ | refine below_drewN ?_ _ | exact B15)) hb16; clear hb16)
        | (go_at_call 19; have xx := B14; refine (H12 _ an cn (by repeat (with_reducible first | refine Mag.set ?_ (fun h => by have := Mn14 h; omega) _ _ | refine Mag.drew ?_ | refine Mag.alloc ?_ _ | refine Mag.drewN ?_ _ | refine Mag.below ?_ (Below.drew (Below.refl _ _)) | refine Mag.below ?_ ((Below.refl _ _).alloc (Nat.le_refl _) _) | exact Mn14)) (hT.below (by have hszw := (B14).size; repeat (with_reducible first | refine Below.setCell ?_ (by first | omega | (simp <;> omega)) _ | refine Below.alloc ?_ (by first | omega | (simp <;> omega)) _ | refine Below.drew ?_ | refine below_drewN ?_ _ | exact B14)))).out.mono ?_; rintro e w15 ⟨rfl, hb15⟩; have Vd15 : DyV w15 b0 bdd sd (.slice ad nd pd) ed := (by refine DyV.below ?_ hb15; (repeat (with_reducible first | refine DyV.drew ?_ | refine DyV.drewN ?_ _ | refine DyV.alloc ?_ _)); exact Vd14.out); (try clear dc0 dc1 dc2 dc3 dc4); obtain ⟨dc0, dc1, dc2, dc3, dc4, dc5⟩ := Vd15; have Vd15 := Lib.hid (DyV.mk dc0 dc1 dc2 dc3 dc4 dc5); have B15 := below_box (w := w) (by have hszw := (B14).size; repeat (with_reducible first | refine Below.setCell ?_ (by first | omega | (simp <;> omega)) _ | refine Below.alloc ?_ (by first | omega | (simp <;> omega)) _ | refine Below.drew ?_ | refine below_drewN ?_ _ | exact B14)) hb15; clear hb15)
        | (go_at_call 20; have xx := B13; refine (HN _ (Gd.out.below (by have hszw := (B13).size; repeat (with_reducible first | refine Below.setCell ?_ (by first | omega | (simp <;> omega)) _ | refine Below.alloc ?_ (by first | omega | (simp <;> omega)) _ | refine Below.drew ?_ | refine below_drewN ?_ _ | exact B13))) (hT.below (by have hszw := (B13).size; repeat (with_reducible first | refine Below.setCell ?_ (by first | omega | (simp <;> omega)) _ | refine Below.alloc ?_ (by first | omega | (simp <;> omega)) _ | refine Below.drew ?_ | refine below_drewN ?_ _ | exact B13)))).out.mono ?_; rintro e w14 ⟨an, cn, rfl, Mn14, hb14, hf14⟩; have Vd14 : DyV w14 b0 bdd sd (.slice ad nd pd) ed := (by refine DyV.below ?_ hb14; (repeat (with_reducible first | refine DyV.drew ?_ | refine DyV.drewN ?_ _ | refine DyV.alloc ?_ _)); exact Vd13.out); (try clear dc0 dc1 dc2 dc3 dc4); obtain ⟨dc0, dc1, dc2, dc3, dc4, dc5⟩ := Vd14; have Vd14 := Lib.hid (DyV.mk dc0 dc1 dc2 dc3 dc4 dc5); have B14 := below_box (w := w) (by have hszw := (B13).size; repeat (with_reducible first | refine Below.setCell ?_ (by first | omega | (simp <;> omega)) _ | refine Below.alloc ?_ (by first | omega | (simp <;> omega)) _ | refine Below.drew ?_ | refine below_drewN ?_ _ | exact B13)) hb14; clear hb14 hf14)
        | fail)
  | fail "region"
  go_wp2_with fail
  go_ret
  exact ⟨rfl, (by have hszw := (B18).size; repeat (with_reducible first | refine Below.setCell ?_ (by first | omega | (simp <;> omega)) _ | refine Below.alloc ?_ (by first | omega | (simp <;> omega)) _ | refine Below.drew ?_ | refine below_drewN ?_ _ | exact B18))⟩

theorem mirr_any (w : World) (hT : Tab w) (a b : Nat) (bdd sd : Bool) (ad : Option Addr) (nd pd xd : Nat) (ed mode : Int) (ha : a < 18446744073709551616) (hb : b < 18446744073709551616)
    (Md : Mag w ad nd pd xd) (ud : -9223372036854775808 ≤ ed ∧ ed ≤ 9223372036854775807) :
    Calls Tryd.prog 3 #[.int .u64 a, .int .u64 b, .agg #[.bool bdd, .bool sd, .slice ad nd pd, .int .i64 ed], .int .i64 mode] w fun o w' => o = .returned (.bool true) ∧ Below w.heap.size w w' := by
  have md := Nat.le_trans Md.fits Md.lim
  cases hsd : slim3B nd ed with
  | false => exact mirr_na w hT a b ha hb bdd sd ad nd pd ed mode md hsd
  | true =>
    have Hd := dyis_of3 (bd := bdd) (s := sd) Md hsd ud.1 ud.2
    generalize nrmB bdd (sgn sd xd) ed = dd at Hd
    obtain ⟨k1, k2⟩ := mir_add ha hb mode
    by_cases sz : dman dd = 0
    · by_cases kz : fkind (fadd (fneg a) (fneg b) (fopp mode)) = 0
      · exact mirr_00 w hT a b ha hb bdd sd ad nd pd ed dd Hd mode md hsd (by rw [kz]; rfl) k2 sz
      · exact mirr_10 w hT a b ha hb bdd sd ad nd pd ed dd Hd mode md hsd (by rw [bne_iff_ne]; exact kz) (k1 kz) k2 sz
    · by_cases kz : fkind (fadd (fneg a) (fneg b) (fopp mode)) = 0
      · exact mirr_01 w hT a b ha hb bdd sd ad nd pd ed dd Hd mode md hsd (by rw [kz]; rfl) k2 sz
      · exact mirr_11 w hT a b ha hb bdd sd ad nd pd ed dd Hd mode md hsd (by rw [bne_iff_ne]; exact kz) (k1 kz) k2 sz

end Go.Proofs.YtkpglfloddkclaaDoor


/-
  Walks: the law FloatSpecial.
-/
import Derived.Test.YtkpglfloddkclaaDoorGw
import Derived.Test.YtkpglfloddkclaaDoorGf
namespace Go.Proofs.YtkpglfloddkclaaDoor
open Go.RowKit Sp

theorem fneg_one : fneg fOne = 13830554455654793216 := by decide
theorem beq_dec (mode : Int) : (mode == 1) = decide (mode = 1) := by rw [Bool.eq_iff_iff]; simp
set_option maxRecDepth 100000 in
set_option maxHeartbeats 2000000 in
theorem spec_true (w : World) (hT : Tab w) (n : Nat) (hn : n < 18446744073709551616) (mode : Int) (hm : (mode == 1) = true) :
    Calls Tryd.prog 9 #[.int .u64 n, .int .i64 mode] w fun o w' => o = .returned (.bool true) ∧ Below w.heap.size w w' := by
  have HW := fun W ht => Lib.hid (awakeF_any W ht)
  obtain ⟨g, hg, hgl, hgn⟩ := bits_nan n hn
  obtain ⟨s1, s2, s3, s4, s5, s6, s7, s8, s9⟩ := spec_consts mode
  obtain ⟨e1, e2, e3⟩ := spec_empty mode
  have hem : fnothing mode = 9223372036854775808 := by unfold fnothing; rw [← beq_dec, hm]; rfl
  rw [hem] at e1 e2 e3
  have H1 := fun W (ht : Tab W) => Lib.hid (show Calls Tryd.prog 16 #[.int .u64 (g : Int), .int .u64 4607182418800017408, .int .i64 mode] W fun o w' => o = .returned (.int .u64 9221120237041090560) ∧ Below W.heap.size W w' from by
    have := wadd_any W g fOne hgl (by decide) mode ht
    rw [spec_nan hgn] at this; exact this)
  have H2 := fun W (ht : Tab W) => Lib.hid (show Calls Tryd.prog 14 #[.int .u64 9218868437227405312, .int .u64 9223372036854775808, .int .i64 mode] W fun o w' => o = .returned (.int .u64 9221120237041090560) ∧ Below W.heap.size W w' from by
    have := wmul_any W fInf fNZ (by decide) (by decide) mode ht
    rw [s1] at this; exact this)
  have H3 := fun W (ht : Tab W) => Lib.hid (show Calls Tryd.prog 27 #[.int .u64 9218868437227405312, .int .u64 9218868437227405312, .int .i64 mode] W fun o w' => o = .returned (.int .u64 9221120237041090560) ∧ Below W.heap.size W w' from by
    have := wsub_any W fInf fInf (by decide) (by decide) mode ht
    rw [s2] at this; exact this)
  have H4 := fun W (ht : Tab W) => Lib.hid (show Calls Tryd.prog 15 #[.int .u64 0, .int .u64 9223372036854775808, .int .i64 mode] W fun o w' => o = .returned (.int .u64 9221120237041090560) ∧ Below W.heap.size W w' from by
    have := wdiv_any W 0 fNZ (by decide) (by decide) mode ht
    rw [s3] at this; exact this)
  have H5 := fun W => Lib.hid (show Calls Tryd.prog 13 #[.int .u64 4607182418800017408] W fun o w' => o = .returned (.int .u64 13830554455654793216) ∧ Below W.heap.size W w' from by
    have := fneg_any W fOne (by decide)
    rw [fneg_one] at this; exact this)
  have H6 := fun W (ht : Tab W) => Lib.hid (show Calls Tryd.prog 33 #[.int .u64 13830554455654793216, .int .i64 mode] W fun o w' => o = .returned (.int .u64 9221120237041090560) ∧ Below W.heap.size W w' from by
    have := wsqrt_any W 13830554455654793216 (by decide) mode ht
    rw [← fneg_one, s4] at this; exact this)
  have H7 := fun W (ht : Tab W) => Lib.hid (show Calls Tryd.prog 15 #[.int .u64 4607182418800017408, .int .u64 9223372036854775808, .int .i64 mode] W fun o w' => o = .returned (.int .u64 18442240474082181120) ∧ Below W.heap.size W w' from by
    have := wdiv_any W fOne fNZ (by decide) (by decide) mode ht
    rw [s5] at this; exact this)
  have H8 := fun W (ht : Tab W) => Lib.hid (show Calls Tryd.prog 15 #[.int .u64 4607182418800017408, .int .u64 18442240474082181120, .int .i64 mode] W fun o w' => o = .returned (.int .u64 9223372036854775808) ∧ Below W.heap.size W w' from by
    have := wdiv_any W fOne fNInf (by decide) (by decide) mode ht
    rw [s6] at this; exact this)
  have H9 := fun W (ht : Tab W) => Lib.hid (show Calls Tryd.prog 33 #[.int .u64 9223372036854775808, .int .i64 mode] W fun o w' => o = .returned (.int .u64 9223372036854775808) ∧ Below W.heap.size W w' from by
    have := wsqrt_any W fNZ (by decide) mode ht
    rw [s7] at this; exact this)
  have H10 := fun W (ht : Tab W) => Lib.hid (show Calls Tryd.prog 16 #[.int .u64 9223372036854775808, .int .u64 9223372036854775808, .int .i64 mode] W fun o w' => o = .returned (.int .u64 9223372036854775808) ∧ Below W.heap.size W w' from by
    have := wadd_any W fNZ fNZ (by decide) (by decide) mode ht
    rw [s8] at this; exact this)
  have H11 := fun W (ht : Tab W) => Lib.hid (show Calls Tryd.prog 27 #[.int .u64 4607182418800017408, .int .u64 4607182418800017408, .int .i64 mode] W fun o w' => o = .returned (.int .u64 9223372036854775808) ∧ Below W.heap.size W w' from by
    have := wsub_any W fOne fOne (by decide) (by decide) mode ht
    rw [e1] at this; exact this)
  have H12 := fun W (ht : Tab W) => Lib.hid (show Calls Tryd.prog 16 #[.int .u64 0, .int .u64 9223372036854775808, .int .i64 mode] W fun o w' => o = .returned (.int .u64 9223372036854775808) ∧ Below W.heap.size W w' from by
    have := wadd_any W 0 fNZ (by decide) (by decide) mode ht
    rw [e2] at this; exact this)
  have H13 := fun W (ht : Tab W) => Lib.hid (show Calls Tryd.prog 21 #[.int .u64 4607182418800017408, .int .u64 4607182418800017408, .int .u64 13830554455654793216, .int .i64 mode] W fun o w' => o = .returned (.int .u64 9223372036854775808) ∧ Below W.heap.size W w' from by
    have := wfma_any W fOne fOne (fneg fOne) (by decide) (by decide) (fneg_lt _) mode ht
    rw [e3, fneg_one] at this; exact this)
  have H14 := fun W (ht : Tab W) => Lib.hid (show Calls Tryd.prog 21 #[.int .u64 9218868437227405312, .int .u64 4607182418800017408, .int .u64 18442240474082181120, .int .i64 mode] W fun o w' => o = .returned (.int .u64 9221120237041090560) ∧ Below W.heap.size W w' from by
    have := wfma_any W fInf fOne fNInf (by decide) (by decide) (by decide) mode ht
    rw [s9] at this; exact this)
  clear s1 s2 s3 s4 s5 s6 s7 s8 s9 e1 e2 e3 hem hn hgl hgn
  generalize (n : Int) = nn at *
  go_enter Tryd.func9, Tryd.ntmps9
  go_wp2_with fail
  refine (H1 _ (hT.below (by repeat (with_reducible first | refine Below.setCell ?_ (by simp <;> omega) _ | refine Below.alloc ?_ (by simp <;> omega) _ | refine Below.drew ?_ | refine below_drewN ?_ _ | exact Below.refl _ _)))).out.mono ?_
  rintro e w1 ⟨rfl, hb⟩
  have B1 := below_box (w := w) (by repeat (with_reducible first | refine Below.setCell ?_ (by simp <;> omega) _ | refine Below.alloc ?_ (by simp <;> omega) _ | refine Below.drew ?_ | refine below_drewN ?_ _ | exact Below.refl _ _)) hb
  clear hb
  go_wp2_with fail
  refine (H2 _ (hT.below (by have hszw := (B1).size; repeat (with_reducible first | refine Below.setCell ?_ (by first | omega | (simp <;> omega)) _ | refine Below.alloc ?_ (by first | omega | (simp <;> omega)) _ | refine Below.drew ?_ | refine below_drewN ?_ _ | exact B1)))).out.mono ?_
  rintro e w2 ⟨rfl, hb⟩
  have B2 := below_box (w := w) (by have hszw := (B1).size; repeat (with_reducible first | refine Below.setCell ?_ (by first | omega | (simp <;> omega)) _ | refine Below.alloc ?_ (by first | omega | (simp <;> omega)) _ | refine Below.drew ?_ | refine below_drewN ?_ _ | exact B1)) hb
  clear hb
  go_wp2_with fail
  refine (H3 _ (hT.below (by have hszw := (B2).size; repeat (with_reducible first | refine Below.setCell ?_ (by first | omega | (simp <;> omega)) _ | refine Below.alloc ?_ (by first | omega | (simp <;> omega)) _ | refine Below.drew ?_ | refine below_drewN ?_ _ | exact B2)))).out.mono ?_
  rintro e w3 ⟨rfl, hb⟩
  have B3 := below_box (w := w) (by have hszw := (B2).size; repeat (with_reducible first | refine Below.setCell ?_ (by first | omega | (simp <;> omega)) _ | refine Below.alloc ?_ (by first | omega | (simp <;> omega)) _ | refine Below.drew ?_ | refine below_drewN ?_ _ | exact B2)) hb
  clear hb
  go_wp2_with fail
  refine (H4 _ (hT.below (by have hszw := (B3).size; repeat (with_reducible first | refine Below.setCell ?_ (by first | omega | (simp <;> omega)) _ | refine Below.alloc ?_ (by first | omega | (simp <;> omega)) _ | refine Below.drew ?_ | refine below_drewN ?_ _ | exact B3)))).out.mono ?_
  rintro e w4 ⟨rfl, hb⟩
  have B4 := below_box (w := w) (by have hszw := (B3).size; repeat (with_reducible first | refine Below.setCell ?_ (by first | omega | (simp <;> omega)) _ | refine Below.alloc ?_ (by first | omega | (simp <;> omega)) _ | refine Below.drew ?_ | refine below_drewN ?_ _ | exact B3)) hb
  clear hb
  go_wp2_with fail
  refine (H5 _).out.mono ?_
  rintro e w5 ⟨rfl, hb⟩
  have B5 := below_box (w := w) (by have hszw := (B4).size; repeat (with_reducible first | refine Below.setCell ?_ (by first | omega | (simp <;> omega)) _ | refine Below.alloc ?_ (by first | omega | (simp <;> omega)) _ | refine Below.drew ?_ | refine below_drewN ?_ _ | exact B4)) hb
  clear hb
  go_wp2_with fail
  refine (H6 _ (hT.below (by have hszw := (B5).size; repeat (with_reducible first | refine Below.setCell ?_ (by first | omega | (simp <;> omega)) _ | refine Below.alloc ?_ (by first | omega | (simp <;> omega)) _ | refine Below.drew ?_ | refine below_drewN ?_ _ | exact B5)))).out.mono ?_
  rintro e w6 ⟨rfl, hb⟩
  have B6 := below_box (w := w) (by have hszw := (B5).size; repeat (with_reducible first | refine Below.setCell ?_ (by first | omega | (simp <;> omega)) _ | refine Below.alloc ?_ (by first | omega | (simp <;> omega)) _ | refine Below.drew ?_ | refine below_drewN ?_ _ | exact B5)) hb
  clear hb
  go_wp2_with fail
  refine (H7 _ (hT.below (by have hszw := (B6).size; repeat (with_reducible first | refine Below.setCell ?_ (by first | omega | (simp <;> omega)) _ | refine Below.alloc ?_ (by first | omega | (simp <;> omega)) _ | refine Below.drew ?_ | refine below_drewN ?_ _ | exact B6)))).out.mono ?_
  rintro e w7 ⟨rfl, hb⟩
  have B7 := below_box (w := w) (by have hszw := (B6).size; repeat (with_reducible first | refine Below.setCell ?_ (by first | omega | (simp <;> omega)) _ | refine Below.alloc ?_ (by first | omega | (simp <;> omega)) _ | refine Below.drew ?_ | refine below_drewN ?_ _ | exact B6)) hb
  clear hb
  go_wp2_with fail
  refine (H8 _ (hT.below (by have hszw := (B7).size; repeat (with_reducible first | refine Below.setCell ?_ (by first | omega | (simp <;> omega)) _ | refine Below.alloc ?_ (by first | omega | (simp <;> omega)) _ | refine Below.drew ?_ | refine below_drewN ?_ _ | exact B7)))).out.mono ?_
  rintro e w8 ⟨rfl, hb⟩
  have B8 := below_box (w := w) (by have hszw := (B7).size; repeat (with_reducible first | refine Below.setCell ?_ (by first | omega | (simp <;> omega)) _ | refine Below.alloc ?_ (by first | omega | (simp <;> omega)) _ | refine Below.drew ?_ | refine below_drewN ?_ _ | exact B7)) hb
  clear hb
  go_wp2_with fail
  refine (H9 _ (hT.below (by have hszw := (B8).size; repeat (with_reducible first | refine Below.setCell ?_ (by first | omega | (simp <;> omega)) _ | refine Below.alloc ?_ (by first | omega | (simp <;> omega)) _ | refine Below.drew ?_ | refine below_drewN ?_ _ | exact B8)))).out.mono ?_
  rintro e w9 ⟨rfl, hb⟩
  have B9 := below_box (w := w) (by have hszw := (B8).size; repeat (with_reducible first | refine Below.setCell ?_ (by first | omega | (simp <;> omega)) _ | refine Below.alloc ?_ (by first | omega | (simp <;> omega)) _ | refine Below.drew ?_ | refine below_drewN ?_ _ | exact B8)) hb
  clear hb
  go_wp2_with fail
  refine (H10 _ (hT.below (by have hszw := (B9).size; repeat (with_reducible first | refine Below.setCell ?_ (by first | omega | (simp <;> omega)) _ | refine Below.alloc ?_ (by first | omega | (simp <;> omega)) _ | refine Below.drew ?_ | refine below_drewN ?_ _ | exact B9)))).out.mono ?_
  rintro e w10 ⟨rfl, hb⟩
  have B10 := below_box (w := w) (by have hszw := (B9).size; repeat (with_reducible first | refine Below.setCell ?_ (by first | omega | (simp <;> omega)) _ | refine Below.alloc ?_ (by first | omega | (simp <;> omega)) _ | refine Below.drew ?_ | refine below_drewN ?_ _ | exact B9)) hb
  clear hb
  go_wp2_with fail
  refine (H11 _ (hT.below (by have hszw := (B10).size; repeat (with_reducible first | refine Below.setCell ?_ (by first | omega | (simp <;> omega)) _ | refine Below.alloc ?_ (by first | omega | (simp <;> omega)) _ | refine Below.drew ?_ | refine below_drewN ?_ _ | exact B10)))).out.mono ?_
  rintro e w11 ⟨rfl, hb⟩
  have B11 := below_box (w := w) (by have hszw := (B10).size; repeat (with_reducible first | refine Below.setCell ?_ (by first | omega | (simp <;> omega)) _ | refine Below.alloc ?_ (by first | omega | (simp <;> omega)) _ | refine Below.drew ?_ | refine below_drewN ?_ _ | exact B10)) hb
  clear hb
  go_wp2_with fail
  refine (H12 _ (hT.below (by have hszw := (B11).size; repeat (with_reducible first | refine Below.setCell ?_ (by first | omega | (simp <;> omega)) _ | refine Below.alloc ?_ (by first | omega | (simp <;> omega)) _ | refine Below.drew ?_ | refine below_drewN ?_ _ | exact B11)))).out.mono ?_
  rintro e w12 ⟨rfl, hb⟩
  have B12 := below_box (w := w) (by have hszw := (B11).size; repeat (with_reducible first | refine Below.setCell ?_ (by first | omega | (simp <;> omega)) _ | refine Below.alloc ?_ (by first | omega | (simp <;> omega)) _ | refine Below.drew ?_ | refine below_drewN ?_ _ | exact B11)) hb
  clear hb
  go_wp2_with fail
  refine (H5 _).out.mono ?_
  rintro e w13 ⟨rfl, hb⟩
  have B13 := below_box (w := w) (by have hszw := (B12).size; repeat (with_reducible first | refine Below.setCell ?_ (by first | omega | (simp <;> omega)) _ | refine Below.alloc ?_ (by first | omega | (simp <;> omega)) _ | refine Below.drew ?_ | refine below_drewN ?_ _ | exact B12)) hb
  clear hb
  go_wp2_with fail
  refine (H13 _ (hT.below (by have hszw := (B13).size; repeat (with_reducible first | refine Below.setCell ?_ (by first | omega | (simp <;> omega)) _ | refine Below.alloc ?_ (by first | omega | (simp <;> omega)) _ | refine Below.drew ?_ | refine below_drewN ?_ _ | exact B13)))).out.mono ?_
  rintro e w14 ⟨rfl, hb⟩
  have B14 := below_box (w := w) (by have hszw := (B13).size; repeat (with_reducible first | refine Below.setCell ?_ (by first | omega | (simp <;> omega)) _ | refine Below.alloc ?_ (by first | omega | (simp <;> omega)) _ | refine Below.drew ?_ | refine below_drewN ?_ _ | exact B13)) hb
  clear hb
  go_wp2_with fail
  refine (H14 _ (hT.below (by have hszw := (B14).size; repeat (with_reducible first | refine Below.setCell ?_ (by first | omega | (simp <;> omega)) _ | refine Below.alloc ?_ (by first | omega | (simp <;> omega)) _ | refine Below.drew ?_ | refine below_drewN ?_ _ | exact B14)))).out.mono ?_
  rintro e w15 ⟨rfl, hb⟩
  have B15 := below_box (w := w) (by have hszw := (B14).size; repeat (with_reducible first | refine Below.setCell ?_ (by first | omega | (simp <;> omega)) _ | refine Below.alloc ?_ (by first | omega | (simp <;> omega)) _ | refine Below.drew ?_ | refine below_drewN ?_ _ | exact B14)) hb
  clear hb
  go_wp2_with fail
  refine (HW _ (hT.below (by have hszw := (B15).size; repeat (with_reducible first | refine Below.setCell ?_ (by first | omega | (simp <;> omega)) _ | refine Below.alloc ?_ (by first | omega | (simp <;> omega)) _ | refine Below.drew ?_ | refine below_drewN ?_ _ | exact B15)))).out.mono ?_
  rintro e w16 ⟨rfl, hb⟩
  have B16 := below_box (w := w) (by have hszw := (B15).size; repeat (with_reducible first | refine Below.setCell ?_ (by first | omega | (simp <;> omega)) _ | refine Below.alloc ?_ (by first | omega | (simp <;> omega)) _ | refine Below.drew ?_ | refine below_drewN ?_ _ | exact B15)) hb
  clear hb
  go_wp2_with fail
  go_ret
  exact ⟨rfl, (by have hszw := (B16).size; repeat (with_reducible first | refine Below.setCell ?_ (by first | omega | (simp <;> omega)) _ | refine Below.alloc ?_ (by first | omega | (simp <;> omega)) _ | refine Below.drew ?_ | refine below_drewN ?_ _ | exact B16))⟩

set_option maxRecDepth 100000 in
set_option maxHeartbeats 2000000 in
theorem spec_false (w : World) (hT : Tab w) (n : Nat) (hn : n < 18446744073709551616) (mode : Int) (hm : (mode == 1) = false) :
    Calls Tryd.prog 9 #[.int .u64 n, .int .i64 mode] w fun o w' => o = .returned (.bool true) ∧ Below w.heap.size w w' := by
  have HW := fun W ht => Lib.hid (awakeF_any W ht)
  obtain ⟨g, hg, hgl, hgn⟩ := bits_nan n hn
  obtain ⟨s1, s2, s3, s4, s5, s6, s7, s8, s9⟩ := spec_consts mode
  obtain ⟨e1, e2, e3⟩ := spec_empty mode
  have hem : fnothing mode = 0 := by unfold fnothing; rw [← beq_dec, hm]; rfl
  rw [hem] at e1 e2 e3
  have H1 := fun W (ht : Tab W) => Lib.hid (show Calls Tryd.prog 16 #[.int .u64 (g : Int), .int .u64 4607182418800017408, .int .i64 mode] W fun o w' => o = .returned (.int .u64 9221120237041090560) ∧ Below W.heap.size W w' from by
    have := wadd_any W g fOne hgl (by decide) mode ht
    rw [spec_nan hgn] at this; exact this)
  have H2 := fun W (ht : Tab W) => Lib.hid (show Calls Tryd.prog 14 #[.int .u64 9218868437227405312, .int .u64 9223372036854775808, .int .i64 mode] W fun o w' => o = .returned (.int .u64 9221120237041090560) ∧ Below W.heap.size W w' from by
    have := wmul_any W fInf fNZ (by decide) (by decide) mode ht
    rw [s1] at this; exact this)
  have H3 := fun W (ht : Tab W) => Lib.hid (show Calls Tryd.prog 27 #[.int .u64 9218868437227405312, .int .u64 9218868437227405312, .int .i64 mode] W fun o w' => o = .returned (.int .u64 9221120237041090560) ∧ Below W.heap.size W w' from by
    have := wsub_any W fInf fInf (by decide) (by decide) mode ht
    rw [s2] at this; exact this)
  have H4 := fun W (ht : Tab W) => Lib.hid (show Calls Tryd.prog 15 #[.int .u64 0, .int .u64 9223372036854775808, .int .i64 mode] W fun o w' => o = .returned (.int .u64 9221120237041090560) ∧ Below W.heap.size W w' from by
    have := wdiv_any W 0 fNZ (by decide) (by decide) mode ht
    rw [s3] at this; exact this)
  have H5 := fun W => Lib.hid (show Calls Tryd.prog 13 #[.int .u64 4607182418800017408] W fun o w' => o = .returned (.int .u64 13830554455654793216) ∧ Below W.heap.size W w' from by
    have := fneg_any W fOne (by decide)
    rw [fneg_one] at this; exact this)
  have H6 := fun W (ht : Tab W) => Lib.hid (show Calls Tryd.prog 33 #[.int .u64 13830554455654793216, .int .i64 mode] W fun o w' => o = .returned (.int .u64 9221120237041090560) ∧ Below W.heap.size W w' from by
    have := wsqrt_any W 13830554455654793216 (by decide) mode ht
    rw [← fneg_one, s4] at this; exact this)
  have H7 := fun W (ht : Tab W) => Lib.hid (show Calls Tryd.prog 15 #[.int .u64 4607182418800017408, .int .u64 9223372036854775808, .int .i64 mode] W fun o w' => o = .returned (.int .u64 18442240474082181120) ∧ Below W.heap.size W w' from by
    have := wdiv_any W fOne fNZ (by decide) (by decide) mode ht
    rw [s5] at this; exact this)
  have H8 := fun W (ht : Tab W) => Lib.hid (show Calls Tryd.prog 15 #[.int .u64 4607182418800017408, .int .u64 18442240474082181120, .int .i64 mode] W fun o w' => o = .returned (.int .u64 9223372036854775808) ∧ Below W.heap.size W w' from by
    have := wdiv_any W fOne fNInf (by decide) (by decide) mode ht
    rw [s6] at this; exact this)
  have H9 := fun W (ht : Tab W) => Lib.hid (show Calls Tryd.prog 33 #[.int .u64 9223372036854775808, .int .i64 mode] W fun o w' => o = .returned (.int .u64 9223372036854775808) ∧ Below W.heap.size W w' from by
    have := wsqrt_any W fNZ (by decide) mode ht
    rw [s7] at this; exact this)
  have H10 := fun W (ht : Tab W) => Lib.hid (show Calls Tryd.prog 16 #[.int .u64 9223372036854775808, .int .u64 9223372036854775808, .int .i64 mode] W fun o w' => o = .returned (.int .u64 9223372036854775808) ∧ Below W.heap.size W w' from by
    have := wadd_any W fNZ fNZ (by decide) (by decide) mode ht
    rw [s8] at this; exact this)
  have H11 := fun W (ht : Tab W) => Lib.hid (show Calls Tryd.prog 27 #[.int .u64 4607182418800017408, .int .u64 4607182418800017408, .int .i64 mode] W fun o w' => o = .returned (.int .u64 0) ∧ Below W.heap.size W w' from by
    have := wsub_any W fOne fOne (by decide) (by decide) mode ht
    rw [e1] at this; exact this)
  have H12 := fun W (ht : Tab W) => Lib.hid (show Calls Tryd.prog 16 #[.int .u64 0, .int .u64 9223372036854775808, .int .i64 mode] W fun o w' => o = .returned (.int .u64 0) ∧ Below W.heap.size W w' from by
    have := wadd_any W 0 fNZ (by decide) (by decide) mode ht
    rw [e2] at this; exact this)
  have H13 := fun W (ht : Tab W) => Lib.hid (show Calls Tryd.prog 21 #[.int .u64 4607182418800017408, .int .u64 4607182418800017408, .int .u64 13830554455654793216, .int .i64 mode] W fun o w' => o = .returned (.int .u64 0) ∧ Below W.heap.size W w' from by
    have := wfma_any W fOne fOne (fneg fOne) (by decide) (by decide) (fneg_lt _) mode ht
    rw [e3, fneg_one] at this; exact this)
  have H14 := fun W (ht : Tab W) => Lib.hid (show Calls Tryd.prog 21 #[.int .u64 9218868437227405312, .int .u64 4607182418800017408, .int .u64 18442240474082181120, .int .i64 mode] W fun o w' => o = .returned (.int .u64 9221120237041090560) ∧ Below W.heap.size W w' from by
    have := wfma_any W fInf fOne fNInf (by decide) (by decide) (by decide) mode ht
    rw [s9] at this; exact this)
  clear s1 s2 s3 s4 s5 s6 s7 s8 s9 e1 e2 e3 hem hn hgl hgn
  generalize (n : Int) = nn at *
  go_enter Tryd.func9, Tryd.ntmps9
  go_wp2_with fail
  refine (H1 _ (hT.below (by repeat (with_reducible first | refine Below.setCell ?_ (by simp <;> omega) _ | refine Below.alloc ?_ (by simp <;> omega) _ | refine Below.drew ?_ | refine below_drewN ?_ _ | exact Below.refl _ _)))).out.mono ?_
  rintro e w1 ⟨rfl, hb⟩
  have B1 := below_box (w := w) (by repeat (with_reducible first | refine Below.setCell ?_ (by simp <;> omega) _ | refine Below.alloc ?_ (by simp <;> omega) _ | refine Below.drew ?_ | refine below_drewN ?_ _ | exact Below.refl _ _)) hb
  clear hb
  go_wp2_with fail
  refine (H2 _ (hT.below (by have hszw := (B1).size; repeat (with_reducible first | refine Below.setCell ?_ (by first | omega | (simp <;> omega)) _ | refine Below.alloc ?_ (by first | omega | (simp <;> omega)) _ | refine Below.drew ?_ | refine below_drewN ?_ _ | exact B1)))).out.mono ?_
  rintro e w2 ⟨rfl, hb⟩
  have B2 := below_box (w := w) (by have hszw := (B1).size; repeat (with_reducible first | refine Below.setCell ?_ (by first | omega | (simp <;> omega)) _ | refine Below.alloc ?_ (by first | omega | (simp <;> omega)) _ | refine Below.drew ?_ | refine below_drewN ?_ _ | exact B1)) hb
  clear hb
  go_wp2_with fail
  refine (H3 _ (hT.below (by have hszw := (B2).size; repeat (with_reducible first | refine Below.setCell ?_ (by first | omega | (simp <;> omega)) _ | refine Below.alloc ?_ (by first | omega | (simp <;> omega)) _ | refine Below.drew ?_ | refine below_drewN ?_ _ | exact B2)))).out.mono ?_
  rintro e w3 ⟨rfl, hb⟩
  have B3 := below_box (w := w) (by have hszw := (B2).size; repeat (with_reducible first | refine Below.setCell ?_ (by first | omega | (simp <;> omega)) _ | refine Below.alloc ?_ (by first | omega | (simp <;> omega)) _ | refine Below.drew ?_ | refine below_drewN ?_ _ | exact B2)) hb
  clear hb
  go_wp2_with fail
  refine (H4 _ (hT.below (by have hszw := (B3).size; repeat (with_reducible first | refine Below.setCell ?_ (by first | omega | (simp <;> omega)) _ | refine Below.alloc ?_ (by first | omega | (simp <;> omega)) _ | refine Below.drew ?_ | refine below_drewN ?_ _ | exact B3)))).out.mono ?_
  rintro e w4 ⟨rfl, hb⟩
  have B4 := below_box (w := w) (by have hszw := (B3).size; repeat (with_reducible first | refine Below.setCell ?_ (by first | omega | (simp <;> omega)) _ | refine Below.alloc ?_ (by first | omega | (simp <;> omega)) _ | refine Below.drew ?_ | refine below_drewN ?_ _ | exact B3)) hb
  clear hb
  go_wp2_with fail
  refine (H5 _).out.mono ?_
  rintro e w5 ⟨rfl, hb⟩
  have B5 := below_box (w := w) (by have hszw := (B4).size; repeat (with_reducible first | refine Below.setCell ?_ (by first | omega | (simp <;> omega)) _ | refine Below.alloc ?_ (by first | omega | (simp <;> omega)) _ | refine Below.drew ?_ | refine below_drewN ?_ _ | exact B4)) hb
  clear hb
  go_wp2_with fail
  refine (H6 _ (hT.below (by have hszw := (B5).size; repeat (with_reducible first | refine Below.setCell ?_ (by first | omega | (simp <;> omega)) _ | refine Below.alloc ?_ (by first | omega | (simp <;> omega)) _ | refine Below.drew ?_ | refine below_drewN ?_ _ | exact B5)))).out.mono ?_
  rintro e w6 ⟨rfl, hb⟩
  have B6 := below_box (w := w) (by have hszw := (B5).size; repeat (with_reducible first | refine Below.setCell ?_ (by first | omega | (simp <;> omega)) _ | refine Below.alloc ?_ (by first | omega | (simp <;> omega)) _ | refine Below.drew ?_ | refine below_drewN ?_ _ | exact B5)) hb
  clear hb
  go_wp2_with fail
  refine (H7 _ (hT.below (by have hszw := (B6).size; repeat (with_reducible first | refine Below.setCell ?_ (by first | omega | (simp <;> omega)) _ | refine Below.alloc ?_ (by first | omega | (simp <;> omega)) _ | refine Below.drew ?_ | refine below_drewN ?_ _ | exact B6)))).out.mono ?_
  rintro e w7 ⟨rfl, hb⟩
  have B7 := below_box (w := w) (by have hszw := (B6).size; repeat (with_reducible first | refine Below.setCell ?_ (by first | omega | (simp <;> omega)) _ | refine Below.alloc ?_ (by first | omega | (simp <;> omega)) _ | refine Below.drew ?_ | refine below_drewN ?_ _ | exact B6)) hb
  clear hb
  go_wp2_with fail
  refine (H8 _ (hT.below (by have hszw := (B7).size; repeat (with_reducible first | refine Below.setCell ?_ (by first | omega | (simp <;> omega)) _ | refine Below.alloc ?_ (by first | omega | (simp <;> omega)) _ | refine Below.drew ?_ | refine below_drewN ?_ _ | exact B7)))).out.mono ?_
  rintro e w8 ⟨rfl, hb⟩
  have B8 := below_box (w := w) (by have hszw := (B7).size; repeat (with_reducible first | refine Below.setCell ?_ (by first | omega | (simp <;> omega)) _ | refine Below.alloc ?_ (by first | omega | (simp <;> omega)) _ | refine Below.drew ?_ | refine below_drewN ?_ _ | exact B7)) hb
  clear hb
  go_wp2_with fail
  refine (H9 _ (hT.below (by have hszw := (B8).size; repeat (with_reducible first | refine Below.setCell ?_ (by first | omega | (simp <;> omega)) _ | refine Below.alloc ?_ (by first | omega | (simp <;> omega)) _ | refine Below.drew ?_ | refine below_drewN ?_ _ | exact B8)))).out.mono ?_
  rintro e w9 ⟨rfl, hb⟩
  have B9 := below_box (w := w) (by have hszw := (B8).size; repeat (with_reducible first | refine Below.setCell ?_ (by first | omega | (simp <;> omega)) _ | refine Below.alloc ?_ (by first | omega | (simp <;> omega)) _ | refine Below.drew ?_ | refine below_drewN ?_ _ | exact B8)) hb
  clear hb
  go_wp2_with fail
  refine (H10 _ (hT.below (by have hszw := (B9).size; repeat (with_reducible first | refine Below.setCell ?_ (by first | omega | (simp <;> omega)) _ | refine Below.alloc ?_ (by first | omega | (simp <;> omega)) _ | refine Below.drew ?_ | refine below_drewN ?_ _ | exact B9)))).out.mono ?_
  rintro e w10 ⟨rfl, hb⟩
  have B10 := below_box (w := w) (by have hszw := (B9).size; repeat (with_reducible first | refine Below.setCell ?_ (by first | omega | (simp <;> omega)) _ | refine Below.alloc ?_ (by first | omega | (simp <;> omega)) _ | refine Below.drew ?_ | refine below_drewN ?_ _ | exact B9)) hb
  clear hb
  go_wp2_with fail
  refine (H11 _ (hT.below (by have hszw := (B10).size; repeat (with_reducible first | refine Below.setCell ?_ (by first | omega | (simp <;> omega)) _ | refine Below.alloc ?_ (by first | omega | (simp <;> omega)) _ | refine Below.drew ?_ | refine below_drewN ?_ _ | exact B10)))).out.mono ?_
  rintro e w11 ⟨rfl, hb⟩
  have B11 := below_box (w := w) (by have hszw := (B10).size; repeat (with_reducible first | refine Below.setCell ?_ (by first | omega | (simp <;> omega)) _ | refine Below.alloc ?_ (by first | omega | (simp <;> omega)) _ | refine Below.drew ?_ | refine below_drewN ?_ _ | exact B10)) hb
  clear hb
  go_wp2_with fail
  refine (H12 _ (hT.below (by have hszw := (B11).size; repeat (with_reducible first | refine Below.setCell ?_ (by first | omega | (simp <;> omega)) _ | refine Below.alloc ?_ (by first | omega | (simp <;> omega)) _ | refine Below.drew ?_ | refine below_drewN ?_ _ | exact B11)))).out.mono ?_
  rintro e w12 ⟨rfl, hb⟩
  have B12 := below_box (w := w) (by have hszw := (B11).size; repeat (with_reducible first | refine Below.setCell ?_ (by first | omega | (simp <;> omega)) _ | refine Below.alloc ?_ (by first | omega | (simp <;> omega)) _ | refine Below.drew ?_ | refine below_drewN ?_ _ | exact B11)) hb
  clear hb
  go_wp2_with fail
  refine (H5 _).out.mono ?_
  rintro e w13 ⟨rfl, hb⟩
  have B13 := below_box (w := w) (by have hszw := (B12).size; repeat (with_reducible first | refine Below.setCell ?_ (by first | omega | (simp <;> omega)) _ | refine Below.alloc ?_ (by first | omega | (simp <;> omega)) _ | refine Below.drew ?_ | refine below_drewN ?_ _ | exact B12)) hb
  clear hb
  go_wp2_with fail
  refine (H13 _ (hT.below (by have hszw := (B13).size; repeat (with_reducible first | refine Below.setCell ?_ (by first | omega | (simp <;> omega)) _ | refine Below.alloc ?_ (by first | omega | (simp <;> omega)) _ | refine Below.drew ?_ | refine below_drewN ?_ _ | exact B13)))).out.mono ?_
  rintro e w14 ⟨rfl, hb⟩
  have B14 := below_box (w := w) (by have hszw := (B13).size; repeat (with_reducible first | refine Below.setCell ?_ (by first | omega | (simp <;> omega)) _ | refine Below.alloc ?_ (by first | omega | (simp <;> omega)) _ | refine Below.drew ?_ | refine below_drewN ?_ _ | exact B13)) hb
  clear hb
  go_wp2_with fail
  refine (H14 _ (hT.below (by have hszw := (B14).size; repeat (with_reducible first | refine Below.setCell ?_ (by first | omega | (simp <;> omega)) _ | refine Below.alloc ?_ (by first | omega | (simp <;> omega)) _ | refine Below.drew ?_ | refine below_drewN ?_ _ | exact B14)))).out.mono ?_
  rintro e w15 ⟨rfl, hb⟩
  have B15 := below_box (w := w) (by have hszw := (B14).size; repeat (with_reducible first | refine Below.setCell ?_ (by first | omega | (simp <;> omega)) _ | refine Below.alloc ?_ (by first | omega | (simp <;> omega)) _ | refine Below.drew ?_ | refine below_drewN ?_ _ | exact B14)) hb
  clear hb
  go_wp2_with fail
  refine (HW _ (hT.below (by have hszw := (B15).size; repeat (with_reducible first | refine Below.setCell ?_ (by first | omega | (simp <;> omega)) _ | refine Below.alloc ?_ (by first | omega | (simp <;> omega)) _ | refine Below.drew ?_ | refine below_drewN ?_ _ | exact B15)))).out.mono ?_
  rintro e w16 ⟨rfl, hb⟩
  have B16 := below_box (w := w) (by have hszw := (B15).size; repeat (with_reducible first | refine Below.setCell ?_ (by first | omega | (simp <;> omega)) _ | refine Below.alloc ?_ (by first | omega | (simp <;> omega)) _ | refine Below.drew ?_ | refine below_drewN ?_ _ | exact B15)) hb
  clear hb
  go_wp2_with fail
  go_ret
  exact ⟨rfl, (by have hszw := (B16).size; repeat (with_reducible first | refine Below.setCell ?_ (by first | omega | (simp <;> omega)) _ | refine Below.alloc ?_ (by first | omega | (simp <;> omega)) _ | refine Below.drew ?_ | refine below_drewN ?_ _ | exact B16))⟩

theorem spec_any (w : World) (hT : Tab w) (n : Nat) (hn : n < 18446744073709551616) (mode : Int) :
    Calls Tryd.prog 9 #[.int .u64 n, .int .i64 mode] w fun o w' => o = .returned (.bool true) ∧ Below w.heap.size w w' := by
  cases hm : (mode == 1) with
  | true => exact spec_true w hT n hn mode hm
  | false => exact spec_false w hT n hn mode hm

end Go.Proofs.YtkpglfloddkclaaDoor


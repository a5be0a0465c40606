/-
  Walks: the law FloatCommutes.
-/
import Derived.Test.YtkpglfloddkclaaDoorGw
import Derived.Test.YtkpglfloddkclaaDoorGf
namespace Go.Proofs.YtkpglfloddkclaaDoor
open Go.RowKit Sp

set_option maxRecDepth 100000 in
set_option maxHeartbeats 2000000 in
theorem comm_nan (w : World) (hT : Tab w) (a b c : Nat) (mode : Int) (ha : a < 18446744073709551616) (hb : b < 18446744073709551616) (hc : c < 18446744073709551616) (hn : fnan a = true) :
    Calls Tryd.prog 4 #[.int .u64 a, .int .u64 b, .int .u64 c, .int .i64 mode] w fun o w' => o = .returned (.bool true) ∧ Below w.heap.size w w' := by
  have HW := fun W ht => Lib.hid (awakeF_any W ht)
  have H1 := fun W ht => Lib.hid (wadd_any W a b ha hb mode ht)
  have H2 := fun W ht => Lib.hid (wadd_any W b a hb ha mode ht)
  rw [fadd_comm b a mode] at H2
  have H3 := fun W ht => Lib.hid (wmul_any W a b ha hb mode ht)
  have H4 := fun W ht => Lib.hid (wmul_any W b a hb ha mode ht)
  rw [fmul_comm b a mode] at H4
  have H5 := fun W ht => Lib.hid (wfma_any W a b c ha hb hc mode ht)
  have H6 := fun W ht => Lib.hid (wfma_any W b a c hb ha hc mode ht)
  rw [ffma_comm b a c mode] at H6
  have H7 := fun W (ht : Tab W) => Lib.hid (show Calls Tryd.prog 21 #[.int .u64 a, .int .u64 4607182418800017408, .int .u64 c, .int .i64 mode] W fun o w' => o = .returned (.int .u64 (fadd a c mode : Nat)) ∧ Below W.heap.size W w' from by
    have := wfma_any W a fOne c ha (by decide) hc mode ht
    rw [ffma_one ha hc] at this; exact this)
  have H8 := fun W ht => Lib.hid (wadd_any W a c ha hc mode ht)
  obtain ⟨v, hv⟩ : ∃ v : Nat, v = if fnan a then fNaN else a := ⟨_, rfl⟩
  have H9 := fun W (ht : Tab W) => Lib.hid (show Calls Tryd.prog 14 #[.int .u64 a, .int .u64 4607182418800017408, .int .i64 mode] W fun o w' => o = .returned (.int .u64 (v : Nat)) ∧ Below W.heap.size W w' from by
    have := wmul_any W a fOne ha (by decide) mode ht
    rw [fmul_one ha, ← hv] at this; exact this)
  have H10 := fun W (ht : Tab W) => Lib.hid (show Calls Tryd.prog 15 #[.int .u64 a, .int .u64 4607182418800017408, .int .i64 mode] W fun o w' => o = .returned (.int .u64 (v : Nat)) ∧ Below W.heap.size W w' from by
    have := wdiv_any W a fOne ha (by decide) mode ht
    rw [fdiv_one ha, ← hv] at this; exact this)
  have H11 := fun W (ht : Tab W) => Lib.hid (show Calls Tryd.prog 16 #[.int .u64 a, .int .u64 9223372036854775808, .int .i64 0] W fun o w' => o = .returned (.int .u64 (v : Nat)) ∧ Below W.heap.size W w' from by
    have := wadd_any W a fNZ ha (by decide) 0 ht
    rw [fadd_negzero ha, ← hv] at this; exact this)
  have HK := fun W => Lib.hid (fkind_any W a)
  have hk : (fkind a == 3) = true := by rw [(fkind_eqs a).1]; exact hn
  rw [hn] at hv
  have hv2 : ((v : Nat) : Int) = 9221120237041090560 := by rw [hv]; rfl
  clear hv
  generalize ((fadd a b mode : Nat) : Int) = v1 at *
  generalize ((fmul a b mode : Nat) : Int) = v2 at *
  generalize ((ffma a b c mode : Nat) : Int) = v3 at *
  generalize ((fadd a c mode : Nat) : Int) = v4 at *
  generalize fkind a = kd at *
  generalize (v : Int) = vv at *
  subst hv2
  clear hn ha hb hc
  go_enter Tryd.func4, Tryd.ntmps4
  go_wp2_with fail
  refine (H1 _ (hT.below (by repeat (with_reducible first | refine Below.setCell ?_ (by simp <;> omega) _ | refine Below.alloc ?_ (by simp <;> omega) _ | refine Below.drew ?_ | refine below_drewN ?_ _ | exact Below.refl _ _)))).out.mono ?_
  rintro e w1 ⟨rfl, hb⟩
  have B1 := below_box (w := w) (by repeat (with_reducible first | refine Below.setCell ?_ (by simp <;> omega) _ | refine Below.alloc ?_ (by simp <;> omega) _ | refine Below.drew ?_ | refine below_drewN ?_ _ | exact Below.refl _ _)) hb
  clear hb
  go_wp2_with fail
  refine (H2 _ (hT.below (by have hszw := (B1).size; repeat (with_reducible first | refine Below.setCell ?_ (by first | omega | (simp <;> omega)) _ | refine Below.alloc ?_ (by first | omega | (simp <;> omega)) _ | refine Below.drew ?_ | refine below_drewN ?_ _ | exact B1)))).out.mono ?_
  rintro e w2 ⟨rfl, hb⟩
  have B2 := below_box (w := w) (by have hszw := (B1).size; repeat (with_reducible first | refine Below.setCell ?_ (by first | omega | (simp <;> omega)) _ | refine Below.alloc ?_ (by first | omega | (simp <;> omega)) _ | refine Below.drew ?_ | refine below_drewN ?_ _ | exact B1)) hb
  clear hb
  go_wp2_with fail
  refine (H3 _ (hT.below (by have hszw := (B2).size; repeat (with_reducible first | refine Below.setCell ?_ (by first | omega | (simp <;> omega)) _ | refine Below.alloc ?_ (by first | omega | (simp <;> omega)) _ | refine Below.drew ?_ | refine below_drewN ?_ _ | exact B2)))).out.mono ?_
  rintro e w3 ⟨rfl, hb⟩
  have B3 := below_box (w := w) (by have hszw := (B2).size; repeat (with_reducible first | refine Below.setCell ?_ (by first | omega | (simp <;> omega)) _ | refine Below.alloc ?_ (by first | omega | (simp <;> omega)) _ | refine Below.drew ?_ | refine below_drewN ?_ _ | exact B2)) hb
  clear hb
  go_wp2_with fail
  refine (H4 _ (hT.below (by have hszw := (B3).size; repeat (with_reducible first | refine Below.setCell ?_ (by first | omega | (simp <;> omega)) _ | refine Below.alloc ?_ (by first | omega | (simp <;> omega)) _ | refine Below.drew ?_ | refine below_drewN ?_ _ | exact B3)))).out.mono ?_
  rintro e w4 ⟨rfl, hb⟩
  have B4 := below_box (w := w) (by have hszw := (B3).size; repeat (with_reducible first | refine Below.setCell ?_ (by first | omega | (simp <;> omega)) _ | refine Below.alloc ?_ (by first | omega | (simp <;> omega)) _ | refine Below.drew ?_ | refine below_drewN ?_ _ | exact B3)) hb
  clear hb
  go_wp2_with fail
  refine (H5 _ (hT.below (by have hszw := (B4).size; repeat (with_reducible first | refine Below.setCell ?_ (by first | omega | (simp <;> omega)) _ | refine Below.alloc ?_ (by first | omega | (simp <;> omega)) _ | refine Below.drew ?_ | refine below_drewN ?_ _ | exact B4)))).out.mono ?_
  rintro e w5 ⟨rfl, hb⟩
  have B5 := below_box (w := w) (by have hszw := (B4).size; repeat (with_reducible first | refine Below.setCell ?_ (by first | omega | (simp <;> omega)) _ | refine Below.alloc ?_ (by first | omega | (simp <;> omega)) _ | refine Below.drew ?_ | refine below_drewN ?_ _ | exact B4)) hb
  clear hb
  go_wp2_with fail
  refine (H6 _ (hT.below (by have hszw := (B5).size; repeat (with_reducible first | refine Below.setCell ?_ (by first | omega | (simp <;> omega)) _ | refine Below.alloc ?_ (by first | omega | (simp <;> omega)) _ | refine Below.drew ?_ | refine below_drewN ?_ _ | exact B5)))).out.mono ?_
  rintro e w6 ⟨rfl, hb⟩
  have B6 := below_box (w := w) (by have hszw := (B5).size; repeat (with_reducible first | refine Below.setCell ?_ (by first | omega | (simp <;> omega)) _ | refine Below.alloc ?_ (by first | omega | (simp <;> omega)) _ | refine Below.drew ?_ | refine below_drewN ?_ _ | exact B5)) hb
  clear hb
  go_wp2_with fail
  refine (H7 _ (hT.below (by have hszw := (B6).size; repeat (with_reducible first | refine Below.setCell ?_ (by first | omega | (simp <;> omega)) _ | refine Below.alloc ?_ (by first | omega | (simp <;> omega)) _ | refine Below.drew ?_ | refine below_drewN ?_ _ | exact B6)))).out.mono ?_
  rintro e w7 ⟨rfl, hb⟩
  have B7 := below_box (w := w) (by have hszw := (B6).size; repeat (with_reducible first | refine Below.setCell ?_ (by first | omega | (simp <;> omega)) _ | refine Below.alloc ?_ (by first | omega | (simp <;> omega)) _ | refine Below.drew ?_ | refine below_drewN ?_ _ | exact B6)) hb
  clear hb
  go_wp2_with fail
  refine (H8 _ (hT.below (by have hszw := (B7).size; repeat (with_reducible first | refine Below.setCell ?_ (by first | omega | (simp <;> omega)) _ | refine Below.alloc ?_ (by first | omega | (simp <;> omega)) _ | refine Below.drew ?_ | refine below_drewN ?_ _ | exact B7)))).out.mono ?_
  rintro e w8 ⟨rfl, hb⟩
  have B8 := below_box (w := w) (by have hszw := (B7).size; repeat (with_reducible first | refine Below.setCell ?_ (by first | omega | (simp <;> omega)) _ | refine Below.alloc ?_ (by first | omega | (simp <;> omega)) _ | refine Below.drew ?_ | refine below_drewN ?_ _ | exact B7)) hb
  clear hb
  go_wp2_with fail
  refine (H9 _ (hT.below (by have hszw := (B8).size; repeat (with_reducible first | refine Below.setCell ?_ (by first | omega | (simp <;> omega)) _ | refine Below.alloc ?_ (by first | omega | (simp <;> omega)) _ | refine Below.drew ?_ | refine below_drewN ?_ _ | exact B8)))).out.mono ?_
  rintro e w9 ⟨rfl, hb⟩
  have B9 := below_box (w := w) (by have hszw := (B8).size; repeat (with_reducible first | refine Below.setCell ?_ (by first | omega | (simp <;> omega)) _ | refine Below.alloc ?_ (by first | omega | (simp <;> omega)) _ | refine Below.drew ?_ | refine below_drewN ?_ _ | exact B8)) hb
  clear hb
  go_wp2_with fail
  refine (H10 _ (hT.below (by have hszw := (B9).size; repeat (with_reducible first | refine Below.setCell ?_ (by first | omega | (simp <;> omega)) _ | refine Below.alloc ?_ (by first | omega | (simp <;> omega)) _ | refine Below.drew ?_ | refine below_drewN ?_ _ | exact B9)))).out.mono ?_
  rintro e w10 ⟨rfl, hb⟩
  have B10 := below_box (w := w) (by have hszw := (B9).size; repeat (with_reducible first | refine Below.setCell ?_ (by first | omega | (simp <;> omega)) _ | refine Below.alloc ?_ (by first | omega | (simp <;> omega)) _ | refine Below.drew ?_ | refine below_drewN ?_ _ | exact B9)) hb
  clear hb
  go_wp2_with fail
  refine (HK _).out.mono ?_
  rintro e wq ⟨rfl, rfl⟩
  go_wp2_with fail
  refine (H11 _ (hT.below (by have hszw := (B10).size; repeat (with_reducible first | refine Below.setCell ?_ (by first | omega | (simp <;> omega)) _ | refine Below.alloc ?_ (by first | omega | (simp <;> omega)) _ | refine Below.drew ?_ | refine below_drewN ?_ _ | exact B10)))).out.mono ?_
  rintro e w11 ⟨rfl, hb⟩
  have B11 := below_box (w := w) (by have hszw := (B10).size; repeat (with_reducible first | refine Below.setCell ?_ (by first | omega | (simp <;> omega)) _ | refine Below.alloc ?_ (by first | omega | (simp <;> omega)) _ | refine Below.drew ?_ | refine below_drewN ?_ _ | exact B10)) hb
  clear hb
  go_wp2_with fail
  refine (HW _ (hT.below (by have hszw := (B11).size; repeat (with_reducible first | refine Below.setCell ?_ (by first | omega | (simp <;> omega)) _ | refine Below.alloc ?_ (by first | omega | (simp <;> omega)) _ | refine Below.drew ?_ | refine below_drewN ?_ _ | exact B11)))).out.mono ?_
  rintro e w12 ⟨rfl, hb⟩
  have B12 := below_box (w := w) (by have hszw := (B11).size; repeat (with_reducible first | refine Below.setCell ?_ (by first | omega | (simp <;> omega)) _ | refine Below.alloc ?_ (by first | omega | (simp <;> omega)) _ | refine Below.drew ?_ | refine below_drewN ?_ _ | exact B11)) hb
  clear hb
  go_wp2_with fail
  go_ret
  exact ⟨rfl, (by have hszw := (B12).size; repeat (with_reducible first | refine Below.setCell ?_ (by first | omega | (simp <;> omega)) _ | refine Below.alloc ?_ (by first | omega | (simp <;> omega)) _ | refine Below.drew ?_ | refine below_drewN ?_ _ | exact B12))⟩

set_option maxRecDepth 100000 in
set_option maxHeartbeats 2000000 in
theorem comm_ok (w : World) (hT : Tab w) (a b c : Nat) (mode : Int) (ha : a < 18446744073709551616) (hb : b < 18446744073709551616) (hc : c < 18446744073709551616) (hn : fnan a = false) :
    Calls Tryd.prog 4 #[.int .u64 a, .int .u64 b, .int .u64 c, .int .i64 mode] w fun o w' => o = .returned (.bool true) ∧ Below w.heap.size w w' := by
  have HW := fun W ht => Lib.hid (awakeF_any W ht)
  have H1 := fun W ht => Lib.hid (wadd_any W a b ha hb mode ht)
  have H2 := fun W ht => Lib.hid (wadd_any W b a hb ha mode ht)
  rw [fadd_comm b a mode] at H2
  have H3 := fun W ht => Lib.hid (wmul_any W a b ha hb mode ht)
  have H4 := fun W ht => Lib.hid (wmul_any W b a hb ha mode ht)
  rw [fmul_comm b a mode] at H4
  have H5 := fun W ht => Lib.hid (wfma_any W a b c ha hb hc mode ht)
  have H6 := fun W ht => Lib.hid (wfma_any W b a c hb ha hc mode ht)
  rw [ffma_comm b a c mode] at H6
  have H7 := fun W (ht : Tab W) => Lib.hid (show Calls Tryd.prog 21 #[.int .u64 a, .int .u64 4607182418800017408, .int .u64 c, .int .i64 mode] W fun o w' => o = .returned (.int .u64 (fadd a c mode : Nat)) ∧ Below W.heap.size W w' from by
    have := wfma_any W a fOne c ha (by decide) hc mode ht
    rw [ffma_one ha hc] at this; exact this)
  have H8 := fun W ht => Lib.hid (wadd_any W a c ha hc mode ht)
  obtain ⟨v, hv⟩ : ∃ v : Nat, v = if fnan a then fNaN else a := ⟨_, rfl⟩
  have H9 := fun W (ht : Tab W) => Lib.hid (show Calls Tryd.prog 14 #[.int .u64 a, .int .u64 4607182418800017408, .int .i64 mode] W fun o w' => o = .returned (.int .u64 (v : Nat)) ∧ Below W.heap.size W w' from by
    have := wmul_any W a fOne ha (by decide) mode ht
    rw [fmul_one ha, ← hv] at this; exact this)
  have H10 := fun W (ht : Tab W) => Lib.hid (show Calls Tryd.prog 15 #[.int .u64 a, .int .u64 4607182418800017408, .int .i64 mode] W fun o w' => o = .returned (.int .u64 (v : Nat)) ∧ Below W.heap.size W w' from by
    have := wdiv_any W a fOne ha (by decide) mode ht
    rw [fdiv_one ha, ← hv] at this; exact this)
  have H11 := fun W (ht : Tab W) => Lib.hid (show Calls Tryd.prog 16 #[.int .u64 a, .int .u64 9223372036854775808, .int .i64 0] W fun o w' => o = .returned (.int .u64 (v : Nat)) ∧ Below W.heap.size W w' from by
    have := wadd_any W a fNZ ha (by decide) 0 ht
    rw [fadd_negzero ha, ← hv] at this; exact this)
  have HK := fun W => Lib.hid (fkind_any W a)
  have hk : (fkind a == 3) = false := by rw [(fkind_eqs a).1]; exact hn
  rw [hn] at hv
  have hv2 : a = v := by rw [hv, if_neg (by decide)]
  clear hv
  generalize ((fadd a b mode : Nat) : Int) = v1 at *
  generalize ((fmul a b mode : Nat) : Int) = v2 at *
  generalize ((ffma a b c mode : Nat) : Int) = v3 at *
  generalize ((fadd a c mode : Nat) : Int) = v4 at *
  generalize fkind a = kd at *
  subst hv2
  skip
  clear hn ha hb hc
  go_enter Tryd.func4, Tryd.ntmps4
  go_wp2_with fail
  refine (H1 _ (hT.below (by repeat (with_reducible first | refine Below.setCell ?_ (by simp <;> omega) _ | refine Below.alloc ?_ (by simp <;> omega) _ | refine Below.drew ?_ | refine below_drewN ?_ _ | exact Below.refl _ _)))).out.mono ?_
  rintro e w1 ⟨rfl, hb⟩
  have B1 := below_box (w := w) (by repeat (with_reducible first | refine Below.setCell ?_ (by simp <;> omega) _ | refine Below.alloc ?_ (by simp <;> omega) _ | refine Below.drew ?_ | refine below_drewN ?_ _ | exact Below.refl _ _)) hb
  clear hb
  go_wp2_with fail
  refine (H2 _ (hT.below (by have hszw := (B1).size; repeat (with_reducible first | refine Below.setCell ?_ (by first | omega | (simp <;> omega)) _ | refine Below.alloc ?_ (by first | omega | (simp <;> omega)) _ | refine Below.drew ?_ | refine below_drewN ?_ _ | exact B1)))).out.mono ?_
  rintro e w2 ⟨rfl, hb⟩
  have B2 := below_box (w := w) (by have hszw := (B1).size; repeat (with_reducible first | refine Below.setCell ?_ (by first | omega | (simp <;> omega)) _ | refine Below.alloc ?_ (by first | omega | (simp <;> omega)) _ | refine Below.drew ?_ | refine below_drewN ?_ _ | exact B1)) hb
  clear hb
  go_wp2_with fail
  refine (H3 _ (hT.below (by have hszw := (B2).size; repeat (with_reducible first | refine Below.setCell ?_ (by first | omega | (simp <;> omega)) _ | refine Below.alloc ?_ (by first | omega | (simp <;> omega)) _ | refine Below.drew ?_ | refine below_drewN ?_ _ | exact B2)))).out.mono ?_
  rintro e w3 ⟨rfl, hb⟩
  have B3 := below_box (w := w) (by have hszw := (B2).size; repeat (with_reducible first | refine Below.setCell ?_ (by first | omega | (simp <;> omega)) _ | refine Below.alloc ?_ (by first | omega | (simp <;> omega)) _ | refine Below.drew ?_ | refine below_drewN ?_ _ | exact B2)) hb
  clear hb
  go_wp2_with fail
  refine (H4 _ (hT.below (by have hszw := (B3).size; repeat (with_reducible first | refine Below.setCell ?_ (by first | omega | (simp <;> omega)) _ | refine Below.alloc ?_ (by first | omega | (simp <;> omega)) _ | refine Below.drew ?_ | refine below_drewN ?_ _ | exact B3)))).out.mono ?_
  rintro e w4 ⟨rfl, hb⟩
  have B4 := below_box (w := w) (by have hszw := (B3).size; repeat (with_reducible first | refine Below.setCell ?_ (by first | omega | (simp <;> omega)) _ | refine Below.alloc ?_ (by first | omega | (simp <;> omega)) _ | refine Below.drew ?_ | refine below_drewN ?_ _ | exact B3)) hb
  clear hb
  go_wp2_with fail
  refine (H5 _ (hT.below (by have hszw := (B4).size; repeat (with_reducible first | refine Below.setCell ?_ (by first | omega | (simp <;> omega)) _ | refine Below.alloc ?_ (by first | omega | (simp <;> omega)) _ | refine Below.drew ?_ | refine below_drewN ?_ _ | exact B4)))).out.mono ?_
  rintro e w5 ⟨rfl, hb⟩
  have B5 := below_box (w := w) (by have hszw := (B4).size; repeat (with_reducible first | refine Below.setCell ?_ (by first | omega | (simp <;> omega)) _ | refine Below.alloc ?_ (by first | omega | (simp <;> omega)) _ | refine Below.drew ?_ | refine below_drewN ?_ _ | exact B4)) hb
  clear hb
  go_wp2_with fail
  refine (H6 _ (hT.below (by have hszw := (B5).size; repeat (with_reducible first | refine Below.setCell ?_ (by first | omega | (simp <;> omega)) _ | refine Below.alloc ?_ (by first | omega | (simp <;> omega)) _ | refine Below.drew ?_ | refine below_drewN ?_ _ | exact B5)))).out.mono ?_
  rintro e w6 ⟨rfl, hb⟩
  have B6 := below_box (w := w) (by have hszw := (B5).size; repeat (with_reducible first | refine Below.setCell ?_ (by first | omega | (simp <;> omega)) _ | refine Below.alloc ?_ (by first | omega | (simp <;> omega)) _ | refine Below.drew ?_ | refine below_drewN ?_ _ | exact B5)) hb
  clear hb
  go_wp2_with fail
  refine (H7 _ (hT.below (by have hszw := (B6).size; repeat (with_reducible first | refine Below.setCell ?_ (by first | omega | (simp <;> omega)) _ | refine Below.alloc ?_ (by first | omega | (simp <;> omega)) _ | refine Below.drew ?_ | refine below_drewN ?_ _ | exact B6)))).out.mono ?_
  rintro e w7 ⟨rfl, hb⟩
  have B7 := below_box (w := w) (by have hszw := (B6).size; repeat (with_reducible first | refine Below.setCell ?_ (by first | omega | (simp <;> omega)) _ | refine Below.alloc ?_ (by first | omega | (simp <;> omega)) _ | refine Below.drew ?_ | refine below_drewN ?_ _ | exact B6)) hb
  clear hb
  go_wp2_with fail
  refine (H8 _ (hT.below (by have hszw := (B7).size; repeat (with_reducible first | refine Below.setCell ?_ (by first | omega | (simp <;> omega)) _ | refine Below.alloc ?_ (by first | omega | (simp <;> omega)) _ | refine Below.drew ?_ | refine below_drewN ?_ _ | exact B7)))).out.mono ?_
  rintro e w8 ⟨rfl, hb⟩
  have B8 := below_box (w := w) (by have hszw := (B7).size; repeat (with_reducible first | refine Below.setCell ?_ (by first | omega | (simp <;> omega)) _ | refine Below.alloc ?_ (by first | omega | (simp <;> omega)) _ | refine Below.drew ?_ | refine below_drewN ?_ _ | exact B7)) hb
  clear hb
  go_wp2_with fail
  refine (H9 _ (hT.below (by have hszw := (B8).size; repeat (with_reducible first | refine Below.setCell ?_ (by first | omega | (simp <;> omega)) _ | refine Below.alloc ?_ (by first | omega | (simp <;> omega)) _ | refine Below.drew ?_ | refine below_drewN ?_ _ | exact B8)))).out.mono ?_
  rintro e w9 ⟨rfl, hb⟩
  have B9 := below_box (w := w) (by have hszw := (B8).size; repeat (with_reducible first | refine Below.setCell ?_ (by first | omega | (simp <;> omega)) _ | refine Below.alloc ?_ (by first | omega | (simp <;> omega)) _ | refine Below.drew ?_ | refine below_drewN ?_ _ | exact B8)) hb
  clear hb
  go_wp2_with fail
  refine (H10 _ (hT.below (by have hszw := (B9).size; repeat (with_reducible first | refine Below.setCell ?_ (by first | omega | (simp <;> omega)) _ | refine Below.alloc ?_ (by first | omega | (simp <;> omega)) _ | refine Below.drew ?_ | refine below_drewN ?_ _ | exact B9)))).out.mono ?_
  rintro e w10 ⟨rfl, hb⟩
  have B10 := below_box (w := w) (by have hszw := (B9).size; repeat (with_reducible first | refine Below.setCell ?_ (by first | omega | (simp <;> omega)) _ | refine Below.alloc ?_ (by first | omega | (simp <;> omega)) _ | refine Below.drew ?_ | refine below_drewN ?_ _ | exact B9)) hb
  clear hb
  go_wp2_with fail
  refine (HK _).out.mono ?_
  rintro e wq ⟨rfl, rfl⟩
  go_wp2_with fail
  refine (H11 _ (hT.below (by have hszw := (B10).size; repeat (with_reducible first | refine Below.setCell ?_ (by first | omega | (simp <;> omega)) _ | refine Below.alloc ?_ (by first | omega | (simp <;> omega)) _ | refine Below.drew ?_ | refine below_drewN ?_ _ | exact B10)))).out.mono ?_
  rintro e w11 ⟨rfl, hb⟩
  have B11 := below_box (w := w) (by have hszw := (B10).size; repeat (with_reducible first | refine Below.setCell ?_ (by first | omega | (simp <;> omega)) _ | refine Below.alloc ?_ (by first | omega | (simp <;> omega)) _ | refine Below.drew ?_ | refine below_drewN ?_ _ | exact B10)) hb
  clear hb
  go_wp2_with fail
  refine (H9 _ (hT.below (by have hszw := (B11).size; repeat (with_reducible first | refine Below.setCell ?_ (by first | omega | (simp <;> omega)) _ | refine Below.alloc ?_ (by first | omega | (simp <;> omega)) _ | refine Below.drew ?_ | refine below_drewN ?_ _ | exact B11)))).out.mono ?_
  rintro e w12 ⟨rfl, hb⟩
  have B12 := below_box (w := w) (by have hszw := (B11).size; repeat (with_reducible first | refine Below.setCell ?_ (by first | omega | (simp <;> omega)) _ | refine Below.alloc ?_ (by first | omega | (simp <;> omega)) _ | refine Below.drew ?_ | refine below_drewN ?_ _ | exact B11)) hb
  clear hb
  go_wp2_with fail
  refine (HW _ (hT.below (by have hszw := (B12).size; repeat (with_reducible first | refine Below.setCell ?_ (by first | omega | (simp <;> omega)) _ | refine Below.alloc ?_ (by first | omega | (simp <;> omega)) _ | refine Below.drew ?_ | refine below_drewN ?_ _ | exact B12)))).out.mono ?_
  rintro e w13 ⟨rfl, hb⟩
  have B13 := below_box (w := w) (by have hszw := (B12).size; repeat (with_reducible first | refine Below.setCell ?_ (by first | omega | (simp <;> omega)) _ | refine Below.alloc ?_ (by first | omega | (simp <;> omega)) _ | refine Below.drew ?_ | refine below_drewN ?_ _ | exact B12)) hb
  clear hb
  go_wp2_with fail
  go_ret
  exact ⟨rfl, (by have hszw := (B13).size; repeat (with_reducible first | refine Below.setCell ?_ (by first | omega | (simp <;> omega)) _ | refine Below.alloc ?_ (by first | omega | (simp <;> omega)) _ | refine Below.drew ?_ | refine below_drewN ?_ _ | exact B13))⟩

theorem comm_any (w : World) (hT : Tab w) (a b c : Nat) (mode : Int) (ha : a < 18446744073709551616) (hb : b < 18446744073709551616) (hc : c < 18446744073709551616) :
    Calls Tryd.prog 4 #[.int .u64 a, .int .u64 b, .int .u64 c, .int .i64 mode] w fun o w' => o = .returned (.bool true) ∧ Below w.heap.size w w' := by
  cases hn : fnan a with
  | true => exact comm_nan w hT a b c mode ha hb hc hn
  | false => exact comm_ok w hT a b c mode ha hb hc hn

end Go.Proofs.YtkpglfloddkclaaDoor


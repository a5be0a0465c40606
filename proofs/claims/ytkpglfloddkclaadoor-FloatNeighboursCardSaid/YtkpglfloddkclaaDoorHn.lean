/-
  Walks: the law FloatNeighbours.
-/
import Derived.Test.YtkpglfloddkclaaDoorGw
namespace Go.Proofs.YtkpglfloddkclaaDoor
open Go.RowKit Sp

set_option maxRecDepth 100000 in
set_option maxHeartbeats 2000000 in
theorem neigh_nan (w : World) (hT : Tab w) (f g : Nat) (hf : f < 18446744073709551616) (_hg : g < 18446744073709551616) (hn : fnan f = true) :
    Calls Tryd.prog 7 #[.int .u64 f, .int .u64 g] w fun o w' => o = .returned (.bool true) ∧ Below w.heap.size w w' := by
  have HW := fun W ht => Lib.hid (awakeF_any W ht)
  have HU := fun W => Lib.hid (fup_any W f hf)
  have HD := fun W => Lib.hid (fdown_any W f hf)
  have HK := fun W => Lib.hid (fkind_any W f)
  have hk : (fkind f == 3) = true := by rw [(fkind_eqs f).1]; exact hn
  rw [show fup f = fNaN by unfold fup; rw [if_pos hn], show fdown f = fNaN by unfold fdown; rw [fneg_nan hn]; decide] at *
  have HU := fun W => Lib.hid (show Calls Tryd.prog 29 #[.int .u64 f] W fun e w' => e = .returned (.int .u64 9221120237041090560) ∧ Below W.heap.size W w' from (HU W).out)
  have HD := fun W => Lib.hid (show Calls Tryd.prog 30 #[.int .u64 f] W fun e w' => e = .returned (.int .u64 9221120237041090560) ∧ Below W.heap.size W w' from (HD W).out)
  generalize fkind f = kd at *
  go_enter Tryd.func7, Tryd.ntmps7
  go_wp2_with fail
  refine (HU _).out.mono ?_
  rintro e w1 ⟨rfl, hb⟩
  have B1 := below_box (w := w) (by repeat (with_reducible first | refine Below.setCell ?_ (by simp <;> omega) _ | refine Below.alloc ?_ (by simp <;> omega) _ | refine Below.drew ?_ | refine below_drewN ?_ _ | exact Below.refl _ _)) hb
  clear hb
  go_wp2_with fail
  refine (HD _).out.mono ?_
  rintro e w2 ⟨rfl, hb⟩
  have B2 := below_box (w := w) (by have hszw := (B1).size; repeat (with_reducible first | refine Below.setCell ?_ (by first | omega | (simp <;> omega)) _ | refine Below.alloc ?_ (by first | omega | (simp <;> omega)) _ | refine Below.drew ?_ | refine below_drewN ?_ _ | exact B1)) hb
  clear hb
  go_wp2_with fail
  refine (HK _).out.mono ?_
  rintro e wq ⟨rfl, rfl⟩
  go_wp2_with fail
  refine (HW _ (hT.below (by have hszw := (B2).size; repeat (with_reducible first | refine Below.setCell ?_ (by first | omega | (simp <;> omega)) _ | refine Below.alloc ?_ (by first | omega | (simp <;> omega)) _ | refine Below.drew ?_ | refine below_drewN ?_ _ | exact B2)))).out.mono ?_
  rintro e w3 ⟨rfl, hb⟩
  have B3 := below_box (w := w) (by have hszw := (B2).size; repeat (with_reducible first | refine Below.setCell ?_ (by first | omega | (simp <;> omega)) _ | refine Below.alloc ?_ (by first | omega | (simp <;> omega)) _ | refine Below.drew ?_ | refine below_drewN ?_ _ | exact B2)) hb
  clear hb
  go_wp2_with fail
  go_ret
  exact ⟨rfl, (by have hszw := (B3).size; repeat (with_reducible first | refine Below.setCell ?_ (by first | omega | (simp <;> omega)) _ | refine Below.alloc ?_ (by first | omega | (simp <;> omega)) _ | refine Below.drew ?_ | refine below_drewN ?_ _ | exact B3))⟩

set_option maxRecDepth 100000 in
set_option maxHeartbeats 2000000 in
theorem neigh_noki (w : World) (hT : Tab w) (f g : Nat) (hf : f < 18446744073709551616) (hg : g < 18446744073709551616) (hn : fnan f = false) (h1 : fcmpok f g = false) (hi : f = fInf) (hu : fup f = fInf) (hd : fdown f = fMax) :
    Calls Tryd.prog 7 #[.int .u64 f, .int .u64 g] w fun o w' => o = .returned (.bool true) ∧ Below w.heap.size w w' := by
  have HW := fun W ht => Lib.hid (awakeF_any W ht)
  have HU := fun W => Lib.hid (fup_any W f hf)
  have HD := fun W => Lib.hid (fdown_any W f hf)
  have HK := fun W => Lib.hid (fkind_any W f)
  have hk : (fkind f == 3) = false := by rw [(fkind_eqs f).1]; exact hn
  have HC1 := fun W => Lib.hid (fcmp_any W f g hf hg)
  have HC2 := fun W => Lib.hid (fcmp_any W g (fup f) hg (fup_lt hf))
  rw [h1] at HC1
  have b1 : ((f : Int) == 9218868437227405312) = true := by rw [hi]; rfl
  have u1 : ((fup f : Nat) : Int) = 9218868437227405312 := by rw [hu]; rfl
  have d1 : ((fdown f : Nat) : Int) = 9218868437227405311 := by rw [hd]; rfl
  generalize fkind f = kd at *
  generalize fcmpv f g = v1 at *
  generalize fcmpv g (fup f) = v2 at *
  generalize fcmpok g (fup f) = o2 at *
  rw [u1] at HU HC2
  rw [d1] at HD
  clear h1 hi hu hd u1 d1 hn hf hg
  go_enter Tryd.func7, Tryd.ntmps7
  go_wp2_with fail
  refine (HU _).out.mono ?_
  rintro e w1 ⟨rfl, hb⟩
  have B1 := below_box (w := w) (by repeat (with_reducible first | refine Below.setCell ?_ (by simp <;> omega) _ | refine Below.alloc ?_ (by simp <;> omega) _ | refine Below.drew ?_ | refine below_drewN ?_ _ | exact Below.refl _ _)) hb
  clear hb
  go_wp2_with fail
  refine (HD _).out.mono ?_
  rintro e w2 ⟨rfl, hb⟩
  have B2 := below_box (w := w) (by have hszw := (B1).size; repeat (with_reducible first | refine Below.setCell ?_ (by first | omega | (simp <;> omega)) _ | refine Below.alloc ?_ (by first | omega | (simp <;> omega)) _ | refine Below.drew ?_ | refine below_drewN ?_ _ | exact B1)) hb
  clear hb
  go_wp2_with fail
  refine (HK _).out.mono ?_
  rintro e wq ⟨rfl, rfl⟩
  go_wp2_with fail
  refine (HC1 _).out.mono ?_
  rintro e w3 ⟨rfl, hb⟩
  have B3 := below_box (w := w) (by have hszw := (B2).size; repeat (with_reducible first | refine Below.setCell ?_ (by first | omega | (simp <;> omega)) _ | refine Below.alloc ?_ (by first | omega | (simp <;> omega)) _ | refine Below.drew ?_ | refine below_drewN ?_ _ | exact B2)) hb
  clear hb
  go_wp2_with fail
  refine (HC2 _).out.mono ?_
  rintro e w4 ⟨rfl, hb⟩
  have B4 := below_box (w := w) (by have hszw := (B3).size; repeat (with_reducible first | refine Below.setCell ?_ (by first | omega | (simp <;> omega)) _ | refine Below.alloc ?_ (by first | omega | (simp <;> omega)) _ | refine Below.drew ?_ | refine below_drewN ?_ _ | exact B3)) hb
  clear hb
  go_wp2_with fail
  refine (HW _ (hT.below (by have hszw := (B4).size; repeat (with_reducible first | refine Below.setCell ?_ (by first | omega | (simp <;> omega)) _ | refine Below.alloc ?_ (by first | omega | (simp <;> omega)) _ | refine Below.drew ?_ | refine below_drewN ?_ _ | exact B4)))).out.mono ?_
  rintro e w5 ⟨rfl, hb⟩
  have B5 := below_box (w := w) (by have hszw := (B4).size; repeat (with_reducible first | refine Below.setCell ?_ (by first | omega | (simp <;> omega)) _ | refine Below.alloc ?_ (by first | omega | (simp <;> omega)) _ | refine Below.drew ?_ | refine below_drewN ?_ _ | exact B4)) hb
  clear hb
  go_wp2_with fail
  go_ret
  exact ⟨rfl, (by have hszw := (B5).size; repeat (with_reducible first | refine Below.setCell ?_ (by first | omega | (simp <;> omega)) _ | refine Below.alloc ?_ (by first | omega | (simp <;> omega)) _ | refine Below.drew ?_ | refine below_drewN ?_ _ | exact B5))⟩

set_option maxRecDepth 100000 in
set_option maxHeartbeats 2000000 in
theorem neigh_nokf (w : World) (hT : Tab w) (f g : Nat) (hf : f < 18446744073709551616) (hg : g < 18446744073709551616) (hn : fnan f = false) (h1 : fcmpok f g = false) (hi : f ≠ fInf) (o1 : fcmpok f (fup f) = true) (c1 : fcmpv f (fup f) < 0) (c2 : fcmpv (fdown (fup f)) f = 0) :
    Calls Tryd.prog 7 #[.int .u64 f, .int .u64 g] w fun o w' => o = .returned (.bool true) ∧ Below w.heap.size w w' := by
  have HW := fun W ht => Lib.hid (awakeF_any W ht)
  have HU := fun W => Lib.hid (fup_any W f hf)
  have HD := fun W => Lib.hid (fdown_any W f hf)
  have HK := fun W => Lib.hid (fkind_any W f)
  have hk : (fkind f == 3) = false := by rw [(fkind_eqs f).1]; exact hn
  have HC1 := fun W => Lib.hid (fcmp_any W f g hf hg)
  have HC2 := fun W => Lib.hid (fcmp_any W g (fup f) hg (fup_lt hf))
  rw [h1] at HC1
  have b1 : ((f : Int) == 9218868437227405312) = false := by rw [beq_eq_false_iff_ne]; unfold fInf at hi; omega
  have HC3 := fun W => Lib.hid (fcmp_any W f (fup f) hf (fup_lt hf))
  rw [o1] at HC3
  have c3 : decide (fcmpv f (fup f) < 0) = true := by simpa using c1
  have HD2 := fun W => Lib.hid (fdown_any W (fup f) (fup_lt hf))
  have HC4 := fun W => Lib.hid (fcmp_any W (fdown (fup f)) f (fneg_lt _) hf)
  rw [c2] at HC4
  generalize fcmpok (fdown (fup f)) f = o4 at *
  generalize ((fdown (fup f) : Nat) : Int) = du at *
  generalize fcmpv f (fup f) = v3 at *
  generalize fkind f = kd at *
  generalize fcmpv f g = v1 at *
  generalize fcmpv g (fup f) = v2 at *
  generalize fcmpok g (fup f) = o2 at *
  generalize ((fup f : Nat) : Int) = u at *
  generalize ((fdown f : Nat) : Int) = dn at *
  clear h1 hi o1 c1 c2 hn hf hg
  go_enter Tryd.func7, Tryd.ntmps7
  go_wp2_with fail
  refine (HU _).out.mono ?_
  rintro e w1 ⟨rfl, hb⟩
  have B1 := below_box (w := w) (by repeat (with_reducible first | refine Below.setCell ?_ (by simp <;> omega) _ | refine Below.alloc ?_ (by simp <;> omega) _ | refine Below.drew ?_ | refine below_drewN ?_ _ | exact Below.refl _ _)) hb
  clear hb
  go_wp2_with fail
  refine (HD _).out.mono ?_
  rintro e w2 ⟨rfl, hb⟩
  have B2 := below_box (w := w) (by have hszw := (B1).size; repeat (with_reducible first | refine Below.setCell ?_ (by first | omega | (simp <;> omega)) _ | refine Below.alloc ?_ (by first | omega | (simp <;> omega)) _ | refine Below.drew ?_ | refine below_drewN ?_ _ | exact B1)) hb
  clear hb
  go_wp2_with fail
  refine (HK _).out.mono ?_
  rintro e wq ⟨rfl, rfl⟩
  go_wp2_with fail
  refine (HC1 _).out.mono ?_
  rintro e w3 ⟨rfl, hb⟩
  have B3 := below_box (w := w) (by have hszw := (B2).size; repeat (with_reducible first | refine Below.setCell ?_ (by first | omega | (simp <;> omega)) _ | refine Below.alloc ?_ (by first | omega | (simp <;> omega)) _ | refine Below.drew ?_ | refine below_drewN ?_ _ | exact B2)) hb
  clear hb
  go_wp2_with fail
  refine (HC2 _).out.mono ?_
  rintro e w4 ⟨rfl, hb⟩
  have B4 := below_box (w := w) (by have hszw := (B3).size; repeat (with_reducible first | refine Below.setCell ?_ (by first | omega | (simp <;> omega)) _ | refine Below.alloc ?_ (by first | omega | (simp <;> omega)) _ | refine Below.drew ?_ | refine below_drewN ?_ _ | exact B3)) hb
  clear hb
  go_wp2_with fail
  refine (HC3 _).out.mono ?_
  rintro e w5 ⟨rfl, hb⟩
  have B5 := below_box (w := w) (by have hszw := (B4).size; repeat (with_reducible first | refine Below.setCell ?_ (by first | omega | (simp <;> omega)) _ | refine Below.alloc ?_ (by first | omega | (simp <;> omega)) _ | refine Below.drew ?_ | refine below_drewN ?_ _ | exact B4)) hb
  clear hb
  go_wp2_with fail
  refine (HD2 _).out.mono ?_
  rintro e w6 ⟨rfl, hb⟩
  have B6 := below_box (w := w) (by have hszw := (B5).size; repeat (with_reducible first | refine Below.setCell ?_ (by first | omega | (simp <;> omega)) _ | refine Below.alloc ?_ (by first | omega | (simp <;> omega)) _ | refine Below.drew ?_ | refine below_drewN ?_ _ | exact B5)) hb
  clear hb
  go_wp2_with fail
  refine (HC4 _).out.mono ?_
  rintro e w7 ⟨rfl, hb⟩
  have B7 := below_box (w := w) (by have hszw := (B6).size; repeat (with_reducible first | refine Below.setCell ?_ (by first | omega | (simp <;> omega)) _ | refine Below.alloc ?_ (by first | omega | (simp <;> omega)) _ | refine Below.drew ?_ | refine below_drewN ?_ _ | exact B6)) hb
  clear hb
  go_wp2_with fail
  refine (HW _ (hT.below (by have hszw := (B7).size; repeat (with_reducible first | refine Below.setCell ?_ (by first | omega | (simp <;> omega)) _ | refine Below.alloc ?_ (by first | omega | (simp <;> omega)) _ | refine Below.drew ?_ | refine below_drewN ?_ _ | exact B7)))).out.mono ?_
  rintro e w8 ⟨rfl, hb⟩
  have B8 := below_box (w := w) (by have hszw := (B7).size; repeat (with_reducible first | refine Below.setCell ?_ (by first | omega | (simp <;> omega)) _ | refine Below.alloc ?_ (by first | omega | (simp <;> omega)) _ | refine Below.drew ?_ | refine below_drewN ?_ _ | exact B7)) hb
  clear hb
  go_wp2_with fail
  go_ret
  exact ⟨rfl, (by have hszw := (B8).size; repeat (with_reducible first | refine Below.setCell ?_ (by first | omega | (simp <;> omega)) _ | refine Below.alloc ?_ (by first | omega | (simp <;> omega)) _ | refine Below.drew ?_ | refine below_drewN ?_ _ | exact B8))⟩

set_option maxRecDepth 100000 in
set_option maxHeartbeats 2000000 in
theorem neigh_gei (w : World) (hT : Tab w) (f g : Nat) (hf : f < 18446744073709551616) (hg : g < 18446744073709551616) (hn : fnan f = false) (h1 : fcmpok f g = true) (h2 : ¬ fcmpv f g < 0) (hi : f = fInf) (hu : fup f = fInf) (hd : fdown f = fMax) :
    Calls Tryd.prog 7 #[.int .u64 f, .int .u64 g] w fun o w' => o = .returned (.bool true) ∧ Below w.heap.size w w' := by
  have HW := fun W ht => Lib.hid (awakeF_any W ht)
  have HU := fun W => Lib.hid (fup_any W f hf)
  have HD := fun W => Lib.hid (fdown_any W f hf)
  have HK := fun W => Lib.hid (fkind_any W f)
  have hk : (fkind f == 3) = false := by rw [(fkind_eqs f).1]; exact hn
  have HC1 := fun W => Lib.hid (fcmp_any W f g hf hg)
  have HC2 := fun W => Lib.hid (fcmp_any W g (fup f) hg (fup_lt hf))
  rw [h1] at HC1
  have h3 : decide (fcmpv f g < 0) = false := by simpa using h2
  have b1 : ((f : Int) == 9218868437227405312) = true := by rw [hi]; rfl
  have u1 : ((fup f : Nat) : Int) = 9218868437227405312 := by rw [hu]; rfl
  have d1 : ((fdown f : Nat) : Int) = 9218868437227405311 := by rw [hd]; rfl
  generalize fkind f = kd at *
  generalize fcmpv f g = v1 at *
  generalize fcmpv g (fup f) = v2 at *
  generalize fcmpok g (fup f) = o2 at *
  rw [u1] at HU HC2
  rw [d1] at HD
  clear h1 h2 hi hu hd u1 d1 hn hf hg
  go_enter Tryd.func7, Tryd.ntmps7
  go_wp2_with fail
  refine (HU _).out.mono ?_
  rintro e w1 ⟨rfl, hb⟩
  have B1 := below_box (w := w) (by repeat (with_reducible first | refine Below.setCell ?_ (by simp <;> omega) _ | refine Below.alloc ?_ (by simp <;> omega) _ | refine Below.drew ?_ | refine below_drewN ?_ _ | exact Below.refl _ _)) hb
  clear hb
  go_wp2_with fail
  refine (HD _).out.mono ?_
  rintro e w2 ⟨rfl, hb⟩
  have B2 := below_box (w := w) (by have hszw := (B1).size; repeat (with_reducible first | refine Below.setCell ?_ (by first | omega | (simp <;> omega)) _ | refine Below.alloc ?_ (by first | omega | (simp <;> omega)) _ | refine Below.drew ?_ | refine below_drewN ?_ _ | exact B1)) hb
  clear hb
  go_wp2_with fail
  refine (HK _).out.mono ?_
  rintro e wq ⟨rfl, rfl⟩
  go_wp2_with fail
  refine (HC1 _).out.mono ?_
  rintro e w3 ⟨rfl, hb⟩
  have B3 := below_box (w := w) (by have hszw := (B2).size; repeat (with_reducible first | refine Below.setCell ?_ (by first | omega | (simp <;> omega)) _ | refine Below.alloc ?_ (by first | omega | (simp <;> omega)) _ | refine Below.drew ?_ | refine below_drewN ?_ _ | exact B2)) hb
  clear hb
  go_wp2_with fail
  refine (HC2 _).out.mono ?_
  rintro e w4 ⟨rfl, hb⟩
  have B4 := below_box (w := w) (by have hszw := (B3).size; repeat (with_reducible first | refine Below.setCell ?_ (by first | omega | (simp <;> omega)) _ | refine Below.alloc ?_ (by first | omega | (simp <;> omega)) _ | refine Below.drew ?_ | refine below_drewN ?_ _ | exact B3)) hb
  clear hb
  go_wp2_with fail
  refine (HW _ (hT.below (by have hszw := (B4).size; repeat (with_reducible first | refine Below.setCell ?_ (by first | omega | (simp <;> omega)) _ | refine Below.alloc ?_ (by first | omega | (simp <;> omega)) _ | refine Below.drew ?_ | refine below_drewN ?_ _ | exact B4)))).out.mono ?_
  rintro e w5 ⟨rfl, hb⟩
  have B5 := below_box (w := w) (by have hszw := (B4).size; repeat (with_reducible first | refine Below.setCell ?_ (by first | omega | (simp <;> omega)) _ | refine Below.alloc ?_ (by first | omega | (simp <;> omega)) _ | refine Below.drew ?_ | refine below_drewN ?_ _ | exact B4)) hb
  clear hb
  go_wp2_with fail
  go_ret
  exact ⟨rfl, (by have hszw := (B5).size; repeat (with_reducible first | refine Below.setCell ?_ (by first | omega | (simp <;> omega)) _ | refine Below.alloc ?_ (by first | omega | (simp <;> omega)) _ | refine Below.drew ?_ | refine below_drewN ?_ _ | exact B5))⟩

set_option maxRecDepth 100000 in
set_option maxHeartbeats 2000000 in
theorem neigh_gef (w : World) (hT : Tab w) (f g : Nat) (hf : f < 18446744073709551616) (hg : g < 18446744073709551616) (hn : fnan f = false) (h1 : fcmpok f g = true) (h2 : ¬ fcmpv f g < 0) (hi : f ≠ fInf) (o1 : fcmpok f (fup f) = true) (c1 : fcmpv f (fup f) < 0) (c2 : fcmpv (fdown (fup f)) f = 0) :
    Calls Tryd.prog 7 #[.int .u64 f, .int .u64 g] w fun o w' => o = .returned (.bool true) ∧ Below w.heap.size w w' := by
  have HW := fun W ht => Lib.hid (awakeF_any W ht)
  have HU := fun W => Lib.hid (fup_any W f hf)
  have HD := fun W => Lib.hid (fdown_any W f hf)
  have HK := fun W => Lib.hid (fkind_any W f)
  have hk : (fkind f == 3) = false := by rw [(fkind_eqs f).1]; exact hn
  have HC1 := fun W => Lib.hid (fcmp_any W f g hf hg)
  have HC2 := fun W => Lib.hid (fcmp_any W g (fup f) hg (fup_lt hf))
  rw [h1] at HC1
  have h3 : decide (fcmpv f g < 0) = false := by simpa using h2
  have b1 : ((f : Int) == 9218868437227405312) = false := by rw [beq_eq_false_iff_ne]; unfold fInf at hi; omega
  have HC3 := fun W => Lib.hid (fcmp_any W f (fup f) hf (fup_lt hf))
  rw [o1] at HC3
  have c3 : decide (fcmpv f (fup f) < 0) = true := by simpa using c1
  have HD2 := fun W => Lib.hid (fdown_any W (fup f) (fup_lt hf))
  have HC4 := fun W => Lib.hid (fcmp_any W (fdown (fup f)) f (fneg_lt _) hf)
  rw [c2] at HC4
  generalize fcmpok (fdown (fup f)) f = o4 at *
  generalize ((fdown (fup f) : Nat) : Int) = du at *
  generalize fcmpv f (fup f) = v3 at *
  generalize fkind f = kd at *
  generalize fcmpv f g = v1 at *
  generalize fcmpv g (fup f) = v2 at *
  generalize fcmpok g (fup f) = o2 at *
  generalize ((fup f : Nat) : Int) = u at *
  generalize ((fdown f : Nat) : Int) = dn at *
  clear h1 h2 hi o1 c1 c2 hn hf hg
  go_enter Tryd.func7, Tryd.ntmps7
  go_wp2_with fail
  refine (HU _).out.mono ?_
  rintro e w1 ⟨rfl, hb⟩
  have B1 := below_box (w := w) (by repeat (with_reducible first | refine Below.setCell ?_ (by simp <;> omega) _ | refine Below.alloc ?_ (by simp <;> omega) _ | refine Below.drew ?_ | refine below_drewN ?_ _ | exact Below.refl _ _)) hb
  clear hb
  go_wp2_with fail
  refine (HD _).out.mono ?_
  rintro e w2 ⟨rfl, hb⟩
  have B2 := below_box (w := w) (by have hszw := (B1).size; repeat (with_reducible first | refine Below.setCell ?_ (by first | omega | (simp <;> omega)) _ | refine Below.alloc ?_ (by first | omega | (simp <;> omega)) _ | refine Below.drew ?_ | refine below_drewN ?_ _ | exact B1)) hb
  clear hb
  go_wp2_with fail
  refine (HK _).out.mono ?_
  rintro e wq ⟨rfl, rfl⟩
  go_wp2_with fail
  refine (HC1 _).out.mono ?_
  rintro e w3 ⟨rfl, hb⟩
  have B3 := below_box (w := w) (by have hszw := (B2).size; repeat (with_reducible first | refine Below.setCell ?_ (by first | omega | (simp <;> omega)) _ | refine Below.alloc ?_ (by first | omega | (simp <;> omega)) _ | refine Below.drew ?_ | refine below_drewN ?_ _ | exact B2)) hb
  clear hb
  go_wp2_with fail
  refine (HC2 _).out.mono ?_
  rintro e w4 ⟨rfl, hb⟩
  have B4 := below_box (w := w) (by have hszw := (B3).size; repeat (with_reducible first | refine Below.setCell ?_ (by first | omega | (simp <;> omega)) _ | refine Below.alloc ?_ (by first | omega | (simp <;> omega)) _ | refine Below.drew ?_ | refine below_drewN ?_ _ | exact B3)) hb
  clear hb
  go_wp2_with fail
  refine (HC3 _).out.mono ?_
  rintro e w5 ⟨rfl, hb⟩
  have B5 := below_box (w := w) (by have hszw := (B4).size; repeat (with_reducible first | refine Below.setCell ?_ (by first | omega | (simp <;> omega)) _ | refine Below.alloc ?_ (by first | omega | (simp <;> omega)) _ | refine Below.drew ?_ | refine below_drewN ?_ _ | exact B4)) hb
  clear hb
  go_wp2_with fail
  refine (HD2 _).out.mono ?_
  rintro e w6 ⟨rfl, hb⟩
  have B6 := below_box (w := w) (by have hszw := (B5).size; repeat (with_reducible first | refine Below.setCell ?_ (by first | omega | (simp <;> omega)) _ | refine Below.alloc ?_ (by first | omega | (simp <;> omega)) _ | refine Below.drew ?_ | refine below_drewN ?_ _ | exact B5)) hb
  clear hb
  go_wp2_with fail
  refine (HC4 _).out.mono ?_
  rintro e w7 ⟨rfl, hb⟩
  have B7 := below_box (w := w) (by have hszw := (B6).size; repeat (with_reducible first | refine Below.setCell ?_ (by first | omega | (simp <;> omega)) _ | refine Below.alloc ?_ (by first | omega | (simp <;> omega)) _ | refine Below.drew ?_ | refine below_drewN ?_ _ | exact B6)) hb
  clear hb
  go_wp2_with fail
  refine (HW _ (hT.below (by have hszw := (B7).size; repeat (with_reducible first | refine Below.setCell ?_ (by first | omega | (simp <;> omega)) _ | refine Below.alloc ?_ (by first | omega | (simp <;> omega)) _ | refine Below.drew ?_ | refine below_drewN ?_ _ | exact B7)))).out.mono ?_
  rintro e w8 ⟨rfl, hb⟩
  have B8 := below_box (w := w) (by have hszw := (B7).size; repeat (with_reducible first | refine Below.setCell ?_ (by first | omega | (simp <;> omega)) _ | refine Below.alloc ?_ (by first | omega | (simp <;> omega)) _ | refine Below.drew ?_ | refine below_drewN ?_ _ | exact B7)) hb
  clear hb
  go_wp2_with fail
  go_ret
  exact ⟨rfl, (by have hszw := (B8).size; repeat (with_reducible first | refine Below.setCell ?_ (by first | omega | (simp <;> omega)) _ | refine Below.alloc ?_ (by first | omega | (simp <;> omega)) _ | refine Below.drew ?_ | refine below_drewN ?_ _ | exact B8))⟩

set_option maxRecDepth 100000 in
set_option maxHeartbeats 2000000 in
theorem neigh_lti (w : World) (hT : Tab w) (f g : Nat) (hf : f < 18446744073709551616) (hg : g < 18446744073709551616) (hn : fnan f = false) (h1 : fcmpok f g = true) (h2 : fcmpv f g < 0) (h4 : ¬ fcmpv g (fup f) < 0) (hi : f = fInf) (hu : fup f = fInf) (hd : fdown f = fMax) :
    Calls Tryd.prog 7 #[.int .u64 f, .int .u64 g] w fun o w' => o = .returned (.bool true) ∧ Below w.heap.size w w' := by
  have HW := fun W ht => Lib.hid (awakeF_any W ht)
  have HU := fun W => Lib.hid (fup_any W f hf)
  have HD := fun W => Lib.hid (fdown_any W f hf)
  have HK := fun W => Lib.hid (fkind_any W f)
  have hk : (fkind f == 3) = false := by rw [(fkind_eqs f).1]; exact hn
  have HC1 := fun W => Lib.hid (fcmp_any W f g hf hg)
  have HC2 := fun W => Lib.hid (fcmp_any W g (fup f) hg (fup_lt hf))
  rw [h1] at HC1
  have h3 : decide (fcmpv f g < 0) = true := by simpa using h2
  have h5 : decide (fcmpv g (fup f) < 0) = false := by simpa using h4
  have b1 : ((f : Int) == 9218868437227405312) = true := by rw [hi]; rfl
  have u1 : ((fup f : Nat) : Int) = 9218868437227405312 := by rw [hu]; rfl
  have d1 : ((fdown f : Nat) : Int) = 9218868437227405311 := by rw [hd]; rfl
  generalize fkind f = kd at *
  generalize fcmpv f g = v1 at *
  generalize fcmpv g (fup f) = v2 at *
  generalize fcmpok g (fup f) = o2 at *
  rw [u1] at HU HC2
  rw [d1] at HD
  clear h1 h2 h4 hi hu hd u1 d1 hn hf hg
  go_enter Tryd.func7, Tryd.ntmps7
  go_wp2_with fail
  refine (HU _).out.mono ?_
  rintro e w1 ⟨rfl, hb⟩
  have B1 := below_box (w := w) (by repeat (with_reducible first | refine Below.setCell ?_ (by simp <;> omega) _ | refine Below.alloc ?_ (by simp <;> omega) _ | refine Below.drew ?_ | refine below_drewN ?_ _ | exact Below.refl _ _)) hb
  clear hb
  go_wp2_with fail
  refine (HD _).out.mono ?_
  rintro e w2 ⟨rfl, hb⟩
  have B2 := below_box (w := w) (by have hszw := (B1).size; repeat (with_reducible first | refine Below.setCell ?_ (by first | omega | (simp <;> omega)) _ | refine Below.alloc ?_ (by first | omega | (simp <;> omega)) _ | refine Below.drew ?_ | refine below_drewN ?_ _ | exact B1)) hb
  clear hb
  go_wp2_with fail
  refine (HK _).out.mono ?_
  rintro e wq ⟨rfl, rfl⟩
  go_wp2_with fail
  refine (HC1 _).out.mono ?_
  rintro e w3 ⟨rfl, hb⟩
  have B3 := below_box (w := w) (by have hszw := (B2).size; repeat (with_reducible first | refine Below.setCell ?_ (by first | omega | (simp <;> omega)) _ | refine Below.alloc ?_ (by first | omega | (simp <;> omega)) _ | refine Below.drew ?_ | refine below_drewN ?_ _ | exact B2)) hb
  clear hb
  go_wp2_with fail
  refine (HC2 _).out.mono ?_
  rintro e w4 ⟨rfl, hb⟩
  have B4 := below_box (w := w) (by have hszw := (B3).size; repeat (with_reducible first | refine Below.setCell ?_ (by first | omega | (simp <;> omega)) _ | refine Below.alloc ?_ (by first | omega | (simp <;> omega)) _ | refine Below.drew ?_ | refine below_drewN ?_ _ | exact B3)) hb
  clear hb
  go_wp2_with fail
  refine (HW _ (hT.below (by have hszw := (B4).size; repeat (with_reducible first | refine Below.setCell ?_ (by first | omega | (simp <;> omega)) _ | refine Below.alloc ?_ (by first | omega | (simp <;> omega)) _ | refine Below.drew ?_ | refine below_drewN ?_ _ | exact B4)))).out.mono ?_
  rintro e w5 ⟨rfl, hb⟩
  have B5 := below_box (w := w) (by have hszw := (B4).size; repeat (with_reducible first | refine Below.setCell ?_ (by first | omega | (simp <;> omega)) _ | refine Below.alloc ?_ (by first | omega | (simp <;> omega)) _ | refine Below.drew ?_ | refine below_drewN ?_ _ | exact B4)) hb
  clear hb
  go_wp2_with fail
  go_ret
  exact ⟨rfl, (by have hszw := (B5).size; repeat (with_reducible first | refine Below.setCell ?_ (by first | omega | (simp <;> omega)) _ | refine Below.alloc ?_ (by first | omega | (simp <;> omega)) _ | refine Below.drew ?_ | refine below_drewN ?_ _ | exact B5))⟩

set_option maxRecDepth 100000 in
set_option maxHeartbeats 2000000 in
theorem neigh_ltf (w : World) (hT : Tab w) (f g : Nat) (hf : f < 18446744073709551616) (hg : g < 18446744073709551616) (hn : fnan f = false) (h1 : fcmpok f g = true) (h2 : fcmpv f g < 0) (h4 : ¬ fcmpv g (fup f) < 0) (hi : f ≠ fInf) (o1 : fcmpok f (fup f) = true) (c1 : fcmpv f (fup f) < 0) (c2 : fcmpv (fdown (fup f)) f = 0) :
    Calls Tryd.prog 7 #[.int .u64 f, .int .u64 g] w fun o w' => o = .returned (.bool true) ∧ Below w.heap.size w w' := by
  have HW := fun W ht => Lib.hid (awakeF_any W ht)
  have HU := fun W => Lib.hid (fup_any W f hf)
  have HD := fun W => Lib.hid (fdown_any W f hf)
  have HK := fun W => Lib.hid (fkind_any W f)
  have hk : (fkind f == 3) = false := by rw [(fkind_eqs f).1]; exact hn
  have HC1 := fun W => Lib.hid (fcmp_any W f g hf hg)
  have HC2 := fun W => Lib.hid (fcmp_any W g (fup f) hg (fup_lt hf))
  rw [h1] at HC1
  have h3 : decide (fcmpv f g < 0) = true := by simpa using h2
  have h5 : decide (fcmpv g (fup f) < 0) = false := by simpa using h4
  have b1 : ((f : Int) == 9218868437227405312) = false := by rw [beq_eq_false_iff_ne]; unfold fInf at hi; omega
  have HC3 := fun W => Lib.hid (fcmp_any W f (fup f) hf (fup_lt hf))
  rw [o1] at HC3
  have c3 : decide (fcmpv f (fup f) < 0) = true := by simpa using c1
  have HD2 := fun W => Lib.hid (fdown_any W (fup f) (fup_lt hf))
  have HC4 := fun W => Lib.hid (fcmp_any W (fdown (fup f)) f (fneg_lt _) hf)
  rw [c2] at HC4
  generalize fcmpok (fdown (fup f)) f = o4 at *
  generalize ((fdown (fup f) : Nat) : Int) = du at *
  generalize fcmpv f (fup f) = v3 at *
  generalize fkind f = kd at *
  generalize fcmpv f g = v1 at *
  generalize fcmpv g (fup f) = v2 at *
  generalize fcmpok g (fup f) = o2 at *
  generalize ((fup f : Nat) : Int) = u at *
  generalize ((fdown f : Nat) : Int) = dn at *
  clear h1 h2 h4 hi o1 c1 c2 hn hf hg
  go_enter Tryd.func7, Tryd.ntmps7
  go_wp2_with fail
  refine (HU _).out.mono ?_
  rintro e w1 ⟨rfl, hb⟩
  have B1 := below_box (w := w) (by repeat (with_reducible first | refine Below.setCell ?_ (by simp <;> omega) _ | refine Below.alloc ?_ (by simp <;> omega) _ | refine Below.drew ?_ | refine below_drewN ?_ _ | exact Below.refl _ _)) hb
  clear hb
  go_wp2_with fail
  refine (HD _).out.mono ?_
  rintro e w2 ⟨rfl, hb⟩
  have B2 := below_box (w := w) (by have hszw := (B1).size; repeat (with_reducible first | refine Below.setCell ?_ (by first | omega | (simp <;> omega)) _ | refine Below.alloc ?_ (by first | omega | (simp <;> omega)) _ | refine Below.drew ?_ | refine below_drewN ?_ _ | exact B1)) hb
  clear hb
  go_wp2_with fail
  refine (HK _).out.mono ?_
  rintro e wq ⟨rfl, rfl⟩
  go_wp2_with fail
  refine (HC1 _).out.mono ?_
  rintro e w3 ⟨rfl, hb⟩
  have B3 := below_box (w := w) (by have hszw := (B2).size; repeat (with_reducible first | refine Below.setCell ?_ (by first | omega | (simp <;> omega)) _ | refine Below.alloc ?_ (by first | omega | (simp <;> omega)) _ | refine Below.drew ?_ | refine below_drewN ?_ _ | exact B2)) hb
  clear hb
  go_wp2_with fail
  refine (HC2 _).out.mono ?_
  rintro e w4 ⟨rfl, hb⟩
  have B4 := below_box (w := w) (by have hszw := (B3).size; repeat (with_reducible first | refine Below.setCell ?_ (by first | omega | (simp <;> omega)) _ | refine Below.alloc ?_ (by first | omega | (simp <;> omega)) _ | refine Below.drew ?_ | refine below_drewN ?_ _ | exact B3)) hb
  clear hb
  go_wp2_with fail
  refine (HC3 _).out.mono ?_
  rintro e w5 ⟨rfl, hb⟩
  have B5 := below_box (w := w) (by have hszw := (B4).size; repeat (with_reducible first | refine Below.setCell ?_ (by first | omega | (simp <;> omega)) _ | refine Below.alloc ?_ (by first | omega | (simp <;> omega)) _ | refine Below.drew ?_ | refine below_drewN ?_ _ | exact B4)) hb
  clear hb
  go_wp2_with fail
  refine (HD2 _).out.mono ?_
  rintro e w6 ⟨rfl, hb⟩
  have B6 := below_box (w := w) (by have hszw := (B5).size; repeat (with_reducible first | refine Below.setCell ?_ (by first | omega | (simp <;> omega)) _ | refine Below.alloc ?_ (by first | omega | (simp <;> omega)) _ | refine Below.drew ?_ | refine below_drewN ?_ _ | exact B5)) hb
  clear hb
  go_wp2_with fail
  refine (HC4 _).out.mono ?_
  rintro e w7 ⟨rfl, hb⟩
  have B7 := below_box (w := w) (by have hszw := (B6).size; repeat (with_reducible first | refine Below.setCell ?_ (by first | omega | (simp <;> omega)) _ | refine Below.alloc ?_ (by first | omega | (simp <;> omega)) _ | refine Below.drew ?_ | refine below_drewN ?_ _ | exact B6)) hb
  clear hb
  go_wp2_with fail
  refine (HW _ (hT.below (by have hszw := (B7).size; repeat (with_reducible first | refine Below.setCell ?_ (by first | omega | (simp <;> omega)) _ | refine Below.alloc ?_ (by first | omega | (simp <;> omega)) _ | refine Below.drew ?_ | refine below_drewN ?_ _ | exact B7)))).out.mono ?_
  rintro e w8 ⟨rfl, hb⟩
  have B8 := below_box (w := w) (by have hszw := (B7).size; repeat (with_reducible first | refine Below.setCell ?_ (by first | omega | (simp <;> omega)) _ | refine Below.alloc ?_ (by first | omega | (simp <;> omega)) _ | refine Below.drew ?_ | refine below_drewN ?_ _ | exact B7)) hb
  clear hb
  go_wp2_with fail
  go_ret
  exact ⟨rfl, (by have hszw := (B8).size; repeat (with_reducible first | refine Below.setCell ?_ (by first | omega | (simp <;> omega)) _ | refine Below.alloc ?_ (by first | omega | (simp <;> omega)) _ | refine Below.drew ?_ | refine below_drewN ?_ _ | exact B8))⟩

theorem neigh_any (w : World) (hT : Tab w) (f g : Nat) (hf : f < 18446744073709551616) (hg : g < 18446744073709551616) :
    Calls Tryd.prog 7 #[.int .u64 f, .int .u64 g] w fun o w' => o = .returned (.bool true) ∧ Below w.heap.size w w' := by
  cases hn : fnan f with
  | true => exact neigh_nan w hT f g hf hg hn
  | false =>
    obtain ⟨k1, k2, k3⟩ := neigh_law (g := g) hf hn
    by_cases hi : f = fInf
    · obtain ⟨u1, u2⟩ := k2 hi
      cases h1 : fcmpok f g with
      | false => exact neigh_noki w hT f g hf hg hn h1 hi u1 u2
      | true =>
        by_cases h2 : fcmpv f g < 0
        · exact neigh_lti w hT f g hf hg hn h1 h2 (k1 h1 h2) hi u1 u2
        · exact neigh_gei w hT f g hf hg hn h1 h2 hi u1 u2
    · obtain ⟨u1, u2, u3⟩ := k3 hi
      cases h1 : fcmpok f g with
      | false => exact neigh_nokf w hT f g hf hg hn h1 hi u1 u2 u3
      | true =>
        by_cases h2 : fcmpv f g < 0
        · exact neigh_ltf w hT f g hf hg hn h1 h2 (k1 h1 h2) hi u1 u2 u3
        · exact neigh_gef w hT f g hf hg hn h1 h2 hi u1 u2 u3

end Go.Proofs.YtkpglfloddkclaaDoor


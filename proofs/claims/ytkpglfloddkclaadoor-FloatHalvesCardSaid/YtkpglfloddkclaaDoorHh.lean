/-
  Walks: the law FloatHalves.
-/
import Derived.Test.YtkpglfloddkclaaDoorGw
import Derived.Test.YtkpglfloddkclaaDoorGf
namespace Go.Proofs.YtkpglfloddkclaaDoor
open Go.RowKit Sp

theorem kind_one {f : Nat} (h : (fkind f != 1) = false) : ffin f = true ∧ fM f ≠ 0 := by
  rw [bne_eq_false_iff_eq] at h
  unfold fkind at h
  rcases f_cases f with k | ⟨k1, k, k2, k3⟩ | ⟨k1, k, k2⟩
  · rw [k] at h; exact absurd h (by simp)
  · rw [k1, k] at h; exact absurd h (by simp)
  · refine ⟨k2, fun h0 => ?_⟩
    have : fzero f = true := by unfold fzero; simpa using h0
    rw [k1, k, this] at h; exact absurd h (by simp)
theorem fabs_lt (a : Nat) : fabs a < 9223372036854775808 := by
  unfold fabs; split
  · decide
  · exact fM_lt a
theorem kind_abs {a : Nat} (h : (fkind (fabs a) != 1) = false) : fabs a < 9218868437227405312 ∧ fabs a ≠ 0 := by
  obtain ⟨h1, h2⟩ := kind_one h
  have h3 := fabs_lt a
  have e : fM (fabs a) = fabs a := by unfold fM; omega
  unfold ffin at h1
  rw [e] at h1 h2
  exact ⟨by simpa using h1, h2⟩

set_option maxRecDepth 100000 in
set_option maxHeartbeats 2000000 in
theorem halves_1 (w : World) (hT : Tab w) (a b : Nat) (ha : a < 18446744073709551616) (hb : b < 18446744073709551616) (h1 : (fkind (fabs a) != 1) = true) :
    Calls Tryd.prog 8 #[.int .u64 a, .int .u64 b] w fun o w' => o = .returned (.bool true) ∧ Below w.heap.size w w' := by
  have HW := fun W ht => Lib.hid (awakeF_any W ht)
  have HAa := fun W => Lib.hid (fabs_any W a ha)
  have HAb := fun W => Lib.hid (fabs_any W b hb)
  have HKa := fun W => Lib.hid (fkind_any W (fabs a))
  have HKb := fun W => Lib.hid (fkind_any W (fabs b))
  generalize fkind (fabs a) = ka at *
  generalize fkind (fabs b) = kb at *
  generalize ((fabs a : Nat) : Int) = A at *
  generalize ((fabs b : Nat) : Int) = B at *
  clear ha hb
  go_enter Tryd.func8, Tryd.ntmps8
  go_wp2_with fail
  refine (HAa _).out.mono ?_
  rintro e w1 ⟨rfl, hb⟩
  have B1 := below_box (w := w) (by repeat (with_reducible first | refine Below.setCell ?_ (by simp <;> omega) _ | refine Below.alloc ?_ (by simp <;> omega) _ | refine Below.drew ?_ | refine below_drewN ?_ _ | exact Below.refl _ _)) hb
  clear hb
  go_wp2_with fail
  refine (HAb _).out.mono ?_
  rintro e w2 ⟨rfl, hb⟩
  have B2 := below_box (w := w) (by have hszw := (B1).size; repeat (with_reducible first | refine Below.setCell ?_ (by first | omega | (simp <;> omega)) _ | refine Below.alloc ?_ (by first | omega | (simp <;> omega)) _ | refine Below.drew ?_ | refine below_drewN ?_ _ | exact B1)) hb
  clear hb
  go_wp2_with fail
  refine (HKa _).out.mono ?_
  rintro e wq ⟨rfl, rfl⟩
  go_wp2_with fail
  refine (HW _ (hT.below (by have hszw := (B2).size; repeat (with_reducible first | refine Below.setCell ?_ (by first | omega | (simp <;> omega)) _ | refine Below.alloc ?_ (by first | omega | (simp <;> omega)) _ | refine Below.drew ?_ | refine below_drewN ?_ _ | exact B2)))).out.mono ?_
  rintro e w3 ⟨rfl, hb⟩
  have B3 := below_box (w := w) (by have hszw := (B2).size; repeat (with_reducible first | refine Below.setCell ?_ (by first | omega | (simp <;> omega)) _ | refine Below.alloc ?_ (by first | omega | (simp <;> omega)) _ | refine Below.drew ?_ | refine below_drewN ?_ _ | exact B2)) hb
  clear hb
  go_wp2_with fail
  go_ret
  exact ⟨rfl, (by have hszw := (B3).size; repeat (with_reducible first | refine Below.setCell ?_ (by first | omega | (simp <;> omega)) _ | refine Below.alloc ?_ (by first | omega | (simp <;> omega)) _ | refine Below.drew ?_ | refine below_drewN ?_ _ | exact B3))⟩

set_option maxRecDepth 100000 in
set_option maxHeartbeats 2000000 in
theorem halves_2 (w : World) (hT : Tab w) (a b : Nat) (ha : a < 18446744073709551616) (hb : b < 18446744073709551616) (h1 : (fkind (fabs a) != 1) = false) (h2 : (fkind (fabs b) != 1) = true) :
    Calls Tryd.prog 8 #[.int .u64 a, .int .u64 b] w fun o w' => o = .returned (.bool true) ∧ Below w.heap.size w w' := by
  have HW := fun W ht => Lib.hid (awakeF_any W ht)
  have HAa := fun W => Lib.hid (fabs_any W a ha)
  have HAb := fun W => Lib.hid (fabs_any W b hb)
  have HKa := fun W => Lib.hid (fkind_any W (fabs a))
  have HKb := fun W => Lib.hid (fkind_any W (fabs b))
  generalize fkind (fabs a) = ka at *
  generalize fkind (fabs b) = kb at *
  generalize ((fabs a : Nat) : Int) = A at *
  generalize ((fabs b : Nat) : Int) = B at *
  clear ha hb
  go_enter Tryd.func8, Tryd.ntmps8
  go_wp2_with fail
  refine (HAa _).out.mono ?_
  rintro e w1 ⟨rfl, hb⟩
  have B1 := below_box (w := w) (by repeat (with_reducible first | refine Below.setCell ?_ (by simp <;> omega) _ | refine Below.alloc ?_ (by simp <;> omega) _ | refine Below.drew ?_ | refine below_drewN ?_ _ | exact Below.refl _ _)) hb
  clear hb
  go_wp2_with fail
  refine (HAb _).out.mono ?_
  rintro e w2 ⟨rfl, hb⟩
  have B2 := below_box (w := w) (by have hszw := (B1).size; repeat (with_reducible first | refine Below.setCell ?_ (by first | omega | (simp <;> omega)) _ | refine Below.alloc ?_ (by first | omega | (simp <;> omega)) _ | refine Below.drew ?_ | refine below_drewN ?_ _ | exact B1)) hb
  clear hb
  go_wp2_with fail
  refine (HKa _).out.mono ?_
  rintro e wq ⟨rfl, rfl⟩
  go_wp2_with fail
  refine (HKb _).out.mono ?_
  rintro e wq ⟨rfl, rfl⟩
  go_wp2_with fail
  refine (HW _ (hT.below (by have hszw := (B2).size; repeat (with_reducible first | refine Below.setCell ?_ (by first | omega | (simp <;> omega)) _ | refine Below.alloc ?_ (by first | omega | (simp <;> omega)) _ | refine Below.drew ?_ | refine below_drewN ?_ _ | exact B2)))).out.mono ?_
  rintro e w3 ⟨rfl, hb⟩
  have B3 := below_box (w := w) (by have hszw := (B2).size; repeat (with_reducible first | refine Below.setCell ?_ (by first | omega | (simp <;> omega)) _ | refine Below.alloc ?_ (by first | omega | (simp <;> omega)) _ | refine Below.drew ?_ | refine below_drewN ?_ _ | exact B2)) hb
  clear hb
  go_wp2_with fail
  go_ret
  exact ⟨rfl, (by have hszw := (B3).size; repeat (with_reducible first | refine Below.setCell ?_ (by first | omega | (simp <;> omega)) _ | refine Below.alloc ?_ (by first | omega | (simp <;> omega)) _ | refine Below.drew ?_ | refine below_drewN ?_ _ | exact B3))⟩

theorem frnd_lt (s : Bool) (X : Nat) (E : Int) (more : Bool) (mode : Int) : frnd s X E more mode < 18446744073709551616 := fcut_lt _ _ _
theorem fround_lt (d : Option (Int × Int)) (mode : Int) : fround d mode < 18446744073709551616 := by
  unfold fround; split
  · decide
  · split
    · decide
    · exact frnd_lt _ _ _ _ _
theorem fquo_lt (d d' : Option (Int × Int)) (mode : Int) : fquo d d' mode < 18446744073709551616 := by
  unfold fquo; split
  · split
    · decide
    · split
      · decide
      · exact frnd_lt _ _ _ _ _
  · decide
theorem froot_lt (d : Option (Int × Int)) (mode : Int) : froot d mode < 18446744073709551616 := by
  unfold froot; split
  · decide
  · split
    · decide
    · split
      · decide
      · exact frnd_lt _ _ _ _ _
theorem fdiv_lt (a b : Nat) (mode : Int) : fdiv a b mode < 18446744073709551616 := by
  unfold fdiv; split
  · decide
  · split
    · exact fsgn_lt (by decide)
    · split
      · exact fsgn_lt (by decide)
      · exact fquo_lt _ _ _
theorem fsqrt_lt {a : Nat} (h : a < 18446744073709551616) (mode : Int) : fsqrt a mode < 18446744073709551616 := by
  unfold fsqrt; split
  · decide
  · split
    · exact h
    · split
      · decide
      · exact froot_lt _ _

set_option maxRecDepth 100000 in
set_option maxHeartbeats 2000000 in
theorem halves_f (w : World) (hT : Tab w) (a b : Nat) (ha : a < 18446744073709551616) (hb : b < 18446744073709551616) (h1 : (fkind (fabs a) != 1) = false) (h2 : (fkind (fabs b) != 1) = false) (hfi : ffin (fdiv (fabs a) (fabs b) 2) = true) :
    Calls Tryd.prog 8 #[.int .u64 a, .int .u64 b] w fun o w' => o = .returned (.bool true) ∧ Below w.heap.size w w' := by
  have HW := fun W ht => Lib.hid (awakeF_any W ht)
  have HAa := fun W => Lib.hid (fabs_any W a ha)
  have HAb := fun W => Lib.hid (fabs_any W b hb)
  have HKa := fun W => Lib.hid (fkind_any W (fabs a))
  have HKb := fun W => Lib.hid (fkind_any W (fabs b))
  have hAl := fabs_lt a
  have hBl := fabs_lt b
  have KA := kind_abs h1
  have KB := kind_abs h2
  generalize fabs a = A at *
  generalize fabs b = B at *
  obtain ⟨⟨f1, q1⟩, q2⟩ := half_div KA.1 KB.1 KA.2 KB.2
  obtain ⟨⟨g1, r1⟩, g2, r2⟩ := half_root KA.1 KA.2
  have fA := (fin_code KA.1).1
  have fB := (fin_code KB.1).1
  have HLo := fun W ht => Lib.hid (wdiv_any W A B (by omega) (by omega) 1 ht)
  have HHi := fun W ht => Lib.hid (wdiv_any W A B (by omega) (by omega) 2 ht)
  have HFi := fun W => Lib.hid (ffin_any W (fdiv A B 2))
  have HS1 := fun W ht => Lib.hid (wsqrt_any W A (by omega) 1 ht)
  have HS2 := fun W ht => Lib.hid (wsqrt_any W A (by omega) 2 ht)
  have p1 := dcmp_prod fA f1 fB
  have p3 := dcmp_prod fA g1 g1
  have p4 := dcmp_prod fA g2 g2
  have fdl : ∀ m, fdiv A B m < 18446744073709551616 := fdiv_lt A B
  have fsl : ∀ m, fsqrt A m < 18446744073709551616 := fsqrt_lt (by omega)
  have HOlo := fun W ht => Lib.hid (fof_any W (fdiv A B 1) (fdl 1) ht)
  have HOA := fun W ht => Lib.hid (fof_any W A (by omega) ht)
  have HOB := fun W ht => Lib.hid (fof_any W B (by omega) ht)
  have HOr := fun W ht => Lib.hid (fof_any W (fsqrt A 1) (fsl 1) ht)
  have HOs := fun W ht => Lib.hid (fof_any W (fsqrt A 2) (fsl 2) ht)
  have NA := Lib.hid (isN_fof A)
  have NB := Lib.hid (isN_fof B)
  have Nlo := Lib.hid (isN_fof (fdiv A B 1))
  have Nr := Lib.hid (isN_fof (fsqrt A 1))
  have Ns := Lib.hid (isN_fof (fsqrt A 2))
  have p2 := dcmp_prod fA hfi fB
  have q2 := q2 hfi
  have HOhi := fun W ht => Lib.hid (fof_any W (fdiv A B 2) (fdl 2) ht)
  have Nhi := Lib.hid (isN_fof (fdiv A B 2))
  rw [hfi] at HFi
  generalize fof (fdiv A B 1) = dlo at *
  generalize fof A = dA at *
  generalize fof B = dB at *
  generalize fof (fsqrt A 1) = dr at *
  generalize fof (fsqrt A 2) = ds at *
  generalize fof (fdiv A B 2) = dhi at *
  have HMl := fun W blo qlo bB qB (hlo' : Mag W blo (nl (dman dlo).natAbs) qlo (dman dlo).natAbs) (hB' : Mag W bB (nl (dman dB).natAbs) qB (dman dB).natAbs) ht => Lib.hid (dmul_any W _ _ _ _ _ _ _ _ _ _ _ _ _ _ (dyin_of Nlo.out hlo') (dyin_of NB.out hB') ht)
  have Nm := Lib.hid (isN_mul dlo dB)
  have HMr := fun W b1 q1 b2 q2 (h1' : Mag W b1 (nl (dman dr).natAbs) q1 (dman dr).natAbs) (h2' : Mag W b2 (nl (dman dr).natAbs) q2 (dman dr).natAbs) ht => Lib.hid (dmul_any W _ _ _ _ _ _ _ _ _ _ _ _ _ _ (dyin_of Nr.out h1') (dyin_of Nr.out h2') ht)
  have Nu := Lib.hid (isN_mul dr dr)
  have HMs := fun W b1 q1 b2 q2 (h1' : Mag W b1 (nl (dman ds).natAbs) q1 (dman ds).natAbs) (h2' : Mag W b2 (nl (dman ds).natAbs) q2 (dman ds).natAbs) ht => Lib.hid (dmul_any W _ _ _ _ _ _ _ _ _ _ _ _ _ _ (dyin_of Ns.out h1') (dyin_of Ns.out h2') ht)
  have Nv := Lib.hid (isN_mul ds ds)
  have HMh := fun W bhi qhi bB qB (hhi' : Mag W bhi (nl (dman dhi).natAbs) qhi (dman dhi).natAbs) (hB' : Mag W bB (nl (dman dB).natAbs) qB (dman dB).natAbs) ht => Lib.hid (dmul_any W _ _ _ _ _ _ _ _ _ _ _ _ _ _ (dyin_of Nhi.out hhi') (dyin_of NB.out hB') ht)
  have Nk := Lib.hid (isN_mul dhi dB)
  generalize dmul dlo dB = dm at *
  generalize dmul dr dr = du at *
  generalize dmul ds ds = dv at *
  generalize dmul dhi dB = dk at *
  have HC1 := fun W bm qm bA qA (hm' : Mag W bm (nl (dman dm).natAbs) qm (dman dm).natAbs) (hA' : Mag W bA (nl (dman dA).natAbs) qA (dman dA).natAbs) ht => Lib.hid (dcmp_any W _ _ _ _ _ _ _ _ _ _ _ _ _ _ (dyin_of Nm.out hm') (dyin_of NA.out hA') ht)
  have ok1 : (!dbad dm && !dbad dA) = true := by rw [p1.1, p1.2.1]; rfl
  rw [ok1] at HC1
  clear ok1
  have z1 : decide (dcmp dm dA ≤ 0) = true := by simpa using q1
  have y1 : decide (0 < dcmp dm dA) = false := by simp; omega
  generalize dcmp dm dA = c1 at *
  have HC2 := fun W bA qA bk qk (hA' : Mag W bA (nl (dman dA).natAbs) qA (dman dA).natAbs) (hk' : Mag W bk (nl (dman dk).natAbs) qk (dman dk).natAbs) ht => Lib.hid (dcmp_any W _ _ _ _ _ _ _ _ _ _ _ _ _ _ (dyin_of NA.out hA') (dyin_of Nk.out hk') ht)
  have ok2 : (!dbad dA && !dbad dk) = true := by rw [p2.2.1, p2.1]; rfl
  rw [ok2] at HC2
  clear ok2
  have z2 : decide (dcmp dA dk ≤ 0) = true := by simpa using q2
  have y2 : decide (0 < dcmp dA dk) = false := by simp; omega
  generalize dcmp dA dk = c2 at *
  have HC3 := fun W bu qu bA qA (hu' : Mag W bu (nl (dman du).natAbs) qu (dman du).natAbs) (hA' : Mag W bA (nl (dman dA).natAbs) qA (dman dA).natAbs) ht => Lib.hid (dcmp_any W _ _ _ _ _ _ _ _ _ _ _ _ _ _ (dyin_of Nu.out hu') (dyin_of NA.out hA') ht)
  have ok3 : (!dbad du && !dbad dA) = true := by rw [p3.1, p3.2.1]; rfl
  rw [ok3] at HC3
  clear ok3
  have z3 : decide (dcmp du dA ≤ 0) = true := by simpa using r1
  have y3 : decide (0 < dcmp du dA) = false := by simp; omega
  generalize dcmp du dA = c3 at *
  have HC4 := fun W bA qA bv qv (hA' : Mag W bA (nl (dman dA).natAbs) qA (dman dA).natAbs) (hv' : Mag W bv (nl (dman dv).natAbs) qv (dman dv).natAbs) ht => Lib.hid (dcmp_any W _ _ _ _ _ _ _ _ _ _ _ _ _ _ (dyin_of NA.out hA') (dyin_of Nv.out hv') ht)
  have ok4 : (!dbad dA && !dbad dv) = true := by rw [p4.2.1, p4.1]; rfl
  rw [ok4] at HC4
  clear ok4
  have z4 : decide (dcmp dA dv ≤ 0) = true := by simpa using r2
  have y4 : decide (0 < dcmp dA dv) = false := by simp; omega
  generalize dcmp dA dv = c4 at *
  generalize ((fdiv A B 1 : Nat) : Int) = ilo at *
  generalize ((fdiv A B 2 : Nat) : Int) = ihi at *
  generalize ((fsqrt A 1 : Nat) : Int) = is1 at *
  generalize ((fsqrt A 2 : Nat) : Int) = is2 at *
  generalize fkind A = ka at *
  generalize fkind B = kb at *
  generalize (A : Int) = iA at *
  generalize (B : Int) = iB at *
  clear hAl hBl KA KB f1 q1 q2 g1 r1 g2 r2 fA fB p1 p3 p4 fdl fsl ha hb p2 hfi
  go_enter Tryd.func8, Tryd.ntmps8
  have B0 : Below w.heap.size w w := Below.refl _ _
  go_wp2_with fail
  refine (HAa _).out.mono ?_
  rintro e w1 ⟨rfl, hb1⟩
  have B1 := below_box (w := w) (by have hszw := (B0).size; repeat (with_reducible first | refine Below.setCell ?_ (by first | omega | (simp <;> omega)) _ | refine Below.alloc ?_ (by first | omega | (simp <;> omega)) _ | refine Below.drew ?_ | refine below_drewN ?_ _ | exact B0)) hb1
  clear hb1
  go_wp2_with fail
  refine (HAb _).out.mono ?_
  rintro e w2 ⟨rfl, hb2⟩
  have B2 := below_box (w := w) (by have hszw := (B1).size; repeat (with_reducible first | refine Below.setCell ?_ (by first | omega | (simp <;> omega)) _ | refine Below.alloc ?_ (by first | omega | (simp <;> omega)) _ | refine Below.drew ?_ | refine below_drewN ?_ _ | exact B1)) hb2
  clear hb2
  go_wp2_with fail
  refine (HKa _).out.mono ?_
  rintro e wq ⟨rfl, rfl⟩
  go_wp2_with fail
  refine (HKb _).out.mono ?_
  rintro e wq ⟨rfl, rfl⟩
  go_wp2_with fail
  refine (HLo _ (hT.below (by have hszw := (B2).size; repeat (with_reducible first | refine Below.setCell ?_ (by first | omega | (simp <;> omega)) _ | refine Below.alloc ?_ (by first | omega | (simp <;> omega)) _ | refine Below.drew ?_ | refine below_drewN ?_ _ | exact B2)))).out.mono ?_
  rintro e w3 ⟨rfl, hb3⟩
  have B3 := below_box (w := w) (by have hszw := (B2).size; repeat (with_reducible first | refine Below.setCell ?_ (by first | omega | (simp <;> omega)) _ | refine Below.alloc ?_ (by first | omega | (simp <;> omega)) _ | refine Below.drew ?_ | refine below_drewN ?_ _ | exact B2)) hb3
  clear hb3
  go_wp2_with fail
  refine (HHi _ (hT.below (by have hszw := (B3).size; repeat (with_reducible first | refine Below.setCell ?_ (by first | omega | (simp <;> omega)) _ | refine Below.alloc ?_ (by first | omega | (simp <;> omega)) _ | refine Below.drew ?_ | refine below_drewN ?_ _ | exact B3)))).out.mono ?_
  rintro e w4 ⟨rfl, hb4⟩
  have B4 := below_box (w := w) (by have hszw := (B3).size; repeat (with_reducible first | refine Below.setCell ?_ (by first | omega | (simp <;> omega)) _ | refine Below.alloc ?_ (by first | omega | (simp <;> omega)) _ | refine Below.drew ?_ | refine below_drewN ?_ _ | exact B3)) hb4
  clear hb4
  go_wp2_with fail
  refine (HOlo _ (hT.below (by have hszw := (B4).size; repeat (with_reducible first | refine Below.setCell ?_ (by first | omega | (simp <;> omega)) _ | refine Below.alloc ?_ (by first | omega | (simp <;> omega)) _ | refine Below.drew ?_ | refine below_drewN ?_ _ | exact B4)))).out.mono ?_
  rintro e w5 ⟨alo, clo, rfl, Mlo5, hb5, hf5⟩
  have B5 := below_box (w := w) (by have hszw := (B4).size; repeat (with_reducible first | refine Below.setCell ?_ (by first | omega | (simp <;> omega)) _ | refine Below.alloc ?_ (by first | omega | (simp <;> omega)) _ | refine Below.drew ?_ | refine below_drewN ?_ _ | exact B4)) hb5
  clear hb5 hf5
  go_wp2_with fail
  refine (HOB _ (hT.below (by have hszw := (B5).size; repeat (with_reducible first | refine Below.setCell ?_ (by first | omega | (simp <;> omega)) _ | refine Below.alloc ?_ (by first | omega | (simp <;> omega)) _ | refine Below.drew ?_ | refine below_drewN ?_ _ | exact B5)))).out.mono ?_
  rintro e w6 ⟨aB, cB, rfl, MB6, hb6, hf6⟩
  have Mlo6 : Mag w6 alo (nl (dman dlo).natAbs) clo (dman dlo).natAbs := Mag.below (by repeat (with_reducible first | refine Mag.set ?_ (fun h => by have := Mlo5 h; omega) _ _ | refine Mag.drew ?_ | refine Mag.alloc ?_ _ | refine Mag.drewN ?_ _ | refine Mag.below ?_ (Below.drew (Below.refl _ _)) | refine Mag.below ?_ ((Below.refl _ _).alloc (Nat.le_refl _) _) | exact Mlo5)) hb6
  have B6 := below_box (w := w) (by have hszw := (B5).size; repeat (with_reducible first | refine Below.setCell ?_ (by first | omega | (simp <;> omega)) _ | refine Below.alloc ?_ (by first | omega | (simp <;> omega)) _ | refine Below.drew ?_ | refine below_drewN ?_ _ | exact B5)) hb6
  clear hb6 hf6
  go_wp2_with fail
  refine (HMl _ alo clo aB cB (by repeat (with_reducible first | refine Mag.set ?_ (fun h => by have := Mlo6 h; omega) _ _ | refine Mag.drew ?_ | refine Mag.alloc ?_ _ | refine Mag.drewN ?_ _ | refine Mag.below ?_ (Below.drew (Below.refl _ _)) | refine Mag.below ?_ ((Below.refl _ _).alloc (Nat.le_refl _) _) | exact Mlo6)) (by repeat (with_reducible first | refine Mag.set ?_ (fun h => by have := MB6 h; omega) _ _ | refine Mag.drew ?_ | refine Mag.alloc ?_ _ | refine Mag.drewN ?_ _ | refine Mag.below ?_ (Below.drew (Below.refl _ _)) | refine Mag.below ?_ ((Below.refl _ _).alloc (Nat.le_refl _) _) | exact MB6)) (hT.below (by have hszw := (B6).size; repeat (with_reducible first | refine Below.setCell ?_ (by first | omega | (simp <;> omega)) _ | refine Below.alloc ?_ (by first | omega | (simp <;> omega)) _ | refine Below.drew ?_ | refine below_drewN ?_ _ | exact B6)))).out.mono ?_
  rintro e w7 ⟨am, cm, rfl, Mm7, hb7, hf7⟩
  have B7 := below_box (w := w) (by have hszw := (B6).size; repeat (with_reducible first | refine Below.setCell ?_ (by first | omega | (simp <;> omega)) _ | refine Below.alloc ?_ (by first | omega | (simp <;> omega)) _ | refine Below.drew ?_ | refine below_drewN ?_ _ | exact B6)) hb7
  clear hb7 hf7
  go_wp2_with fail
  refine (HOA _ (hT.below (by have hszw := (B7).size; repeat (with_reducible first | refine Below.setCell ?_ (by first | omega | (simp <;> omega)) _ | refine Below.alloc ?_ (by first | omega | (simp <;> omega)) _ | refine Below.drew ?_ | refine below_drewN ?_ _ | exact B7)))).out.mono ?_
  rintro e w8 ⟨aA, cA, rfl, MA8, hb8, hf8⟩
  have Mm8 : Mag w8 am (nl (dman dm).natAbs) cm (dman dm).natAbs := Mag.below (by repeat (with_reducible first | refine Mag.set ?_ (fun h => by have := Mm7 h; omega) _ _ | refine Mag.drew ?_ | refine Mag.alloc ?_ _ | refine Mag.drewN ?_ _ | refine Mag.below ?_ (Below.drew (Below.refl _ _)) | refine Mag.below ?_ ((Below.refl _ _).alloc (Nat.le_refl _) _) | exact Mm7)) hb8
  have B8 := below_box (w := w) (by have hszw := (B7).size; repeat (with_reducible first | refine Below.setCell ?_ (by first | omega | (simp <;> omega)) _ | refine Below.alloc ?_ (by first | omega | (simp <;> omega)) _ | refine Below.drew ?_ | refine below_drewN ?_ _ | exact B7)) hb8
  clear hb8 hf8
  go_wp2_with fail
  refine (HC1 _ am cm aA cA (by repeat (with_reducible first | refine Mag.set ?_ (fun h => by have := Mm8 h; omega) _ _ | refine Mag.drew ?_ | refine Mag.alloc ?_ _ | refine Mag.drewN ?_ _ | refine Mag.below ?_ (Below.drew (Below.refl _ _)) | refine Mag.below ?_ ((Below.refl _ _).alloc (Nat.le_refl _) _) | exact Mm8)) (by repeat (with_reducible first | refine Mag.set ?_ (fun h => by have := MA8 h; omega) _ _ | refine Mag.drew ?_ | refine Mag.alloc ?_ _ | refine Mag.drewN ?_ _ | refine Mag.below ?_ (Below.drew (Below.refl _ _)) | refine Mag.below ?_ ((Below.refl _ _).alloc (Nat.le_refl _) _) | exact MA8)) (hT.below (by have hszw := (B8).size; repeat (with_reducible first | refine Below.setCell ?_ (by first | omega | (simp <;> omega)) _ | refine Below.alloc ?_ (by first | omega | (simp <;> omega)) _ | refine Below.drew ?_ | refine below_drewN ?_ _ | exact B8)))).out.mono ?_
  rintro e w9 ⟨rfl, hb9⟩
  have B9 := below_box (w := w) (by have hszw := (B8).size; repeat (with_reducible first | refine Below.setCell ?_ (by first | omega | (simp <;> omega)) _ | refine Below.alloc ?_ (by first | omega | (simp <;> omega)) _ | refine Below.drew ?_ | refine below_drewN ?_ _ | exact B8)) hb9
  clear hb9
  go_wp2_with fail
  refine (HFi _).out.mono ?_
  rintro e wq ⟨rfl, rfl⟩
  go_wp2_with fail
  refine (HOA _ (hT.below (by have hszw := (B9).size; repeat (with_reducible first | refine Below.setCell ?_ (by first | omega | (simp <;> omega)) _ | refine Below.alloc ?_ (by first | omega | (simp <;> omega)) _ | refine Below.drew ?_ | refine below_drewN ?_ _ | exact B9)))).out.mono ?_
  rintro e w10 ⟨aA, cA, rfl, MA10, hb10, hf10⟩
  have B10 := below_box (w := w) (by have hszw := (B9).size; repeat (with_reducible first | refine Below.setCell ?_ (by first | omega | (simp <;> omega)) _ | refine Below.alloc ?_ (by first | omega | (simp <;> omega)) _ | refine Below.drew ?_ | refine below_drewN ?_ _ | exact B9)) hb10
  clear hb10 hf10
  go_wp2_with fail
  refine (HOhi _ (hT.below (by have hszw := (B10).size; repeat (with_reducible first | refine Below.setCell ?_ (by first | omega | (simp <;> omega)) _ | refine Below.alloc ?_ (by first | omega | (simp <;> omega)) _ | refine Below.drew ?_ | refine below_drewN ?_ _ | exact B10)))).out.mono ?_
  rintro e w11 ⟨ahi, chi, rfl, Mhi11, hb11, hf11⟩
  have MA11 : Mag w11 aA (nl (dman dA).natAbs) cA (dman dA).natAbs := Mag.below (by repeat (with_reducible first | refine Mag.set ?_ (fun h => by have := MA10 h; omega) _ _ | refine Mag.drew ?_ | refine Mag.alloc ?_ _ | refine Mag.drewN ?_ _ | refine Mag.below ?_ (Below.drew (Below.refl _ _)) | refine Mag.below ?_ ((Below.refl _ _).alloc (Nat.le_refl _) _) | exact MA10)) hb11
  have B11 := below_box (w := w) (by have hszw := (B10).size; repeat (with_reducible first | refine Below.setCell ?_ (by first | omega | (simp <;> omega)) _ | refine Below.alloc ?_ (by first | omega | (simp <;> omega)) _ | refine Below.drew ?_ | refine below_drewN ?_ _ | exact B10)) hb11
  clear hb11 hf11
  go_wp2_with fail
  refine (HOB _ (hT.below (by have hszw := (B11).size; repeat (with_reducible first | refine Below.setCell ?_ (by first | omega | (simp <;> omega)) _ | refine Below.alloc ?_ (by first | omega | (simp <;> omega)) _ | refine Below.drew ?_ | refine below_drewN ?_ _ | exact B11)))).out.mono ?_
  rintro e w12 ⟨aB, cB, rfl, MB12, hb12, hf12⟩
  have MA12 : Mag w12 aA (nl (dman dA).natAbs) cA (dman dA).natAbs := Mag.below (by repeat (with_reducible first | refine Mag.set ?_ (fun h => by have := MA11 h; omega) _ _ | refine Mag.drew ?_ | refine Mag.alloc ?_ _ | refine Mag.drewN ?_ _ | refine Mag.below ?_ (Below.drew (Below.refl _ _)) | refine Mag.below ?_ ((Below.refl _ _).alloc (Nat.le_refl _) _) | exact MA11)) hb12
  have Mhi12 : Mag w12 ahi (nl (dman dhi).natAbs) chi (dman dhi).natAbs := Mag.below (by repeat (with_reducible first | refine Mag.set ?_ (fun h => by have := Mhi11 h; omega) _ _ | refine Mag.drew ?_ | refine Mag.alloc ?_ _ | refine Mag.drewN ?_ _ | refine Mag.below ?_ (Below.drew (Below.refl _ _)) | refine Mag.below ?_ ((Below.refl _ _).alloc (Nat.le_refl _) _) | exact Mhi11)) hb12
  have B12 := below_box (w := w) (by have hszw := (B11).size; repeat (with_reducible first | refine Below.setCell ?_ (by first | omega | (simp <;> omega)) _ | refine Below.alloc ?_ (by first | omega | (simp <;> omega)) _ | refine Below.drew ?_ | refine below_drewN ?_ _ | exact B11)) hb12
  clear hb12 hf12
  go_wp2_with fail
  refine (HMh _ ahi chi aB cB (by repeat (with_reducible first | refine Mag.set ?_ (fun h => by have := Mhi12 h; omega) _ _ | refine Mag.drew ?_ | refine Mag.alloc ?_ _ | refine Mag.drewN ?_ _ | refine Mag.below ?_ (Below.drew (Below.refl _ _)) | refine Mag.below ?_ ((Below.refl _ _).alloc (Nat.le_refl _) _) | exact Mhi12)) (by repeat (with_reducible first | refine Mag.set ?_ (fun h => by have := MB12 h; omega) _ _ | refine Mag.drew ?_ | refine Mag.alloc ?_ _ | refine Mag.drewN ?_ _ | refine Mag.below ?_ (Below.drew (Below.refl _ _)) | refine Mag.below ?_ ((Below.refl _ _).alloc (Nat.le_refl _) _) | exact MB12)) (hT.below (by have hszw := (B12).size; repeat (with_reducible first | refine Below.setCell ?_ (by first | omega | (simp <;> omega)) _ | refine Below.alloc ?_ (by first | omega | (simp <;> omega)) _ | refine Below.drew ?_ | refine below_drewN ?_ _ | exact B12)))).out.mono ?_
  rintro e w13 ⟨ak, ck, rfl, Mk13, hb13, hf13⟩
  have MA13 : Mag w13 aA (nl (dman dA).natAbs) cA (dman dA).natAbs := Mag.below (by repeat (with_reducible first | refine Mag.set ?_ (fun h => by have := MA12 h; omega) _ _ | refine Mag.drew ?_ | refine Mag.alloc ?_ _ | refine Mag.drewN ?_ _ | refine Mag.below ?_ (Below.drew (Below.refl _ _)) | refine Mag.below ?_ ((Below.refl _ _).alloc (Nat.le_refl _) _) | exact MA12)) hb13
  have B13 := below_box (w := w) (by have hszw := (B12).size; repeat (with_reducible first | refine Below.setCell ?_ (by first | omega | (simp <;> omega)) _ | refine Below.alloc ?_ (by first | omega | (simp <;> omega)) _ | refine Below.drew ?_ | refine below_drewN ?_ _ | exact B12)) hb13
  clear hb13 hf13
  go_wp2_with fail
  refine (HC2 _ aA cA ak ck (by repeat (with_reducible first | refine Mag.set ?_ (fun h => by have := MA13 h; omega) _ _ | refine Mag.drew ?_ | refine Mag.alloc ?_ _ | refine Mag.drewN ?_ _ | refine Mag.below ?_ (Below.drew (Below.refl _ _)) | refine Mag.below ?_ ((Below.refl _ _).alloc (Nat.le_refl _) _) | exact MA13)) (by repeat (with_reducible first | refine Mag.set ?_ (fun h => by have := Mk13 h; omega) _ _ | refine Mag.drew ?_ | refine Mag.alloc ?_ _ | refine Mag.drewN ?_ _ | refine Mag.below ?_ (Below.drew (Below.refl _ _)) | refine Mag.below ?_ ((Below.refl _ _).alloc (Nat.le_refl _) _) | exact Mk13)) (hT.below (by have hszw := (B13).size; repeat (with_reducible first | refine Below.setCell ?_ (by first | omega | (simp <;> omega)) _ | refine Below.alloc ?_ (by first | omega | (simp <;> omega)) _ | refine Below.drew ?_ | refine below_drewN ?_ _ | exact B13)))).out.mono ?_
  rintro e w14 ⟨rfl, hb14⟩
  have B14 := below_box (w := w) (by have hszw := (B13).size; repeat (with_reducible first | refine Below.setCell ?_ (by first | omega | (simp <;> omega)) _ | refine Below.alloc ?_ (by first | omega | (simp <;> omega)) _ | refine Below.drew ?_ | refine below_drewN ?_ _ | exact B13)) hb14
  clear hb14
  go_wp2_with fail
  refine (HS1 _ (hT.below (by have hszw := (B14).size; repeat (with_reducible first | refine Below.setCell ?_ (by first | omega | (simp <;> omega)) _ | refine Below.alloc ?_ (by first | omega | (simp <;> omega)) _ | refine Below.drew ?_ | refine below_drewN ?_ _ | exact B14)))).out.mono ?_
  rintro e w15 ⟨rfl, hb15⟩
  have B15 := below_box (w := w) (by have hszw := (B14).size; repeat (with_reducible first | refine Below.setCell ?_ (by first | omega | (simp <;> omega)) _ | refine Below.alloc ?_ (by first | omega | (simp <;> omega)) _ | refine Below.drew ?_ | refine below_drewN ?_ _ | exact B14)) hb15
  clear hb15
  go_wp2_with fail
  refine (HOr _ (hT.below (by have hszw := (B15).size; repeat (with_reducible first | refine Below.setCell ?_ (by first | omega | (simp <;> omega)) _ | refine Below.alloc ?_ (by first | omega | (simp <;> omega)) _ | refine Below.drew ?_ | refine below_drewN ?_ _ | exact B15)))).out.mono ?_
  rintro e w16 ⟨ar, cr, rfl, Mr16, hb16, hf16⟩
  have B16 := below_box (w := w) (by have hszw := (B15).size; repeat (with_reducible first | refine Below.setCell ?_ (by first | omega | (simp <;> omega)) _ | refine Below.alloc ?_ (by first | omega | (simp <;> omega)) _ | refine Below.drew ?_ | refine below_drewN ?_ _ | exact B15)) hb16
  clear hb16 hf16
  go_wp2_with fail
  refine (HS2 _ (hT.below (by have hszw := (B16).size; repeat (with_reducible first | refine Below.setCell ?_ (by first | omega | (simp <;> omega)) _ | refine Below.alloc ?_ (by first | omega | (simp <;> omega)) _ | refine Below.drew ?_ | refine below_drewN ?_ _ | exact B16)))).out.mono ?_
  rintro e w17 ⟨rfl, hb17⟩
  have Mr17 : Mag w17 ar (nl (dman dr).natAbs) cr (dman dr).natAbs := Mag.below (by repeat (with_reducible first | refine Mag.set ?_ (fun h => by have := Mr16 h; omega) _ _ | refine Mag.drew ?_ | refine Mag.alloc ?_ _ | refine Mag.drewN ?_ _ | refine Mag.below ?_ (Below.drew (Below.refl _ _)) | refine Mag.below ?_ ((Below.refl _ _).alloc (Nat.le_refl _) _) | exact Mr16)) hb17
  have B17 := below_box (w := w) (by have hszw := (B16).size; repeat (with_reducible first | refine Below.setCell ?_ (by first | omega | (simp <;> omega)) _ | refine Below.alloc ?_ (by first | omega | (simp <;> omega)) _ | refine Below.drew ?_ | refine below_drewN ?_ _ | exact B16)) hb17
  clear hb17
  go_wp2_with fail
  refine (HOs _ (hT.below (by have hszw := (B17).size; repeat (with_reducible first | refine Below.setCell ?_ (by first | omega | (simp <;> omega)) _ | refine Below.alloc ?_ (by first | omega | (simp <;> omega)) _ | refine Below.drew ?_ | refine below_drewN ?_ _ | exact B17)))).out.mono ?_
  rintro e w18 ⟨az, cz, rfl, Mz18, hb18, hf18⟩
  have Mr18 : Mag w18 ar (nl (dman dr).natAbs) cr (dman dr).natAbs := Mag.below (by repeat (with_reducible first | refine Mag.set ?_ (fun h => by have := Mr17 h; omega) _ _ | refine Mag.drew ?_ | refine Mag.alloc ?_ _ | refine Mag.drewN ?_ _ | refine Mag.below ?_ (Below.drew (Below.refl _ _)) | refine Mag.below ?_ ((Below.refl _ _).alloc (Nat.le_refl _) _) | exact Mr17)) hb18
  have B18 := below_box (w := w) (by have hszw := (B17).size; repeat (with_reducible first | refine Below.setCell ?_ (by first | omega | (simp <;> omega)) _ | refine Below.alloc ?_ (by first | omega | (simp <;> omega)) _ | refine Below.drew ?_ | refine below_drewN ?_ _ | exact B17)) hb18
  clear hb18 hf18
  go_wp2_with fail
  have Vr19 := (DyV.made w18 28 (dbad dr) (decide (dman dr < 0)) (.slice ar (nl (dman dr).natAbs) cr) (dexp dr)).alloc (.cells #[.bool (dbad ds), .bool (decide (dman ds < 0)), (.slice az (nl (dman ds).natAbs) cz), .int .i64 (dexp ds)] 28)
  have Vz19 := DyV.made' (w18.alloc (.cells #[.bool (dbad dr), .bool (decide (dman dr < 0)), (.slice ar (nl (dman dr).natAbs) cr), .int .i64 (dexp dr)] 28)) 28 (dbad ds) (decide (dman ds < 0)) (.slice az (nl (dman ds).natAbs) cz) (dexp ds) (n := w18.heap.size + 1) (by rw [World.size_alloc])
  have Mr19 := (Mr18.alloc (.cells #[.bool (dbad dr), .bool (decide (dman dr < 0)), (.slice ar (nl (dman dr).natAbs) cr), .int .i64 (dexp dr)] 28)).alloc (.cells #[.bool (dbad ds), .bool (decide (dman ds < 0)), (.slice az (nl (dman ds).natAbs) cz), .int .i64 (dexp ds)] 28)
  have Mz19 := (Mz18.alloc (.cells #[.bool (dbad dr), .bool (decide (dman dr < 0)), (.slice ar (nl (dman dr).natAbs) cr), .int .i64 (dexp dr)] 28)).alloc (.cells #[.bool (dbad ds), .bool (decide (dman ds < 0)), (.slice az (nl (dman ds).natAbs) cz), .int .i64 (dexp ds)] 28)
  have B19 : Below w.heap.size w ((w18.alloc (.cells #[.bool (dbad dr), .bool (decide (dman dr < 0)), (.slice ar (nl (dman dr).natAbs) cr), .int .i64 (dexp dr)] 28)).alloc (.cells #[.bool (dbad ds), .bool (decide (dman ds < 0)), (.slice az (nl (dman ds).natAbs) cz), .int .i64 (dexp ds)] 28)) := (by have hszw := (B18).size; repeat (with_reducible first | refine Below.setCell ?_ (by first | omega | (simp <;> omega)) _ | refine Below.alloc ?_ (by first | omega | (simp <;> omega)) _ | refine Below.drew ?_ | refine below_drewN ?_ _ | exact B18))
  have nx19 : ¬ w18.heap.size = w18.heap.size + 1 := by omega
  have ny19 : ¬ w18.heap.size + 1 = w18.heap.size := by omega
  generalize ((w18.alloc (.cells #[.bool (dbad dr), .bool (decide (dman dr < 0)), (.slice ar (nl (dman dr).natAbs) cr), .int .i64 (dexp dr)] 28)).alloc (.cells #[.bool (dbad ds), .bool (decide (dman ds < 0)), (.slice az (nl (dman ds).natAbs) cz), .int .i64 (dexp ds)] 28)) = w19 at Vr19 Vz19 Mr19 Mz19 B19 ⊢
  generalize w18.heap.size + 1 = zz at Vz19 nx19 ny19 ⊢
  generalize w18.heap.size = zr at Vr19 nx19 ny19 ⊢
  (try clear rc0 rc1 rc2 rc3 rc4)
  obtain ⟨rc0, rc1, rc2, rc3, rc4, rc5⟩ := Vr19
  have Vr19 := Lib.hid (DyV.mk rc0 rc1 rc2 rc3 rc4 rc5)
  (try clear zc0 zc1 zc2 zc3 zc4)
  obtain ⟨zc0, zc1, zc2, zc3, zc4, zc5⟩ := Vz19
  have Vz19 := Lib.hid (DyV.mk zc0 zc1 zc2 zc3 zc4 zc5)
  refine (HMr _ ar cr ar cr (by repeat (with_reducible first | refine Mag.set ?_ (fun h => by have := Mr19 h; omega) _ _ | refine Mag.drew ?_ | refine Mag.alloc ?_ _ | refine Mag.drewN ?_ _ | refine Mag.below ?_ (Below.drew (Below.refl _ _)) | refine Mag.below ?_ ((Below.refl _ _).alloc (Nat.le_refl _) _) | exact Mr19)) (by repeat (with_reducible first | refine Mag.set ?_ (fun h => by have := Mr19 h; omega) _ _ | refine Mag.drew ?_ | refine Mag.alloc ?_ _ | refine Mag.drewN ?_ _ | refine Mag.below ?_ (Below.drew (Below.refl _ _)) | refine Mag.below ?_ ((Below.refl _ _).alloc (Nat.le_refl _) _) | exact Mr19)) (hT.below (by have hszw := (B19).size; repeat (with_reducible first | refine Below.setCell ?_ (by first | omega | (simp <;> omega)) _ | refine Below.alloc ?_ (by first | omega | (simp <;> omega)) _ | refine Below.drew ?_ | refine below_drewN ?_ _ | exact B19)))).out.mono ?_
  rintro e w20 ⟨au, cu, rfl, Mu20, hb20, hf20⟩
  have Vr20 : DyV w20 zr (dbad dr) (decide (dman dr < 0)) (.slice ar (nl (dman dr).natAbs) cr) (dexp dr) := (by refine DyV.below ?_ hb20; (repeat (with_reducible first | refine DyV.drew ?_ | refine DyV.drewN ?_ _ | refine DyV.alloc ?_ _)); exact Vr19.out)
  (try clear rc0 rc1 rc2 rc3 rc4)
  obtain ⟨rc0, rc1, rc2, rc3, rc4, rc5⟩ := Vr20
  have Vr20 := Lib.hid (DyV.mk rc0 rc1 rc2 rc3 rc4 rc5)
  have Vz20 : DyV w20 zz (dbad ds) (decide (dman ds < 0)) (.slice az (nl (dman ds).natAbs) cz) (dexp ds) := (by refine DyV.below ?_ hb20; (repeat (with_reducible first | refine DyV.drew ?_ | refine DyV.drewN ?_ _ | refine DyV.alloc ?_ _)); exact Vz19.out)
  (try clear zc0 zc1 zc2 zc3 zc4)
  obtain ⟨zc0, zc1, zc2, zc3, zc4, zc5⟩ := Vz20
  have Vz20 := Lib.hid (DyV.mk zc0 zc1 zc2 zc3 zc4 zc5)
  have Mr20 : Mag w20 ar (nl (dman dr).natAbs) cr (dman dr).natAbs := Mag.below (by repeat (with_reducible first | refine Mag.set ?_ (fun h => by have := Mr19 h; omega) _ _ | refine Mag.drew ?_ | refine Mag.alloc ?_ _ | refine Mag.drewN ?_ _ | refine Mag.below ?_ (Below.drew (Below.refl _ _)) | refine Mag.below ?_ ((Below.refl _ _).alloc (Nat.le_refl _) _) | exact Mr19)) hb20
  have Mz20 : Mag w20 az (nl (dman ds).natAbs) cz (dman ds).natAbs := Mag.below (by repeat (with_reducible first | refine Mag.set ?_ (fun h => by have := Mz19 h; omega) _ _ | refine Mag.drew ?_ | refine Mag.alloc ?_ _ | refine Mag.drewN ?_ _ | refine Mag.below ?_ (Below.drew (Below.refl _ _)) | refine Mag.below ?_ ((Below.refl _ _).alloc (Nat.le_refl _) _) | exact Mz19)) hb20
  have B20 := below_box (w := w) (by have hszw := (B19).size; repeat (with_reducible first | refine Below.setCell ?_ (by first | omega | (simp <;> omega)) _ | refine Below.alloc ?_ (by first | omega | (simp <;> omega)) _ | refine Below.drew ?_ | refine below_drewN ?_ _ | exact B19)) hb20
  clear hb20 hf20
  go_wp2_with fail
  refine (HOA _ (hT.below (by have hszw := (B20).size; repeat (with_reducible first | refine Below.setCell ?_ (by first | omega | (simp <;> omega)) _ | refine Below.alloc ?_ (by first | omega | (simp <;> omega)) _ | refine Below.drew ?_ | refine below_drewN ?_ _ | exact B20)))).out.mono ?_
  rintro e w21 ⟨aA, cA, rfl, MA21, hb21, hf21⟩
  have Vr21 : DyV w21 zr (dbad dr) (decide (dman dr < 0)) (.slice ar (nl (dman dr).natAbs) cr) (dexp dr) := (by refine DyV.below ?_ hb21; (repeat (with_reducible first | refine DyV.drew ?_ | refine DyV.drewN ?_ _ | refine DyV.alloc ?_ _)); exact Vr20.out)
  (try clear rc0 rc1 rc2 rc3 rc4)
  obtain ⟨rc0, rc1, rc2, rc3, rc4, rc5⟩ := Vr21
  have Vr21 := Lib.hid (DyV.mk rc0 rc1 rc2 rc3 rc4 rc5)
  have Vz21 : DyV w21 zz (dbad ds) (decide (dman ds < 0)) (.slice az (nl (dman ds).natAbs) cz) (dexp ds) := (by refine DyV.below ?_ hb21; (repeat (with_reducible first | refine DyV.drew ?_ | refine DyV.drewN ?_ _ | refine DyV.alloc ?_ _)); exact Vz20.out)
  (try clear zc0 zc1 zc2 zc3 zc4)
  obtain ⟨zc0, zc1, zc2, zc3, zc4, zc5⟩ := Vz21
  have Vz21 := Lib.hid (DyV.mk zc0 zc1 zc2 zc3 zc4 zc5)
  have Mr21 : Mag w21 ar (nl (dman dr).natAbs) cr (dman dr).natAbs := Mag.below (by repeat (with_reducible first | refine Mag.set ?_ (fun h => by have := Mr20 h; omega) _ _ | refine Mag.drew ?_ | refine Mag.alloc ?_ _ | refine Mag.drewN ?_ _ | refine Mag.below ?_ (Below.drew (Below.refl _ _)) | refine Mag.below ?_ ((Below.refl _ _).alloc (Nat.le_refl _) _) | exact Mr20)) hb21
  have Mz21 : Mag w21 az (nl (dman ds).natAbs) cz (dman ds).natAbs := Mag.below (by repeat (with_reducible first | refine Mag.set ?_ (fun h => by have := Mz20 h; omega) _ _ | refine Mag.drew ?_ | refine Mag.alloc ?_ _ | refine Mag.drewN ?_ _ | refine Mag.below ?_ (Below.drew (Below.refl _ _)) | refine Mag.below ?_ ((Below.refl _ _).alloc (Nat.le_refl _) _) | exact Mz20)) hb21
  have Mu21 : Mag w21 au (nl (dman du).natAbs) cu (dman du).natAbs := Mag.below (by repeat (with_reducible first | refine Mag.set ?_ (fun h => by have := Mu20 h; omega) _ _ | refine Mag.drew ?_ | refine Mag.alloc ?_ _ | refine Mag.drewN ?_ _ | refine Mag.below ?_ (Below.drew (Below.refl _ _)) | refine Mag.below ?_ ((Below.refl _ _).alloc (Nat.le_refl _) _) | exact Mu20)) hb21
  have B21 := below_box (w := w) (by have hszw := (B20).size; repeat (with_reducible first | refine Below.setCell ?_ (by first | omega | (simp <;> omega)) _ | refine Below.alloc ?_ (by first | omega | (simp <;> omega)) _ | refine Below.drew ?_ | refine below_drewN ?_ _ | exact B20)) hb21
  clear hb21 hf21
  go_wp2_with fail
  refine (HC3 _ au cu aA cA (by repeat (with_reducible first | refine Mag.set ?_ (fun h => by have := Mu21 h; omega) _ _ | refine Mag.drew ?_ | refine Mag.alloc ?_ _ | refine Mag.drewN ?_ _ | refine Mag.below ?_ (Below.drew (Below.refl _ _)) | refine Mag.below ?_ ((Below.refl _ _).alloc (Nat.le_refl _) _) | exact Mu21)) (by repeat (with_reducible first | refine Mag.set ?_ (fun h => by have := MA21 h; omega) _ _ | refine Mag.drew ?_ | refine Mag.alloc ?_ _ | refine Mag.drewN ?_ _ | refine Mag.below ?_ (Below.drew (Below.refl _ _)) | refine Mag.below ?_ ((Below.refl _ _).alloc (Nat.le_refl _) _) | exact MA21)) (hT.below (by have hszw := (B21).size; repeat (with_reducible first | refine Below.setCell ?_ (by first | omega | (simp <;> omega)) _ | refine Below.alloc ?_ (by first | omega | (simp <;> omega)) _ | refine Below.drew ?_ | refine below_drewN ?_ _ | exact B21)))).out.mono ?_
  rintro e w22 ⟨rfl, hb22⟩
  have Vr22 : DyV w22 zr (dbad dr) (decide (dman dr < 0)) (.slice ar (nl (dman dr).natAbs) cr) (dexp dr) := (by refine DyV.below ?_ hb22; (repeat (with_reducible first | refine DyV.drew ?_ | refine DyV.drewN ?_ _ | refine DyV.alloc ?_ _)); exact Vr21.out)
  (try clear rc0 rc1 rc2 rc3 rc4)
  obtain ⟨rc0, rc1, rc2, rc3, rc4, rc5⟩ := Vr22
  have Vr22 := Lib.hid (DyV.mk rc0 rc1 rc2 rc3 rc4 rc5)
  have Vz22 : DyV w22 zz (dbad ds) (decide (dman ds < 0)) (.slice az (nl (dman ds).natAbs) cz) (dexp ds) := (by refine DyV.below ?_ hb22; (repeat (with_reducible first | refine DyV.drew ?_ | refine DyV.drewN ?_ _ | refine DyV.alloc ?_ _)); exact Vz21.out)
  (try clear zc0 zc1 zc2 zc3 zc4)
  obtain ⟨zc0, zc1, zc2, zc3, zc4, zc5⟩ := Vz22
  have Vz22 := Lib.hid (DyV.mk zc0 zc1 zc2 zc3 zc4 zc5)
  have Mr22 : Mag w22 ar (nl (dman dr).natAbs) cr (dman dr).natAbs := Mag.below (by repeat (with_reducible first | refine Mag.set ?_ (fun h => by have := Mr21 h; omega) _ _ | refine Mag.drew ?_ | refine Mag.alloc ?_ _ | refine Mag.drewN ?_ _ | refine Mag.below ?_ (Below.drew (Below.refl _ _)) | refine Mag.below ?_ ((Below.refl _ _).alloc (Nat.le_refl _) _) | exact Mr21)) hb22
  have Mz22 : Mag w22 az (nl (dman ds).natAbs) cz (dman ds).natAbs := Mag.below (by repeat (with_reducible first | refine Mag.set ?_ (fun h => by have := Mz21 h; omega) _ _ | refine Mag.drew ?_ | refine Mag.alloc ?_ _ | refine Mag.drewN ?_ _ | refine Mag.below ?_ (Below.drew (Below.refl _ _)) | refine Mag.below ?_ ((Below.refl _ _).alloc (Nat.le_refl _) _) | exact Mz21)) hb22
  have B22 := below_box (w := w) (by have hszw := (B21).size; repeat (with_reducible first | refine Below.setCell ?_ (by first | omega | (simp <;> omega)) _ | refine Below.alloc ?_ (by first | omega | (simp <;> omega)) _ | refine Below.drew ?_ | refine below_drewN ?_ _ | exact B21)) hb22
  clear hb22
  go_wp2_with fail
  first
  | go_region_held3 (fun w' => w'.cell? ⟨zr, 0, none⟩ = some (.bool (dbad dr)) ∧ w'.cell? ⟨zr, 1, none⟩ = some (.bool (decide (dman dr < 0))) ∧ w'.cell? ⟨zr, 2, none⟩ = some ((.slice ar (nl (dman dr).natAbs) cr)) ∧ w'.cell? ⟨zr, 3, none⟩ = some (.int .i64 (dexp dr)) ∧ w'.cell? ⟨zz, 0, none⟩ = some (.bool (dbad ds)) ∧ w'.cell? ⟨zz, 1, none⟩ = some (.bool (decide (dman ds < 0))) ∧ w'.cell? ⟨zz, 2, none⟩ = some ((.slice az (nl (dman ds).natAbs) cz)) ∧ w'.cell? ⟨zz, 3, none⟩ = some (.int .i64 (dexp ds))) (first | (go_keep; done) | (go_simp; done))
      (first
        | (go_at_call 22; have xx := B24; refine (HC4 _ aA cA av cv (by repeat (with_reducible first | refine Mag.set ?_ (fun h => by have := MA24 h; omega) _ _ | refine Mag.drew ?_ | refine Mag.alloc ?_ _ | refine Mag.drewN ?_ _ | refine Mag.below ?_ (Below.drew (Below.refl _ _)) | refine Mag.below ?_ ((Below.refl _ _).alloc (Nat.le_refl _) _) | exact MA24)) (by repeat (with_reducible first | refine Mag.set ?_ (fun h => by have := Mv24 h; omega) _ _ | refine Mag.drew ?_ | refine Mag.alloc ?_ _ | refine Mag.drewN ?_ _ | refine Mag.below ?_ (Below.drew (Below.refl _ _)) | refine Mag.below ?_ ((Below.refl _ _).alloc (Nat.le_refl _) _) | exact Mv24)) (hT.below (by have hszw := (B24).size; repeat (with_reducible first | refine Below.setCell ?_ (by first | omega | (simp <;> omega)) _ | refine Below.alloc ?_ (by first | omega | (simp <;> omega)) _ | refine Below.drew ?_ | refine below_drewN ?_ _ | exact B24)))).out.mono ?_; rintro e w25 ⟨rfl, hb25⟩; have Vr25 : DyV w25 zr (dbad dr) (decide (dman dr < 0)) (.slice ar (nl (dman dr).natAbs) cr) (dexp dr) := (by refine DyV.below ?_ hb25; (repeat (with_reducible first | refine DyV.drew ?_ | refine DyV.drewN ?_ _ | refine DyV.alloc ?_ _)); exact Vr24.out); (try clear rc0 rc1 rc2 rc3 rc4); obtain ⟨rc0, rc1, rc2, rc3, rc4, rc5⟩ := Vr25; have Vr25 := Lib.hid (DyV.mk rc0 rc1 rc2 rc3 rc4 rc5); have Vz25 : DyV w25 zz (dbad ds) (decide (dman ds < 0)) (.slice az (nl (dman ds).natAbs) cz) (dexp ds) := (by refine DyV.below ?_ hb25; (repeat (with_reducible first | refine DyV.drew ?_ | refine DyV.drewN ?_ _ | refine DyV.alloc ?_ _)); exact Vz24.out); (try clear zc0 zc1 zc2 zc3 zc4); obtain ⟨zc0, zc1, zc2, zc3, zc4, zc5⟩ := Vz25; have Vz25 := Lib.hid (DyV.mk zc0 zc1 zc2 zc3 zc4 zc5); have Mr25 : Mag w25 ar (nl (dman dr).natAbs) cr (dman dr).natAbs := Mag.below (by repeat (with_reducible first | refine Mag.set ?_ (fun h => by have := Mr24 h; omega) _ _ | refine Mag.drew ?_ | refine Mag.alloc ?_ _ | refine Mag.drewN ?_ _ | refine Mag.below ?_ (Below.drew (Below.refl _ _)) | refine Mag.below ?_ ((Below.refl _ _).alloc (Nat.le_refl _) _) | exact Mr24)) hb25; have Mz25 : Mag w25 az (nl (dman ds).natAbs) cz (dman ds).natAbs := Mag.below (by repeat (with_reducible first | refine Mag.set ?_ (fun h => by have := Mz24 h; omega) _ _ | refine Mag.drew ?_ | refine Mag.alloc ?_ _ | refine Mag.drewN ?_ _ | refine Mag.below ?_ (Below.drew (Below.refl _ _)) | refine Mag.below ?_ ((Below.refl _ _).alloc (Nat.le_refl _) _) | exact Mz24)) hb25; have B25 := below_box (w := w) (by have hszw := (B24).size; repeat (with_reducible first | refine Below.setCell ?_ (by first | omega | (simp <;> omega)) _ | refine Below.alloc ?_ (by first | omega | (simp <;> omega)) _ | refine Below.drew ?_ | refine below_drewN ?_ _ | exact B24)) hb25; clear hb25)
        | (go_at_call 31; have xx := B23; refine (HMs _ az cz az cz (by repeat (with_reducible first | refine Mag.set ?_ (fun h => by have := Mz23 h; omega) _ _ | refine Mag.drew ?_ | refine Mag.alloc ?_ _ | refine Mag.drewN ?_ _ | refine Mag.below ?_ (Below.drew (Below.refl _ _)) | refine Mag.below ?_ ((Below.refl _ _).alloc (Nat.le_refl _) _) | exact Mz23)) (by repeat (with_reducible first | refine Mag.set ?_ (fun h => by have := Mz23 h; omega) _ _ | refine Mag.drew ?_ | refine Mag.alloc ?_ _ | refine Mag.drewN ?_ _ | refine Mag.below ?_ (Below.drew (Below.refl _ _)) | refine Mag.below ?_ ((Below.refl _ _).alloc (Nat.le_refl _) _) | exact Mz23)) (hT.below (by have hszw := (B23).size; repeat (with_reducible first | refine Below.setCell ?_ (by first | omega | (simp <;> omega)) _ | refine Below.alloc ?_ (by first | omega | (simp <;> omega)) _ | refine Below.drew ?_ | refine below_drewN ?_ _ | exact B23)))).out.mono ?_; rintro e w24 ⟨av, cv, rfl, Mv24, hb24, hf24⟩; have Vr24 : DyV w24 zr (dbad dr) (decide (dman dr < 0)) (.slice ar (nl (dman dr).natAbs) cr) (dexp dr) := (by refine DyV.below ?_ hb24; (repeat (with_reducible first | refine DyV.drew ?_ | refine DyV.drewN ?_ _ | refine DyV.alloc ?_ _)); exact Vr23.out); (try clear rc0 rc1 rc2 rc3 rc4); obtain ⟨rc0, rc1, rc2, rc3, rc4, rc5⟩ := Vr24; have Vr24 := Lib.hid (DyV.mk rc0 rc1 rc2 rc3 rc4 rc5); have Vz24 : DyV w24 zz (dbad ds) (decide (dman ds < 0)) (.slice az (nl (dman ds).natAbs) cz) (dexp ds) := (by refine DyV.below ?_ hb24; (repeat (with_reducible first | refine DyV.drew ?_ | refine DyV.drewN ?_ _ | refine DyV.alloc ?_ _)); exact Vz23.out); (try clear zc0 zc1 zc2 zc3 zc4); obtain ⟨zc0, zc1, zc2, zc3, zc4, zc5⟩ := Vz24; have Vz24 := Lib.hid (DyV.mk zc0 zc1 zc2 zc3 zc4 zc5); have Mr24 : Mag w24 ar (nl (dman dr).natAbs) cr (dman dr).natAbs := Mag.below (by repeat (with_reducible first | refine Mag.set ?_ (fun h => by have := Mr23 h; omega) _ _ | refine Mag.drew ?_ | refine Mag.alloc ?_ _ | refine Mag.drewN ?_ _ | refine Mag.below ?_ (Below.drew (Below.refl _ _)) | refine Mag.below ?_ ((Below.refl _ _).alloc (Nat.le_refl _) _) | exact Mr23)) hb24; have Mz24 : Mag w24 az (nl (dman ds).natAbs) cz (dman ds).natAbs := Mag.below (by repeat (with_reducible first | refine Mag.set ?_ (fun h => by have := Mz23 h; omega) _ _ | refine Mag.drew ?_ | refine Mag.alloc ?_ _ | refine Mag.drewN ?_ _ | refine Mag.below ?_ (Below.drew (Below.refl _ _)) | refine Mag.below ?_ ((Below.refl _ _).alloc (Nat.le_refl _) _) | exact Mz23)) hb24; have MA24 : Mag w24 aA (nl (dman dA).natAbs) cA (dman dA).natAbs := Mag.below (by repeat (with_reducible first | refine Mag.set ?_ (fun h => by have := MA23 h; omega) _ _ | refine Mag.drew ?_ | refine Mag.alloc ?_ _ | refine Mag.drewN ?_ _ | refine Mag.below ?_ (Below.drew (Below.refl _ _)) | refine Mag.below ?_ ((Below.refl _ _).alloc (Nat.le_refl _) _) | exact MA23)) hb24; have B24 := below_box (w := w) (by have hszw := (B23).size; repeat (with_reducible first | refine Below.setCell ?_ (by first | omega | (simp <;> omega)) _ | refine Below.alloc ?_ (by first | omega | (simp <;> omega)) _ | refine Below.drew ?_ | refine below_drewN ?_ _ | exact B23)) hb24; clear hb24 hf24)
        | (go_at_call 24; have xx := B22; refine (HOA _ (hT.below (by have hszw := (B22).size; repeat (with_reducible first | refine Below.setCell ?_ (by first | omega | (simp <;> omega)) _ | refine Below.alloc ?_ (by first | omega | (simp <;> omega)) _ | refine Below.drew ?_ | refine below_drewN ?_ _ | exact B22)))).out.mono ?_; rintro e w23 ⟨aA, cA, rfl, MA23, hb23, hf23⟩; have Vr23 : DyV w23 zr (dbad dr) (decide (dman dr < 0)) (.slice ar (nl (dman dr).natAbs) cr) (dexp dr) := (by refine DyV.below ?_ hb23; (repeat (with_reducible first | refine DyV.drew ?_ | refine DyV.drewN ?_ _ | refine DyV.alloc ?_ _)); exact Vr22.out); (try clear rc0 rc1 rc2 rc3 rc4); obtain ⟨rc0, rc1, rc2, rc3, rc4, rc5⟩ := Vr23; have Vr23 := Lib.hid (DyV.mk rc0 rc1 rc2 rc3 rc4 rc5); have Vz23 : DyV w23 zz (dbad ds) (decide (dman ds < 0)) (.slice az (nl (dman ds).natAbs) cz) (dexp ds) := (by refine DyV.below ?_ hb23; (repeat (with_reducible first | refine DyV.drew ?_ | refine DyV.drewN ?_ _ | refine DyV.alloc ?_ _)); exact Vz22.out); (try clear zc0 zc1 zc2 zc3 zc4); obtain ⟨zc0, zc1, zc2, zc3, zc4, zc5⟩ := Vz23; have Vz23 := Lib.hid (DyV.mk zc0 zc1 zc2 zc3 zc4 zc5); have Mr23 : Mag w23 ar (nl (dman dr).natAbs) cr (dman dr).natAbs := Mag.below (by repeat (with_reducible first | refine Mag.set ?_ (fun h => by have := Mr22 h; omega) _ _ | refine Mag.drew ?_ | refine Mag.alloc ?_ _ | refine Mag.drewN ?_ _ | refine Mag.below ?_ (Below.drew (Below.refl _ _)) | refine Mag.below ?_ ((Below.refl _ _).alloc (Nat.le_refl _) _) | exact Mr22)) hb23; have Mz23 : Mag w23 az (nl (dman ds).natAbs) cz (dman ds).natAbs := Mag.below (by repeat (with_reducible first | refine Mag.set ?_ (fun h => by have := Mz22 h; omega) _ _ | refine Mag.drew ?_ | refine Mag.alloc ?_ _ | refine Mag.drewN ?_ _ | refine Mag.below ?_ (Below.drew (Below.refl _ _)) | refine Mag.below ?_ ((Below.refl _ _).alloc (Nat.le_refl _) _) | exact Mz22)) hb23; have B23 := below_box (w := w) (by have hszw := (B22).size; repeat (with_reducible first | refine Below.setCell ?_ (by first | omega | (simp <;> omega)) _ | refine Below.alloc ?_ (by first | omega | (simp <;> omega)) _ | refine Below.drew ?_ | refine below_drewN ?_ _ | exact B22)) hb23; clear hb23 hf23)
        | fail)
  | fail "region"
  go_wp2_with fail
  refine (HW _ (hT.below (by have hszw := (B25).size; repeat (with_reducible first | refine Below.setCell ?_ (by first | omega | (simp <;> omega)) _ | refine Below.alloc ?_ (by first | omega | (simp <;> omega)) _ | refine Below.drew ?_ | refine below_drewN ?_ _ | exact B25)))).out.mono ?_
  rintro e w26 ⟨rfl, hb26⟩
  have Vr26 : DyV w26 zr (dbad dr) (decide (dman dr < 0)) (.slice ar (nl (dman dr).natAbs) cr) (dexp dr) := (by refine DyV.below ?_ hb26; (repeat (with_reducible first | refine DyV.drew ?_ | refine DyV.drewN ?_ _ | refine DyV.alloc ?_ _)); exact Vr25.out)
  (try clear rc0 rc1 rc2 rc3 rc4)
  obtain ⟨rc0, rc1, rc2, rc3, rc4, rc5⟩ := Vr26
  have Vr26 := Lib.hid (DyV.mk rc0 rc1 rc2 rc3 rc4 rc5)
  have Vz26 : DyV w26 zz (dbad ds) (decide (dman ds < 0)) (.slice az (nl (dman ds).natAbs) cz) (dexp ds) := (by refine DyV.below ?_ hb26; (repeat (with_reducible first | refine DyV.drew ?_ | refine DyV.drewN ?_ _ | refine DyV.alloc ?_ _)); exact Vz25.out)
  (try clear zc0 zc1 zc2 zc3 zc4)
  obtain ⟨zc0, zc1, zc2, zc3, zc4, zc5⟩ := Vz26
  have Vz26 := Lib.hid (DyV.mk zc0 zc1 zc2 zc3 zc4 zc5)
  have Mr26 : Mag w26 ar (nl (dman dr).natAbs) cr (dman dr).natAbs := Mag.below (by repeat (with_reducible first | refine Mag.set ?_ (fun h => by have := Mr25 h; omega) _ _ | refine Mag.drew ?_ | refine Mag.alloc ?_ _ | refine Mag.drewN ?_ _ | refine Mag.below ?_ (Below.drew (Below.refl _ _)) | refine Mag.below ?_ ((Below.refl _ _).alloc (Nat.le_refl _) _) | exact Mr25)) hb26
  have Mz26 : Mag w26 az (nl (dman ds).natAbs) cz (dman ds).natAbs := Mag.below (by repeat (with_reducible first | refine Mag.set ?_ (fun h => by have := Mz25 h; omega) _ _ | refine Mag.drew ?_ | refine Mag.alloc ?_ _ | refine Mag.drewN ?_ _ | refine Mag.below ?_ (Below.drew (Below.refl _ _)) | refine Mag.below ?_ ((Below.refl _ _).alloc (Nat.le_refl _) _) | exact Mz25)) hb26
  have B26 := below_box (w := w) (by have hszw := (B25).size; repeat (with_reducible first | refine Below.setCell ?_ (by first | omega | (simp <;> omega)) _ | refine Below.alloc ?_ (by first | omega | (simp <;> omega)) _ | refine Below.drew ?_ | refine below_drewN ?_ _ | exact B25)) hb26
  clear hb26
  go_wp2_with fail
  go_ret
  exact ⟨rfl, (by have hszw := (B26).size; repeat (with_reducible first | refine Below.setCell ?_ (by first | omega | (simp <;> omega)) _ | refine Below.alloc ?_ (by first | omega | (simp <;> omega)) _ | refine Below.drew ?_ | refine below_drewN ?_ _ | exact B26))⟩

set_option maxRecDepth 100000 in
set_option maxHeartbeats 2000000 in
theorem halves_i (w : World) (hT : Tab w) (a b : Nat) (ha : a < 18446744073709551616) (hb : b < 18446744073709551616) (h1 : (fkind (fabs a) != 1) = false) (h2 : (fkind (fabs b) != 1) = false) (hfi : ffin (fdiv (fabs a) (fabs b) 2) = false) :
    Calls Tryd.prog 8 #[.int .u64 a, .int .u64 b] w fun o w' => o = .returned (.bool true) ∧ Below w.heap.size w w' := by
  have HW := fun W ht => Lib.hid (awakeF_any W ht)
  have HAa := fun W => Lib.hid (fabs_any W a ha)
  have HAb := fun W => Lib.hid (fabs_any W b hb)
  have HKa := fun W => Lib.hid (fkind_any W (fabs a))
  have HKb := fun W => Lib.hid (fkind_any W (fabs b))
  have hAl := fabs_lt a
  have hBl := fabs_lt b
  have KA := kind_abs h1
  have KB := kind_abs h2
  generalize fabs a = A at *
  generalize fabs b = B at *
  obtain ⟨⟨f1, q1⟩, q2⟩ := half_div KA.1 KB.1 KA.2 KB.2
  obtain ⟨⟨g1, r1⟩, g2, r2⟩ := half_root KA.1 KA.2
  have fA := (fin_code KA.1).1
  have fB := (fin_code KB.1).1
  have HLo := fun W ht => Lib.hid (wdiv_any W A B (by omega) (by omega) 1 ht)
  have HHi := fun W ht => Lib.hid (wdiv_any W A B (by omega) (by omega) 2 ht)
  have HFi := fun W => Lib.hid (ffin_any W (fdiv A B 2))
  have HS1 := fun W ht => Lib.hid (wsqrt_any W A (by omega) 1 ht)
  have HS2 := fun W ht => Lib.hid (wsqrt_any W A (by omega) 2 ht)
  have p1 := dcmp_prod fA f1 fB
  have p3 := dcmp_prod fA g1 g1
  have p4 := dcmp_prod fA g2 g2
  have fdl : ∀ m, fdiv A B m < 18446744073709551616 := fdiv_lt A B
  have fsl : ∀ m, fsqrt A m < 18446744073709551616 := fsqrt_lt (by omega)
  have HOlo := fun W ht => Lib.hid (fof_any W (fdiv A B 1) (fdl 1) ht)
  have HOA := fun W ht => Lib.hid (fof_any W A (by omega) ht)
  have HOB := fun W ht => Lib.hid (fof_any W B (by omega) ht)
  have HOr := fun W ht => Lib.hid (fof_any W (fsqrt A 1) (fsl 1) ht)
  have HOs := fun W ht => Lib.hid (fof_any W (fsqrt A 2) (fsl 2) ht)
  have NA := Lib.hid (isN_fof A)
  have NB := Lib.hid (isN_fof B)
  have Nlo := Lib.hid (isN_fof (fdiv A B 1))
  have Nr := Lib.hid (isN_fof (fsqrt A 1))
  have Ns := Lib.hid (isN_fof (fsqrt A 2))
  rw [hfi] at HFi
  generalize fof (fdiv A B 1) = dlo at *
  generalize fof A = dA at *
  generalize fof B = dB at *
  generalize fof (fsqrt A 1) = dr at *
  generalize fof (fsqrt A 2) = ds at *
  have HMl := fun W blo qlo bB qB (hlo' : Mag W blo (nl (dman dlo).natAbs) qlo (dman dlo).natAbs) (hB' : Mag W bB (nl (dman dB).natAbs) qB (dman dB).natAbs) ht => Lib.hid (dmul_any W _ _ _ _ _ _ _ _ _ _ _ _ _ _ (dyin_of Nlo.out hlo') (dyin_of NB.out hB') ht)
  have Nm := Lib.hid (isN_mul dlo dB)
  have HMr := fun W b1 q1 b2 q2 (h1' : Mag W b1 (nl (dman dr).natAbs) q1 (dman dr).natAbs) (h2' : Mag W b2 (nl (dman dr).natAbs) q2 (dman dr).natAbs) ht => Lib.hid (dmul_any W _ _ _ _ _ _ _ _ _ _ _ _ _ _ (dyin_of Nr.out h1') (dyin_of Nr.out h2') ht)
  have Nu := Lib.hid (isN_mul dr dr)
  have HMs := fun W b1 q1 b2 q2 (h1' : Mag W b1 (nl (dman ds).natAbs) q1 (dman ds).natAbs) (h2' : Mag W b2 (nl (dman ds).natAbs) q2 (dman ds).natAbs) ht => Lib.hid (dmul_any W _ _ _ _ _ _ _ _ _ _ _ _ _ _ (dyin_of Ns.out h1') (dyin_of Ns.out h2') ht)
  have Nv := Lib.hid (isN_mul ds ds)
  generalize dmul dlo dB = dm at *
  generalize dmul dr dr = du at *
  generalize dmul ds ds = dv at *
  have HC1 := fun W bm qm bA qA (hm' : Mag W bm (nl (dman dm).natAbs) qm (dman dm).natAbs) (hA' : Mag W bA (nl (dman dA).natAbs) qA (dman dA).natAbs) ht => Lib.hid (dcmp_any W _ _ _ _ _ _ _ _ _ _ _ _ _ _ (dyin_of Nm.out hm') (dyin_of NA.out hA') ht)
  have ok1 : (!dbad dm && !dbad dA) = true := by rw [p1.1, p1.2.1]; rfl
  rw [ok1] at HC1
  clear ok1
  have z1 : decide (dcmp dm dA ≤ 0) = true := by simpa using q1
  have y1 : decide (0 < dcmp dm dA) = false := by simp; omega
  generalize dcmp dm dA = c1 at *
  have HC3 := fun W bu qu bA qA (hu' : Mag W bu (nl (dman du).natAbs) qu (dman du).natAbs) (hA' : Mag W bA (nl (dman dA).natAbs) qA (dman dA).natAbs) ht => Lib.hid (dcmp_any W _ _ _ _ _ _ _ _ _ _ _ _ _ _ (dyin_of Nu.out hu') (dyin_of NA.out hA') ht)
  have ok3 : (!dbad du && !dbad dA) = true := by rw [p3.1, p3.2.1]; rfl
  rw [ok3] at HC3
  clear ok3
  have z3 : decide (dcmp du dA ≤ 0) = true := by simpa using r1
  have y3 : decide (0 < dcmp du dA) = false := by simp; omega
  generalize dcmp du dA = c3 at *
  have HC4 := fun W bA qA bv qv (hA' : Mag W bA (nl (dman dA).natAbs) qA (dman dA).natAbs) (hv' : Mag W bv (nl (dman dv).natAbs) qv (dman dv).natAbs) ht => Lib.hid (dcmp_any W _ _ _ _ _ _ _ _ _ _ _ _ _ _ (dyin_of NA.out hA') (dyin_of Nv.out hv') ht)
  have ok4 : (!dbad dA && !dbad dv) = true := by rw [p4.2.1, p4.1]; rfl
  rw [ok4] at HC4
  clear ok4
  have z4 : decide (dcmp dA dv ≤ 0) = true := by simpa using r2
  have y4 : decide (0 < dcmp dA dv) = false := by simp; omega
  generalize dcmp dA dv = c4 at *
  generalize ((fdiv A B 1 : Nat) : Int) = ilo at *
  generalize ((fdiv A B 2 : Nat) : Int) = ihi at *
  generalize ((fsqrt A 1 : Nat) : Int) = is1 at *
  generalize ((fsqrt A 2 : Nat) : Int) = is2 at *
  generalize fkind A = ka at *
  generalize fkind B = kb at *
  generalize (A : Int) = iA at *
  generalize (B : Int) = iB at *
  clear hAl hBl KA KB f1 q1 q2 g1 r1 g2 r2 fA fB p1 p3 p4 fdl fsl ha hb  hfi
  go_enter Tryd.func8, Tryd.ntmps8
  have B0 : Below w.heap.size w w := Below.refl _ _
  go_wp2_with fail
  refine (HAa _).out.mono ?_
  rintro e w1 ⟨rfl, hb1⟩
  have B1 := below_box (w := w) (by have hszw := (B0).size; repeat (with_reducible first | refine Below.setCell ?_ (by first | omega | (simp <;> omega)) _ | refine Below.alloc ?_ (by first | omega | (simp <;> omega)) _ | refine Below.drew ?_ | refine below_drewN ?_ _ | exact B0)) hb1
  clear hb1
  go_wp2_with fail
  refine (HAb _).out.mono ?_
  rintro e w2 ⟨rfl, hb2⟩
  have B2 := below_box (w := w) (by have hszw := (B1).size; repeat (with_reducible first | refine Below.setCell ?_ (by first | omega | (simp <;> omega)) _ | refine Below.alloc ?_ (by first | omega | (simp <;> omega)) _ | refine Below.drew ?_ | refine below_drewN ?_ _ | exact B1)) hb2
  clear hb2
  go_wp2_with fail
  refine (HKa _).out.mono ?_
  rintro e wq ⟨rfl, rfl⟩
  go_wp2_with fail
  refine (HKb _).out.mono ?_
  rintro e wq ⟨rfl, rfl⟩
  go_wp2_with fail
  refine (HLo _ (hT.below (by have hszw := (B2).size; repeat (with_reducible first | refine Below.setCell ?_ (by first | omega | (simp <;> omega)) _ | refine Below.alloc ?_ (by first | omega | (simp <;> omega)) _ | refine Below.drew ?_ | refine below_drewN ?_ _ | exact B2)))).out.mono ?_
  rintro e w3 ⟨rfl, hb3⟩
  have B3 := below_box (w := w) (by have hszw := (B2).size; repeat (with_reducible first | refine Below.setCell ?_ (by first | omega | (simp <;> omega)) _ | refine Below.alloc ?_ (by first | omega | (simp <;> omega)) _ | refine Below.drew ?_ | refine below_drewN ?_ _ | exact B2)) hb3
  clear hb3
  go_wp2_with fail
  refine (HHi _ (hT.below (by have hszw := (B3).size; repeat (with_reducible first | refine Below.setCell ?_ (by first | omega | (simp <;> omega)) _ | refine Below.alloc ?_ (by first | omega | (simp <;> omega)) _ | refine Below.drew ?_ | refine below_drewN ?_ _ | exact B3)))).out.mono ?_
  rintro e w4 ⟨rfl, hb4⟩
  have B4 := below_box (w := w) (by have hszw := (B3).size; repeat (with_reducible first | refine Below.setCell ?_ (by first | omega | (simp <;> omega)) _ | refine Below.alloc ?_ (by first | omega | (simp <;> omega)) _ | refine Below.drew ?_ | refine below_drewN ?_ _ | exact B3)) hb4
  clear hb4
  go_wp2_with fail
  refine (HOlo _ (hT.below (by have hszw := (B4).size; repeat (with_reducible first | refine Below.setCell ?_ (by first | omega | (simp <;> omega)) _ | refine Below.alloc ?_ (by first | omega | (simp <;> omega)) _ | refine Below.drew ?_ | refine below_drewN ?_ _ | exact B4)))).out.mono ?_
  rintro e w5 ⟨alo, clo, rfl, Mlo5, hb5, hf5⟩
  have B5 := below_box (w := w) (by have hszw := (B4).size; repeat (with_reducible first | refine Below.setCell ?_ (by first | omega | (simp <;> omega)) _ | refine Below.alloc ?_ (by first | omega | (simp <;> omega)) _ | refine Below.drew ?_ | refine below_drewN ?_ _ | exact B4)) hb5
  clear hb5 hf5
  go_wp2_with fail
  refine (HOB _ (hT.below (by have hszw := (B5).size; repeat (with_reducible first | refine Below.setCell ?_ (by first | omega | (simp <;> omega)) _ | refine Below.alloc ?_ (by first | omega | (simp <;> omega)) _ | refine Below.drew ?_ | refine below_drewN ?_ _ | exact B5)))).out.mono ?_
  rintro e w6 ⟨aB, cB, rfl, MB6, hb6, hf6⟩
  have Mlo6 : Mag w6 alo (nl (dman dlo).natAbs) clo (dman dlo).natAbs := Mag.below (by repeat (with_reducible first | refine Mag.set ?_ (fun h => by have := Mlo5 h; omega) _ _ | refine Mag.drew ?_ | refine Mag.alloc ?_ _ | refine Mag.drewN ?_ _ | refine Mag.below ?_ (Below.drew (Below.refl _ _)) | refine Mag.below ?_ ((Below.refl _ _).alloc (Nat.le_refl _) _) | exact Mlo5)) hb6
  have B6 := below_box (w := w) (by have hszw := (B5).size; repeat (with_reducible first | refine Below.setCell ?_ (by first | omega | (simp <;> omega)) _ | refine Below.alloc ?_ (by first | omega | (simp <;> omega)) _ | refine Below.drew ?_ | refine below_drewN ?_ _ | exact B5)) hb6
  clear hb6 hf6
  go_wp2_with fail
  refine (HMl _ alo clo aB cB (by repeat (with_reducible first | refine Mag.set ?_ (fun h => by have := Mlo6 h; omega) _ _ | refine Mag.drew ?_ | refine Mag.alloc ?_ _ | refine Mag.drewN ?_ _ | refine Mag.below ?_ (Below.drew (Below.refl _ _)) | refine Mag.below ?_ ((Below.refl _ _).alloc (Nat.le_refl _) _) | exact Mlo6)) (by repeat (with_reducible first | refine Mag.set ?_ (fun h => by have := MB6 h; omega) _ _ | refine Mag.drew ?_ | refine Mag.alloc ?_ _ | refine Mag.drewN ?_ _ | refine Mag.below ?_ (Below.drew (Below.refl _ _)) | refine Mag.below ?_ ((Below.refl _ _).alloc (Nat.le_refl _) _) | exact MB6)) (hT.below (by have hszw := (B6).size; repeat (with_reducible first | refine Below.setCell ?_ (by first | omega | (simp <;> omega)) _ | refine Below.alloc ?_ (by first | omega | (simp <;> omega)) _ | refine Below.drew ?_ | refine below_drewN ?_ _ | exact B6)))).out.mono ?_
  rintro e w7 ⟨am, cm, rfl, Mm7, hb7, hf7⟩
  have B7 := below_box (w := w) (by have hszw := (B6).size; repeat (with_reducible first | refine Below.setCell ?_ (by first | omega | (simp <;> omega)) _ | refine Below.alloc ?_ (by first | omega | (simp <;> omega)) _ | refine Below.drew ?_ | refine below_drewN ?_ _ | exact B6)) hb7
  clear hb7 hf7
  go_wp2_with fail
  refine (HOA _ (hT.below (by have hszw := (B7).size; repeat (with_reducible first | refine Below.setCell ?_ (by first | omega | (simp <;> omega)) _ | refine Below.alloc ?_ (by first | omega | (simp <;> omega)) _ | refine Below.drew ?_ | refine below_drewN ?_ _ | exact B7)))).out.mono ?_
  rintro e w8 ⟨aA, cA, rfl, MA8, hb8, hf8⟩
  have Mm8 : Mag w8 am (nl (dman dm).natAbs) cm (dman dm).natAbs := Mag.below (by repeat (with_reducible first | refine Mag.set ?_ (fun h => by have := Mm7 h; omega) _ _ | refine Mag.drew ?_ | refine Mag.alloc ?_ _ | refine Mag.drewN ?_ _ | refine Mag.below ?_ (Below.drew (Below.refl _ _)) | refine Mag.below ?_ ((Below.refl _ _).alloc (Nat.le_refl _) _) | exact Mm7)) hb8
  have B8 := below_box (w := w) (by have hszw := (B7).size; repeat (with_reducible first | refine Below.setCell ?_ (by first | omega | (simp <;> omega)) _ | refine Below.alloc ?_ (by first | omega | (simp <;> omega)) _ | refine Below.drew ?_ | refine below_drewN ?_ _ | exact B7)) hb8
  clear hb8 hf8
  go_wp2_with fail
  refine (HC1 _ am cm aA cA (by repeat (with_reducible first | refine Mag.set ?_ (fun h => by have := Mm8 h; omega) _ _ | refine Mag.drew ?_ | refine Mag.alloc ?_ _ | refine Mag.drewN ?_ _ | refine Mag.below ?_ (Below.drew (Below.refl _ _)) | refine Mag.below ?_ ((Below.refl _ _).alloc (Nat.le_refl _) _) | exact Mm8)) (by repeat (with_reducible first | refine Mag.set ?_ (fun h => by have := MA8 h; omega) _ _ | refine Mag.drew ?_ | refine Mag.alloc ?_ _ | refine Mag.drewN ?_ _ | refine Mag.below ?_ (Below.drew (Below.refl _ _)) | refine Mag.below ?_ ((Below.refl _ _).alloc (Nat.le_refl _) _) | exact MA8)) (hT.below (by have hszw := (B8).size; repeat (with_reducible first | refine Below.setCell ?_ (by first | omega | (simp <;> omega)) _ | refine Below.alloc ?_ (by first | omega | (simp <;> omega)) _ | refine Below.drew ?_ | refine below_drewN ?_ _ | exact B8)))).out.mono ?_
  rintro e w9 ⟨rfl, hb9⟩
  have B9 := below_box (w := w) (by have hszw := (B8).size; repeat (with_reducible first | refine Below.setCell ?_ (by first | omega | (simp <;> omega)) _ | refine Below.alloc ?_ (by first | omega | (simp <;> omega)) _ | refine Below.drew ?_ | refine below_drewN ?_ _ | exact B8)) hb9
  clear hb9
  go_wp2_with fail
  refine (HFi _).out.mono ?_
  rintro e wq ⟨rfl, rfl⟩
  go_wp2_with fail
  refine (HS1 _ (hT.below (by have hszw := (B9).size; repeat (with_reducible first | refine Below.setCell ?_ (by first | omega | (simp <;> omega)) _ | refine Below.alloc ?_ (by first | omega | (simp <;> omega)) _ | refine Below.drew ?_ | refine below_drewN ?_ _ | exact B9)))).out.mono ?_
  rintro e w10 ⟨rfl, hb10⟩
  have B10 := below_box (w := w) (by have hszw := (B9).size; repeat (with_reducible first | refine Below.setCell ?_ (by first | omega | (simp <;> omega)) _ | refine Below.alloc ?_ (by first | omega | (simp <;> omega)) _ | refine Below.drew ?_ | refine below_drewN ?_ _ | exact B9)) hb10
  clear hb10
  go_wp2_with fail
  refine (HOr _ (hT.below (by have hszw := (B10).size; repeat (with_reducible first | refine Below.setCell ?_ (by first | omega | (simp <;> omega)) _ | refine Below.alloc ?_ (by first | omega | (simp <;> omega)) _ | refine Below.drew ?_ | refine below_drewN ?_ _ | exact B10)))).out.mono ?_
  rintro e w11 ⟨ar, cr, rfl, Mr11, hb11, hf11⟩
  have B11 := below_box (w := w) (by have hszw := (B10).size; repeat (with_reducible first | refine Below.setCell ?_ (by first | omega | (simp <;> omega)) _ | refine Below.alloc ?_ (by first | omega | (simp <;> omega)) _ | refine Below.drew ?_ | refine below_drewN ?_ _ | exact B10)) hb11
  clear hb11 hf11
  go_wp2_with fail
  refine (HS2 _ (hT.below (by have hszw := (B11).size; repeat (with_reducible first | refine Below.setCell ?_ (by first | omega | (simp <;> omega)) _ | refine Below.alloc ?_ (by first | omega | (simp <;> omega)) _ | refine Below.drew ?_ | refine below_drewN ?_ _ | exact B11)))).out.mono ?_
  rintro e w12 ⟨rfl, hb12⟩
  have Mr12 : Mag w12 ar (nl (dman dr).natAbs) cr (dman dr).natAbs := Mag.below (by repeat (with_reducible first | refine Mag.set ?_ (fun h => by have := Mr11 h; omega) _ _ | refine Mag.drew ?_ | refine Mag.alloc ?_ _ | refine Mag.drewN ?_ _ | refine Mag.below ?_ (Below.drew (Below.refl _ _)) | refine Mag.below ?_ ((Below.refl _ _).alloc (Nat.le_refl _) _) | exact Mr11)) hb12
  have B12 := below_box (w := w) (by have hszw := (B11).size; repeat (with_reducible first | refine Below.setCell ?_ (by first | omega | (simp <;> omega)) _ | refine Below.alloc ?_ (by first | omega | (simp <;> omega)) _ | refine Below.drew ?_ | refine below_drewN ?_ _ | exact B11)) hb12
  clear hb12
  go_wp2_with fail
  refine (HOs _ (hT.below (by have hszw := (B12).size; repeat (with_reducible first | refine Below.setCell ?_ (by first | omega | (simp <;> omega)) _ | refine Below.alloc ?_ (by first | omega | (simp <;> omega)) _ | refine Below.drew ?_ | refine below_drewN ?_ _ | exact B12)))).out.mono ?_
  rintro e w13 ⟨az, cz, rfl, Mz13, hb13, hf13⟩
  have Mr13 : Mag w13 ar (nl (dman dr).natAbs) cr (dman dr).natAbs := Mag.below (by repeat (with_reducible first | refine Mag.set ?_ (fun h => by have := Mr12 h; omega) _ _ | refine Mag.drew ?_ | refine Mag.alloc ?_ _ | refine Mag.drewN ?_ _ | refine Mag.below ?_ (Below.drew (Below.refl _ _)) | refine Mag.below ?_ ((Below.refl _ _).alloc (Nat.le_refl _) _) | exact Mr12)) hb13
  have B13 := below_box (w := w) (by have hszw := (B12).size; repeat (with_reducible first | refine Below.setCell ?_ (by first | omega | (simp <;> omega)) _ | refine Below.alloc ?_ (by first | omega | (simp <;> omega)) _ | refine Below.drew ?_ | refine below_drewN ?_ _ | exact B12)) hb13
  clear hb13 hf13
  go_wp2_with fail
  have Vr14 := (DyV.made w13 28 (dbad dr) (decide (dman dr < 0)) (.slice ar (nl (dman dr).natAbs) cr) (dexp dr)).alloc (.cells #[.bool (dbad ds), .bool (decide (dman ds < 0)), (.slice az (nl (dman ds).natAbs) cz), .int .i64 (dexp ds)] 28)
  have Vz14 := DyV.made' (w13.alloc (.cells #[.bool (dbad dr), .bool (decide (dman dr < 0)), (.slice ar (nl (dman dr).natAbs) cr), .int .i64 (dexp dr)] 28)) 28 (dbad ds) (decide (dman ds < 0)) (.slice az (nl (dman ds).natAbs) cz) (dexp ds) (n := w13.heap.size + 1) (by rw [World.size_alloc])
  have Mr14 := (Mr13.alloc (.cells #[.bool (dbad dr), .bool (decide (dman dr < 0)), (.slice ar (nl (dman dr).natAbs) cr), .int .i64 (dexp dr)] 28)).alloc (.cells #[.bool (dbad ds), .bool (decide (dman ds < 0)), (.slice az (nl (dman ds).natAbs) cz), .int .i64 (dexp ds)] 28)
  have Mz14 := (Mz13.alloc (.cells #[.bool (dbad dr), .bool (decide (dman dr < 0)), (.slice ar (nl (dman dr).natAbs) cr), .int .i64 (dexp dr)] 28)).alloc (.cells #[.bool (dbad ds), .bool (decide (dman ds < 0)), (.slice az (nl (dman ds).natAbs) cz), .int .i64 (dexp ds)] 28)
  have B14 : Below w.heap.size w ((w13.alloc (.cells #[.bool (dbad dr), .bool (decide (dman dr < 0)), (.slice ar (nl (dman dr).natAbs) cr), .int .i64 (dexp dr)] 28)).alloc (.cells #[.bool (dbad ds), .bool (decide (dman ds < 0)), (.slice az (nl (dman ds).natAbs) cz), .int .i64 (dexp ds)] 28)) := (by have hszw := (B13).size; repeat (with_reducible first | refine Below.setCell ?_ (by first | omega | (simp <;> omega)) _ | refine Below.alloc ?_ (by first | omega | (simp <;> omega)) _ | refine Below.drew ?_ | refine below_drewN ?_ _ | exact B13))
  have nx14 : ¬ w13.heap.size = w13.heap.size + 1 := by omega
  have ny14 : ¬ w13.heap.size + 1 = w13.heap.size := by omega
  generalize ((w13.alloc (.cells #[.bool (dbad dr), .bool (decide (dman dr < 0)), (.slice ar (nl (dman dr).natAbs) cr), .int .i64 (dexp dr)] 28)).alloc (.cells #[.bool (dbad ds), .bool (decide (dman ds < 0)), (.slice az (nl (dman ds).natAbs) cz), .int .i64 (dexp ds)] 28)) = w14 at Vr14 Vz14 Mr14 Mz14 B14 ⊢
  generalize w13.heap.size + 1 = zz at Vz14 nx14 ny14 ⊢
  generalize w13.heap.size = zr at Vr14 nx14 ny14 ⊢
  (try clear rc0 rc1 rc2 rc3 rc4)
  obtain ⟨rc0, rc1, rc2, rc3, rc4, rc5⟩ := Vr14
  have Vr14 := Lib.hid (DyV.mk rc0 rc1 rc2 rc3 rc4 rc5)
  (try clear zc0 zc1 zc2 zc3 zc4)
  obtain ⟨zc0, zc1, zc2, zc3, zc4, zc5⟩ := Vz14
  have Vz14 := Lib.hid (DyV.mk zc0 zc1 zc2 zc3 zc4 zc5)
  refine (HMr _ ar cr ar cr (by repeat (with_reducible first | refine Mag.set ?_ (fun h => by have := Mr14 h; omega) _ _ | refine Mag.drew ?_ | refine Mag.alloc ?_ _ | refine Mag.drewN ?_ _ | refine Mag.below ?_ (Below.drew (Below.refl _ _)) | refine Mag.below ?_ ((Below.refl _ _).alloc (Nat.le_refl _) _) | exact Mr14)) (by repeat (with_reducible first | refine Mag.set ?_ (fun h => by have := Mr14 h; omega) _ _ | refine Mag.drew ?_ | refine Mag.alloc ?_ _ | refine Mag.drewN ?_ _ | refine Mag.below ?_ (Below.drew (Below.refl _ _)) | refine Mag.below ?_ ((Below.refl _ _).alloc (Nat.le_refl _) _) | exact Mr14)) (hT.below (by have hszw := (B14).size; repeat (with_reducible first | refine Below.setCell ?_ (by first | omega | (simp <;> omega)) _ | refine Below.alloc ?_ (by first | omega | (simp <;> omega)) _ | refine Below.drew ?_ | refine below_drewN ?_ _ | exact B14)))).out.mono ?_
  rintro e w15 ⟨au, cu, rfl, Mu15, hb15, hf15⟩
  have Vr15 : DyV w15 zr (dbad dr) (decide (dman dr < 0)) (.slice ar (nl (dman dr).natAbs) cr) (dexp dr) := (by refine DyV.below ?_ hb15; (repeat (with_reducible first | refine DyV.drew ?_ | refine DyV.drewN ?_ _ | refine DyV.alloc ?_ _)); exact Vr14.out)
  (try clear rc0 rc1 rc2 rc3 rc4)
  obtain ⟨rc0, rc1, rc2, rc3, rc4, rc5⟩ := Vr15
  have Vr15 := Lib.hid (DyV.mk rc0 rc1 rc2 rc3 rc4 rc5)
  have Vz15 : DyV w15 zz (dbad ds) (decide (dman ds < 0)) (.slice az (nl (dman ds).natAbs) cz) (dexp ds) := (by refine DyV.below ?_ hb15; (repeat (with_reducible first | refine DyV.drew ?_ | refine DyV.drewN ?_ _ | refine DyV.alloc ?_ _)); exact Vz14.out)
  (try clear zc0 zc1 zc2 zc3 zc4)
  obtain ⟨zc0, zc1, zc2, zc3, zc4, zc5⟩ := Vz15
  have Vz15 := Lib.hid (DyV.mk zc0 zc1 zc2 zc3 zc4 zc5)
  have Mr15 : Mag w15 ar (nl (dman dr).natAbs) cr (dman dr).natAbs := Mag.below (by repeat (with_reducible first | refine Mag.set ?_ (fun h => by have := Mr14 h; omega) _ _ | refine Mag.drew ?_ | refine Mag.alloc ?_ _ | refine Mag.drewN ?_ _ | refine Mag.below ?_ (Below.drew (Below.refl _ _)) | refine Mag.below ?_ ((Below.refl _ _).alloc (Nat.le_refl _) _) | exact Mr14)) hb15
  have Mz15 : Mag w15 az (nl (dman ds).natAbs) cz (dman ds).natAbs := Mag.below (by repeat (with_reducible first | refine Mag.set ?_ (fun h => by have := Mz14 h; omega) _ _ | refine Mag.drew ?_ | refine Mag.alloc ?_ _ | refine Mag.drewN ?_ _ | refine Mag.below ?_ (Below.drew (Below.refl _ _)) | refine Mag.below ?_ ((Below.refl _ _).alloc (Nat.le_refl _) _) | exact Mz14)) hb15
  have B15 := below_box (w := w) (by have hszw := (B14).size; repeat (with_reducible first | refine Below.setCell ?_ (by first | omega | (simp <;> omega)) _ | refine Below.alloc ?_ (by first | omega | (simp <;> omega)) _ | refine Below.drew ?_ | refine below_drewN ?_ _ | exact B14)) hb15
  clear hb15 hf15
  go_wp2_with fail
  refine (HOA _ (hT.below (by have hszw := (B15).size; repeat (with_reducible first | refine Below.setCell ?_ (by first | omega | (simp <;> omega)) _ | refine Below.alloc ?_ (by first | omega | (simp <;> omega)) _ | refine Below.drew ?_ | refine below_drewN ?_ _ | exact B15)))).out.mono ?_
  rintro e w16 ⟨aA, cA, rfl, MA16, hb16, hf16⟩
  have Vr16 : DyV w16 zr (dbad dr) (decide (dman dr < 0)) (.slice ar (nl (dman dr).natAbs) cr) (dexp dr) := (by refine DyV.below ?_ hb16; (repeat (with_reducible first | refine DyV.drew ?_ | refine DyV.drewN ?_ _ | refine DyV.alloc ?_ _)); exact Vr15.out)
  (try clear rc0 rc1 rc2 rc3 rc4)
  obtain ⟨rc0, rc1, rc2, rc3, rc4, rc5⟩ := Vr16
  have Vr16 := Lib.hid (DyV.mk rc0 rc1 rc2 rc3 rc4 rc5)
  have Vz16 : DyV w16 zz (dbad ds) (decide (dman ds < 0)) (.slice az (nl (dman ds).natAbs) cz) (dexp ds) := (by refine DyV.below ?_ hb16; (repeat (with_reducible first | refine DyV.drew ?_ | refine DyV.drewN ?_ _ | refine DyV.alloc ?_ _)); exact Vz15.out)
  (try clear zc0 zc1 zc2 zc3 zc4)
  obtain ⟨zc0, zc1, zc2, zc3, zc4, zc5⟩ := Vz16
  have Vz16 := Lib.hid (DyV.mk zc0 zc1 zc2 zc3 zc4 zc5)
  have Mr16 : Mag w16 ar (nl (dman dr).natAbs) cr (dman dr).natAbs := Mag.below (by repeat (with_reducible first | refine Mag.set ?_ (fun h => by have := Mr15 h; omega) _ _ | refine Mag.drew ?_ | refine Mag.alloc ?_ _ | refine Mag.drewN ?_ _ | refine Mag.below ?_ (Below.drew (Below.refl _ _)) | refine Mag.below ?_ ((Below.refl _ _).alloc (Nat.le_refl _) _) | exact Mr15)) hb16
  have Mz16 : Mag w16 az (nl (dman ds).natAbs) cz (dman ds).natAbs := Mag.below (by repeat (with_reducible first | refine Mag.set ?_ (fun h => by have := Mz15 h; omega) _ _ | refine Mag.drew ?_ | refine Mag.alloc ?_ _ | refine Mag.drewN ?_ _ | refine Mag.below ?_ (Below.drew (Below.refl _ _)) | refine Mag.below ?_ ((Below.refl _ _).alloc (Nat.le_refl _) _) | exact Mz15)) hb16
  have Mu16 : Mag w16 au (nl (dman du).natAbs) cu (dman du).natAbs := Mag.below (by repeat (with_reducible first | refine Mag.set ?_ (fun h => by have := Mu15 h; omega) _ _ | refine Mag.drew ?_ | refine Mag.alloc ?_ _ | refine Mag.drewN ?_ _ | refine Mag.below ?_ (Below.drew (Below.refl _ _)) | refine Mag.below ?_ ((Below.refl _ _).alloc (Nat.le_refl _) _) | exact Mu15)) hb16
  have B16 := below_box (w := w) (by have hszw := (B15).size; repeat (with_reducible first | refine Below.setCell ?_ (by first | omega | (simp <;> omega)) _ | refine Below.alloc ?_ (by first | omega | (simp <;> omega)) _ | refine Below.drew ?_ | refine below_drewN ?_ _ | exact B15)) hb16
  clear hb16 hf16
  go_wp2_with fail
  refine (HC3 _ au cu aA cA (by repeat (with_reducible first | refine Mag.set ?_ (fun h => by have := Mu16 h; omega) _ _ | refine Mag.drew ?_ | refine Mag.alloc ?_ _ | refine Mag.drewN ?_ _ | refine Mag.below ?_ (Below.drew (Below.refl _ _)) | refine Mag.below ?_ ((Below.refl _ _).alloc (Nat.le_refl _) _) | exact Mu16)) (by repeat (with_reducible first | refine Mag.set ?_ (fun h => by have := MA16 h; omega) _ _ | refine Mag.drew ?_ | refine Mag.alloc ?_ _ | refine Mag.drewN ?_ _ | refine Mag.below ?_ (Below.drew (Below.refl _ _)) | refine Mag.below ?_ ((Below.refl _ _).alloc (Nat.le_refl _) _) | exact MA16)) (hT.below (by have hszw := (B16).size; repeat (with_reducible first | refine Below.setCell ?_ (by first | omega | (simp <;> omega)) _ | refine Below.alloc ?_ (by first | omega | (simp <;> omega)) _ | refine Below.drew ?_ | refine below_drewN ?_ _ | exact B16)))).out.mono ?_
  rintro e w17 ⟨rfl, hb17⟩
  have Vr17 : DyV w17 zr (dbad dr) (decide (dman dr < 0)) (.slice ar (nl (dman dr).natAbs) cr) (dexp dr) := (by refine DyV.below ?_ hb17; (repeat (with_reducible first | refine DyV.drew ?_ | refine DyV.drewN ?_ _ | refine DyV.alloc ?_ _)); exact Vr16.out)
  (try clear rc0 rc1 rc2 rc3 rc4)
  obtain ⟨rc0, rc1, rc2, rc3, rc4, rc5⟩ := Vr17
  have Vr17 := Lib.hid (DyV.mk rc0 rc1 rc2 rc3 rc4 rc5)
  have Vz17 : DyV w17 zz (dbad ds) (decide (dman ds < 0)) (.slice az (nl (dman ds).natAbs) cz) (dexp ds) := (by refine DyV.below ?_ hb17; (repeat (with_reducible first | refine DyV.drew ?_ | refine DyV.drewN ?_ _ | refine DyV.alloc ?_ _)); exact Vz16.out)
  (try clear zc0 zc1 zc2 zc3 zc4)
  obtain ⟨zc0, zc1, zc2, zc3, zc4, zc5⟩ := Vz17
  have Vz17 := Lib.hid (DyV.mk zc0 zc1 zc2 zc3 zc4 zc5)
  have Mr17 : Mag w17 ar (nl (dman dr).natAbs) cr (dman dr).natAbs := Mag.below (by repeat (with_reducible first | refine Mag.set ?_ (fun h => by have := Mr16 h; omega) _ _ | refine Mag.drew ?_ | refine Mag.alloc ?_ _ | refine Mag.drewN ?_ _ | refine Mag.below ?_ (Below.drew (Below.refl _ _)) | refine Mag.below ?_ ((Below.refl _ _).alloc (Nat.le_refl _) _) | exact Mr16)) hb17
  have Mz17 : Mag w17 az (nl (dman ds).natAbs) cz (dman ds).natAbs := Mag.below (by repeat (with_reducible first | refine Mag.set ?_ (fun h => by have := Mz16 h; omega) _ _ | refine Mag.drew ?_ | refine Mag.alloc ?_ _ | refine Mag.drewN ?_ _ | refine Mag.below ?_ (Below.drew (Below.refl _ _)) | refine Mag.below ?_ ((Below.refl _ _).alloc (Nat.le_refl _) _) | exact Mz16)) hb17
  have B17 := below_box (w := w) (by have hszw := (B16).size; repeat (with_reducible first | refine Below.setCell ?_ (by first | omega | (simp <;> omega)) _ | refine Below.alloc ?_ (by first | omega | (simp <;> omega)) _ | refine Below.drew ?_ | refine below_drewN ?_ _ | exact B16)) hb17
  clear hb17
  go_wp2_with fail
  first
  | go_region_held3 (fun w' => w'.cell? ⟨zr, 0, none⟩ = some (.bool (dbad dr)) ∧ w'.cell? ⟨zr, 1, none⟩ = some (.bool (decide (dman dr < 0))) ∧ w'.cell? ⟨zr, 2, none⟩ = some ((.slice ar (nl (dman dr).natAbs) cr)) ∧ w'.cell? ⟨zr, 3, none⟩ = some (.int .i64 (dexp dr)) ∧ w'.cell? ⟨zz, 0, none⟩ = some (.bool (dbad ds)) ∧ w'.cell? ⟨zz, 1, none⟩ = some (.bool (decide (dman ds < 0))) ∧ w'.cell? ⟨zz, 2, none⟩ = some ((.slice az (nl (dman ds).natAbs) cz)) ∧ w'.cell? ⟨zz, 3, none⟩ = some (.int .i64 (dexp ds))) (first | (go_keep; done) | (go_simp; done))
      (first
        | (go_at_call 22; have xx := B19; refine (HC4 _ aA cA av cv (by repeat (with_reducible first | refine Mag.set ?_ (fun h => by have := MA19 h; omega) _ _ | refine Mag.drew ?_ | refine Mag.alloc ?_ _ | refine Mag.drewN ?_ _ | refine Mag.below ?_ (Below.drew (Below.refl _ _)) | refine Mag.below ?_ ((Below.refl _ _).alloc (Nat.le_refl _) _) | exact MA19)) (by repeat (with_reducible first | refine Mag.set ?_ (fun h => by have := Mv19 h; omega) _ _ | refine Mag.drew ?_ | refine Mag.alloc ?_ _ | refine Mag.drewN ?_ _ | refine Mag.below ?_ (Below.drew (Below.refl _ _)) | refine Mag.below ?_ ((Below.refl _ _).alloc (Nat.le_refl _) _) | exact Mv19)) (hT.below (by have hszw := (B19).size; repeat (with_reducible first | refine Below.setCell ?_ (by first | omega | (simp <;> omega)) _ | refine Below.alloc ?_ (by first | omega | (simp <;> omega)) _ | refine Below.drew ?_ | refine below_drewN ?_ _ | exact B19)))).out.mono ?_; rintro e w20 ⟨rfl, hb20⟩; have Vr20 : DyV w20 zr (dbad dr) (decide (dman dr < 0)) (.slice ar (nl (dman dr).natAbs) cr) (dexp dr) := (by refine DyV.below ?_ hb20; (repeat (with_reducible first | refine DyV.drew ?_ | refine DyV.drewN ?_ _ | refine DyV.alloc ?_ _)); exact Vr19.out); (try clear rc0 rc1 rc2 rc3 rc4); obtain ⟨rc0, rc1, rc2, rc3, rc4, rc5⟩ := Vr20; have Vr20 := Lib.hid (DyV.mk rc0 rc1 rc2 rc3 rc4 rc5); have Vz20 : DyV w20 zz (dbad ds) (decide (dman ds < 0)) (.slice az (nl (dman ds).natAbs) cz) (dexp ds) := (by refine DyV.below ?_ hb20; (repeat (with_reducible first | refine DyV.drew ?_ | refine DyV.drewN ?_ _ | refine DyV.alloc ?_ _)); exact Vz19.out); (try clear zc0 zc1 zc2 zc3 zc4); obtain ⟨zc0, zc1, zc2, zc3, zc4, zc5⟩ := Vz20; have Vz20 := Lib.hid (DyV.mk zc0 zc1 zc2 zc3 zc4 zc5); have Mr20 : Mag w20 ar (nl (dman dr).natAbs) cr (dman dr).natAbs := Mag.below (by repeat (with_reducible first | refine Mag.set ?_ (fun h => by have := Mr19 h; omega) _ _ | refine Mag.drew ?_ | refine Mag.alloc ?_ _ | refine Mag.drewN ?_ _ | refine Mag.below ?_ (Below.drew (Below.refl _ _)) | refine Mag.below ?_ ((Below.refl _ _).alloc (Nat.le_refl _) _) | exact Mr19)) hb20; have Mz20 : Mag w20 az (nl (dman ds).natAbs) cz (dman ds).natAbs := Mag.below (by repeat (with_reducible first | refine Mag.set ?_ (fun h => by have := Mz19 h; omega) _ _ | refine Mag.drew ?_ | refine Mag.alloc ?_ _ | refine Mag.drewN ?_ _ | refine Mag.below ?_ (Below.drew (Below.refl _ _)) | refine Mag.below ?_ ((Below.refl _ _).alloc (Nat.le_refl _) _) | exact Mz19)) hb20; have B20 := below_box (w := w) (by have hszw := (B19).size; repeat (with_reducible first | refine Below.setCell ?_ (by first | omega | (simp <;> omega)) _ | refine Below.alloc ?_ (by first | omega | (simp <;> omega)) _ | refine Below.drew ?_ | refine below_drewN ?_ _ | exact B19)) hb20; clear hb20)
        | (go_at_call 31; have xx := B18; refine (HMs _ az cz az cz (by repeat (with_reducible first | refine Mag.set ?_ (fun h => by have := Mz18 h; omega) _ _ | refine Mag.drew ?_ | refine Mag.alloc ?_ _ | refine Mag.drewN ?_ _ | refine Mag.below ?_ (Below.drew (Below.refl _ _)) | refine Mag.below ?_ ((Below.refl _ _).alloc (Nat.le_refl _) _) | exact Mz18)) (by repeat (with_reducible first | refine Mag.set ?_ (fun h => by have := Mz18 h; omega) _ _ | refine Mag.drew ?_ | refine Mag.alloc ?_ _ | refine Mag.drewN ?_ _ | refine Mag.below ?_ (Below.drew (Below.refl _ _)) | refine Mag.below ?_ ((Below.refl _ _).alloc (Nat.le_refl _) _) | exact Mz18)) (hT.below (by have hszw := (B18).size; repeat (with_reducible first | refine Below.setCell ?_ (by first | omega | (simp <;> omega)) _ | refine Below.alloc ?_ (by first | omega | (simp <;> omega)) _ | refine Below.drew ?_ | refine below_drewN ?_ _ | exact B18)))).out.mono ?_; rintro e w19 ⟨av, cv, rfl, Mv19, hb19, hf19⟩; have Vr19 : DyV w19 zr (dbad dr) (decide (dman dr < 0)) (.slice ar (nl (dman dr).natAbs) cr) (dexp dr) := (by refine DyV.below ?_ hb19; (repeat (with_reducible first | refine DyV.drew ?_ | refine DyV.drewN ?_ _ | refine DyV.alloc ?_ _)); exact Vr18.out); (try clear rc0 rc1 rc2 rc3 rc4); obtain ⟨rc0, rc1, rc2, rc3, rc4, rc5⟩ := Vr19; have Vr19 := Lib.hid (DyV.mk rc0 rc1 rc2 rc3 rc4 rc5); have Vz19 : DyV w19 zz (dbad ds) (decide (dman ds < 0)) (.slice az (nl (dman ds).natAbs) cz) (dexp ds) := (by refine DyV.below ?_ hb19; (repeat (with_reducible first | refine DyV.drew ?_ | refine DyV.drewN ?_ _ | refine DyV.alloc ?_ _)); exact Vz18.out); (try clear zc0 zc1 zc2 zc3 zc4); obtain ⟨zc0, zc1, zc2, zc3, zc4, zc5⟩ := Vz19; have Vz19 := Lib.hid (DyV.mk zc0 zc1 zc2 zc3 zc4 zc5); have Mr19 : Mag w19 ar (nl (dman dr).natAbs) cr (dman dr).natAbs := Mag.below (by repeat (with_reducible first | refine Mag.set ?_ (fun h => by have := Mr18 h; omega) _ _ | refine Mag.drew ?_ | refine Mag.alloc ?_ _ | refine Mag.drewN ?_ _ | refine Mag.below ?_ (Below.drew (Below.refl _ _)) | refine Mag.below ?_ ((Below.refl _ _).alloc (Nat.le_refl _) _) | exact Mr18)) hb19; have Mz19 : Mag w19 az (nl (dman ds).natAbs) cz (dman ds).natAbs := Mag.below (by repeat (with_reducible first | refine Mag.set ?_ (fun h => by have := Mz18 h; omega) _ _ | refine Mag.drew ?_ | refine Mag.alloc ?_ _ | refine Mag.drewN ?_ _ | refine Mag.below ?_ (Below.drew (Below.refl _ _)) | refine Mag.below ?_ ((Below.refl _ _).alloc (Nat.le_refl _) _) | exact Mz18)) hb19; have MA19 : Mag w19 aA (nl (dman dA).natAbs) cA (dman dA).natAbs := Mag.below (by repeat (with_reducible first | refine Mag.set ?_ (fun h => by have := MA18 h; omega) _ _ | refine Mag.drew ?_ | refine Mag.alloc ?_ _ | refine Mag.drewN ?_ _ | refine Mag.below ?_ (Below.drew (Below.refl _ _)) | refine Mag.below ?_ ((Below.refl _ _).alloc (Nat.le_refl _) _) | exact MA18)) hb19; have B19 := below_box (w := w) (by have hszw := (B18).size; repeat (with_reducible first | refine Below.setCell ?_ (by first | omega | (simp <;> omega)) _ | refine Below.alloc ?_ (by first | omega | (simp <;> omega)) _ | refine Below.drew ?_ | refine below_drewN ?_ _ | exact B18)) hb19; clear hb19 hf19)
        | (go_at_call 24; have xx := B17; refine (HOA _ (hT.below (by have hszw := (B17).size; repeat (with_reducible first | refine Below.setCell ?_ (by first | omega | (simp <;> omega)) _ | refine Below.alloc ?_ (by first | omega | (simp <;> omega)) _ | refine Below.drew ?_ | refine below_drewN ?_ _ | exact B17)))).out.mono ?_; rintro e w18 ⟨aA, cA, rfl, MA18, hb18, hf18⟩; have Vr18 : DyV w18 zr (dbad dr) (decide (dman dr < 0)) (.slice ar (nl (dman dr).natAbs) cr) (dexp dr) := (by refine DyV.below ?_ hb18; (repeat (with_reducible first | refine DyV.drew ?_ | refine DyV.drewN ?_ _ | refine DyV.alloc ?_ _)); exact Vr17.out); (try clear rc0 rc1 rc2 rc3 rc4); obtain ⟨rc0, rc1, rc2, rc3, rc4, rc5⟩ := Vr18; have Vr18 := Lib.hid (DyV.mk rc0 rc1 rc2 rc3 rc4 rc5); have Vz18 : DyV w18 zz (dbad ds) (decide (dman ds < 0)) (.slice az (nl (dman ds).natAbs) cz) (dexp ds) := (by refine DyV.below ?_ hb18; (repeat (with_reducible first | refine DyV.drew ?_ | refine DyV.drewN ?_ _ | refine DyV.alloc ?_ _)); exact Vz17.out); (try clear zc0 zc1 zc2 zc3 zc4); obtain ⟨zc0, zc1, zc2, zc3, zc4, zc5⟩ := Vz18; have Vz18 := Lib.hid (DyV.mk zc0 zc1 zc2 zc3 zc4 zc5); have Mr18 : Mag w18 ar (nl (dman dr).natAbs) cr (dman dr).natAbs := Mag.below (by repeat (with_reducible first | refine Mag.set ?_ (fun h => by have := Mr17 h; omega) _ _ | refine Mag.drew ?_ | refine Mag.alloc ?_ _ | refine Mag.drewN ?_ _ | refine Mag.below ?_ (Below.drew (Below.refl _ _)) | refine Mag.below ?_ ((Below.refl _ _).alloc (Nat.le_refl _) _) | exact Mr17)) hb18; have Mz18 : Mag w18 az (nl (dman ds).natAbs) cz (dman ds).natAbs := Mag.below (by repeat (with_reducible first | refine Mag.set ?_ (fun h => by have := Mz17 h; omega) _ _ | refine Mag.drew ?_ | refine Mag.alloc ?_ _ | refine Mag.drewN ?_ _ | refine Mag.below ?_ (Below.drew (Below.refl _ _)) | refine Mag.below ?_ ((Below.refl _ _).alloc (Nat.le_refl _) _) | exact Mz17)) hb18; have B18 := below_box (w := w) (by have hszw := (B17).size; repeat (with_reducible first | refine Below.setCell ?_ (by first | omega | (simp <;> omega)) _ | refine Below.alloc ?_ (by first | omega | (simp <;> omega)) _ | refine Below.drew ?_ | refine below_drewN ?_ _ | exact B17)) hb18; clear hb18 hf18)
        | fail)
  | fail "region"
  go_wp2_with fail
  refine (HW _ (hT.below (by have hszw := (B20).size; repeat (with_reducible first | refine Below.setCell ?_ (by first | omega | (simp <;> omega)) _ | refine Below.alloc ?_ (by first | omega | (simp <;> omega)) _ | refine Below.drew ?_ | refine below_drewN ?_ _ | exact B20)))).out.mono ?_
  rintro e w21 ⟨rfl, hb21⟩
  have Vr21 : DyV w21 zr (dbad dr) (decide (dman dr < 0)) (.slice ar (nl (dman dr).natAbs) cr) (dexp dr) := (by refine DyV.below ?_ hb21; (repeat (with_reducible first | refine DyV.drew ?_ | refine DyV.drewN ?_ _ | refine DyV.alloc ?_ _)); exact Vr20.out)
  (try clear rc0 rc1 rc2 rc3 rc4)
  obtain ⟨rc0, rc1, rc2, rc3, rc4, rc5⟩ := Vr21
  have Vr21 := Lib.hid (DyV.mk rc0 rc1 rc2 rc3 rc4 rc5)
  have Vz21 : DyV w21 zz (dbad ds) (decide (dman ds < 0)) (.slice az (nl (dman ds).natAbs) cz) (dexp ds) := (by refine DyV.below ?_ hb21; (repeat (with_reducible first | refine DyV.drew ?_ | refine DyV.drewN ?_ _ | refine DyV.alloc ?_ _)); exact Vz20.out)
  (try clear zc0 zc1 zc2 zc3 zc4)
  obtain ⟨zc0, zc1, zc2, zc3, zc4, zc5⟩ := Vz21
  have Vz21 := Lib.hid (DyV.mk zc0 zc1 zc2 zc3 zc4 zc5)
  have Mr21 : Mag w21 ar (nl (dman dr).natAbs) cr (dman dr).natAbs := Mag.below (by repeat (with_reducible first | refine Mag.set ?_ (fun h => by have := Mr20 h; omega) _ _ | refine Mag.drew ?_ | refine Mag.alloc ?_ _ | refine Mag.drewN ?_ _ | refine Mag.below ?_ (Below.drew (Below.refl _ _)) | refine Mag.below ?_ ((Below.refl _ _).alloc (Nat.le_refl _) _) | exact Mr20)) hb21
  have Mz21 : Mag w21 az (nl (dman ds).natAbs) cz (dman ds).natAbs := Mag.below (by repeat (with_reducible first | refine Mag.set ?_ (fun h => by have := Mz20 h; omega) _ _ | refine Mag.drew ?_ | refine Mag.alloc ?_ _ | refine Mag.drewN ?_ _ | refine Mag.below ?_ (Below.drew (Below.refl _ _)) | refine Mag.below ?_ ((Below.refl _ _).alloc (Nat.le_refl _) _) | exact Mz20)) hb21
  have B21 := below_box (w := w) (by have hszw := (B20).size; repeat (with_reducible first | refine Below.setCell ?_ (by first | omega | (simp <;> omega)) _ | refine Below.alloc ?_ (by first | omega | (simp <;> omega)) _ | refine Below.drew ?_ | refine below_drewN ?_ _ | exact B20)) hb21
  clear hb21
  go_wp2_with fail
  go_ret
  exact ⟨rfl, (by have hszw := (B21).size; repeat (with_reducible first | refine Below.setCell ?_ (by first | omega | (simp <;> omega)) _ | refine Below.alloc ?_ (by first | omega | (simp <;> omega)) _ | refine Below.drew ?_ | refine below_drewN ?_ _ | exact B21))⟩

theorem halves_any (w : World) (hT : Tab w) (a b : Nat) (ha : a < 18446744073709551616) (hb : b < 18446744073709551616) :
    Calls Tryd.prog 8 #[.int .u64 a, .int .u64 b] w fun o w' => o = .returned (.bool true) ∧ Below w.heap.size w w' := by
  cases h1 : (fkind (fabs a) != 1) with
  | true => exact halves_1 w hT a b ha hb h1
  | false =>
  cases h2 : (fkind (fabs b) != 1) with
  | true => exact halves_2 w hT a b ha hb h1 h2
  | false =>
  cases hfi : ffin (fdiv (fabs a) (fabs b) 2) with
  | true => exact halves_f w hT a b ha hb h1 h2 hfi
  | false => exact halves_i w hT a b ha hb h1 h2 hfi

end Go.Proofs.YtkpglfloddkclaaDoor


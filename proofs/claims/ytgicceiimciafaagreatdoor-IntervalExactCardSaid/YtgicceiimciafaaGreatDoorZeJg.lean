/-
  Walks: package sparseref05: Valid, of, less, Subset, Contains; sparselaw05.within.
-/
import Derived.Test.YtgicceiimciafaaGreatDoorZeJA
import Derived.Test.YtgicceiimciafaaGreatDoorZeS3
import Derived.Test.YtgicceiimciafaaGreatDoorZeRV
import Derived.Test.YtgicceiimciafaaGreatDoorZeIP
import Derived.Test.YtgicceiimciafaaGreatDoorZeCs
set_option maxRecDepth 100000
set_option maxHeartbeats 8000000
namespace Go.Proofs.YtgicceiimciafaaGreatDoor
open Go.RowKit Sp
set_option linter.unusedSimpArgs false
attribute [local irreducible] Calls
theorem r5valid_any (w : World) (a b : Nat) (ha : a < 18446744073709551616) (hb : b < 18446744073709551616) : Calls Tryz.prog 14 #[.agg #[.int .u64 (a : Nat), .int .u64 (b : Nat)]] w fun e w' => e = .returned (.bool (iok (a, b))) ∧ Below w.heap.size w w' := by
 have H1 := fun W => Lib.hid (r3cmp_any W a b ha hb)
 have e1 := beq_nat a fInf 9218868437227405312 (by decide)
 have e2 := beq_nat b fNInf 18442240474082181120 (by decide)
 have hv : iok (a, b) = (fcmpok a b && decide (fcmpv a b ≤ 0) && !(((a : Nat) : Int) == 9218868437227405312) && !(((b : Nat) : Int) == 18442240474082181120)) := by
  rw [e1, e2]; unfold iok; simp only [ne_eq, decide_not]
 rw [hv]
 clear hv e1 e2
 generalize fcmpv a b = c at *
 generalize fcmpok a b = k at *
 generalize ((a : Nat) : Int) = p at *
 generalize ((b : Nat) : Int) = q at *
 rcases two_ways k with rfl | rfl <;> rcases two_ways (decide (c ≤ 0)) with hc | hc <;> rcases two_ways (p == 9218868437227405312) with hp | hp
 all_goals (
  rw [hc, hp]
  simp only [decide_eq_true_eq, decide_eq_false_iff_not, beq_iff_eq, beq_eq_false_iff_ne, ne_eq] at hc hp
  (try subst hp)
  go_enter Tryz.func14, Tryz.ntmps14
  go_wp2_with fail
  refine (H1 _).out.mono ?_
  rintro e w1 ⟨rfl, rfl⟩
  go_wp2_with fail
  go_ret
  first | exact ⟨rfl, zbh⟩ | (refine ⟨?_, zbh⟩; simp [bne, hp]; done) | (refine ⟨?_, zbh⟩; simp [bne]; done))
theorem rof_any (w : World) [ht : Tb w] (a : Nat) (ha : a < 18446744073709551616) : Calls Tryz.prog 60 #[.int .u64 (a : Nat)] w fun e w' => ∃ A C, e = .returned (.agg #[.int .i64 (nin a), .bool (dbad (nof a)), .bool (decide (dman (nof a) < 0)), .slice A (nl (dman (nof a)).natAbs) C, .int .i64 (dexp (nof a))]) ∧ DS w' (dbad (nof a)) (decide (dman (nof a) < 0)) A (nl (dman (nof a)).natAbs) C (dexp (nof a)) (nof a) ∧ From w w' := by
 by_cases h1 : a = fInf
 · skip
   have hv : nin a = 1 ∧ nof a = some (0, 0) := by unfold nin nof; subst h1; exact ⟨by decide, by decide⟩
   rw [hv.1, hv.2]
   clear hv
   subst h1
   show Calls Tryz.prog 60 #[.int .u64 9218868437227405312] w fun e w' => ∃ A C, e = .returned (.agg #[.int .i64 (1), .bool (dbad (some (0, 0))), .bool (decide (dman (some (0, 0)) < 0)), .slice A (nl (dman (some (0, 0))).natAbs) C, .int .i64 (dexp (some (0, 0)))]) ∧ DS w' (dbad (some (0, 0))) (decide (dman (some (0, 0)) < 0)) A (nl (dman (some (0, 0))).natAbs) C (dexp (some (0, 0))) (some (0, 0)) ∧ From w w'
   go_enter Tryz.func60, Tryz.ntmps60
   go_wp2_with fail
   refine bodyPost_ret (v := .agg #[.int .i64 (1), .bool false, .bool false, .slice none 0 0, .int .i64 0]) (by simp only [results, Tryz.results60]; go_simp) rfl ?_
   exact ⟨none, 0, rfl, ⟨dys_of isN_00 (Mag.nil _)⟩, ⟨zbh⟩⟩
 · by_cases h2 : a = fNInf
   · skip
     have hv : nin a = -1 ∧ nof a = some (0, 0) := by unfold nin nof; subst h2; exact ⟨by decide, by decide⟩
     rw [hv.1, hv.2]
     clear hv
     subst h2
     show Calls Tryz.prog 60 #[.int .u64 18442240474082181120] w fun e w' => ∃ A C, e = .returned (.agg #[.int .i64 (-1), .bool (dbad (some (0, 0))), .bool (decide (dman (some (0, 0)) < 0)), .slice A (nl (dman (some (0, 0))).natAbs) C, .int .i64 (dexp (some (0, 0)))]) ∧ DS w' (dbad (some (0, 0))) (decide (dman (some (0, 0)) < 0)) A (nl (dman (some (0, 0))).natAbs) C (dexp (some (0, 0))) (some (0, 0)) ∧ From w w'
     go_enter Tryz.func60, Tryz.ntmps60
     go_wp2_with fail
     refine bodyPost_ret (v := .agg #[.int .i64 (-1), .bool false, .bool false, .slice none 0 0, .int .i64 0]) (by simp only [results, Tryz.results60]; go_simp) rfl ?_
     exact ⟨none, 0, rfl, ⟨dys_of isN_00 (Mag.nil _)⟩, ⟨zbh⟩⟩
   · have hv : nin a = 0 ∧ nof a = fof a := by unfold nin nof; rw [if_neg h1, if_neg h2, if_neg h1, if_neg h2]; exact ⟨rfl, rfl⟩
     rw [hv.1, hv.2]
     clear hv
     have n1 : ¬ ((a : Nat) : Int) = 9218868437227405312 := fun h => h1 (by unfold fInf; omega)
     have n2 : ¬ ((a : Nat) : Int) = 18442240474082181120 := fun h => h2 (by unfold fNInf; omega)
     have HA := fun W [Tb W] => Lib.hid (r3of_any W a ha tb)
     have hN := isN_fof a
     clear h1 h2
     generalize fof a = d at *
     generalize ((a : Nat) : Int) = p at *
     go_enter Tryz.func60, Tryz.ntmps60
     go_wp2_with fail
     refine (HA _).out.mono ?_
     rintro e w1 ⟨a1, c1, rfl, m1, hb, hf⟩
     have b1 := From.mk hb
     have hne : 0 < nl (dman d).natAbs → ab a1 ≠ w.heap.size := fun h => by have := hf h; simp at this; omega
     clear hb hf
     go_wp2_with fail
     refine bodyPost_ret (v := .agg #[.int .i64 0, .bool (dbad d), .bool (decide (dman d < 0)), .slice a1 (nl (dman d).natAbs) c1, .int .i64 (dexp d)]) (by simp only [results, Tryz.results60]; go_simp) rfl ?_
     exact ⟨a1, c1, rfl, ⟨dys_of hN (((((m1.set hne 0 _).set hne 1 _).set hne 2 _).set hne 3 _).set hne 4 _)⟩, ⟨zbh⟩⟩
theorem rless_any (w : World) [ht : Tb w] (i j : Int) (v s v' s' : Bool) (A A' : Option Addr) (n n' c c' : Nat) (e e' : Int) (d d' : Option (Int × Int)) [h1 : DS w v s A n c e d] [h2 : DS w v' s' A' n' c' e' d'] :
 Calls Tryz.prog 113 #[.agg #[.int .i64 i, .bool v, .bool s, .slice A n c, .int .i64 e], .agg #[.int .i64 j, .bool v', .bool s', .slice A' n' c', .int .i64 e']] w fun o w' => o = .returned (.bool (nless i d j d')) ∧ Below w.heap.size w w' := by
 have HC := fun W [i1 : DS W v s A n c e d] [i2 : DS W v' s' A' n' c' e' d'] [Tb W] => Lib.hid (frm (rdcmp_any W v s v' s' A A' n n' c c' e e' d d' i1.out i2.out tb))
 rcases two_ways (i == 0) with hi | hi <;> rcases two_ways (j == 0) with hj | hj
 · have hi := eq_of_beq hi; subst hi
   have hj := eq_of_beq hj; subst hj
   have hv : nless 0 d 0 d' = decide (dcmp d d' < 0) := by unfold nless; rfl
   rw [hv]
   clear hv
   generalize dcmp d d' = u at *
   generalize (!dbad d && !dbad d') = u' at *
   go_enter Tryz.func113, Tryz.ntmps113
   go_wp2_with fail
   refine (HC _).out.mono ?_
   rintro e w1 ⟨rfl, b1⟩
   go_wp2_with fail
   go_ret
   exact ⟨rfl, zbh⟩
 · have hi := eq_of_beq hi; subst hi
   have hv : nless 0 d j d' = decide (0 < j) := by unfold nless; rw [if_pos (by simp [bne, hj])]
   rw [hv]
   clear hv
   have gj : (j != 0) = true := by simp [bne, hj]
   go_enter Tryz.func113, Tryz.ntmps113
   go_wp2_with fail
   go_ret
   exact ⟨rfl, zbh⟩
 · skip
   have hj := eq_of_beq hj; subst hj
   have hv : nless i d 0 d' = decide (i < 0) := by unfold nless; rw [if_pos (by simp [bne, hi])]
   rw [hv]
   clear hv
   have gi : (i != 0) = true := by simp [bne, hi]
   go_enter Tryz.func113, Tryz.ntmps113
   go_wp2_with fail
   go_ret
   exact ⟨rfl, zbh⟩
 · skip
   have hv : nless i d j d' = decide (i < j) := by unfold nless; rw [if_pos (by simp [bne, hi, hj])]
   rw [hv]
   clear hv
   have gi : (i != 0) = true := by simp [bne, hi]
   have gj : (j != 0) = true := by simp [bne, hj]
   go_enter Tryz.func113, Tryz.ntmps113
   go_wp2_with fail
   go_ret
   exact ⟨rfl, zbh⟩
section
variable {P : Program} {md : Region.Mode} {ops : Array Oper} {Q : Exit → Act → World → Prop} {S : World → Prop} {fuel : Nat} {listed : Array Bool} {a : Act} {w : World}
end
end Go.Proofs.YtgicceiimciafaaGreatDoor

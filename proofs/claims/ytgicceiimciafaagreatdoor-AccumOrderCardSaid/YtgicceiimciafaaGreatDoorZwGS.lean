/-
  Walks: package float: Mul, Div.
  Walks: package float: Add, Sub.
-/
import Derived.Test.YtgicceiimciafaaGreatDoorZwGQ
import Derived.Test.YtgicceiimciafaaGreatDoorZwBg
import Derived.Test.YtgicceiimciafaaGreatDoorZwCL
set_option maxRecDepth 100000
set_option maxHeartbeats 20000000
namespace Go.Proofs.YtgicceiimciafaaGreatDoor
open Go.RowKit Sp
attribute [local irreducible] Calls
end Go.Proofs.YtgicceiimciafaaGreatDoor
namespace Go.Proofs.YtgicceiimciafaaGreatDoor
open Go.RowKit Sp
attribute [local irreducible] Calls
theorem ne_both (a b : Nat) : (((a : Int) != (b : Int)) = true ∧ ((a : Int) == (b : Int)) = false ∧ a ≠ b) ∨ (((a : Int) != (b : Int)) = false ∧ ((a : Int) == (b : Int)) = true ∧ a = b) := by
 by_cases h : a = b
 · right; subst h; simp
 · left; refine ⟨by rw [bne_iff_ne]; omega, by rw [beq_eq_false_iff_ne]; omega, h⟩
theorem cmpq0 {z : Int} (h : z = 0) : (cmpI z 0 == 0) = true ∧ (cmpI z 0 != 0) = false := by subst h; exact ⟨rfl, rfl⟩
theorem cmpq1 {z : Int} (h : z ≠ 0) : (cmpI z 0 == 0) = false ∧ (cmpI z 0 != 0) = true := by
 rw [beq_eq_false_iff_ne, bne_iff_ne]; unfold cmpI; split <;> (try split) <;> omega
theorem wadd_spec (w : World) (a b : Nat) (_ha : a < 18446744073709551616) (_hb : b < 18446744073709551616) (mode : Int) (V : Nat) (h : ((fnan a || fnan b) = true ∧ V = (9221120237041090560 : Nat)) ∨ ((fnan a || fnan b) = false ∧ finf a = true ∧ finf b = true ∧ ((a : Int) != (b : Int)) = true ∧ V = (9221120237041090560 : Nat)) ∨ ((fnan a || fnan b) = false ∧ finf a = true ∧ finf b = true ∧ ((a : Int) != (b : Int)) = false ∧ V = (a : Nat)) ∨ ((fnan a || fnan b) = false ∧ finf a = true ∧ finf b = false ∧ V = (a : Nat)) ∨ ((fnan a || fnan b) = false ∧ finf a = false ∧ finf b = true ∧ V = (b : Nat)) ∨ ((fnan a || fnan b) = false ∧ finf a = false ∧ finf b = false ∧ fzero a = true ∧ ((a : Int) == (b : Int)) = true ∧ V = (a : Nat))) :
 Calls Tryz.prog 57 #[.int .u64 a, .int .u64 b, .int .i64 mode] w fun o w' => o = .returned (.int .u64 (V : Nat)) ∧ Below w.heap.size w w' := by
 have HN := fun W g h0 h1 => Lib.hid (nan2 W g a b h0 h1)
 have HIa := fun W => Lib.hid (finf_any W a)
 have HIb := fun W => Lib.hid (finf_any W b)
 have HZa := fun W => Lib.hid (fzero_any W a)
 have HZb := fun W => Lib.hid (fzero_any W b)
 rcases h with ⟨n1, hV⟩ | ⟨n1, i1, i2, e1, hV⟩ | ⟨n1, i1, i2, e1, hV⟩ | ⟨n1, i1, i2, hV⟩ | ⟨n1, i1, i2, hV⟩ | ⟨n1, i1, i2, z1, e1, hV⟩
 all_goals (try rw [n1] at HN)
 all_goals (try rw [i1] at HIa)
 all_goals (try rw [z1] at HZa)
 all_goals (try rw [i2] at HIb)
 all_goals (try rw [z2] at HZb)
 all_goals (
  rw [hV]
  clear hV
  go_enter Tryz.func57, Tryz.ntmps57
  go_wp2_with (first
  | (go_at_call 97; refine (HN _ _ (by go_simp) (by go_simp)).out.mono ?_; rintro e w1 ⟨rfl, rfl⟩)
  | (go_at_call 101; (first | refine (HIa _).out.mono ?_ | refine (HIb _).out.mono ?_); rintro e w1 ⟨rfl, rfl⟩)
  | (go_at_call 102; (first | refine (HZa _).out.mono ?_ | refine (HZb _).out.mono ?_); rintro e w1 ⟨rfl, rfl⟩))
  go_ret
  exact ⟨rfl, zbh⟩)
theorem wadd_main (w : World) (a b : Nat) (ha : a < 18446744073709551616) (hb : b < 18446744073709551616) (mode : Int) (hT : Tab w) (n1 : (fnan a || fnan b) = false) (i1 : finf a = false) (i2 : finf b = false) (h : fzero a = false ∨ fzero a = true ∧ ((a : Int) == (b : Int)) = false) :
 Calls Tryz.prog 57 #[.int .u64 a, .int .u64 b, .int .i64 mode] w fun o w' => o = .returned (.int .u64 ((if dman (dadd (fof a) (fof b)) = 0 then fnothing mode else fround (dadd (fof a) (fof b)) mode : Nat) : Int)) ∧ Below w.heap.size w w' := by
 have HT : Tb w := ⟨hT⟩
 have HN := fun W g h0 h1 => Lib.hid (nan2 W g a b h0 h1)
 have HIa := fun W => Lib.hid (finf_any W a)
 have HIb := fun W => Lib.hid (finf_any W b)
 have HZa := fun W => Lib.hid (fzero_any W a)
 have HZb := fun W => Lib.hid (fzero_any W b)
 rw [n1] at HN
 rw [i1] at HIa
 rw [i2] at HIb
 have HOa := fun W [Tb W] => Lib.hid (frd (isN_fof a) (fof_any W a ha tb))
 have HOb := fun W [Tb W] => Lib.hid (frd (isN_fof b) (fof_any W b hb tb))
 have HD := fun W b1 q1 b2 q2 [i : DI W (dbad (fof a)) (decide (dman (fof a) < 0)) b1 (nl (dman (fof a)).natAbs) q1 (dexp (fof a)) (fof a)] [j : DI W (dbad (fof b)) (decide (dman (fof b) < 0)) b2 (nl (dman (fof b)).natAbs) q2 (dexp (fof b)) (fof b)] [Tb W] => Lib.hid (frd (isN_add (fof a) (fof b)) (dadd_any W _ _ _ _ _ _ _ _ _ _ _ _ _ _ i.out j.out tb))
 generalize dadd (fof a) (fof b) = du at *
 generalize fof a = da at *
 generalize fof b = db at *
 have HS := fun W b1 q1 [i : DI W (dbad (du)) (decide (dman (du) < 0)) b1 (nl (dman (du)).natAbs) q1 (dexp (du)) (du)] [Tb W] => Lib.hid (frm (dsign_any W _ _ _ _ _ _ _ i.out tb))
 have HR := fun W b1 q1 [i : DI W (dbad (du)) (decide (dman (du) < 0)) b1 (nl (dman (du)).natAbs) q1 (dexp (du)) (du)] [Tb W] => Lib.hid (frm (fround_any W _ _ _ _ _ _ mode _ i.out tb))
 have HE := fun W => Lib.hid (fnothing_any W mode)
 by_cases hs0 : dman du = 0
 all_goals (
  first | rw [if_pos hs0] | rw [if_neg hs0]
  first | have hq := cmpq0 hs0 | have hq := cmpq1 hs0
  obtain ⟨hg, -⟩ := hq
  generalize cmpI (dman du) 0 = g at *
  generalize ((fround du mode : Nat) : Int) = V at *
  clear hs0
  rcases h with z1 | ⟨z1, e1⟩
  all_goals (
   rw [z1] at HZa
   go_enter Tryz.func57, Tryz.ntmps57
   go_wp2_with (first
    | (go_at_call 97; refine (HN _ _ (by go_simp) (by go_simp)).out.mono ?_; rintro e w1 ⟨rfl, rfl⟩)
    | (go_at_call 101; (first | refine (HIa _).out.mono ?_ | refine (HIb _).out.mono ?_); rintro e w1 ⟨rfl, rfl⟩)
    | (go_at_call 102; (first | refine (HZa _).out.mono ?_ | refine (HZb _).out.mono ?_); rintro e w1 ⟨rfl, rfl⟩))
   refine (HOa _).out.mono ?_
   rintro o w1 ⟨a1, c1, rfl, i1, b1⟩
   haveI T1 : Tb w1 := ⟨hT.below zbh⟩
   go_wp2_with fail
   refine (HOb _).out.mono ?_
   rintro o w2 ⟨a2, c2, rfl, i2, b2⟩
   haveI T2 : Tb w2 := ⟨hT.below zbh⟩
   go_wp2_with fail
   refine (HD _ _ _ _ _).out.mono ?_
   rintro o w3 ⟨a3, c3, rfl, i3, b3⟩
   haveI T3 : Tb w3 := ⟨hT.below zbh⟩
   go_wp2_with fail
   refine (HS _ _ _).out.mono ?_
   rintro o w4 ⟨rfl, b4⟩
   haveI T4 : Tb w4 := ⟨hT.below zbh⟩
   go_wp2_with fail
   first
   | (refine (HE _).out.mono ?_; rintro o w9 ⟨rfl, rfl⟩; go_wp2_with fail; go_ret; exact ⟨rfl, zbh⟩)
   | (refine (HR _ _ _).out.mono ?_; rintro o w9 ⟨rfl, b9⟩; go_wp2_with fail; go_ret; exact ⟨rfl, zbh⟩)))
theorem wadd_any (w : World) (a b : Nat) (ha : a < 18446744073709551616) (hb : b < 18446744073709551616) (mode : Int) (hT : Tab w) :
 Calls Tryz.prog 57 #[.int .u64 a, .int .u64 b, .int .i64 mode] w fun o w' => o = .returned (.int .u64 (fadd a b mode : Nat)) ∧ Below w.heap.size w w' := by
 have sp := wadd_spec w a b ha hb mode (fadd a b mode)
 cases n1 : (fnan a || fnan b) with
 | true => exact sp (Or.inl ⟨n1, by unfold fadd; rw [n1]; rfl⟩)
 | false =>
 cases i1 : finf a with
 | true =>
  cases i2 : finf b with
  | true =>
   rcases ne_both a b with ⟨h1, h2, h3⟩ | ⟨h1, h2, h3⟩
   · exact sp (Or.inr (Or.inl ⟨n1, i1, i2, h1, by unfold fadd; rw [n1, i1, i2]; simp [h3]; rfl⟩))
   · exact sp (Or.inr (Or.inr (Or.inl ⟨n1, i1, i2, h1, by unfold fadd; rw [n1, i1, i2]; simp [h3]⟩)))
  | false => exact sp (Or.inr (Or.inr (Or.inr (Or.inl ⟨n1, i1, i2, by unfold fadd; rw [n1, i1, i2]; simp⟩))))
 | false =>
 cases i2 : finf b with
 | true => exact sp (Or.inr (Or.inr (Or.inr (Or.inr (Or.inl ⟨n1, i1, i2, by unfold fadd; rw [n1, i1, i2]; simp⟩)))))
 | false =>
 have hu : fadd a b mode = if fzero a && decide (a = b) then a else if dman (dadd (fof a) (fof b)) = 0 then fnothing mode else fround (dadd (fof a) (fof b)) mode := by unfold fadd; rw [n1, i1, i2]; simp
 have mn := wadd_main w a b ha hb mode hT n1 i1 i2
 rcases ne_both a b with ⟨h1, h2, h3⟩ | ⟨h1, h2, h3⟩
 · rw [decide_eq_false h3, Bool.and_false, if_neg (by decide)] at hu
   rw [hu]
   cases z1 : fzero a with
   | true => exact mn (Or.inr ⟨z1, h2⟩)
   | false => exact mn (Or.inl z1)
 · cases z1 : fzero a with
   | true => exact sp (Or.inr (Or.inr (Or.inr (Or.inr (Or.inr (⟨n1, i1, i2, z1, h2, by rw [hu, z1, decide_eq_true h3]; rfl⟩))))))
   | false =>
    rw [z1, Bool.false_and, if_neg (by decide)] at hu
    rw [hu]; exact mn (Or.inl z1)
end Go.Proofs.YtgicceiimciafaaGreatDoor

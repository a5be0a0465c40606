/-
  Walks: the reference's floats: Add, Sub, Mul, Div, FMA, Sqrt.
-/
import Derived.Test.YtakbappmkdaioaaGreatDoorZhS3
import Derived.Test.YtakbappmkdaioaaGreatDoorZhS3g
import Derived.Test.YtakbappmkdaioaaGreatDoorZhCs
import Derived.Test.YtakbappmkdaioaaGreatDoorZhRv
namespace Go.Proofs.YtakbappmkdaioaaGreatDoor
open Go.RowKit Sp

attribute [local irreducible] Calls
theorem ne_two (a b : Nat) : (((a : Int) != (b : Int)) = true ∧ ((a : Int) == (b : Int)) = false ∧ a ≠ b) ∨ (((a : Int) != (b : Int)) = false ∧ ((a : Int) == (b : Int)) = true ∧ a = b) := by
  by_cases h : a = b
  · right; subst h; simp
  · left; refine ⟨by rw [bne_iff_ne]; omega, by rw [beq_eq_false_iff_ne]; omega, h⟩
theorem kinds3 (f : Nat) : (finf f = true ∧ fzero f = false) ∨ (finf f = false ∧ fzero f = true) ∨ (finf f = false ∧ fzero f = false) := by
  unfold finf fzero
  by_cases h1 : fM f = 9218868437227405312
  · left; rw [h1]; decide
  · by_cases h2 : fM f = 0
    · right; left; rw [h2]; decide
    · right; right; simp [h1, h2]
set_option maxRecDepth 100000 in
set_option maxHeartbeats 20000000 in
theorem r3add_spec (w : World) (a b : Nat) (_ha : a < 18446744073709551616) (_hb : b < 18446744073709551616) (mode : Int) (V : Nat) (h : (fnan a = true ∧ V = (9221120237041090560 : Nat)) ∨ (fnan a = false ∧ fnan b = true ∧ V = (9221120237041090560 : Nat)) ∨ (fnan a = false ∧ fnan b = false ∧ finf a = true ∧ finf b = true ∧ ((a : Int) != (b : Int)) = true ∧ V = (9221120237041090560 : Nat)) ∨ (fnan a = false ∧ fnan b = false ∧ finf a = true ∧ finf b = true ∧ ((a : Int) != (b : Int)) = false ∧ V = (a : Nat)) ∨ (fnan a = false ∧ fnan b = false ∧ finf a = true ∧ finf b = false ∧ V = (a : Nat)) ∨ (fnan a = false ∧ fnan b = false ∧ finf a = false ∧ finf b = true ∧ V = (b : Nat)) ∨ (fnan a = false ∧ fnan b = false ∧ finf a = false ∧ finf b = false ∧ fzero a = true ∧ ((a : Int) == (b : Int)) = true ∧ V = (a : Nat))) :
    Calls Tryz.prog 71 #[.int .u64 a, .int .u64 b, .int .i64 mode] w fun o w' => o = .returned (.int .u64 (V : Nat)) ∧ Below w.heap.size w w' := by
  have HNa := fun W => Lib.hid (rnan_any W a)
  have HNb := fun W => Lib.hid (rnan_any W b)
  have HIa := fun W => Lib.hid (rinf_any W a)
  have HIb := fun W => Lib.hid (rinf_any W b)
  have HZa := fun W => Lib.hid (rzero_any W a)
  have HZb := fun W => Lib.hid (rzero_any W b)
  rcases h with ⟨n1, hV⟩ | ⟨n1, n2, hV⟩ | ⟨n1, n2, i1, i2, e1, hV⟩ | ⟨n1, n2, i1, i2, e1, hV⟩ | ⟨n1, n2, i1, i2, hV⟩ | ⟨n1, n2, i1, i2, hV⟩ | ⟨n1, n2, i1, i2, z1, e1, hV⟩
  all_goals (try rw [n1] at HNa)
  all_goals (try rw [i1] at HIa)
  all_goals (try rw [z1] at HZa)
  all_goals (try rw [n2] at HNb)
  all_goals (try rw [i2] at HIb)
  all_goals (try rw [z2] at HZb)
  all_goals (
    rw [hV]
    clear hV
    go_enter Tryz.func71, Tryz.ntmps71
    go_wp2_with (first
    | (go_at_call 164; (first | refine (HNa _).out.mono ?_ | refine (HNb _).out.mono ?_); rintro e w1 ⟨rfl, rfl⟩)
    | (go_at_call 180; (first | refine (HIa _).out.mono ?_ | refine (HIb _).out.mono ?_); rintro e w1 ⟨rfl, rfl⟩)
    | (go_at_call 175; (first | refine (HZa _).out.mono ?_ | refine (HZb _).out.mono ?_); rintro e w1 ⟨rfl, rfl⟩)
    | (go_at_call 173; fail; rintro e w1 ⟨rfl, rfl⟩)
    | (go_at_call 184; (first | refine (HNa _).out.mono ?_ | refine (HNa _).out.mono ?_); rintro e w1 ⟨rfl, rfl⟩))
    go_ret
    exact ⟨rfl, Below.refl _ _⟩)

set_option maxRecDepth 100000 in
set_option maxHeartbeats 20000000 in
theorem r3add_main (w : World) (a b : Nat) (ha : a < 18446744073709551616) (hb : b < 18446744073709551616) (mode : Int) (hT : Tab w) (n1 : fnan a = false) (i1 : finf a = false) (n2 : fnan b = false) (i2 : finf b = false) (h : fzero a = false ∨ fzero a = true ∧ ((a : Int) == (b : Int)) = false) :
    Calls Tryz.prog 71 #[.int .u64 a, .int .u64 b, .int .i64 mode] w fun o w' => o = .returned (.int .u64 ((if dman (dadd (fof a) (fof b)) = 0 then fnothing mode else fround (dadd (fof a) (fof b)) mode : Nat) : Int)) ∧ Below w.heap.size w w' := by
  have HT : Tb w := ⟨hT⟩
  have HNa := fun W => Lib.hid (rnan_any W a)
  have HNb := fun W => Lib.hid (rnan_any W b)
  have HIa := fun W => Lib.hid (rinf_any W a)
  have HIb := fun W => Lib.hid (rinf_any W b)
  have HZa := fun W => Lib.hid (rzero_any W a)
  have HZb := fun W => Lib.hid (rzero_any W b)
  rw [n1] at HNa; rw [i1] at HIa
  rw [n2] at HNb; rw [i2] at HIb
  have HOa := fun W [Tb W] => Lib.hid (frs (isN_fof a) (r3of_any W a ha tb))
  have HOb := fun W [Tb W] => Lib.hid (frs (isN_fof b) (r3of_any W b hb tb))
  have HD := fun W b1 q1 b2 q2 [i : DS W (dbad (fof a)) (decide (dman (fof a) < 0)) b1 (nl (dman (fof a)).natAbs) q1 (dexp (fof a)) (fof a)] [j : DS W (dbad (fof b)) (decide (dman (fof b) < 0)) b2 (nl (dman (fof b)).natAbs) q2 (dexp (fof b)) (fof b)] [Tb W] => Lib.hid (frs (isN_add (fof a) (fof b)) (rdadd_any W _ _ _ _ _ _ _ _ _ _ _ _ _ _ i.out j.out tb))
  have Nu := isN_add (fof a) (fof b)
  generalize dadd (fof a) (fof b) = du at *
  generalize fof a = da at *
  generalize fof b = db at *
  have HS := fun W b1 q1 [i : DS W (dbad (du)) (decide (dman (du) < 0)) b1 (nl (dman (du)).natAbs) q1 (dexp (du)) (du)] [Tb W] => Lib.hid (frm (rdsign_any W _ _ _ _ _ _ _ i.out tb))
  have HR := fun W b1 q1 [i : DS W (dbad (du)) (decide (dman (du) < 0)) b1 (nl (dman (du)).natAbs) q1 (dexp (du)) (du)] [Tb W] => Lib.hid (frm (r3round_any W _ _ _ _ _ _ mode _ i.out tb))
  have HE := fun W => Lib.hid (rempty_any W mode)
  by_cases hs0 : dman du = 0
  all_goals (
    first | rw [if_pos hs0] | rw [if_neg hs0]
    first | have hg := sgq0 hs0 | have hg := sgq1 hs0
    generalize sg (dman du) = g at *
    generalize ((fround du mode : Nat) : Int) = V at *
    clear hs0 Nu
    rcases h with z1 | ⟨z1, e1⟩
    all_goals (
      rw [z1] at HZa
      go_enter Tryz.func71, Tryz.ntmps71
      go_wp2_with (first
          | (go_at_call 164; (first | refine (HNa _).out.mono ?_ | refine (HNb _).out.mono ?_); rintro e w1 ⟨rfl, rfl⟩)
          | (go_at_call 180; (first | refine (HIa _).out.mono ?_ | refine (HIb _).out.mono ?_); rintro e w1 ⟨rfl, rfl⟩)
          | (go_at_call 175; (first | refine (HZa _).out.mono ?_ | refine (HZb _).out.mono ?_); rintro e w1 ⟨rfl, rfl⟩)
          | (go_at_call 173; fail; rintro e w1 ⟨rfl, rfl⟩)
          | (go_at_call 184; (first | refine (HNa _).out.mono ?_ | refine (HNa _).out.mono ?_); rintro e w1 ⟨rfl, rfl⟩))
      refine (HOa _).out.mono ?_
      rintro o w1 ⟨a1, c1, rfl, i1, b1⟩
      haveI T1 : Tb w1 := ⟨hT.below zbh⟩
      go_wp2_with fail
      refine (HOb _).out.mono ?_
      rintro o w2 ⟨a2, c2, rfl, i2, b2⟩
      haveI T2 : Tb w2 := ⟨hT.below zbh⟩
      go_wp2_with fail
      refine (HD _ _ _ _ _).out.mono ?_
      rintro o w3 ⟨a3, c3, rfl, i3, b3⟩
      haveI T3 : Tb w3 := ⟨hT.below zbh⟩
      go_wp2_with fail
      refine (HS _ _ _).out.mono ?_
      rintro o w4 ⟨rfl, b4⟩
      haveI T4 : Tb w4 := ⟨hT.below zbh⟩
      go_wp2_with fail
      first
      | (refine (HE _).out.mono ?_; rintro o w9 ⟨rfl, rfl⟩; go_wp2_with fail; go_ret; exact ⟨rfl, zbh⟩)
      | (refine (HR _ _ _).out.mono ?_; rintro o w9 ⟨rfl, b9⟩; go_wp2_with fail; go_ret; exact ⟨rfl, zbh⟩)))
theorem r3add_any (w : World) (a b : Nat) (ha : a < 18446744073709551616) (hb : b < 18446744073709551616) (mode : Int) (hT : Tab w) :
    Calls Tryz.prog 71 #[.int .u64 a, .int .u64 b, .int .i64 mode] w fun o w' => o = .returned (.int .u64 (fadd a b mode : Nat)) ∧ Below w.heap.size w w' := by
  have sp := r3add_spec w a b ha hb mode (fadd a b mode)
  cases n1 : fnan a with
  | true => exact sp (Or.inl ⟨n1, by unfold fadd; rw [n1]; rfl⟩)
  | false =>
  cases n2 : fnan b with
  | true => exact sp (Or.inr (Or.inl ⟨n1, n2, by unfold fadd; rw [n1, n2]; rfl⟩))
  | false =>
  cases i1 : finf a with
  | true =>
    cases i2 : finf b with
    | true =>
      rcases ne_two a b with ⟨h1, h2, h3⟩ | ⟨h1, h2, h3⟩
      · exact sp (Or.inr (Or.inr (Or.inl ⟨n1, n2, i1, i2, h1, by unfold fadd; rw [n1, n2, i1, i2]; simp [h3]; rfl⟩)))
      · exact sp (Or.inr (Or.inr (Or.inr (Or.inl ⟨n1, n2, i1, i2, h1, by unfold fadd; rw [n1, n2, i1, i2]; simp [h3]⟩))))
    | false => exact sp (Or.inr (Or.inr (Or.inr (Or.inr (Or.inl ⟨n1, n2, i1, i2, by unfold fadd; rw [n1, n2, i1, i2]; simp⟩)))))
  | false =>
  cases i2 : finf b with
  | true => exact sp (Or.inr (Or.inr (Or.inr (Or.inr (Or.inr (Or.inl ⟨n1, n2, i1, i2, by unfold fadd; rw [n1, n2, i1, i2]; simp⟩))))))
  | false =>
  have hu : fadd a b mode = if fzero a && decide (a = b) then a else if dman (dadd (fof a) (fof b)) = 0 then fnothing mode else fround (dadd (fof a) (fof b)) mode := by unfold fadd; rw [n1, n2, i1, i2]; simp
  have mn := r3add_main w a b ha hb mode hT n1 i1 n2 i2
  rcases ne_two a b with ⟨h1, h2, h3⟩ | ⟨h1, h2, h3⟩
  · rw [decide_eq_false h3, Bool.and_false, if_neg (by decide)] at hu
    rw [hu]
    cases z1 : fzero a with
    | true => exact mn (Or.inr ⟨z1, h2⟩)
    | false => exact mn (Or.inl z1)
  · cases z1 : fzero a with
    | true => exact sp (Or.inr (Or.inr (Or.inr (Or.inr (Or.inr (Or.inr ⟨n1, n2, i1, i2, z1, h2, by rw [hu, z1, decide_eq_true h3]; rfl⟩))))))
    | false =>
      rw [z1, Bool.false_and, if_neg (by decide)] at hu
      rw [hu]; exact mn (Or.inl z1)

set_option maxRecDepth 100000 in
set_option maxHeartbeats 20000000 in
theorem r3sub_any (w : World) (a b : Nat) (ha : a < 18446744073709551616) (hb : b < 18446744073709551616) (mode : Int) (hT : Tab w) :
    Calls Tryz.prog 73 #[.int .u64 a, .int .u64 b, .int .i64 mode] w fun o w' => o = .returned (.int .u64 (fsub a b mode : Nat)) ∧ Below w.heap.size w w' := by
  have HT : Tb w := ⟨hT⟩
  have HN := fun W => Lib.hid (r3neg_any W b hb)
  have HA := fun W [Tb W] => Lib.hid (frm (r3add_any W a (fneg b) ha (fneg_lt b) mode tb))
  show Calls _ _ _ _ fun o w' => o = .returned (.int .u64 (fadd a (fneg b) mode : Nat)) ∧ Below w.heap.size w w'
  generalize ((fadd a (fneg b) mode : Nat) : Int) = V at *
  generalize fneg b = c at *
  go_enter Tryz.func73, Tryz.ntmps73
  go_wp2_with fail
  refine (HN _).out.mono ?_
  rintro o w1 ⟨rfl, rfl⟩
  go_wp2_with fail
  refine (HA _).out.mono ?_
  rintro o w2 ⟨rfl, b2⟩
  go_wp2_with fail
  go_ret
  exact ⟨rfl, zbh⟩

set_option maxRecDepth 100000 in
set_option maxHeartbeats 20000000 in
theorem r3mul_spec (w : World) (a b : Nat) (ha : a < 18446744073709551616) (hb : b < 18446744073709551616) (mode : Int) (V : Nat) (h : (fnan a = true ∧ V = (9221120237041090560 : Nat)) ∨ (fnan a = false ∧ fnan b = true ∧ V = (9221120237041090560 : Nat)) ∨ (fnan a = false ∧ fnan b = false ∧ finf a = true ∧ fzero b = true ∧ V = (9221120237041090560 : Nat)) ∨ (fnan a = false ∧ fnan b = false ∧ finf a = false ∧ fzero a = true ∧ finf b = true ∧ V = (9221120237041090560 : Nat)) ∨ (fnan a = false ∧ fnan b = false ∧ finf a = true ∧ fzero a = false ∧ fzero b = false ∧ V = (fsgn (fS a != fS b) 9218868437227405312 : Nat)) ∨ (fnan a = false ∧ fnan b = false ∧ finf a = false ∧ fzero a = false ∧ finf b = true ∧ V = (fsgn (fS a != fS b) 9218868437227405312 : Nat)) ∨ (fnan a = false ∧ fnan b = false ∧ finf a = false ∧ fzero a = true ∧ finf b = false ∧ V = (fsgn (fS a != fS b) 0 : Nat)) ∨ (fnan a = false ∧ fnan b = false ∧ finf a = false ∧ fzero a = false ∧ finf b = false ∧ fzero b = true ∧ V = (fsgn (fS a != fS b) 0 : Nat))) :
    Calls Tryz.prog 75 #[.int .u64 a, .int .u64 b, .int .i64 mode] w fun o w' => o = .returned (.int .u64 (V : Nat)) ∧ Below w.heap.size w w' := by
  have HNa := fun W => Lib.hid (rnan_any W a)
  have HNb := fun W => Lib.hid (rnan_any W b)
  have HIa := fun W => Lib.hid (rinf_any W a)
  have HIb := fun W => Lib.hid (rinf_any W b)
  have HZa := fun W => Lib.hid (rzero_any W a)
  have HZb := fun W => Lib.hid (rzero_any W b)
  rcases h with ⟨n1, hV⟩ | ⟨n1, n2, hV⟩ | ⟨n1, n2, i1, z2, hV⟩ | ⟨n1, n2, i1, z1, i2, hV⟩ | ⟨n1, n2, i1, z1, z2, hV⟩ | ⟨n1, n2, i1, z1, i2, hV⟩ | ⟨n1, n2, i1, z1, i2, hV⟩ | ⟨n1, n2, i1, z1, i2, z2, hV⟩
  all_goals (
    have HSa := fun W => Lib.hid (rminus_any W a ha)
    have HSb := fun W => Lib.hid (rminus_any W b hb)
    have HG1 := fun W => Lib.hid (rsigned_any W 9218868437227405312 (fS a != fS b) (by decide))
    have HG2 := fun W => Lib.hid (rsigned_any W 0 (fS a != fS b) (by decide))
    generalize fS a = sa at *
    generalize fS b = sb at *)
  all_goals (try rw [n1] at HNa)
  all_goals (try rw [i1] at HIa)
  all_goals (try rw [z1] at HZa)
  all_goals (try rw [n2] at HNb)
  all_goals (try rw [i2] at HIb)
  all_goals (try rw [z2] at HZb)
  all_goals (
    rw [hV]
    clear hV
    go_enter Tryz.func75, Tryz.ntmps75
    go_wp2_with (first
    | (go_at_call 164; (first | refine (HNa _).out.mono ?_ | refine (HNb _).out.mono ?_); rintro e w1 ⟨rfl, rfl⟩)
    | (go_at_call 180; (first | refine (HIa _).out.mono ?_ | refine (HIb _).out.mono ?_); rintro e w1 ⟨rfl, rfl⟩)
    | (go_at_call 175; (first | refine (HZa _).out.mono ?_ | refine (HZb _).out.mono ?_); rintro e w1 ⟨rfl, rfl⟩)
    | (go_at_call 173; (first | refine (HSa _).out.mono ?_ | refine (HSb _).out.mono ?_); rintro e w1 ⟨rfl, rfl⟩)
    | (go_at_call 184; (first | refine (HG1 _).out.mono ?_ | refine (HG2 _).out.mono ?_); rintro e w1 ⟨rfl, rfl⟩))
    go_ret
    exact ⟨rfl, Below.refl _ _⟩)

set_option maxRecDepth 100000 in
set_option maxHeartbeats 20000000 in
theorem r3mul_main (w : World) (a b : Nat) (ha : a < 18446744073709551616) (hb : b < 18446744073709551616) (mode : Int) (hT : Tab w) (n1 : fnan a = false) (i1 : finf a = false) (n2 : fnan b = false) (i2 : finf b = false) (z1 : fzero a = false) (z2 : fzero b = false) :
    Calls Tryz.prog 75 #[.int .u64 a, .int .u64 b, .int .i64 mode] w fun o w' => o = .returned (.int .u64 (fround (dmul (fof a) (fof b)) mode : Nat)) ∧ Below w.heap.size w w' := by
  have HT : Tb w := ⟨hT⟩
  have HNa := fun W => Lib.hid (rnan_any W a)
  have HNb := fun W => Lib.hid (rnan_any W b)
  have HIa := fun W => Lib.hid (rinf_any W a)
  have HIb := fun W => Lib.hid (rinf_any W b)
  have HZa := fun W => Lib.hid (rzero_any W a)
  have HZb := fun W => Lib.hid (rzero_any W b)
  rw [n1] at HNa; rw [i1] at HIa
  rw [n2] at HNb; rw [i2] at HIb
  rw [z1] at HZa
  rw [z2] at HZb
  have HSa := fun W => Lib.hid (rminus_any W a ha)
  have HSb := fun W => Lib.hid (rminus_any W b hb)
  have HG1 := fun W => Lib.hid (rsigned_any W 9218868437227405312 (fS a != fS b) (by decide))
  have HG2 := fun W => Lib.hid (rsigned_any W 0 (fS a != fS b) (by decide))
  generalize fS a = sa at *
  generalize fS b = sb at *
  have HOa := fun W [Tb W] => Lib.hid (frs (isN_fof a) (r3of_any W a ha tb))
  have HOb := fun W [Tb W] => Lib.hid (frs (isN_fof b) (r3of_any W b hb tb))
  have HD := fun W b1 q1 b2 q2 [i : DS W (dbad (fof a)) (decide (dman (fof a) < 0)) b1 (nl (dman (fof a)).natAbs) q1 (dexp (fof a)) (fof a)] [j : DS W (dbad (fof b)) (decide (dman (fof b) < 0)) b2 (nl (dman (fof b)).natAbs) q2 (dexp (fof b)) (fof b)] [Tb W] => Lib.hid (frs (isN_mul (fof a) (fof b)) (rdmul_any W _ _ _ _ _ _ _ _ _ _ _ _ _ _ i.out j.out tb))
  generalize dmul (fof a) (fof b) = du at *
  generalize fof a = da at *
  generalize fof b = db at *
  have HR := fun W b1 q1 [i : DS W (dbad (du)) (decide (dman (du) < 0)) b1 (nl (dman (du)).natAbs) q1 (dexp (du)) (du)] [Tb W] => Lib.hid (frm (r3round_any W _ _ _ _ _ _ mode _ i.out tb))
  generalize ((fround du mode : Nat) : Int) = V at *
  go_enter Tryz.func75, Tryz.ntmps75
  go_wp2_with (first
      | (go_at_call 164; (first | refine (HNa _).out.mono ?_ | refine (HNb _).out.mono ?_); rintro e w1 ⟨rfl, rfl⟩)
      | (go_at_call 180; (first | refine (HIa _).out.mono ?_ | refine (HIb _).out.mono ?_); rintro e w1 ⟨rfl, rfl⟩)
      | (go_at_call 175; (first | refine (HZa _).out.mono ?_ | refine (HZb _).out.mono ?_); rintro e w1 ⟨rfl, rfl⟩)
      | (go_at_call 173; (first | refine (HSa _).out.mono ?_ | refine (HSb _).out.mono ?_); rintro e w1 ⟨rfl, rfl⟩)
      | (go_at_call 184; (first | refine (HG1 _).out.mono ?_ | refine (HG2 _).out.mono ?_); rintro e w1 ⟨rfl, rfl⟩))
  refine (HOa _).out.mono ?_
  rintro o w1 ⟨a1, c1, rfl, i1, b1⟩
  haveI T1 : Tb w1 := ⟨hT.below zbh⟩
  go_wp2_with fail
  refine (HOb _).out.mono ?_
  rintro o w2 ⟨a2, c2, rfl, i2, b2⟩
  haveI T2 : Tb w2 := ⟨hT.below zbh⟩
  go_wp2_with fail
  refine (HD _ _ _ _ _).out.mono ?_
  rintro o w3 ⟨a3, c3, rfl, i3, b3⟩
  haveI T3 : Tb w3 := ⟨hT.below zbh⟩
  go_wp2_with fail
  refine (HR _ _ _).out.mono ?_
  rintro o w4 ⟨rfl, b4⟩
  haveI T4 : Tb w4 := ⟨hT.below zbh⟩
  go_wp2_with fail
  go_ret
  exact ⟨rfl, zbh⟩
theorem r3mul_any (w : World) (a b : Nat) (ha : a < 18446744073709551616) (hb : b < 18446744073709551616) (mode : Int) (hT : Tab w) :
    Calls Tryz.prog 75 #[.int .u64 a, .int .u64 b, .int .i64 mode] w fun o w' => o = .returned (.int .u64 (fmul a b mode : Nat)) ∧ Below w.heap.size w w' := by
  have sp := r3mul_spec w a b ha hb mode (fmul a b mode)
  cases n1 : fnan a with
  | true => exact sp (Or.inl ⟨n1, by unfold fmul; rw [n1]; rfl⟩)
  | false =>
  cases n2 : fnan b with
  | true => exact sp (Or.inr (Or.inl ⟨n1, n2, by unfold fmul; rw [n1, n2]; rfl⟩))
  | false =>
  rcases kinds3 a with ⟨i1, z1⟩ | ⟨i1, z1⟩ | ⟨i1, z1⟩ <;> rcases kinds3 b with ⟨i2, z2⟩ | ⟨i2, z2⟩ | ⟨i2, z2⟩
  · exact sp (Or.inr (Or.inr (Or.inr (Or.inr (Or.inl ⟨n1, n2, i1, z1, z2, by unfold fmul; rw [n1, n2, i1, i2, z1, z2]; rfl⟩)))))
  · exact sp (Or.inr (Or.inr (Or.inl ⟨n1, n2, i1, z2, by unfold fmul; rw [n1, n2, i1, i2, z1, z2]; rfl⟩)))
  · exact sp (Or.inr (Or.inr (Or.inr (Or.inr (Or.inl ⟨n1, n2, i1, z1, z2, by unfold fmul; rw [n1, n2, i1, i2, z1, z2]; rfl⟩)))))
  · exact sp (Or.inr (Or.inr (Or.inr (Or.inl ⟨n1, n2, i1, z1, i2, by unfold fmul; rw [n1, n2, i1, i2, z1, z2]; rfl⟩))))
  · exact sp (Or.inr (Or.inr (Or.inr (Or.inr (Or.inr (Or.inr (Or.inl ⟨n1, n2, i1, z1, i2, by unfold fmul; rw [n1, n2, i1, i2, z1, z2]; rfl⟩)))))))
  · exact sp (Or.inr (Or.inr (Or.inr (Or.inr (Or.inr (Or.inr (Or.inl ⟨n1, n2, i1, z1, i2, by unfold fmul; rw [n1, n2, i1, i2, z1, z2]; rfl⟩)))))))
  · exact sp (Or.inr (Or.inr (Or.inr (Or.inr (Or.inr (Or.inl ⟨n1, n2, i1, z1, i2, by unfold fmul; rw [n1, n2, i1, i2, z1, z2]; rfl⟩))))))
  · exact sp (Or.inr (Or.inr (Or.inr (Or.inr (Or.inr (Or.inr (Or.inr (⟨n1, n2, i1, z1, i2, z2, by unfold fmul; rw [n1, n2, i1, i2, z1, z2]; rfl⟩))))))))
  · rw [show fmul a b mode = fround (dmul (fof a) (fof b)) mode by unfold fmul; rw [n1, n2, i1, i2, z1, z2]; rfl]; exact r3mul_main w a b ha hb mode hT n1 i1 n2 i2 z1 z2
set_option maxRecDepth 100000 in
set_option maxHeartbeats 20000000 in
theorem r3div_spec (w : World) (a b : Nat) (ha : a < 18446744073709551616) (hb : b < 18446744073709551616) (mode : Int) (V : Nat) (h : (fnan a = true ∧ V = (9221120237041090560 : Nat)) ∨ (fnan a = false ∧ fnan b = true ∧ V = (9221120237041090560 : Nat)) ∨ (fnan a = false ∧ fnan b = false ∧ finf a = true ∧ finf b = true ∧ fzero a = false ∧ V = (9221120237041090560 : Nat)) ∨ (fnan a = false ∧ fnan b = false ∧ finf a = false ∧ fzero a = true ∧ fzero b = true ∧ V = (9221120237041090560 : Nat)) ∨ (fnan a = false ∧ fnan b = false ∧ finf a = true ∧ finf b = false ∧ fzero a = false ∧ V = (fsgn (fS a != fS b) 9218868437227405312 : Nat)) ∨ (fnan a = false ∧ fnan b = false ∧ finf a = false ∧ fzero a = false ∧ fzero b = true ∧ V = (fsgn (fS a != fS b) 9218868437227405312 : Nat)) ∨ (fnan a = false ∧ fnan b = false ∧ finf a = false ∧ fzero a = true ∧ fzero b = false ∧ V = (fsgn (fS a != fS b) 0 : Nat)) ∨ (fnan a = false ∧ fnan b = false ∧ finf a = false ∧ fzero a = false ∧ fzero b = false ∧ finf b = true ∧ V = (fsgn (fS a != fS b) 0 : Nat))) :
    Calls Tryz.prog 77 #[.int .u64 a, .int .u64 b, .int .i64 mode] w fun o w' => o = .returned (.int .u64 (V : Nat)) ∧ Below w.heap.size w w' := by
  have HNa := fun W => Lib.hid (rnan_any W a)
  have HNb := fun W => Lib.hid (rnan_any W b)
  have HIa := fun W => Lib.hid (rinf_any W a)
  have HIb := fun W => Lib.hid (rinf_any W b)
  have HZa := fun W => Lib.hid (rzero_any W a)
  have HZb := fun W => Lib.hid (rzero_any W b)
  rcases h with ⟨n1, hV⟩ | ⟨n1, n2, hV⟩ | ⟨n1, n2, i1, i2, z1, hV⟩ | ⟨n1, n2, i1, z1, z2, hV⟩ | ⟨n1, n2, i1, i2, z1, hV⟩ | ⟨n1, n2, i1, z1, z2, hV⟩ | ⟨n1, n2, i1, z1, z2, hV⟩ | ⟨n1, n2, i1, z1, z2, i2, hV⟩
  all_goals (
    have HSa := fun W => Lib.hid (rminus_any W a ha)
    have HSb := fun W => Lib.hid (rminus_any W b hb)
    have HG1 := fun W => Lib.hid (rsigned_any W 9218868437227405312 (fS a != fS b) (by decide))
    have HG2 := fun W => Lib.hid (rsigned_any W 0 (fS a != fS b) (by decide))
    generalize fS a = sa at *
    generalize fS b = sb at *)
  all_goals (try rw [n1] at HNa)
  all_goals (try rw [i1] at HIa)
  all_goals (try rw [z1] at HZa)
  all_goals (try rw [n2] at HNb)
  all_goals (try rw [i2] at HIb)
  all_goals (try rw [z2] at HZb)
  all_goals (
    rw [hV]
    clear hV
    go_enter Tryz.func77, Tryz.ntmps77
    go_wp2_with (first
    | (go_at_call 164; (first | refine (HNa _).out.mono ?_ | refine (HNb _).out.mono ?_); rintro e w1 ⟨rfl, rfl⟩)
    | (go_at_call 180; (first | refine (HIa _).out.mono ?_ | refine (HIb _).out.mono ?_); rintro e w1 ⟨rfl, rfl⟩)
    | (go_at_call 175; (first | refine (HZa _).out.mono ?_ | refine (HZb _).out.mono ?_); rintro e w1 ⟨rfl, rfl⟩)
    | (go_at_call 173; (first | refine (HSa _).out.mono ?_ | refine (HSb _).out.mono ?_); rintro e w1 ⟨rfl, rfl⟩)
    | (go_at_call 184; (first | refine (HG1 _).out.mono ?_ | refine (HG2 _).out.mono ?_); rintro e w1 ⟨rfl, rfl⟩))
    go_ret
    exact ⟨rfl, Below.refl _ _⟩)

set_option maxRecDepth 100000 in
set_option maxHeartbeats 20000000 in
theorem r3div_main (w : World) (a b : Nat) (ha : a < 18446744073709551616) (hb : b < 18446744073709551616) (mode : Int) (hT : Tab w) (n1 : fnan a = false) (i1 : finf a = false) (n2 : fnan b = false) (i2 : finf b = false) (z1 : fzero a = false) (z2 : fzero b = false) :
    Calls Tryz.prog 77 #[.int .u64 a, .int .u64 b, .int .i64 mode] w fun o w' => o = .returned (.int .u64 (fquo (fof a) (fof b) mode : Nat)) ∧ Below w.heap.size w w' := by
  have HT : Tb w := ⟨hT⟩
  have HNa := fun W => Lib.hid (rnan_any W a)
  have HNb := fun W => Lib.hid (rnan_any W b)
  have HIa := fun W => Lib.hid (rinf_any W a)
  have HIb := fun W => Lib.hid (rinf_any W b)
  have HZa := fun W => Lib.hid (rzero_any W a)
  have HZb := fun W => Lib.hid (rzero_any W b)
  rw [n1] at HNa; rw [i1] at HIa
  rw [n2] at HNb; rw [i2] at HIb
  rw [z1] at HZa
  rw [z2] at HZb
  have HSa := fun W => Lib.hid (rminus_any W a ha)
  have HSb := fun W => Lib.hid (rminus_any W b hb)
  have HG1 := fun W => Lib.hid (rsigned_any W 9218868437227405312 (fS a != fS b) (by decide))
  have HG2 := fun W => Lib.hid (rsigned_any W 0 (fS a != fS b) (by decide))
  generalize fS a = sa at *
  generalize fS b = sb at *
  have HOa := fun W [Tb W] => Lib.hid (frs (isN_fof a) (r3of_any W a ha tb))
  have HOb := fun W [Tb W] => Lib.hid (frs (isN_fof b) (r3of_any W b hb tb))
  generalize fof a = da at *
  generalize fof b = db at *
  have HR := fun W b1 q1 b2 q2 [i : DS W (dbad (da)) (decide (dman (da) < 0)) b1 (nl (dman (da)).natAbs) q1 (dexp (da)) (da)] [j : DS W (dbad (db)) (decide (dman (db) < 0)) b2 (nl (dman (db)).natAbs) q2 (dexp (db)) (db)] [Tb W] => Lib.hid (frm (r3quo_any W _ _ _ _ _ _ _ _ _ _ _ _ _ _ mode i.out j.out tb))
  generalize ((fquo da db mode : Nat) : Int) = V at *
  go_enter Tryz.func77, Tryz.ntmps77
  go_wp2_with (first
      | (go_at_call 164; (first | refine (HNa _).out.mono ?_ | refine (HNb _).out.mono ?_); rintro e w1 ⟨rfl, rfl⟩)
      | (go_at_call 180; (first | refine (HIa _).out.mono ?_ | refine (HIb _).out.mono ?_); rintro e w1 ⟨rfl, rfl⟩)
      | (go_at_call 175; (first | refine (HZa _).out.mono ?_ | refine (HZb _).out.mono ?_); rintro e w1 ⟨rfl, rfl⟩)
      | (go_at_call 173; (first | refine (HSa _).out.mono ?_ | refine (HSb _).out.mono ?_); rintro e w1 ⟨rfl, rfl⟩)
      | (go_at_call 184; (first | refine (HG1 _).out.mono ?_ | refine (HG2 _).out.mono ?_); rintro e w1 ⟨rfl, rfl⟩))
  refine (HOa _).out.mono ?_
  rintro o w1 ⟨a1, c1, rfl, i1, b1⟩
  haveI T1 : Tb w1 := ⟨hT.below zbh⟩
  go_wp2_with fail
  refine (HOb _).out.mono ?_
  rintro o w2 ⟨a2, c2, rfl, i2, b2⟩
  haveI T2 : Tb w2 := ⟨hT.below zbh⟩
  go_wp2_with fail
  refine (HR _ _ _ _ _).out.mono ?_
  rintro o w4 ⟨rfl, b4⟩
  haveI T4 : Tb w4 := ⟨hT.below zbh⟩
  go_wp2_with fail
  go_ret
  exact ⟨rfl, zbh⟩
theorem r3div_any (w : World) (a b : Nat) (ha : a < 18446744073709551616) (hb : b < 18446744073709551616) (mode : Int) (hT : Tab w) :
    Calls Tryz.prog 77 #[.int .u64 a, .int .u64 b, .int .i64 mode] w fun o w' => o = .returned (.int .u64 (fdiv a b mode : Nat)) ∧ Below w.heap.size w w' := by
  have sp := r3div_spec w a b ha hb mode (fdiv a b mode)
  cases n1 : fnan a with
  | true => exact sp (Or.inl ⟨n1, by unfold fdiv; rw [n1]; rfl⟩)
  | false =>
  cases n2 : fnan b with
  | true => exact sp (Or.inr (Or.inl ⟨n1, n2, by unfold fdiv; rw [n1, n2]; rfl⟩))
  | false =>
  rcases kinds3 a with ⟨i1, z1⟩ | ⟨i1, z1⟩ | ⟨i1, z1⟩ <;> rcases kinds3 b with ⟨i2, z2⟩ | ⟨i2, z2⟩ | ⟨i2, z2⟩
  · exact sp (Or.inr (Or.inr (Or.inl ⟨n1, n2, i1, i2, z1, by unfold fdiv; rw [n1, n2, i1, i2, z1, z2]; rfl⟩)))
  · exact sp (Or.inr (Or.inr (Or.inr (Or.inr (Or.inl ⟨n1, n2, i1, i2, z1, by unfold fdiv; rw [n1, n2, i1, i2, z1, z2]; rfl⟩)))))
  · exact sp (Or.inr (Or.inr (Or.inr (Or.inr (Or.inl ⟨n1, n2, i1, i2, z1, by unfold fdiv; rw [n1, n2, i1, i2, z1, z2]; rfl⟩)))))
  · exact sp (Or.inr (Or.inr (Or.inr (Or.inr (Or.inr (Or.inr (Or.inl ⟨n1, n2, i1, z1, z2, by unfold fdiv; rw [n1, n2, i1, i2, z1, z2]; rfl⟩)))))))
  · exact sp (Or.inr (Or.inr (Or.inr (Or.inl ⟨n1, n2, i1, z1, z2, by unfold fdiv; rw [n1, n2, i1, i2, z1, z2]; rfl⟩))))
  · exact sp (Or.inr (Or.inr (Or.inr (Or.inr (Or.inr (Or.inr (Or.inl ⟨n1, n2, i1, z1, z2, by unfold fdiv; rw [n1, n2, i1, i2, z1, z2]; rfl⟩)))))))
  · exact sp (Or.inr (Or.inr (Or.inr (Or.inr (Or.inr (Or.inr (Or.inr (⟨n1, n2, i1, z1, z2, i2, by unfold fdiv; rw [n1, n2, i1, i2, z1, z2]; rfl⟩))))))))
  · exact sp (Or.inr (Or.inr (Or.inr (Or.inr (Or.inr (Or.inl ⟨n1, n2, i1, z1, z2, by unfold fdiv; rw [n1, n2, i1, i2, z1, z2]; rfl⟩))))))
  · rw [show fdiv a b mode = fquo (fof a) (fof b) mode by unfold fdiv; rw [n1, n2, i1, i2, z1, z2]; rfl]; exact r3div_main w a b ha hb mode hT n1 i1 n2 i2 z1 z2
set_option maxRecDepth 100000 in
set_option maxHeartbeats 20000000 in
theorem r3fma_spec (w : World) (a b c : Nat) (ha : a < 18446744073709551616) (hb : b < 18446744073709551616) (hc : c < 18446744073709551616) (mode : Int) (V : Nat) (h : (fnan a = true ∧ V = (9221120237041090560 : Nat)) ∨ (fnan a = false ∧ fnan b = true ∧ V = (9221120237041090560 : Nat)) ∨ (fnan a = false ∧ fnan b = false ∧ fnan c = true ∧ V = (9221120237041090560 : Nat)) ∨ (fnan a = false ∧ fnan b = false ∧ fnan c = false ∧ finf a = true ∧ fzero b = true ∧ V = (9221120237041090560 : Nat)) ∨ (fnan a = false ∧ fnan b = false ∧ fnan c = false ∧ finf a = false ∧ fzero a = true ∧ finf b = true ∧ V = (9221120237041090560 : Nat)) ∨ (fnan a = false ∧ fnan b = false ∧ fnan c = false ∧ finf a = true ∧ fzero b = false ∧ fzero a = false ∧ finf c = true ∧ (!(fS c == (!(fS a == fS b)))) = true ∧ V = (9221120237041090560 : Nat)) ∨ (fnan a = false ∧ fnan b = false ∧ fnan c = false ∧ finf a = true ∧ fzero b = false ∧ fzero a = false ∧ finf c = true ∧ (!(fS c == (!(fS a == fS b)))) = false ∧ V = (fsgn (fS a != fS b) 9218868437227405312 : Nat)) ∨ (fnan a = false ∧ fnan b = false ∧ fnan c = false ∧ finf a = true ∧ fzero b = false ∧ fzero a = false ∧ finf c = false ∧ V = (fsgn (fS a != fS b) 9218868437227405312 : Nat)) ∨ (fnan a = false ∧ fnan b = false ∧ fnan c = false ∧ finf a = false ∧ fzero a = false ∧ finf b = true ∧ finf c = true ∧ (!(fS c == (!(fS a == fS b)))) = true ∧ V = (9221120237041090560 : Nat)) ∨ (fnan a = false ∧ fnan b = false ∧ fnan c = false ∧ finf a = false ∧ fzero a = false ∧ finf b = true ∧ finf c = true ∧ (!(fS c == (!(fS a == fS b)))) = false ∧ V = (fsgn (fS a != fS b) 9218868437227405312 : Nat)) ∨ (fnan a = false ∧ fnan b = false ∧ fnan c = false ∧ finf a = false ∧ fzero a = false ∧ finf b = true ∧ finf c = false ∧ V = (fsgn (fS a != fS b) 9218868437227405312 : Nat)) ∨ (fnan a = false ∧ fnan b = false ∧ fnan c = false ∧ finf a = false ∧ finf b = false ∧ fzero a = true ∧ finf c = true ∧ V = (c : Nat)) ∨ (fnan a = false ∧ fnan b = false ∧ fnan c = false ∧ finf a = false ∧ finf b = false ∧ fzero a = false ∧ finf c = true ∧ V = (c : Nat))) :
    Calls Tryz.prog 79 #[.int .u64 a, .int .u64 b, .int .u64 c, .int .i64 mode] w fun o w' => o = .returned (.int .u64 (V : Nat)) ∧ Below w.heap.size w w' := by
  have HNa := fun W => Lib.hid (rnan_any W a)
  have HNb := fun W => Lib.hid (rnan_any W b)
  have HNc := fun W => Lib.hid (rnan_any W c)
  have HIa := fun W => Lib.hid (rinf_any W a)
  have HIb := fun W => Lib.hid (rinf_any W b)
  have HIc := fun W => Lib.hid (rinf_any W c)
  have HZa := fun W => Lib.hid (rzero_any W a)
  have HZb := fun W => Lib.hid (rzero_any W b)
  have HZc := fun W => Lib.hid (rzero_any W c)
  rcases h with ⟨n1, hV⟩ | ⟨n1, n2, hV⟩ | ⟨n1, n2, n3, hV⟩ | ⟨n1, n2, n3, i1, z2, hV⟩ | ⟨n1, n2, n3, i1, z1, i2, hV⟩ | ⟨n1, n2, n3, i1, z2, z1, i3, e1, hV⟩ | ⟨n1, n2, n3, i1, z2, z1, i3, e1, hV⟩ | ⟨n1, n2, n3, i1, z2, z1, i3, hV⟩ | ⟨n1, n2, n3, i1, z1, i2, i3, e1, hV⟩ | ⟨n1, n2, n3, i1, z1, i2, i3, e1, hV⟩ | ⟨n1, n2, n3, i1, z1, i2, i3, hV⟩ | ⟨n1, n2, n3, i1, i2, z1, i3, hV⟩ | ⟨n1, n2, n3, i1, i2, z1, i3, hV⟩
  all_goals (
    have HSa := fun W => Lib.hid (rminus_any W a ha)
    have HSb := fun W => Lib.hid (rminus_any W b hb)
    have HSc := fun W => Lib.hid (rminus_any W c hc)
    have HG1 := fun W => Lib.hid (rsigned_any W 9218868437227405312 (fS a != fS b) (by decide))
    have HG2 := fun W => Lib.hid (rsigned_any W 0 (fS a != fS b) (by decide))
    generalize fS a = sa at *
    generalize fS b = sb at *
    generalize fS c = sc at *)
  all_goals (try rw [n1] at HNa)
  all_goals (try rw [i1] at HIa)
  all_goals (try rw [z1] at HZa)
  all_goals (try rw [n2] at HNb)
  all_goals (try rw [i2] at HIb)
  all_goals (try rw [z2] at HZb)
  all_goals (try rw [n3] at HNc)
  all_goals (try rw [i3] at HIc)
  all_goals (try rw [z3] at HZc)
  all_goals (
    rw [hV]
    clear hV
    go_enter Tryz.func79, Tryz.ntmps79
    go_wp2_with (first
    | (go_at_call 164; (first | refine (HNa _).out.mono ?_ | refine (HNb _).out.mono ?_ | refine (HNc _).out.mono ?_); rintro e w1 ⟨rfl, rfl⟩)
    | (go_at_call 180; (first | refine (HIa _).out.mono ?_ | refine (HIb _).out.mono ?_ | refine (HIc _).out.mono ?_); rintro e w1 ⟨rfl, rfl⟩)
    | (go_at_call 175; (first | refine (HZa _).out.mono ?_ | refine (HZb _).out.mono ?_ | refine (HZc _).out.mono ?_); rintro e w1 ⟨rfl, rfl⟩)
    | (go_at_call 173; (first | refine (HSa _).out.mono ?_ | refine (HSb _).out.mono ?_ | refine (HSc _).out.mono ?_); rintro e w1 ⟨rfl, rfl⟩)
    | (go_at_call 184; (first | refine (HG1 _).out.mono ?_ | refine (HG2 _).out.mono ?_); rintro e w1 ⟨rfl, rfl⟩))
    go_ret
    exact ⟨rfl, Below.refl _ _⟩)

set_option maxRecDepth 100000 in
set_option maxHeartbeats 20000000 in
theorem r3fma_main (w : World) (a b c : Nat) (ha : a < 18446744073709551616) (hb : b < 18446744073709551616) (hc : c < 18446744073709551616) (mode : Int) (hT : Tab w) (n1 : fnan a = false) (i1 : finf a = false) (n2 : fnan b = false) (i2 : finf b = false) (n3 : fnan c = false) (i3 : finf c = false) :
    Calls Tryz.prog 79 #[.int .u64 a, .int .u64 b, .int .u64 c, .int .i64 mode] w fun o w' => o = .returned (.int .u64 ((if dman (dadd (dmul (fof a) (fof b)) (fof c)) ≠ 0 then fround (dadd (dmul (fof a) (fof b)) (fof c)) mode else if fS c = (fS a != fS b) then fsgn (fS a != fS b) 0 else fnothing mode : Nat) : Int)) ∧ Below w.heap.size w w' := by
  have HT : Tb w := ⟨hT⟩
  have HNa := fun W => Lib.hid (rnan_any W a)
  have HNb := fun W => Lib.hid (rnan_any W b)
  have HNc := fun W => Lib.hid (rnan_any W c)
  have HIa := fun W => Lib.hid (rinf_any W a)
  have HIb := fun W => Lib.hid (rinf_any W b)
  have HIc := fun W => Lib.hid (rinf_any W c)
  have HZa := fun W => Lib.hid (rzero_any W a)
  have HZb := fun W => Lib.hid (rzero_any W b)
  have HZc := fun W => Lib.hid (rzero_any W c)
  rw [n1] at HNa; rw [i1] at HIa
  rw [n2] at HNb; rw [i2] at HIb
  rw [n3] at HNc; rw [i3] at HIc
  have HOa := fun W [Tb W] => Lib.hid (frs (isN_fof a) (r3of_any W a ha tb))
  have HOb := fun W [Tb W] => Lib.hid (frs (isN_fof b) (r3of_any W b hb tb))
  have HOc := fun W [Tb W] => Lib.hid (frs (isN_fof c) (r3of_any W c hc tb))
  have HM := fun W b1 q1 b2 q2 [i : DS W (dbad (fof a)) (decide (dman (fof a) < 0)) b1 (nl (dman (fof a)).natAbs) q1 (dexp (fof a)) (fof a)] [j : DS W (dbad (fof b)) (decide (dman (fof b) < 0)) b2 (nl (dman (fof b)).natAbs) q2 (dexp (fof b)) (fof b)] [Tb W] => Lib.hid (frs (isN_mul (fof a) (fof b)) (rdmul_any W _ _ _ _ _ _ _ _ _ _ _ _ _ _ i.out j.out tb))
  have HD := fun W b1 q1 b2 q2 [i : DS W (dbad (dmul (fof a) (fof b))) (decide (dman (dmul (fof a) (fof b)) < 0)) b1 (nl (dman (dmul (fof a) (fof b))).natAbs) q1 (dexp (dmul (fof a) (fof b))) (dmul (fof a) (fof b))] [j : DS W (dbad (fof c)) (decide (dman (fof c) < 0)) b2 (nl (dman (fof c)).natAbs) q2 (dexp (fof c)) (fof c)] [Tb W] => Lib.hid (frs (isN_add (dmul (fof a) (fof b)) (fof c)) (rdadd_any W _ _ _ _ _ _ _ _ _ _ _ _ _ _ i.out j.out tb))
  generalize dadd (dmul (fof a) (fof b)) (fof c) = du at *
  generalize dmul (fof a) (fof b) = dm at *
  generalize fof a = da at *
  generalize fof b = db at *
  generalize fof c = dc at *
  have HSG := fun W b1 q1 [i : DS W (dbad (du)) (decide (dman (du) < 0)) b1 (nl (dman (du)).natAbs) q1 (dexp (du)) (du)] [Tb W] => Lib.hid (frm (rdsign_any W _ _ _ _ _ _ _ i.out tb))
  have HR := fun W b1 q1 [i : DS W (dbad (du)) (decide (dman (du) < 0)) b1 (nl (dman (du)).natAbs) q1 (dexp (du)) (du)] [Tb W] => Lib.hid (frm (r3round_any W _ _ _ _ _ _ mode _ i.out tb))
  have HE := fun W => Lib.hid (rempty_any W mode)
  have HSa := fun W => Lib.hid (rminus_any W a ha)
  have HSb := fun W => Lib.hid (rminus_any W b hb)
  have HSc := fun W => Lib.hid (rminus_any W c hc)
  have HG1 := fun W => Lib.hid (rsigned_any W 9218868437227405312 (fS a != fS b) (by decide))
  have HG2 := fun W => Lib.hid (rsigned_any W 0 (fS a != fS b) (by decide))
  generalize fS a = sa at *
  generalize fS b = sb at *
  generalize fS c = sc at *
  have hC : (sc == (!(sa == sb))) = true ∧ sc = (sa != sb) ∨ (sc == (!(sa == sb))) = false ∧ ¬ sc = (sa != sb) := by cases sa <;> cases sb <;> cases sc <;> simp
  by_cases hs0 : dman du = 0
  · have hg := sgq0 hs0
    rw [if_neg (by simpa using hs0)]
    generalize sg (dman du) = g at *
    clear hs0
    rcases hC with ⟨e1, e2⟩ | ⟨e1, e2⟩
    · rw [if_pos e2]
      clear e2
      cases z1 : fzero a
      all_goals (
        rw [z1] at HZa
        go_enter Tryz.func79, Tryz.ntmps79
        go_wp2_with (first
            | (go_at_call 164; (first | refine (HNa _).out.mono ?_ | refine (HNb _).out.mono ?_ | refine (HNc _).out.mono ?_); rintro e w1 ⟨rfl, rfl⟩)
            | (go_at_call 180; (first | refine (HIa _).out.mono ?_ | refine (HIb _).out.mono ?_ | refine (HIc _).out.mono ?_); rintro e w1 ⟨rfl, rfl⟩)
            | (go_at_call 175; (first | refine (HZa _).out.mono ?_ | refine (HZb _).out.mono ?_ | refine (HZc _).out.mono ?_); rintro e w1 ⟨rfl, rfl⟩)
            | (go_at_call 173; (first | refine (HSa _).out.mono ?_ | refine (HSb _).out.mono ?_ | refine (HSc _).out.mono ?_); rintro e w1 ⟨rfl, rfl⟩)
            | (go_at_call 184; (first | refine (HG1 _).out.mono ?_ | refine (HG2 _).out.mono ?_); rintro e w1 ⟨rfl, rfl⟩))
        refine (HOa _).out.mono ?_
        rintro o w1 ⟨a1, c1, rfl, i1, b1⟩
        haveI T1 : Tb w1 := ⟨hT.below zbh⟩
        go_wp2_with fail
        refine (HOb _).out.mono ?_
        rintro o w2 ⟨a2, c2, rfl, i2, b2⟩
        haveI T2 : Tb w2 := ⟨hT.below zbh⟩
        go_wp2_with fail
        refine (HM _ _ _ _ _).out.mono ?_
        rintro o w3 ⟨a3, c3, rfl, i3, b3⟩
        haveI T3 : Tb w3 := ⟨hT.below zbh⟩
        go_wp2_with fail
        refine (HOc _).out.mono ?_
        rintro o w4 ⟨a4, c4, rfl, i4, b4⟩
        haveI T4 : Tb w4 := ⟨hT.below zbh⟩
        go_wp2_with fail
        refine (HD _ _ _ _ _).out.mono ?_
        rintro o w5 ⟨a5, c5, rfl, i5, b5⟩
        haveI T5 : Tb w5 := ⟨hT.below zbh⟩
        go_wp2_with fail
        refine (HSG _ _ _).out.mono ?_
        rintro o w6 ⟨rfl, b6⟩
        haveI T6 : Tb w6 := ⟨hT.below zbh⟩
        go_wp2_with fail
        refine (HSc _).out.mono ?_; rintro o w9 ⟨rfl, rfl⟩; go_wp2_with fail
        refine (HG2 _).out.mono ?_; rintro o w9 ⟨rfl, rfl⟩; go_wp2_with fail
        go_ret
        exact ⟨rfl, zbh⟩)
    · rw [if_neg e2]
      clear e2
      cases z1 : fzero a
      all_goals (
        rw [z1] at HZa
        go_enter Tryz.func79, Tryz.ntmps79
        go_wp2_with (first
            | (go_at_call 164; (first | refine (HNa _).out.mono ?_ | refine (HNb _).out.mono ?_ | refine (HNc _).out.mono ?_); rintro e w1 ⟨rfl, rfl⟩)
            | (go_at_call 180; (first | refine (HIa _).out.mono ?_ | refine (HIb _).out.mono ?_ | refine (HIc _).out.mono ?_); rintro e w1 ⟨rfl, rfl⟩)
            | (go_at_call 175; (first | refine (HZa _).out.mono ?_ | refine (HZb _).out.mono ?_ | refine (HZc _).out.mono ?_); rintro e w1 ⟨rfl, rfl⟩)
            | (go_at_call 173; (first | refine (HSa _).out.mono ?_ | refine (HSb _).out.mono ?_ | refine (HSc _).out.mono ?_); rintro e w1 ⟨rfl, rfl⟩)
            | (go_at_call 184; (first | refine (HG1 _).out.mono ?_ | refine (HG2 _).out.mono ?_); rintro e w1 ⟨rfl, rfl⟩))
        refine (HOa _).out.mono ?_
        rintro o w1 ⟨a1, c1, rfl, i1, b1⟩
        haveI T1 : Tb w1 := ⟨hT.below zbh⟩
        go_wp2_with fail
        refine (HOb _).out.mono ?_
        rintro o w2 ⟨a2, c2, rfl, i2, b2⟩
        haveI T2 : Tb w2 := ⟨hT.below zbh⟩
        go_wp2_with fail
        refine (HM _ _ _ _ _).out.mono ?_
        rintro o w3 ⟨a3, c3, rfl, i3, b3⟩
        haveI T3 : Tb w3 := ⟨hT.below zbh⟩
        go_wp2_with fail
        refine (HOc _).out.mono ?_
        rintro o w4 ⟨a4, c4, rfl, i4, b4⟩
        haveI T4 : Tb w4 := ⟨hT.below zbh⟩
        go_wp2_with fail
        refine (HD _ _ _ _ _).out.mono ?_
        rintro o w5 ⟨a5, c5, rfl, i5, b5⟩
        haveI T5 : Tb w5 := ⟨hT.below zbh⟩
        go_wp2_with fail
        refine (HSG _ _ _).out.mono ?_
        rintro o w6 ⟨rfl, b6⟩
        haveI T6 : Tb w6 := ⟨hT.below zbh⟩
        go_wp2_with fail
        refine (HSc _).out.mono ?_; rintro o w9 ⟨rfl, rfl⟩; go_wp2_with fail
        refine (HE _).out.mono ?_; rintro o w9 ⟨rfl, rfl⟩; go_wp2_with fail
        go_ret
        exact ⟨rfl, zbh⟩)
  · have hg := sgq1 hs0
    rw [if_pos (by simpa using hs0)]
    generalize sg (dman du) = g at *
    generalize ((fround du mode : Nat) : Int) = V at *
    clear hs0 hC
    cases z1 : fzero a
    all_goals (
      rw [z1] at HZa
      go_enter Tryz.func79, Tryz.ntmps79
      go_wp2_with (first
          | (go_at_call 164; (first | refine (HNa _).out.mono ?_ | refine (HNb _).out.mono ?_ | refine (HNc _).out.mono ?_); rintro e w1 ⟨rfl, rfl⟩)
          | (go_at_call 180; (first | refine (HIa _).out.mono ?_ | refine (HIb _).out.mono ?_ | refine (HIc _).out.mono ?_); rintro e w1 ⟨rfl, rfl⟩)
          | (go_at_call 175; (first | refine (HZa _).out.mono ?_ | refine (HZb _).out.mono ?_ | refine (HZc _).out.mono ?_); rintro e w1 ⟨rfl, rfl⟩)
          | (go_at_call 173; (first | refine (HSa _).out.mono ?_ | refine (HSb _).out.mono ?_ | refine (HSc _).out.mono ?_); rintro e w1 ⟨rfl, rfl⟩)
          | (go_at_call 184; (first | refine (HG1 _).out.mono ?_ | refine (HG2 _).out.mono ?_); rintro e w1 ⟨rfl, rfl⟩))
      refine (HOa _).out.mono ?_
      rintro o w1 ⟨a1, c1, rfl, i1, b1⟩
      haveI T1 : Tb w1 := ⟨hT.below zbh⟩
      go_wp2_with fail
      refine (HOb _).out.mono ?_
      rintro o w2 ⟨a2, c2, rfl, i2, b2⟩
      haveI T2 : Tb w2 := ⟨hT.below zbh⟩
      go_wp2_with fail
      refine (HM _ _ _ _ _).out.mono ?_
      rintro o w3 ⟨a3, c3, rfl, i3, b3⟩
      haveI T3 : Tb w3 := ⟨hT.below zbh⟩
      go_wp2_with fail
      refine (HOc _).out.mono ?_
      rintro o w4 ⟨a4, c4, rfl, i4, b4⟩
      haveI T4 : Tb w4 := ⟨hT.below zbh⟩
      go_wp2_with fail
      refine (HD _ _ _ _ _).out.mono ?_
      rintro o w5 ⟨a5, c5, rfl, i5, b5⟩
      haveI T5 : Tb w5 := ⟨hT.below zbh⟩
      go_wp2_with fail
      refine (HSG _ _ _).out.mono ?_
      rintro o w6 ⟨rfl, b6⟩
      haveI T6 : Tb w6 := ⟨hT.below zbh⟩
      go_wp2_with fail
      refine (HR _ _ _).out.mono ?_
      rintro o w9 ⟨rfl, b9⟩
      go_wp2_with fail
      go_ret
      exact ⟨rfl, zbh⟩)
theorem r3fma_any (w : World) (a b c : Nat) (ha : a < 18446744073709551616) (hb : b < 18446744073709551616) (hc : c < 18446744073709551616) (mode : Int) (hT : Tab w) :
    Calls Tryz.prog 79 #[.int .u64 a, .int .u64 b, .int .u64 c, .int .i64 mode] w fun o w' => o = .returned (.int .u64 (ffma a b c mode : Nat)) ∧ Below w.heap.size w w' := by
  have sp := r3fma_spec w a b c ha hb hc mode (ffma a b c mode)
  cases n1 : fnan a with
  | true => exact sp (Or.inl ⟨n1, by unfold ffma; rw [n1]; rfl⟩)
  | false =>
  cases n2 : fnan b with
  | true => exact sp (Or.inr (Or.inl ⟨n1, n2, by unfold ffma; rw [n1, n2]; rfl⟩))
  | false =>
  cases n3 : fnan c with
  | true => exact sp (Or.inr (Or.inr (Or.inl ⟨n1, n2, n3, by unfold ffma; rw [n1, n2, n3]; rfl⟩)))
  | false =>
  have en : ∀ s, (!(fS c == (!(fS a == fS b)))) = s → (fS c != (fS a != fS b)) = s := fun _ h => h
  rcases kinds3 a with ⟨i1, z1⟩ | ⟨i1, z1⟩ | ⟨i1, z1⟩ <;> rcases kinds3 b with ⟨i2, z2⟩ | ⟨i2, z2⟩ | ⟨i2, z2⟩
  · cases i3 : finf c with
    | true =>
      cases e1 : (!(fS c == (!(fS a == fS b)))) with
      | true => exact sp (Or.inr (Or.inr (Or.inr (Or.inr (Or.inr (Or.inl ⟨n1, n2, n3, i1, z2, z1, i3, e1, by unfold ffma; rw [n1, n2, n3, i1, i2, z1, z2, i3, en _ e1]; rfl⟩))))))
      | false => exact sp (Or.inr (Or.inr (Or.inr (Or.inr (Or.inr (Or.inr (Or.inl ⟨n1, n2, n3, i1, z2, z1, i3, e1, by unfold ffma; rw [n1, n2, n3, i1, i2, z1, z2, i3, en _ e1]; rfl⟩)))))))
    | false => exact sp (Or.inr (Or.inr (Or.inr (Or.inr (Or.inr (Or.inr (Or.inr (Or.inl ⟨n1, n2, n3, i1, z2, z1, i3, by unfold ffma; rw [n1, n2, n3, i1, i2, z1, z2, i3]; rfl⟩))))))))
  · exact sp (Or.inr (Or.inr (Or.inr (Or.inl ⟨n1, n2, n3, i1, z2, by unfold ffma; rw [n1, n2, n3, i1, i2, z1, z2]; rfl⟩))))
  · cases i3 : finf c with
    | true =>
      cases e1 : (!(fS c == (!(fS a == fS b)))) with
      | true => exact sp (Or.inr (Or.inr (Or.inr (Or.inr (Or.inr (Or.inl ⟨n1, n2, n3, i1, z2, z1, i3, e1, by unfold ffma; rw [n1, n2, n3, i1, i2, z1, z2, i3, en _ e1]; rfl⟩))))))
      | false => exact sp (Or.inr (Or.inr (Or.inr (Or.inr (Or.inr (Or.inr (Or.inl ⟨n1, n2, n3, i1, z2, z1, i3, e1, by unfold ffma; rw [n1, n2, n3, i1, i2, z1, z2, i3, en _ e1]; rfl⟩)))))))
    | false => exact sp (Or.inr (Or.inr (Or.inr (Or.inr (Or.inr (Or.inr (Or.inr (Or.inl ⟨n1, n2, n3, i1, z2, z1, i3, by unfold ffma; rw [n1, n2, n3, i1, i2, z1, z2, i3]; rfl⟩))))))))
  · exact sp (Or.inr (Or.inr (Or.inr (Or.inr (Or.inl ⟨n1, n2, n3, i1, z1, i2, by unfold ffma; rw [n1, n2, n3, i1, i2, z1, z2]; rfl⟩)))))
  · cases i3 : finf c with
    | true => exact sp (Or.inr (Or.inr (Or.inr (Or.inr (Or.inr (Or.inr (Or.inr (Or.inr (Or.inr (Or.inr (Or.inr (Or.inl ⟨n1, n2, n3, i1, i2, z1, i3, by unfold ffma; rw [n1, n2, n3, i1, i2, z1, z2, i3]; rfl⟩))))))))))))
    | false =>
      have h := r3fma_main w a b c ha hb hc mode hT n1 i1 n2 i2 n3 i3
      rw [show ffma a b c mode = if dman (dadd (dmul (fof a) (fof b)) (fof c)) ≠ 0 then fround (dadd (dmul (fof a) (fof b)) (fof c)) mode else if fS c = (fS a != fS b) then fsgn (fS a != fS b) 0 else fnothing mode by unfold ffma; rw [n1, n2, n3, i1, i2, z1, z2, i3]; rfl]
      exact h
  · cases i3 : finf c with
    | true => exact sp (Or.inr (Or.inr (Or.inr (Or.inr (Or.inr (Or.inr (Or.inr (Or.inr (Or.inr (Or.inr (Or.inr (Or.inl ⟨n1, n2, n3, i1, i2, z1, i3, by unfold ffma; rw [n1, n2, n3, i1, i2, z1, z2, i3]; rfl⟩))))))))))))
    | false =>
      have h := r3fma_main w a b c ha hb hc mode hT n1 i1 n2 i2 n3 i3
      rw [show ffma a b c mode = if dman (dadd (dmul (fof a) (fof b)) (fof c)) ≠ 0 then fround (dadd (dmul (fof a) (fof b)) (fof c)) mode else if fS c = (fS a != fS b) then fsgn (fS a != fS b) 0 else fnothing mode by unfold ffma; rw [n1, n2, n3, i1, i2, z1, z2, i3]; rfl]
      exact h
  · cases i3 : finf c with
    | true =>
      cases e1 : (!(fS c == (!(fS a == fS b)))) with
      | true => exact sp (Or.inr (Or.inr (Or.inr (Or.inr (Or.inr (Or.inr (Or.inr (Or.inr (Or.inl ⟨n1, n2, n3, i1, z1, i2, i3, e1, by unfold ffma; rw [n1, n2, n3, i1, i2, z1, z2, i3, en _ e1]; rfl⟩)))))))))
      | false => exact sp (Or.inr (Or.inr (Or.inr (Or.inr (Or.inr (Or.inr (Or.inr (Or.inr (Or.inr (Or.inl ⟨n1, n2, n3, i1, z1, i2, i3, e1, by unfold ffma; rw [n1, n2, n3, i1, i2, z1, z2, i3, en _ e1]; rfl⟩))))))))))
    | false => exact sp (Or.inr (Or.inr (Or.inr (Or.inr (Or.inr (Or.inr (Or.inr (Or.inr (Or.inr (Or.inr (Or.inl ⟨n1, n2, n3, i1, z1, i2, i3, by unfold ffma; rw [n1, n2, n3, i1, i2, z1, z2, i3]; rfl⟩)))))))))))
  · cases i3 : finf c with
    | true => exact sp (Or.inr (Or.inr (Or.inr (Or.inr (Or.inr (Or.inr (Or.inr (Or.inr (Or.inr (Or.inr (Or.inr (Or.inr (⟨n1, n2, n3, i1, i2, z1, i3, by unfold ffma; rw [n1, n2, n3, i1, i2, z1, z2, i3]; rfl⟩)))))))))))))
    | false =>
      have h := r3fma_main w a b c ha hb hc mode hT n1 i1 n2 i2 n3 i3
      rw [show ffma a b c mode = if dman (dadd (dmul (fof a) (fof b)) (fof c)) ≠ 0 then fround (dadd (dmul (fof a) (fof b)) (fof c)) mode else if fS c = (fS a != fS b) then fsgn (fS a != fS b) 0 else fnothing mode by unfold ffma; rw [n1, n2, n3, i1, i2, z1, z2, i3]; rfl]
      exact h
  · cases i3 : finf c with
    | true => exact sp (Or.inr (Or.inr (Or.inr (Or.inr (Or.inr (Or.inr (Or.inr (Or.inr (Or.inr (Or.inr (Or.inr (Or.inr (⟨n1, n2, n3, i1, i2, z1, i3, by unfold ffma; rw [n1, n2, n3, i1, i2, z1, z2, i3]; rfl⟩)))))))))))))
    | false =>
      have h := r3fma_main w a b c ha hb hc mode hT n1 i1 n2 i2 n3 i3
      rw [show ffma a b c mode = if dman (dadd (dmul (fof a) (fof b)) (fof c)) ≠ 0 then fround (dadd (dmul (fof a) (fof b)) (fof c)) mode else if fS c = (fS a != fS b) then fsgn (fS a != fS b) 0 else fnothing mode by unfold ffma; rw [n1, n2, n3, i1, i2, z1, z2, i3]; rfl]
      exact h
set_option maxRecDepth 100000 in
set_option maxHeartbeats 20000000 in
theorem r3sqrt_spec (w : World) (a : Nat) (ha : a < 18446744073709551616) (mode : Int) (V : Nat) (h : (fnan a = true ∧ V = (9221120237041090560 : Nat)) ∨ (fnan a = false ∧ fzero a = true ∧ V = (a : Nat)) ∨ (fnan a = false ∧ fzero a = false ∧ ((a : Int) == 9218868437227405312) = true ∧ V = (a : Nat)) ∨ (fnan a = false ∧ fzero a = false ∧ ((a : Int) == 9218868437227405312) = false ∧ fS a = true ∧ V = (9221120237041090560 : Nat))) :
    Calls Tryz.prog 81 #[.int .u64 a, .int .i64 mode] w fun o w' => o = .returned (.int .u64 (V : Nat)) ∧ Below w.heap.size w w' := by
  have HNa := fun W => Lib.hid (rnan_any W a)
  have HZa := fun W => Lib.hid (rzero_any W a)
  have HSa := fun W => Lib.hid (rminus_any W a ha)
  rcases h with ⟨n1, hV⟩ | ⟨n1, z1, hV⟩ | ⟨n1, z1, e1, hV⟩ | ⟨n1, z1, e1, e2, hV⟩
  all_goals (try rw [n1] at HNa)
  all_goals (try rw [z1] at HZa)
  all_goals (try rw [e2] at HSa)
  all_goals (
    rw [hV]
    clear hV
    go_enter Tryz.func81, Tryz.ntmps81
    go_wp2_with (first | (go_at_call 164; refine (HNa _).out.mono ?_; rintro e w1 ⟨rfl, rfl⟩) | (go_at_call 175; refine (HZa _).out.mono ?_; rintro e w1 ⟨rfl, rfl⟩) | (go_at_call 173; refine (HSa _).out.mono ?_; rintro e w1 ⟨rfl, rfl⟩))
    go_ret
    exact ⟨rfl, Below.refl _ _⟩)
theorem r3sqrt_any (w : World) (a : Nat) (ha : a < 18446744073709551616) (mode : Int) (hT : Tab w) :
    Calls Tryz.prog 81 #[.int .u64 a, .int .i64 mode] w fun o w' => o = .returned (.int .u64 (fsqrt a mode : Nat)) ∧ Below w.heap.size w w' := by
  have sp := r3sqrt_spec w a ha mode (fsqrt a mode)
  cases n1 : fnan a with
  | true => exact sp (Or.inl ⟨n1, by unfold fsqrt; rw [n1]; rfl⟩)
  | false =>
  cases z1 : fzero a with
  | true => exact sp (Or.inr (Or.inl ⟨n1, z1, by unfold fsqrt; rw [n1, z1]; rfl⟩))
  | false =>
  by_cases m : a = fInf
  · exact sp (Or.inr (Or.inr (Or.inl ⟨n1, z1, by rw [m]; rfl, by unfold fsqrt; rw [n1, z1, decide_eq_true m]; rfl⟩)))
  · have e1 : ((a : Int) == 9218868437227405312) = false := by rw [beq_eq_false_iff_ne]; intro h; exact m (by unfold fInf; omega)
    cases e2 : fS a with
    | true => exact sp (Or.inr (Or.inr (Or.inr ⟨n1, z1, e1, e2, by unfold fsqrt; rw [n1, z1, decide_eq_false m, e2]; rfl⟩)))
    | false =>
      have HT : Tb w := ⟨hT⟩
      rw [show fsqrt a mode = froot (fof a) mode by unfold fsqrt; rw [n1, z1, decide_eq_false m, e2]; rfl]
      have HNa := fun W => Lib.hid (rnan_any W a)
      have HZa := fun W => Lib.hid (rzero_any W a)
      have HSa := fun W => Lib.hid (rminus_any W a ha)
      have HOa := fun W [Tb W] => Lib.hid (frs (isN_fof a) (r3of_any W a ha tb))
      rw [n1] at HNa; rw [z1] at HZa; rw [e2] at HSa
      generalize fof a = da at *
      have HR := fun W b1 q1 [i : DS W (dbad (da)) (decide (dman (da) < 0)) b1 (nl (dman (da)).natAbs) q1 (dexp (da)) (da)] [Tb W] => Lib.hid (frm (r3root_any W _ _ _ _ _ _ _ mode i.out tb))
      generalize ((froot da mode : Nat) : Int) = V at *
      clear sp m n1 z1 e2
      go_enter Tryz.func81, Tryz.ntmps81
      go_wp2_with (first | (go_at_call 164; refine (HNa _).out.mono ?_; rintro e w1 ⟨rfl, rfl⟩) | (go_at_call 175; refine (HZa _).out.mono ?_; rintro e w1 ⟨rfl, rfl⟩) | (go_at_call 173; refine (HSa _).out.mono ?_; rintro e w1 ⟨rfl, rfl⟩))
      refine (HOa _).out.mono ?_
      rintro o w1 ⟨a1, c1, rfl, i1, b1⟩
      haveI T1 : Tb w1 := ⟨hT.below zbh⟩
      go_wp2_with fail
      refine (HR _ _ _).out.mono ?_
      rintro o w2 ⟨rfl, b2⟩
      haveI T2 : Tb w2 := ⟨hT.below zbh⟩
      go_wp2_with fail
      go_ret
      exact ⟨rfl, zbh⟩

end Go.Proofs.YtakbappmkdaioaaGreatDoor


/-
  Walks: package float: FMA, Sqrt.
  Walks: the law FloatExact.
-/
import Derived.Test.YtakbappmkdaioaaGreatDoorZhGm
import Derived.Test.YtakbappmkdaioaaGreatDoorZhGu
import Derived.Test.YtakbappmkdaioaaGreatDoorZhGs
import Derived.Test.YtakbappmkdaioaaGreatDoorZhCl
import Derived.Test.YtakbappmkdaioaaGreatDoorZhGw
import Derived.Test.YtakbappmkdaioaaGreatDoorZhRm
import Derived.Test.YtakbappmkdaioaaGreatDoorZhBg
import Derived.Test.YtakbappmkdaioaaGreatDoorZhBL
import Derived.Test.YtakbappmkdaioaaGreatDoorZhS3f
namespace Go.Proofs.YtakbappmkdaioaaGreatDoor
open Go.RowKit Sp

attribute [local irreducible] Calls
theorem nan3 (w : World) (g a b c : Nat) (h0 : w.cell? ⟨g, 0, none⟩ = some (.int .u64 a)) (h1 : w.cell? ⟨g, 1, none⟩ = some (.int .u64 b)) (h2 : w.cell? ⟨g, 2, none⟩ = some (.int .u64 c)) :
    Calls Tryz.prog 162 #[.slice (some ⟨g, 0, none⟩) 3 3] w fun e w' => e = .returned (.bool (fnan a || fnan b || fnan c)) ∧ w = w' := by
  have h := fnan_any w g 3 (fun i => if i = 0 then a else if i = 1 then b else c) (by decide) (fun i hi => by
    rcases (show i = 0 ∨ i = 1 ∨ i = 2 by omega) with rfl | rfl | rfl
    · exact h0
    · exact h1
    · exact h2)
  have e : nanL (fun i => if i = 0 then a else if i = 1 then b else c) 3 = (fnan a || fnan b || fnan c) := by simp [nanL]
  rwa [e] at h
set_option maxRecDepth 100000 in
set_option maxHeartbeats 20000000 in
theorem wfma_spec (w : World) (a b c : Nat) (ha : a < 18446744073709551616) (hb : b < 18446744073709551616) (hc : c < 18446744073709551616) (mode : Int) (V : Nat) (h : ((fnan a || fnan b || fnan c) = true ∧ V = (9221120237041090560 : Nat)) ∨ ((fnan a || fnan b || fnan c) = false ∧ finf a = true ∧ fzero b = true ∧ V = (9221120237041090560 : Nat)) ∨ ((fnan a || fnan b || fnan c) = false ∧ finf a = false ∧ fzero a = true ∧ finf b = true ∧ V = (9221120237041090560 : Nat)) ∨ ((fnan a || fnan b || fnan c) = false ∧ finf a = true ∧ fzero b = false ∧ fzero a = false ∧ finf c = true ∧ (!(fS c == (!(fS a == fS b)))) = true ∧ V = (9221120237041090560 : Nat)) ∨ ((fnan a || fnan b || fnan c) = false ∧ finf a = true ∧ fzero b = false ∧ fzero a = false ∧ finf c = true ∧ (!(fS c == (!(fS a == fS b)))) = false ∧ V = (fsgn (fS a != fS b) 9218868437227405312 : Nat)) ∨ ((fnan a || fnan b || fnan c) = false ∧ finf a = true ∧ fzero b = false ∧ fzero a = false ∧ finf c = false ∧ V = (fsgn (fS a != fS b) 9218868437227405312 : Nat)) ∨ ((fnan a || fnan b || fnan c) = false ∧ finf a = false ∧ fzero a = false ∧ finf b = true ∧ finf c = true ∧ (!(fS c == (!(fS a == fS b)))) = true ∧ V = (9221120237041090560 : Nat)) ∨ ((fnan a || fnan b || fnan c) = false ∧ finf a = false ∧ fzero a = false ∧ finf b = true ∧ finf c = true ∧ (!(fS c == (!(fS a == fS b)))) = false ∧ V = (fsgn (fS a != fS b) 9218868437227405312 : Nat)) ∨ ((fnan a || fnan b || fnan c) = false ∧ finf a = false ∧ fzero a = false ∧ finf b = true ∧ finf c = false ∧ V = (fsgn (fS a != fS b) 9218868437227405312 : Nat)) ∨ ((fnan a || fnan b || fnan c) = false ∧ finf a = false ∧ finf b = false ∧ fzero a = true ∧ finf c = true ∧ V = (c : Nat)) ∨ ((fnan a || fnan b || fnan c) = false ∧ finf a = false ∧ finf b = false ∧ fzero a = false ∧ finf c = true ∧ V = (c : Nat))) :
    Calls Tryz.prog 78 #[.int .u64 a, .int .u64 b, .int .u64 c, .int .i64 mode] w fun o w' => o = .returned (.int .u64 (V : Nat)) ∧ Below w.heap.size w w' := by
  have HN := fun W g h0 h1 h2 => Lib.hid (nan3 W g a b c h0 h1 h2)
  have HIa := fun W => Lib.hid (finf_any W a)
  have HIb := fun W => Lib.hid (finf_any W b)
  have HIc := fun W => Lib.hid (finf_any W c)
  have HZa := fun W => Lib.hid (fzero_any W a)
  have HZb := fun W => Lib.hid (fzero_any W b)
  have HZc := fun W => Lib.hid (fzero_any W c)
  rcases h with ⟨n1, hV⟩ | ⟨n1, i1, z2, hV⟩ | ⟨n1, i1, z1, i2, hV⟩ | ⟨n1, i1, z2, z1, i3, e1, hV⟩ | ⟨n1, i1, z2, z1, i3, e1, hV⟩ | ⟨n1, i1, z2, z1, i3, hV⟩ | ⟨n1, i1, z1, i2, i3, e1, hV⟩ | ⟨n1, i1, z1, i2, i3, e1, hV⟩ | ⟨n1, i1, z1, i2, i3, hV⟩ | ⟨n1, i1, i2, z1, i3, hV⟩ | ⟨n1, i1, i2, z1, i3, hV⟩
  all_goals (
    have HSa := fun W => Lib.hid (fsign_any W a ha)
    have HSb := fun W => Lib.hid (fsign_any W b hb)
    have HSc := fun W => Lib.hid (fsign_any W c hc)
    have HG1 := fun W => Lib.hid (show Calls Tryz.prog 183 #[.int .u64 9218868437227405312, .bool (fS a != fS b)] W fun e w' => e = .returned (.int .u64 (fsgn (fS a != fS b) 9218868437227405312 : Nat)) ∧ W = w' from fsigned_any W 9218868437227405312 (fS a != fS b) (by decide))
    have HG2 := fun W => Lib.hid (show Calls Tryz.prog 183 #[.int .u64 0, .bool (fS a != fS b)] W fun e w' => e = .returned (.int .u64 (fsgn (fS a != fS b) 0 : Nat)) ∧ W = w' from fsigned_any W 0 (fS a != fS b) (by decide))
    generalize fS a = sa at *
    generalize fS b = sb at *
    generalize fS c = sc at *)
  all_goals (try rw [n1] at HN)
  all_goals (try rw [i1] at HIa)
  all_goals (try rw [z1] at HZa)
  all_goals (try rw [i2] at HIb)
  all_goals (try rw [z2] at HZb)
  all_goals (try rw [i3] at HIc)
  all_goals (try rw [z3] at HZc)
  all_goals (
    rw [hV]
    clear hV
    go_enter Tryz.func78, Tryz.ntmps78
    go_wp2_with (first
    | (go_at_call 162; refine (HN _ _ (by go_simp) (by go_simp) (by go_simp)).out.mono ?_; rintro e w1 ⟨rfl, rfl⟩)
    | (go_at_call 177; (first | refine (HIa _).out.mono ?_ | refine (HIb _).out.mono ?_ | refine (HIc _).out.mono ?_); rintro e w1 ⟨rfl, rfl⟩)
    | (go_at_call 174; (first | refine (HZa _).out.mono ?_ | refine (HZb _).out.mono ?_ | refine (HZc _).out.mono ?_); rintro e w1 ⟨rfl, rfl⟩)
    | (go_at_call 170; (first | refine (HSa _).out.mono ?_ | refine (HSb _).out.mono ?_ | refine (HSc _).out.mono ?_); rintro e w1 ⟨rfl, rfl⟩)
    | (go_at_call 183; (first | refine (HG1 _).out.mono ?_ | refine (HG2 _).out.mono ?_); rintro e w1 ⟨rfl, rfl⟩))
    go_ret
    exact ⟨rfl, zbh⟩)

set_option maxRecDepth 100000 in
set_option maxHeartbeats 20000000 in
theorem wfma_main (w : World) (a b c : Nat) (ha : a < 18446744073709551616) (hb : b < 18446744073709551616) (hc : c < 18446744073709551616) (mode : Int) (hT : Tab w) (n1 : (fnan a || fnan b || fnan c) = false) (i1 : finf a = false) (i2 : finf b = false) (i3 : finf c = false) :
    Calls Tryz.prog 78 #[.int .u64 a, .int .u64 b, .int .u64 c, .int .i64 mode] w fun o w' => o = .returned (.int .u64 ((if dman (dadd (dmul (fof a) (fof b)) (fof c)) ≠ 0 then fround (dadd (dmul (fof a) (fof b)) (fof c)) mode else if fS c = (fS a != fS b) then fsgn (fS a != fS b) 0 else fnothing mode : Nat) : Int)) ∧ Below w.heap.size w w' := by
  have HT : Tb w := ⟨hT⟩
  have HN := fun W g h0 h1 h2 => Lib.hid (nan3 W g a b c h0 h1 h2)
  have HIa := fun W => Lib.hid (finf_any W a)
  have HIb := fun W => Lib.hid (finf_any W b)
  have HIc := fun W => Lib.hid (finf_any W c)
  have HZa := fun W => Lib.hid (fzero_any W a)
  have HZb := fun W => Lib.hid (fzero_any W b)
  have HZc := fun W => Lib.hid (fzero_any W c)
  rw [n1] at HN
  rw [i1] at HIa
  rw [i2] at HIb
  rw [i3] at HIc
  have HOa := fun W [Tb W] => Lib.hid (frd (isN_fof a) (fof_any W a ha tb))
  have HOb := fun W [Tb W] => Lib.hid (frd (isN_fof b) (fof_any W b hb tb))
  have HOc := fun W [Tb W] => Lib.hid (frd (isN_fof c) (fof_any W c hc tb))
  have HM := fun W b1 q1 b2 q2 [i : DI W (dbad (fof a)) (decide (dman (fof a) < 0)) b1 (nl (dman (fof a)).natAbs) q1 (dexp (fof a)) (fof a)] [j : DI W (dbad (fof b)) (decide (dman (fof b) < 0)) b2 (nl (dman (fof b)).natAbs) q2 (dexp (fof b)) (fof b)] [Tb W] => Lib.hid (frd (isN_mul (fof a) (fof b)) (dmul_any W _ _ _ _ _ _ _ _ _ _ _ _ _ _ i.out j.out tb))
  have HD := fun W b1 q1 b2 q2 [i : DI W (dbad (dmul (fof a) (fof b))) (decide (dman (dmul (fof a) (fof b)) < 0)) b1 (nl (dman (dmul (fof a) (fof b))).natAbs) q1 (dexp (dmul (fof a) (fof b))) (dmul (fof a) (fof b))] [j : DI W (dbad (fof c)) (decide (dman (fof c) < 0)) b2 (nl (dman (fof c)).natAbs) q2 (dexp (fof c)) (fof c)] [Tb W] => Lib.hid (frd (isN_add (dmul (fof a) (fof b)) (fof c)) (dadd_any W _ _ _ _ _ _ _ _ _ _ _ _ _ _ i.out j.out tb))
  generalize dadd (dmul (fof a) (fof b)) (fof c) = du at *
  generalize dmul (fof a) (fof b) = dm at *
  generalize fof a = da at *
  generalize fof b = db at *
  generalize fof c = dc at *
  have HSG := fun W b1 q1 [i : DI W (dbad (du)) (decide (dman (du) < 0)) b1 (nl (dman (du)).natAbs) q1 (dexp (du)) (du)] [Tb W] => Lib.hid (frm (dsign_any W _ _ _ _ _ _ _ i.out tb))
  have HR := fun W b1 q1 [i : DI W (dbad (du)) (decide (dman (du) < 0)) b1 (nl (dman (du)).natAbs) q1 (dexp (du)) (du)] [Tb W] => Lib.hid (frm (fround_any W _ _ _ _ _ _ mode _ i.out tb))
  have HE := fun W => Lib.hid (fnothing_any W mode)
  have HSa := fun W => Lib.hid (fsign_any W a ha)
  have HSb := fun W => Lib.hid (fsign_any W b hb)
  have HSc := fun W => Lib.hid (fsign_any W c hc)
  have HG1 := fun W => Lib.hid (show Calls Tryz.prog 183 #[.int .u64 9218868437227405312, .bool (fS a != fS b)] W fun e w' => e = .returned (.int .u64 (fsgn (fS a != fS b) 9218868437227405312 : Nat)) ∧ W = w' from fsigned_any W 9218868437227405312 (fS a != fS b) (by decide))
  have HG2 := fun W => Lib.hid (show Calls Tryz.prog 183 #[.int .u64 0, .bool (fS a != fS b)] W fun e w' => e = .returned (.int .u64 (fsgn (fS a != fS b) 0 : Nat)) ∧ W = w' from fsigned_any W 0 (fS a != fS b) (by decide))
  generalize fS a = sa at *
  generalize fS b = sb at *
  generalize fS c = sc at *
  have hC : (sc == (!(sa == sb))) = true ∧ sc = (sa != sb) ∨ (sc == (!(sa == sb))) = false ∧ ¬ sc = (sa != sb) := by cases sa <;> cases sb <;> cases sc <;> simp
  by_cases hs0 : dman du = 0
  · obtain ⟨hg, hg'⟩ := cmpq0 hs0
    rw [if_neg (by simpa using hs0)]
    generalize cmpI (dman du) 0 = g at *
    clear hs0
    rcases hC with ⟨e1, e2⟩ | ⟨e1, e2⟩
    all_goals (
      first | rw [if_pos e2] | rw [if_neg e2]
      clear e2
      cases z1 : fzero a
      all_goals (
        rw [z1] at HZa
        go_enter Tryz.func78, Tryz.ntmps78
        go_wp2_with (first
            | (go_at_call 162; refine (HN _ _ (by go_simp) (by go_simp) (by go_simp)).out.mono ?_; rintro e w1 ⟨rfl, rfl⟩)
            | (go_at_call 177; (first | refine (HIa _).out.mono ?_ | refine (HIb _).out.mono ?_ | refine (HIc _).out.mono ?_); rintro e w1 ⟨rfl, rfl⟩)
            | (go_at_call 174; (first | refine (HZa _).out.mono ?_ | refine (HZb _).out.mono ?_ | refine (HZc _).out.mono ?_); rintro e w1 ⟨rfl, rfl⟩)
            | (go_at_call 170; (first | refine (HSa _).out.mono ?_ | refine (HSb _).out.mono ?_ | refine (HSc _).out.mono ?_); rintro e w1 ⟨rfl, rfl⟩)
            | (go_at_call 183; (first | refine (HG1 _).out.mono ?_ | refine (HG2 _).out.mono ?_); rintro e w1 ⟨rfl, rfl⟩))
        refine (HOa _).out.mono ?_
        rintro o w1 ⟨a1, c1, rfl, i1, b1⟩
        haveI T1 : Tb w1 := ⟨hT.below zbh⟩
        go_wp2_with fail
        refine (HOb _).out.mono ?_
        rintro o w2 ⟨a2, c2, rfl, i2, b2⟩
        haveI T2 : Tb w2 := ⟨hT.below zbh⟩
        go_wp2_with fail
        refine (HM _ _ _ _ _).out.mono ?_
        rintro o w3 ⟨a3, c3, rfl, i3, b3⟩
        haveI T3 : Tb w3 := ⟨hT.below zbh⟩
        go_wp2_with fail
        refine (HOc _).out.mono ?_
        rintro o w4 ⟨a4, c4, rfl, i4, b4⟩
        haveI T4 : Tb w4 := ⟨hT.below zbh⟩
        go_wp2_with fail
        refine (HD _ _ _ _ _).out.mono ?_
        rintro o w5 ⟨a5, c5, rfl, i5, b5⟩
        haveI T5 : Tb w5 := ⟨hT.below zbh⟩
        go_wp2_with fail
        refine (HSG _ _ _).out.mono ?_
        rintro o w6 ⟨rfl, b6⟩
        haveI T6 : Tb w6 := ⟨hT.below zbh⟩
        go_wp2_with fail
        refine (HSc _).out.mono ?_; rintro o w9 ⟨rfl, rfl⟩; go_wp2_with fail
        first | (refine (HG2 _).out.mono ?_) | (refine (HE _).out.mono ?_)
        rintro o w9 ⟨rfl, rfl⟩
        go_wp2_with fail
        go_ret
        exact ⟨rfl, zbh⟩))
  · obtain ⟨hg, hg'⟩ := cmpq1 hs0
    rw [if_pos (by simpa using hs0)]
    generalize cmpI (dman du) 0 = g at *
    generalize ((fround du mode : Nat) : Int) = V at *
    clear hs0 hC
    cases z1 : fzero a
    all_goals (
      rw [z1] at HZa
      go_enter Tryz.func78, Tryz.ntmps78
      go_wp2_with (first
          | (go_at_call 162; refine (HN _ _ (by go_simp) (by go_simp) (by go_simp)).out.mono ?_; rintro e w1 ⟨rfl, rfl⟩)
          | (go_at_call 177; (first | refine (HIa _).out.mono ?_ | refine (HIb _).out.mono ?_ | refine (HIc _).out.mono ?_); rintro e w1 ⟨rfl, rfl⟩)
          | (go_at_call 174; (first | refine (HZa _).out.mono ?_ | refine (HZb _).out.mono ?_ | refine (HZc _).out.mono ?_); rintro e w1 ⟨rfl, rfl⟩)
          | (go_at_call 170; (first | refine (HSa _).out.mono ?_ | refine (HSb _).out.mono ?_ | refine (HSc _).out.mono ?_); rintro e w1 ⟨rfl, rfl⟩)
          | (go_at_call 183; (first | refine (HG1 _).out.mono ?_ | refine (HG2 _).out.mono ?_); rintro e w1 ⟨rfl, rfl⟩))
      refine (HOa _).out.mono ?_
      rintro o w1 ⟨a1, c1, rfl, i1, b1⟩
      haveI T1 : Tb w1 := ⟨hT.below zbh⟩
      go_wp2_with fail
      refine (HOb _).out.mono ?_
      rintro o w2 ⟨a2, c2, rfl, i2, b2⟩
      haveI T2 : Tb w2 := ⟨hT.below zbh⟩
      go_wp2_with fail
      refine (HM _ _ _ _ _).out.mono ?_
      rintro o w3 ⟨a3, c3, rfl, i3, b3⟩
      haveI T3 : Tb w3 := ⟨hT.below zbh⟩
      go_wp2_with fail
      refine (HOc _).out.mono ?_
      rintro o w4 ⟨a4, c4, rfl, i4, b4⟩
      haveI T4 : Tb w4 := ⟨hT.below zbh⟩
      go_wp2_with fail
      refine (HD _ _ _ _ _).out.mono ?_
      rintro o w5 ⟨a5, c5, rfl, i5, b5⟩
      haveI T5 : Tb w5 := ⟨hT.below zbh⟩
      go_wp2_with fail
      refine (HSG _ _ _).out.mono ?_
      rintro o w6 ⟨rfl, b6⟩
      haveI T6 : Tb w6 := ⟨hT.below zbh⟩
      go_wp2_with fail
      refine (HR _ _ _).out.mono ?_
      rintro o w9 ⟨rfl, b9⟩
      haveI T9 : Tb w9 := ⟨hT.below zbh⟩
      go_wp2_with fail
      go_ret
      exact ⟨rfl, zbh⟩)
theorem wfma_any (w : World) (a b c : Nat) (ha : a < 18446744073709551616) (hb : b < 18446744073709551616) (hc : c < 18446744073709551616) (mode : Int) (hT : Tab w) :
    Calls Tryz.prog 78 #[.int .u64 a, .int .u64 b, .int .u64 c, .int .i64 mode] w fun o w' => o = .returned (.int .u64 (ffma a b c mode : Nat)) ∧ Below w.heap.size w w' := by
  have sp := wfma_spec w a b c ha hb hc mode (ffma a b c mode)
  cases n1 : (fnan a || fnan b || fnan c) with
  | true => exact sp (Or.inl ⟨n1, by unfold ffma; rw [n1]; rfl⟩)
  | false =>
  have en : ∀ s, (!(fS c == (!(fS a == fS b)))) = s → (fS c != (fS a != fS b)) = s := fun _ h => h
  rcases kinds a with ⟨i1, z1⟩ | ⟨i1, z1⟩ | ⟨i1, z1⟩ <;> rcases kinds b with ⟨i2, z2⟩ | ⟨i2, z2⟩ | ⟨i2, z2⟩
  · cases i3 : finf c with
    | true =>
      cases e1 : (!(fS c == (!(fS a == fS b)))) with
      | true => exact sp (Or.inr (Or.inr (Or.inr (Or.inl ⟨n1, i1, z2, z1, i3, e1, by unfold ffma; rw [n1, i1, i2, z1, z2, i3, en _ e1]; rfl⟩))))
      | false => exact sp (Or.inr (Or.inr (Or.inr (Or.inr (Or.inl ⟨n1, i1, z2, z1, i3, e1, by unfold ffma; rw [n1, i1, i2, z1, z2, i3, en _ e1]; rfl⟩)))))
    | false => exact sp (Or.inr (Or.inr (Or.inr (Or.inr (Or.inr (Or.inl ⟨n1, i1, z2, z1, i3, by unfold ffma; rw [n1, i1, i2, z1, z2, i3]; rfl⟩))))))
  · exact sp (Or.inr (Or.inl ⟨n1, i1, z2, by unfold ffma; rw [n1, i1, i2, z1, z2]; rfl⟩))
  · cases i3 : finf c with
    | true =>
      cases e1 : (!(fS c == (!(fS a == fS b)))) with
      | true => exact sp (Or.inr (Or.inr (Or.inr (Or.inl ⟨n1, i1, z2, z1, i3, e1, by unfold ffma; rw [n1, i1, i2, z1, z2, i3, en _ e1]; rfl⟩))))
      | false => exact sp (Or.inr (Or.inr (Or.inr (Or.inr (Or.inl ⟨n1, i1, z2, z1, i3, e1, by unfold ffma; rw [n1, i1, i2, z1, z2, i3, en _ e1]; rfl⟩)))))
    | false => exact sp (Or.inr (Or.inr (Or.inr (Or.inr (Or.inr (Or.inl ⟨n1, i1, z2, z1, i3, by unfold ffma; rw [n1, i1, i2, z1, z2, i3]; rfl⟩))))))
  · exact sp (Or.inr (Or.inr (Or.inl ⟨n1, i1, z1, i2, by unfold ffma; rw [n1, i1, i2, z1, z2]; rfl⟩)))
  · cases i3 : finf c with
    | true => exact sp (Or.inr (Or.inr (Or.inr (Or.inr (Or.inr (Or.inr (Or.inr (Or.inr (Or.inr (Or.inl ⟨n1, i1, i2, z1, i3, by unfold ffma; rw [n1, i1, i2, z1, z2, i3]; rfl⟩))))))))))
    | false =>
      have h := wfma_main w a b c ha hb hc mode hT n1 i1 i2 i3
      rw [show ffma a b c mode = if dman (dadd (dmul (fof a) (fof b)) (fof c)) ≠ 0 then fround (dadd (dmul (fof a) (fof b)) (fof c)) mode else if fS c = (fS a != fS b) then fsgn (fS a != fS b) 0 else fnothing mode by unfold ffma; rw [n1, i1, i2, z1, z2, i3]; rfl]
      exact h
  · cases i3 : finf c with
    | true => exact sp (Or.inr (Or.inr (Or.inr (Or.inr (Or.inr (Or.inr (Or.inr (Or.inr (Or.inr (Or.inl ⟨n1, i1, i2, z1, i3, by unfold ffma; rw [n1, i1, i2, z1, z2, i3]; rfl⟩))))))))))
    | false =>
      have h := wfma_main w a b c ha hb hc mode hT n1 i1 i2 i3
      rw [show ffma a b c mode = if dman (dadd (dmul (fof a) (fof b)) (fof c)) ≠ 0 then fround (dadd (dmul (fof a) (fof b)) (fof c)) mode else if fS c = (fS a != fS b) then fsgn (fS a != fS b) 0 else fnothing mode by unfold ffma; rw [n1, i1, i2, z1, z2, i3]; rfl]
      exact h
  · cases i3 : finf c with
    | true =>
      cases e1 : (!(fS c == (!(fS a == fS b)))) with
      | true => exact sp (Or.inr (Or.inr (Or.inr (Or.inr (Or.inr (Or.inr (Or.inl ⟨n1, i1, z1, i2, i3, e1, by unfold ffma; rw [n1, i1, i2, z1, z2, i3, en _ e1]; rfl⟩)))))))
      | false => exact sp (Or.inr (Or.inr (Or.inr (Or.inr (Or.inr (Or.inr (Or.inr (Or.inl ⟨n1, i1, z1, i2, i3, e1, by unfold ffma; rw [n1, i1, i2, z1, z2, i3, en _ e1]; rfl⟩))))))))
    | false => exact sp (Or.inr (Or.inr (Or.inr (Or.inr (Or.inr (Or.inr (Or.inr (Or.inr (Or.inl ⟨n1, i1, z1, i2, i3, by unfold ffma; rw [n1, i1, i2, z1, z2, i3]; rfl⟩)))))))))
  · cases i3 : finf c with
    | true => exact sp (Or.inr (Or.inr (Or.inr (Or.inr (Or.inr (Or.inr (Or.inr (Or.inr (Or.inr (Or.inr (⟨n1, i1, i2, z1, i3, by unfold ffma; rw [n1, i1, i2, z1, z2, i3]; rfl⟩)))))))))))
    | false =>
      have h := wfma_main w a b c ha hb hc mode hT n1 i1 i2 i3
      rw [show ffma a b c mode = if dman (dadd (dmul (fof a) (fof b)) (fof c)) ≠ 0 then fround (dadd (dmul (fof a) (fof b)) (fof c)) mode else if fS c = (fS a != fS b) then fsgn (fS a != fS b) 0 else fnothing mode by unfold ffma; rw [n1, i1, i2, z1, z2, i3]; rfl]
      exact h
  · cases i3 : finf c with
    | true => exact sp (Or.inr (Or.inr (Or.inr (Or.inr (Or.inr (Or.inr (Or.inr (Or.inr (Or.inr (Or.inr (⟨n1, i1, i2, z1, i3, by unfold ffma; rw [n1, i1, i2, z1, z2, i3]; rfl⟩)))))))))))
    | false =>
      have h := wfma_main w a b c ha hb hc mode hT n1 i1 i2 i3
      rw [show ffma a b c mode = if dman (dadd (dmul (fof a) (fof b)) (fof c)) ≠ 0 then fround (dadd (dmul (fof a) (fof b)) (fof c)) mode else if fS c = (fS a != fS b) then fsgn (fS a != fS b) 0 else fnothing mode by unfold ffma; rw [n1, i1, i2, z1, z2, i3]; rfl]
      exact h
set_option maxRecDepth 100000 in
set_option maxHeartbeats 20000000 in
theorem wsqrt_spec (w : World) (a : Nat) (ha : a < 18446744073709551616) (mode : Int) (V : Nat) (h : (fnan a = true ∧ V = (9221120237041090560 : Nat)) ∨ (fnan a = false ∧ fzero a = true ∧ V = (a : Nat)) ∨ (fnan a = false ∧ fzero a = false ∧ ((a : Int) == 9218868437227405312) = true ∧ V = (a : Nat)) ∨ (fnan a = false ∧ fzero a = false ∧ ((a : Int) == 9218868437227405312) = false ∧ fS a = true ∧ V = (9221120237041090560 : Nat))) :
    Calls Tryz.prog 80 #[.int .u64 a, .int .i64 mode] w fun o w' => o = .returned (.int .u64 (V : Nat)) ∧ Below w.heap.size w w' := by
  have HN := fun W g h0 => Lib.hid (nan1 W g a h0)
  have HZa := fun W => Lib.hid (fzero_any W a)
  have HSa := fun W => Lib.hid (fsign_any W a ha)
  rcases h with ⟨n1, hV⟩ | ⟨n1, z1, hV⟩ | ⟨n1, z1, e1, hV⟩ | ⟨n1, z1, e1, e2, hV⟩
  all_goals (try rw [n1] at HN)
  all_goals (try rw [z1] at HZa)
  all_goals (try rw [e2] at HSa)
  all_goals (
    rw [hV]
    clear hV
    go_enter Tryz.func80, Tryz.ntmps80
    go_wp2_with (first | (go_at_call 162; refine (HN _ _ (by go_simp)).out.mono ?_; rintro e w1 ⟨rfl, rfl⟩) | (go_at_call 174; refine (HZa _).out.mono ?_; rintro e w1 ⟨rfl, rfl⟩) | (go_at_call 170; refine (HSa _).out.mono ?_; rintro e w1 ⟨rfl, rfl⟩))
    go_ret
    exact ⟨rfl, zbh⟩)
set_option maxRecDepth 100000 in
set_option maxHeartbeats 20000000 in
theorem wsqrt_any (w : World) (a : Nat) (ha : a < 18446744073709551616) (mode : Int) (hT : Tab w) :
    Calls Tryz.prog 80 #[.int .u64 a, .int .i64 mode] w fun o w' => o = .returned (.int .u64 (fsqrt a mode : Nat)) ∧ Below w.heap.size w w' := by
  have sp := wsqrt_spec w a ha mode (fsqrt a mode)
  cases n1 : fnan a with
  | true => exact sp (Or.inl ⟨n1, by unfold fsqrt; rw [n1]; rfl⟩)
  | false =>
  cases z1 : fzero a with
  | true => exact sp (Or.inr (Or.inl ⟨n1, z1, by unfold fsqrt; rw [n1, z1]; rfl⟩))
  | false =>
  by_cases m : a = fInf
  · exact sp (Or.inr (Or.inr (Or.inl ⟨n1, z1, by rw [m]; rfl, by unfold fsqrt; rw [n1, z1, decide_eq_true m]; rfl⟩)))
  · have e1 : ((a : Int) == 9218868437227405312) = false := by rw [beq_eq_false_iff_ne]; intro h; exact m (by unfold fInf; omega)
    cases e2 : fS a with
    | true => exact sp (Or.inr (Or.inr (Or.inr ⟨n1, z1, e1, e2, by unfold fsqrt; rw [n1, z1, decide_eq_false m, e2]; rfl⟩)))
    | false =>
      have HT : Tb w := ⟨hT⟩
      rw [show fsqrt a mode = froot (fof a) mode by unfold fsqrt; rw [n1, z1, decide_eq_false m, e2]; rfl]
      have HN := fun W g h0 => Lib.hid (nan1 W g a h0)
      have HZa := fun W => Lib.hid (fzero_any W a)
      have HSa := fun W => Lib.hid (fsign_any W a ha)
      have HOa := fun W [Tb W] => Lib.hid (frd (isN_fof a) (fof_any W a ha tb))
      rw [n1] at HN; rw [z1] at HZa; rw [e2] at HSa
      generalize fof a = da at *
      have HR := fun W b1 q1 [i : DI W (dbad (da)) (decide (dman (da) < 0)) b1 (nl (dman (da)).natAbs) q1 (dexp (da)) (da)] [Tb W] => Lib.hid (frm (wroot_any W _ _ _ _ _ _ mode _ i.out tb))
      generalize ((froot da mode : Nat) : Int) = V at *
      clear sp m n1 z1 e2
      go_enter Tryz.func80, Tryz.ntmps80
      go_wp2_with (first | (go_at_call 162; refine (HN _ _ (by go_simp)).out.mono ?_; rintro e w1 ⟨rfl, rfl⟩) | (go_at_call 174; refine (HZa _).out.mono ?_; rintro e w1 ⟨rfl, rfl⟩) | (go_at_call 170; refine (HSa _).out.mono ?_; rintro e w1 ⟨rfl, rfl⟩))
      refine (HOa _).out.mono ?_
      rintro o w1 ⟨a1, c1, rfl, i1, b1⟩
      haveI T1 : Tb w1 := ⟨hT.below zbh⟩
      go_wp2_with fail
      refine (HR _ _ _).out.mono ?_
      rintro o w2 ⟨rfl, b2⟩
      haveI T2 : Tb w2 := ⟨hT.below zbh⟩
      go_wp2_with fail
      go_ret
      exact ⟨rfl, zbh⟩

end Go.Proofs.YtakbappmkdaioaaGreatDoor

namespace Go.Proofs.YtakbappmkdaioaaGreatDoor
open Go.RowKit Sp

attribute [local irreducible] Calls
set_option maxRecDepth 100000 in
set_option maxHeartbeats 40000000 in
theorem exact3_any (w : World) (hT : Tab w) (a b c : Nat) (ha : a < 18446744073709551616) (hb : b < 18446744073709551616) (hc : c < 18446744073709551616) (mode : Int) :
    Calls Tryz.prog 9 #[.int .u64 (a : Nat), .int .u64 (b : Nat), .int .u64 (c : Nat), .int .i64 mode] w fun o w' => o = .returned (.bool true) ∧ Below w.heap.size w w' := by
  have HT : Tb w := ⟨hT⟩
  have H1 := fun W [Tb W] => Lib.hid (frm (wadd_any W a b ha hb mode tb))
  have H2 := fun W [Tb W] => Lib.hid (frm (r3add_any W a b ha hb mode tb))
  have H3 := fun W [Tb W] => Lib.hid (frm (wsub_any W a b ha hb mode tb))
  have H4 := fun W [Tb W] => Lib.hid (frm (r3sub_any W a b ha hb mode tb))
  have H5 := fun W [Tb W] => Lib.hid (frm (wmul_any W a b ha hb mode tb))
  have H6 := fun W [Tb W] => Lib.hid (frm (r3mul_any W a b ha hb mode tb))
  have H7 := fun W [Tb W] => Lib.hid (frm (wdiv_any W a b ha hb mode tb))
  have H8 := fun W [Tb W] => Lib.hid (frm (r3div_any W a b ha hb mode tb))
  have H9 := fun W [Tb W] => Lib.hid (frm (wfma_any W a b c ha hb hc mode tb))
  have H10 := fun W [Tb W] => Lib.hid (frm (r3fma_any W a b c ha hb hc mode tb))
  have H11 := fun W [Tb W] => Lib.hid (frm (wsqrt_any W a ha mode tb))
  have H12 := fun W [Tb W] => Lib.hid (frm (r3sqrt_any W a ha mode tb))
  have H13 := fun W [Tb W] => Lib.hid (frm (awakeF_any W tb))
  generalize ((fadd a b mode : Nat) : Int) = u0 at *
  generalize ((fsub a b mode : Nat) : Int) = u1 at *
  generalize ((fmul a b mode : Nat) : Int) = u2 at *
  generalize ((fdiv a b mode : Nat) : Int) = u3 at *
  generalize ((ffma a b c mode : Nat) : Int) = u4 at *
  generalize ((fsqrt a mode : Nat) : Int) = u5 at *
  generalize ((a : Nat) : Int) = p at *
  generalize ((b : Nat) : Int) = q at *
  generalize ((c : Nat) : Int) = r at *
  clear ha hb hc
  go_enter Tryz.func9, Tryz.ntmps9
  go_wp2_with fail
  repeat (first
    | (refine (H1 _).out.mono ?_; rintro o w1 ⟨rfl, b1⟩; go_wp2_with fail)
    | (refine (H2 _).out.mono ?_; rintro o w1 ⟨rfl, b1⟩; go_wp2_with fail)
    | (refine (H3 _).out.mono ?_; rintro o w1 ⟨rfl, b1⟩; go_wp2_with fail)
    | (refine (H4 _).out.mono ?_; rintro o w1 ⟨rfl, b1⟩; go_wp2_with fail)
    | (refine (H5 _).out.mono ?_; rintro o w1 ⟨rfl, b1⟩; go_wp2_with fail)
    | (refine (H6 _).out.mono ?_; rintro o w1 ⟨rfl, b1⟩; go_wp2_with fail)
    | (refine (H7 _).out.mono ?_; rintro o w1 ⟨rfl, b1⟩; go_wp2_with fail)
    | (refine (H8 _).out.mono ?_; rintro o w1 ⟨rfl, b1⟩; go_wp2_with fail)
    | (refine (H9 _).out.mono ?_; rintro o w1 ⟨rfl, b1⟩; go_wp2_with fail)
    | (refine (H10 _).out.mono ?_; rintro o w1 ⟨rfl, b1⟩; go_wp2_with fail)
    | (refine (H11 _).out.mono ?_; rintro o w1 ⟨rfl, b1⟩; go_wp2_with fail)
    | (refine (H12 _).out.mono ?_; rintro o w1 ⟨rfl, b1⟩; go_wp2_with fail)
    | (refine (H13 _).out.mono ?_; rintro o w1 ⟨rfl, b1⟩; go_wp2_with fail))
  go_ret
  exact ⟨rfl, zbh⟩

end Go.Proofs.YtakbappmkdaioaaGreatDoor


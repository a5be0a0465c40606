/-
  Walks: the reference's floats: Add, Sub, Mul.
-/
import Derived.Test.YtakbappmkdaioaaGreatDoorZcS3
import Derived.Test.YtakbappmkdaioaaGreatDoorZcRv
namespace Go.Proofs.YtakbappmkdaioaaGreatDoor
open Go.RowKit Sp

theorem ne_two (a b : Nat) : (((a : Int) != (b : Int)) = true ∧ ((a : Int) == (b : Int)) = false ∧ a ≠ b) ∨ (((a : Int) != (b : Int)) = false ∧ ((a : Int) == (b : Int)) = true ∧ a = b) := by
  by_cases h : a = b
  · right; subst h; simp
  · left; refine ⟨by rw [bne_iff_ne]; omega, by rw [beq_eq_false_iff_ne]; omega, h⟩
set_option maxRecDepth 100000 in
set_option maxHeartbeats 20000000 in
theorem r3add_spec (w : World) (a b : Nat) (_ha : a < 18446744073709551616) (_hb : b < 18446744073709551616) (mode : Int) (V : Nat) (h : (fnan a = true ∧ V = (9221120237041090560 : Nat)) ∨ (fnan a = false ∧ fnan b = true ∧ V = (9221120237041090560 : Nat)) ∨ (fnan a = false ∧ fnan b = false ∧ finf a = true ∧ finf b = true ∧ ((a : Int) != (b : Int)) = true ∧ V = (9221120237041090560 : Nat)) ∨ (fnan a = false ∧ fnan b = false ∧ finf a = true ∧ finf b = true ∧ ((a : Int) != (b : Int)) = false ∧ V = (a : Nat)) ∨ (fnan a = false ∧ fnan b = false ∧ finf a = true ∧ finf b = false ∧ V = (a : Nat)) ∨ (fnan a = false ∧ fnan b = false ∧ finf a = false ∧ finf b = true ∧ V = (b : Nat)) ∨ (fnan a = false ∧ fnan b = false ∧ finf a = false ∧ finf b = false ∧ fzero a = true ∧ ((a : Int) == (b : Int)) = true ∧ V = (a : Nat))) :
    Calls Tryz.prog 71 #[.int .u64 a, .int .u64 b, .int .i64 mode] w fun o w' => o = .returned (.int .u64 (V : Nat)) ∧ Below w.heap.size w w' := by
  have HNa := fun W => Lib.hid (rnan_any W a)
  have HNb := fun W => Lib.hid (rnan_any W b)
  have HIa := fun W => Lib.hid (rinf_any W a)
  have HIb := fun W => Lib.hid (rinf_any W b)
  have HZa := fun W => Lib.hid (rzero_any W a)
  have HZb := fun W => Lib.hid (rzero_any W b)
  rcases h with ⟨n1, hV⟩ | ⟨n1, n2, hV⟩ | ⟨n1, n2, i1, i2, e1, hV⟩ | ⟨n1, n2, i1, i2, e1, hV⟩ | ⟨n1, n2, i1, i2, hV⟩ | ⟨n1, n2, i1, i2, hV⟩ | ⟨n1, n2, i1, i2, z1, e1, hV⟩
  all_goals (try rw [n1] at HNa); (try rw [n2] at HNb); (try rw [i1] at HIa); (try rw [i2] at HIb); (try rw [z1] at HZa); (try rw [z2] at HZb)
  all_goals (
    rw [hV]
    clear hV
    go_enter Tryz.func71, Tryz.ntmps71
    go_wp2_with (first
    | (go_at_call 164; (first | refine (HNa _).out.mono ?_ | refine (HNb _).out.mono ?_); rintro e w1 ⟨rfl, rfl⟩)
    | (go_at_call 180; (first | refine (HIa _).out.mono ?_ | refine (HIb _).out.mono ?_); rintro e w1 ⟨rfl, rfl⟩)
    | (go_at_call 175; (first | refine (HZa _).out.mono ?_ | refine (HZb _).out.mono ?_); rintro e w1 ⟨rfl, rfl⟩)
    | (go_at_call 173; (first | refine (HSa _).out.mono ?_ | refine (HSb _).out.mono ?_); rintro e w1 ⟨rfl, rfl⟩)
    | (go_at_call 184; (first | refine (HG1 _).out.mono ?_ | refine (HG2 _).out.mono ?_); rintro e w1 ⟨rfl, rfl⟩))
    go_ret
    exact ⟨rfl, Below.refl _ _⟩)

set_option maxRecDepth 100000 in
set_option maxHeartbeats 20000000 in
theorem r3add_f0 (w : World) (a b : Nat) (ha : a < 18446744073709551616) (hb : b < 18446744073709551616) (mode : Int) (hT : Tab w) (n1 : fnan a = false) (n2 : fnan b = false) (i1 : finf a = false) (i2 : finf b = false) (z1 : fzero a = false) (hs0 : dman (dadd (fof a) (fof b)) = 0) :
    Calls Tryz.prog 71 #[.int .u64 a, .int .u64 b, .int .i64 mode] w fun o w' => o = .returned (.int .u64 (fnothing mode : Nat)) ∧ Below w.heap.size w w' := by
  have HNa := fun W => Lib.hid (rnan_any W a)
  have HNb := fun W => Lib.hid (rnan_any W b)
  have HIa := fun W => Lib.hid (rinf_any W a)
  have HIb := fun W => Lib.hid (rinf_any W b)
  have HZa := fun W => Lib.hid (rzero_any W a)
  have HZb := fun W => Lib.hid (rzero_any W b)
  rw [n1] at HNa; rw [n2] at HNb; rw [i1] at HIa; rw [i2] at HIb
  rw [z1] at HZa
  have HOa := fun W ht => Lib.hid (r3of_any W a ha ht)
  have HOb := fun W ht => Lib.hid (r3of_any W b hb ht)
  have Na := isN_fof a
  have Nb := isN_fof b
  generalize fof a = da at *
  generalize fof b = db at *
  have HD := fun W b1 q1 b2 q2 (h1 : Mag W b1 (nl (dman da).natAbs) q1 (dman da).natAbs) (h2 : Mag W b2 (nl (dman db).natAbs) q2 (dman db).natAbs) ht => Lib.hid (rdadd_any W _ _ _ _ _ _ _ _ _ _ _ _ _ _ (dyis_n Na h1) (dyis_n Nb h2) ht)
  have Nu := isN_add da db
  generalize dadd da db = du at *
  have HS := fun W b1 q1 (h1 : Mag W b1 (nl (dman du).natAbs) q1 (dman du).natAbs) ht => Lib.hid (rdsign_any W _ _ _ _ _ _ _ (dyis_n Nu h1) ht)
  have HR := fun W b1 q1 (h1 : Mag W b1 (nl (dman du).natAbs) q1 (dman du).natAbs) ht => Lib.hid (r3round_any W _ _ _ _ _ _ mode _ (dyis_n Nu h1) ht)
  have HE := fun W => Lib.hid (rempty_any W mode)
  have hg : (sg (dman du) == 0) = true := by rw [hs0]; rfl
  generalize sg (dman du) = g at *
  generalize ((fround du mode : Nat) : Int) = V at *
  clear hs0 Na Nb Nu
  go_enter Tryz.func71, Tryz.ntmps71
  go_wp2_with (first
    | (go_at_call 164; (first | refine (HNa _).out.mono ?_ | refine (HNb _).out.mono ?_); rintro e w1 ⟨rfl, rfl⟩)
    | (go_at_call 180; (first | refine (HIa _).out.mono ?_ | refine (HIb _).out.mono ?_); rintro e w1 ⟨rfl, rfl⟩)
    | (go_at_call 175; (first | refine (HZa _).out.mono ?_ | refine (HZb _).out.mono ?_); rintro e w1 ⟨rfl, rfl⟩)
    | (go_at_call 173; (first | refine (HSa _).out.mono ?_ | refine (HSb _).out.mono ?_); rintro e w1 ⟨rfl, rfl⟩)
    | (go_at_call 184; (first | refine (HG1 _).out.mono ?_ | refine (HG2 _).out.mono ?_); rintro e w1 ⟨rfl, rfl⟩))
  have B0 : Below w.heap.size w w := Below.refl _ _
  refine (HOa _ (hT.below (have := Beh.mk B0; zbh))).out.mono ?_
  rintro e w1 ⟨a1, c1, rfl, M11, hb1, hf1⟩
  have B1 := below_box (w := w) (have := Beh.mk B0; zbh) hb1
  clear hb1 hf1
  (try clear xx)
  (try clear B0)
  go_wp2_with fail
  refine (HOb _ (hT.below (have := Beh.mk B1; zbh))).out.mono ?_
  rintro e w2 ⟨a2, c2, rfl, M22, hb2, hf2⟩
  have M12 : Mag w2 a1 (nl (dman da).natAbs) c1 (dman da).natAbs := Mag.below M11.on hb2
  have B2 := below_box (w := w) (have := Beh.mk B1; zbh) hb2
  clear hb2 hf2
  (try clear xx)
  (try clear M11)
  (try clear B1)
  go_wp2_with fail
  refine (HD _ a1 c1 a2 c2 M12.on M22.on (hT.below (have := Beh.mk B2; zbh))).out.mono ?_
  rintro e w3 ⟨a3, c3, rfl, M33, hb3, hf3⟩
  have M13 : Mag w3 a1 (nl (dman da).natAbs) c1 (dman da).natAbs := Mag.below M12.on hb3
  have M23 : Mag w3 a2 (nl (dman db).natAbs) c2 (dman db).natAbs := Mag.below M22.on hb3
  have B3 := below_box (w := w) (have := Beh.mk B2; zbh) hb3
  clear hb3 hf3
  (try clear xx)
  (try clear M12)
  (try clear M22)
  (try clear B2)
  go_wp2_with fail
  have Vu4 := (DyV.made' w3 26 (dbad du) (decide (dman du < 0)) (.slice a3 (nl (dman du).natAbs) c3) (dexp du) (n := w3.heap.size) (by rfl))
  have M34 := (Mag.alloc M33 (.cells #[.bool (dbad du), .bool (decide (dman du < 0)), (.slice a3 (nl (dman du).natAbs) c3), .int .i64 (dexp du)] 26))
  have B4 : Below w.heap.size w (w3.alloc (.cells #[.bool (dbad du), .bool (decide (dman du < 0)), (.slice a3 (nl (dman du).natAbs) c3), .int .i64 (dexp du)] 26)) := (have := Beh.mk B3; zbh)
  have fr3u : 0 < (nl (dman du).natAbs) → ab a3 ≠ w3.heap.size := fun h => by have := M33.old h; omega
  have gu : w.heap.size ≤ w3.heap.size := by have := B3.size; omega
  generalize (w3.alloc (.cells #[.bool (dbad du), .bool (decide (dman du < 0)), (.slice a3 (nl (dman du).natAbs) c3), .int .i64 (dexp du)] 26)) = w4 at Vu4 M34 B4 ⊢
  generalize w3.heap.size = zu at Vu4 fr3u gu ⊢
  (try clear uc0 uc1 uc2 uc3 uc4)
  obtain ⟨uc0, uc1, uc2, uc3, uc4, uc5⟩ := Vu4
  have Vu4 := Lib.hid (DyV.mk uc0 uc1 uc2 uc3 uc4 uc5)
  refine (HS _ a3 c3 M34.on (hT.below (have := Beh.mk B4; zbh))).out.mono ?_
  rintro e w5 ⟨rfl, hb5⟩
  have Vu5 : DyV w5 zu (dbad du) (decide (dman du < 0)) (.slice a3 (nl (dman du).natAbs) c3) (dexp du) := (Vu4.out.on.below hb5)
  (try clear uc0 uc1 uc2 uc3 uc4)
  obtain ⟨uc0, uc1, uc2, uc3, uc4, uc5⟩ := Vu5
  have Vu5 := Lib.hid (DyV.mk uc0 uc1 uc2 uc3 uc4 uc5)
  have M35 : Mag w5 a3 (nl (dman du).natAbs) c3 (dman du).natAbs := Mag.below M34.on hb5
  have B5 := below_box (w := w) (have := Beh.mk B4; zbh) hb5
  clear hb5
  (try clear xx)
  (try clear Vu4)
  (try clear M34)
  (try clear B4)
  go_wp2_with fail
  refine (HE _).out.mono ?_; rintro e w9 ⟨rfl, rfl⟩; go_wp2_with fail
  go_ret
  exact ⟨rfl, (have := Beh.mk B5; zbh)⟩

set_option maxRecDepth 100000 in
set_option maxHeartbeats 20000000 in
theorem r3add_t0 (w : World) (a b : Nat) (ha : a < 18446744073709551616) (hb : b < 18446744073709551616) (mode : Int) (hT : Tab w) (n1 : fnan a = false) (n2 : fnan b = false) (i1 : finf a = false) (i2 : finf b = false) (z1 : fzero a = true) (e1 : ((a : Int) == (b : Int)) = false) (hs0 : dman (dadd (fof a) (fof b)) = 0) :
    Calls Tryz.prog 71 #[.int .u64 a, .int .u64 b, .int .i64 mode] w fun o w' => o = .returned (.int .u64 (fnothing mode : Nat)) ∧ Below w.heap.size w w' := by
  have HNa := fun W => Lib.hid (rnan_any W a)
  have HNb := fun W => Lib.hid (rnan_any W b)
  have HIa := fun W => Lib.hid (rinf_any W a)
  have HIb := fun W => Lib.hid (rinf_any W b)
  have HZa := fun W => Lib.hid (rzero_any W a)
  have HZb := fun W => Lib.hid (rzero_any W b)
  rw [n1] at HNa; rw [n2] at HNb; rw [i1] at HIa; rw [i2] at HIb
  rw [z1] at HZa
  have HOa := fun W ht => Lib.hid (r3of_any W a ha ht)
  have HOb := fun W ht => Lib.hid (r3of_any W b hb ht)
  have Na := isN_fof a
  have Nb := isN_fof b
  generalize fof a = da at *
  generalize fof b = db at *
  have HD := fun W b1 q1 b2 q2 (h1 : Mag W b1 (nl (dman da).natAbs) q1 (dman da).natAbs) (h2 : Mag W b2 (nl (dman db).natAbs) q2 (dman db).natAbs) ht => Lib.hid (rdadd_any W _ _ _ _ _ _ _ _ _ _ _ _ _ _ (dyis_n Na h1) (dyis_n Nb h2) ht)
  have Nu := isN_add da db
  generalize dadd da db = du at *
  have HS := fun W b1 q1 (h1 : Mag W b1 (nl (dman du).natAbs) q1 (dman du).natAbs) ht => Lib.hid (rdsign_any W _ _ _ _ _ _ _ (dyis_n Nu h1) ht)
  have HR := fun W b1 q1 (h1 : Mag W b1 (nl (dman du).natAbs) q1 (dman du).natAbs) ht => Lib.hid (r3round_any W _ _ _ _ _ _ mode _ (dyis_n Nu h1) ht)
  have HE := fun W => Lib.hid (rempty_any W mode)
  have hg : (sg (dman du) == 0) = true := by rw [hs0]; rfl
  generalize sg (dman du) = g at *
  generalize ((fround du mode : Nat) : Int) = V at *
  clear hs0 Na Nb Nu
  go_enter Tryz.func71, Tryz.ntmps71
  go_wp2_with (first
    | (go_at_call 164; (first | refine (HNa _).out.mono ?_ | refine (HNb _).out.mono ?_); rintro e w1 ⟨rfl, rfl⟩)
    | (go_at_call 180; (first | refine (HIa _).out.mono ?_ | refine (HIb _).out.mono ?_); rintro e w1 ⟨rfl, rfl⟩)
    | (go_at_call 175; (first | refine (HZa _).out.mono ?_ | refine (HZb _).out.mono ?_); rintro e w1 ⟨rfl, rfl⟩)
    | (go_at_call 173; (first | refine (HSa _).out.mono ?_ | refine (HSb _).out.mono ?_); rintro e w1 ⟨rfl, rfl⟩)
    | (go_at_call 184; (first | refine (HG1 _).out.mono ?_ | refine (HG2 _).out.mono ?_); rintro e w1 ⟨rfl, rfl⟩))
  have B0 : Below w.heap.size w w := Below.refl _ _
  refine (HOa _ (hT.below (have := Beh.mk B0; zbh))).out.mono ?_
  rintro e w1 ⟨a1, c1, rfl, M11, hb1, hf1⟩
  have B1 := below_box (w := w) (have := Beh.mk B0; zbh) hb1
  clear hb1 hf1
  (try clear xx)
  (try clear B0)
  go_wp2_with fail
  refine (HOb _ (hT.below (have := Beh.mk B1; zbh))).out.mono ?_
  rintro e w2 ⟨a2, c2, rfl, M22, hb2, hf2⟩
  have M12 : Mag w2 a1 (nl (dman da).natAbs) c1 (dman da).natAbs := Mag.below M11.on hb2
  have B2 := below_box (w := w) (have := Beh.mk B1; zbh) hb2
  clear hb2 hf2
  (try clear xx)
  (try clear M11)
  (try clear B1)
  go_wp2_with fail
  refine (HD _ a1 c1 a2 c2 M12.on M22.on (hT.below (have := Beh.mk B2; zbh))).out.mono ?_
  rintro e w3 ⟨a3, c3, rfl, M33, hb3, hf3⟩
  have M13 : Mag w3 a1 (nl (dman da).natAbs) c1 (dman da).natAbs := Mag.below M12.on hb3
  have M23 : Mag w3 a2 (nl (dman db).natAbs) c2 (dman db).natAbs := Mag.below M22.on hb3
  have B3 := below_box (w := w) (have := Beh.mk B2; zbh) hb3
  clear hb3 hf3
  (try clear xx)
  (try clear M12)
  (try clear M22)
  (try clear B2)
  go_wp2_with fail
  have Vu4 := (DyV.made' w3 26 (dbad du) (decide (dman du < 0)) (.slice a3 (nl (dman du).natAbs) c3) (dexp du) (n := w3.heap.size) (by rfl))
  have M34 := (Mag.alloc M33 (.cells #[.bool (dbad du), .bool (decide (dman du < 0)), (.slice a3 (nl (dman du).natAbs) c3), .int .i64 (dexp du)] 26))
  have B4 : Below w.heap.size w (w3.alloc (.cells #[.bool (dbad du), .bool (decide (dman du < 0)), (.slice a3 (nl (dman du).natAbs) c3), .int .i64 (dexp du)] 26)) := (have := Beh.mk B3; zbh)
  have fr3u : 0 < (nl (dman du).natAbs) → ab a3 ≠ w3.heap.size := fun h => by have := M33.old h; omega
  have gu : w.heap.size ≤ w3.heap.size := by have := B3.size; omega
  generalize (w3.alloc (.cells #[.bool (dbad du), .bool (decide (dman du < 0)), (.slice a3 (nl (dman du).natAbs) c3), .int .i64 (dexp du)] 26)) = w4 at Vu4 M34 B4 ⊢
  generalize w3.heap.size = zu at Vu4 fr3u gu ⊢
  (try clear uc0 uc1 uc2 uc3 uc4)
  obtain ⟨uc0, uc1, uc2, uc3, uc4, uc5⟩ := Vu4
  have Vu4 := Lib.hid (DyV.mk uc0 uc1 uc2 uc3 uc4 uc5)
  refine (HS _ a3 c3 M34.on (hT.below (have := Beh.mk B4; zbh))).out.mono ?_
  rintro e w5 ⟨rfl, hb5⟩
  have Vu5 : DyV w5 zu (dbad du) (decide (dman du < 0)) (.slice a3 (nl (dman du).natAbs) c3) (dexp du) := (Vu4.out.on.below hb5)
  (try clear uc0 uc1 uc2 uc3 uc4)
  obtain ⟨uc0, uc1, uc2, uc3, uc4, uc5⟩ := Vu5
  have Vu5 := Lib.hid (DyV.mk uc0 uc1 uc2 uc3 uc4 uc5)
  have M35 : Mag w5 a3 (nl (dman du).natAbs) c3 (dman du).natAbs := Mag.below M34.on hb5
  have B5 := below_box (w := w) (have := Beh.mk B4; zbh) hb5
  clear hb5
  (try clear xx)
  (try clear Vu4)
  (try clear M34)
  (try clear B4)
  go_wp2_with fail
  refine (HE _).out.mono ?_; rintro e w9 ⟨rfl, rfl⟩; go_wp2_with fail
  go_ret
  exact ⟨rfl, (have := Beh.mk B5; zbh)⟩

set_option maxRecDepth 100000 in
set_option maxHeartbeats 20000000 in
theorem r3add_f1 (w : World) (a b : Nat) (ha : a < 18446744073709551616) (hb : b < 18446744073709551616) (mode : Int) (hT : Tab w) (n1 : fnan a = false) (n2 : fnan b = false) (i1 : finf a = false) (i2 : finf b = false) (z1 : fzero a = false) (hs0 : dman (dadd (fof a) (fof b)) ≠ 0) :
    Calls Tryz.prog 71 #[.int .u64 a, .int .u64 b, .int .i64 mode] w fun o w' => o = .returned (.int .u64 (fround (dadd (fof a) (fof b)) mode : Nat)) ∧ Below w.heap.size w w' := by
  have HNa := fun W => Lib.hid (rnan_any W a)
  have HNb := fun W => Lib.hid (rnan_any W b)
  have HIa := fun W => Lib.hid (rinf_any W a)
  have HIb := fun W => Lib.hid (rinf_any W b)
  have HZa := fun W => Lib.hid (rzero_any W a)
  have HZb := fun W => Lib.hid (rzero_any W b)
  rw [n1] at HNa; rw [n2] at HNb; rw [i1] at HIa; rw [i2] at HIb
  rw [z1] at HZa
  have HOa := fun W ht => Lib.hid (r3of_any W a ha ht)
  have HOb := fun W ht => Lib.hid (r3of_any W b hb ht)
  have Na := isN_fof a
  have Nb := isN_fof b
  generalize fof a = da at *
  generalize fof b = db at *
  have HD := fun W b1 q1 b2 q2 (h1 : Mag W b1 (nl (dman da).natAbs) q1 (dman da).natAbs) (h2 : Mag W b2 (nl (dman db).natAbs) q2 (dman db).natAbs) ht => Lib.hid (rdadd_any W _ _ _ _ _ _ _ _ _ _ _ _ _ _ (dyis_n Na h1) (dyis_n Nb h2) ht)
  have Nu := isN_add da db
  generalize dadd da db = du at *
  have HS := fun W b1 q1 (h1 : Mag W b1 (nl (dman du).natAbs) q1 (dman du).natAbs) ht => Lib.hid (rdsign_any W _ _ _ _ _ _ _ (dyis_n Nu h1) ht)
  have HR := fun W b1 q1 (h1 : Mag W b1 (nl (dman du).natAbs) q1 (dman du).natAbs) ht => Lib.hid (r3round_any W _ _ _ _ _ _ mode _ (dyis_n Nu h1) ht)
  have HE := fun W => Lib.hid (rempty_any W mode)
  have hg : (sg (dman du) == 0) = false := by rw [beq_eq_false_iff_ne]; unfold sg cmpI; split <;> (try split) <;> omega
  generalize sg (dman du) = g at *
  generalize ((fround du mode : Nat) : Int) = V at *
  clear hs0 Na Nb Nu
  go_enter Tryz.func71, Tryz.ntmps71
  go_wp2_with (first
    | (go_at_call 164; (first | refine (HNa _).out.mono ?_ | refine (HNb _).out.mono ?_); rintro e w1 ⟨rfl, rfl⟩)
    | (go_at_call 180; (first | refine (HIa _).out.mono ?_ | refine (HIb _).out.mono ?_); rintro e w1 ⟨rfl, rfl⟩)
    | (go_at_call 175; (first | refine (HZa _).out.mono ?_ | refine (HZb _).out.mono ?_); rintro e w1 ⟨rfl, rfl⟩)
    | (go_at_call 173; (first | refine (HSa _).out.mono ?_ | refine (HSb _).out.mono ?_); rintro e w1 ⟨rfl, rfl⟩)
    | (go_at_call 184; (first | refine (HG1 _).out.mono ?_ | refine (HG2 _).out.mono ?_); rintro e w1 ⟨rfl, rfl⟩))
  have B0 : Below w.heap.size w w := Below.refl _ _
  refine (HOa _ (hT.below (have := Beh.mk B0; zbh))).out.mono ?_
  rintro e w1 ⟨a1, c1, rfl, M11, hb1, hf1⟩
  have B1 := below_box (w := w) (have := Beh.mk B0; zbh) hb1
  clear hb1 hf1
  (try clear xx)
  (try clear B0)
  go_wp2_with fail
  refine (HOb _ (hT.below (have := Beh.mk B1; zbh))).out.mono ?_
  rintro e w2 ⟨a2, c2, rfl, M22, hb2, hf2⟩
  have M12 : Mag w2 a1 (nl (dman da).natAbs) c1 (dman da).natAbs := Mag.below M11.on hb2
  have B2 := below_box (w := w) (have := Beh.mk B1; zbh) hb2
  clear hb2 hf2
  (try clear xx)
  (try clear M11)
  (try clear B1)
  go_wp2_with fail
  refine (HD _ a1 c1 a2 c2 M12.on M22.on (hT.below (have := Beh.mk B2; zbh))).out.mono ?_
  rintro e w3 ⟨a3, c3, rfl, M33, hb3, hf3⟩
  have M13 : Mag w3 a1 (nl (dman da).natAbs) c1 (dman da).natAbs := Mag.below M12.on hb3
  have M23 : Mag w3 a2 (nl (dman db).natAbs) c2 (dman db).natAbs := Mag.below M22.on hb3
  have B3 := below_box (w := w) (have := Beh.mk B2; zbh) hb3
  clear hb3 hf3
  (try clear xx)
  (try clear M12)
  (try clear M22)
  (try clear B2)
  go_wp2_with fail
  have Vu4 := (DyV.made' w3 26 (dbad du) (decide (dman du < 0)) (.slice a3 (nl (dman du).natAbs) c3) (dexp du) (n := w3.heap.size) (by rfl))
  have M34 := (Mag.alloc M33 (.cells #[.bool (dbad du), .bool (decide (dman du < 0)), (.slice a3 (nl (dman du).natAbs) c3), .int .i64 (dexp du)] 26))
  have B4 : Below w.heap.size w (w3.alloc (.cells #[.bool (dbad du), .bool (decide (dman du < 0)), (.slice a3 (nl (dman du).natAbs) c3), .int .i64 (dexp du)] 26)) := (have := Beh.mk B3; zbh)
  have fr3u : 0 < (nl (dman du).natAbs) → ab a3 ≠ w3.heap.size := fun h => by have := M33.old h; omega
  have gu : w.heap.size ≤ w3.heap.size := by have := B3.size; omega
  generalize (w3.alloc (.cells #[.bool (dbad du), .bool (decide (dman du < 0)), (.slice a3 (nl (dman du).natAbs) c3), .int .i64 (dexp du)] 26)) = w4 at Vu4 M34 B4 ⊢
  generalize w3.heap.size = zu at Vu4 fr3u gu ⊢
  (try clear uc0 uc1 uc2 uc3 uc4)
  obtain ⟨uc0, uc1, uc2, uc3, uc4, uc5⟩ := Vu4
  have Vu4 := Lib.hid (DyV.mk uc0 uc1 uc2 uc3 uc4 uc5)
  refine (HS _ a3 c3 M34.on (hT.below (have := Beh.mk B4; zbh))).out.mono ?_
  rintro e w5 ⟨rfl, hb5⟩
  have Vu5 : DyV w5 zu (dbad du) (decide (dman du < 0)) (.slice a3 (nl (dman du).natAbs) c3) (dexp du) := (Vu4.out.on.below hb5)
  (try clear uc0 uc1 uc2 uc3 uc4)
  obtain ⟨uc0, uc1, uc2, uc3, uc4, uc5⟩ := Vu5
  have Vu5 := Lib.hid (DyV.mk uc0 uc1 uc2 uc3 uc4 uc5)
  have M35 : Mag w5 a3 (nl (dman du).natAbs) c3 (dman du).natAbs := Mag.below M34.on hb5
  have B5 := below_box (w := w) (have := Beh.mk B4; zbh) hb5
  clear hb5
  (try clear xx)
  (try clear Vu4)
  (try clear M34)
  (try clear B4)
  go_wp2_with fail
  refine (HR _ a3 c3 M35.on (hT.below (have := Beh.mk B5; zbh))).out.mono ?_
  rintro e w6 ⟨rfl, hb6⟩
  have Vu6 : DyV w6 zu (dbad du) (decide (dman du < 0)) (.slice a3 (nl (dman du).natAbs) c3) (dexp du) := (Vu5.out.on.below hb6)
  (try clear uc0 uc1 uc2 uc3 uc4)
  obtain ⟨uc0, uc1, uc2, uc3, uc4, uc5⟩ := Vu6
  have Vu6 := Lib.hid (DyV.mk uc0 uc1 uc2 uc3 uc4 uc5)
  have M36 : Mag w6 a3 (nl (dman du).natAbs) c3 (dman du).natAbs := Mag.below M35.on hb6
  have B6 := below_box (w := w) (have := Beh.mk B5; zbh) hb6
  clear hb6
  (try clear xx)
  (try clear Vu5)
  (try clear M35)
  (try clear B5)
  go_wp2_with fail
  go_ret
  exact ⟨rfl, (have := Beh.mk B6; zbh)⟩

set_option maxRecDepth 100000 in
set_option maxHeartbeats 20000000 in
theorem r3add_t1 (w : World) (a b : Nat) (ha : a < 18446744073709551616) (hb : b < 18446744073709551616) (mode : Int) (hT : Tab w) (n1 : fnan a = false) (n2 : fnan b = false) (i1 : finf a = false) (i2 : finf b = false) (z1 : fzero a = true) (e1 : ((a : Int) == (b : Int)) = false) (hs0 : dman (dadd (fof a) (fof b)) ≠ 0) :
    Calls Tryz.prog 71 #[.int .u64 a, .int .u64 b, .int .i64 mode] w fun o w' => o = .returned (.int .u64 (fround (dadd (fof a) (fof b)) mode : Nat)) ∧ Below w.heap.size w w' := by
  have HNa := fun W => Lib.hid (rnan_any W a)
  have HNb := fun W => Lib.hid (rnan_any W b)
  have HIa := fun W => Lib.hid (rinf_any W a)
  have HIb := fun W => Lib.hid (rinf_any W b)
  have HZa := fun W => Lib.hid (rzero_any W a)
  have HZb := fun W => Lib.hid (rzero_any W b)
  rw [n1] at HNa; rw [n2] at HNb; rw [i1] at HIa; rw [i2] at HIb
  rw [z1] at HZa
  have HOa := fun W ht => Lib.hid (r3of_any W a ha ht)
  have HOb := fun W ht => Lib.hid (r3of_any W b hb ht)
  have Na := isN_fof a
  have Nb := isN_fof b
  generalize fof a = da at *
  generalize fof b = db at *
  have HD := fun W b1 q1 b2 q2 (h1 : Mag W b1 (nl (dman da).natAbs) q1 (dman da).natAbs) (h2 : Mag W b2 (nl (dman db).natAbs) q2 (dman db).natAbs) ht => Lib.hid (rdadd_any W _ _ _ _ _ _ _ _ _ _ _ _ _ _ (dyis_n Na h1) (dyis_n Nb h2) ht)
  have Nu := isN_add da db
  generalize dadd da db = du at *
  have HS := fun W b1 q1 (h1 : Mag W b1 (nl (dman du).natAbs) q1 (dman du).natAbs) ht => Lib.hid (rdsign_any W _ _ _ _ _ _ _ (dyis_n Nu h1) ht)
  have HR := fun W b1 q1 (h1 : Mag W b1 (nl (dman du).natAbs) q1 (dman du).natAbs) ht => Lib.hid (r3round_any W _ _ _ _ _ _ mode _ (dyis_n Nu h1) ht)
  have HE := fun W => Lib.hid (rempty_any W mode)
  have hg : (sg (dman du) == 0) = false := by rw [beq_eq_false_iff_ne]; unfold sg cmpI; split <;> (try split) <;> omega
  generalize sg (dman du) = g at *
  generalize ((fround du mode : Nat) : Int) = V at *
  clear hs0 Na Nb Nu
  go_enter Tryz.func71, Tryz.ntmps71
  go_wp2_with (first
    | (go_at_call 164; (first | refine (HNa _).out.mono ?_ | refine (HNb _).out.mono ?_); rintro e w1 ⟨rfl, rfl⟩)
    | (go_at_call 180; (first | refine (HIa _).out.mono ?_ | refine (HIb _).out.mono ?_); rintro e w1 ⟨rfl, rfl⟩)
    | (go_at_call 175; (first | refine (HZa _).out.mono ?_ | refine (HZb _).out.mono ?_); rintro e w1 ⟨rfl, rfl⟩)
    | (go_at_call 173; (first | refine (HSa _).out.mono ?_ | refine (HSb _).out.mono ?_); rintro e w1 ⟨rfl, rfl⟩)
    | (go_at_call 184; (first | refine (HG1 _).out.mono ?_ | refine (HG2 _).out.mono ?_); rintro e w1 ⟨rfl, rfl⟩))
  have B0 : Below w.heap.size w w := Below.refl _ _
  refine (HOa _ (hT.below (have := Beh.mk B0; zbh))).out.mono ?_
  rintro e w1 ⟨a1, c1, rfl, M11, hb1, hf1⟩
  have B1 := below_box (w := w) (have := Beh.mk B0; zbh) hb1
  clear hb1 hf1
  (try clear xx)
  (try clear B0)
  go_wp2_with fail
  refine (HOb _ (hT.below (have := Beh.mk B1; zbh))).out.mono ?_
  rintro e w2 ⟨a2, c2, rfl, M22, hb2, hf2⟩
  have M12 : Mag w2 a1 (nl (dman da).natAbs) c1 (dman da).natAbs := Mag.below M11.on hb2
  have B2 := below_box (w := w) (have := Beh.mk B1; zbh) hb2
  clear hb2 hf2
  (try clear xx)
  (try clear M11)
  (try clear B1)
  go_wp2_with fail
  refine (HD _ a1 c1 a2 c2 M12.on M22.on (hT.below (have := Beh.mk B2; zbh))).out.mono ?_
  rintro e w3 ⟨a3, c3, rfl, M33, hb3, hf3⟩
  have M13 : Mag w3 a1 (nl (dman da).natAbs) c1 (dman da).natAbs := Mag.below M12.on hb3
  have M23 : Mag w3 a2 (nl (dman db).natAbs) c2 (dman db).natAbs := Mag.below M22.on hb3
  have B3 := below_box (w := w) (have := Beh.mk B2; zbh) hb3
  clear hb3 hf3
  (try clear xx)
  (try clear M12)
  (try clear M22)
  (try clear B2)
  go_wp2_with fail
  have Vu4 := (DyV.made' w3 26 (dbad du) (decide (dman du < 0)) (.slice a3 (nl (dman du).natAbs) c3) (dexp du) (n := w3.heap.size) (by rfl))
  have M34 := (Mag.alloc M33 (.cells #[.bool (dbad du), .bool (decide (dman du < 0)), (.slice a3 (nl (dman du).natAbs) c3), .int .i64 (dexp du)] 26))
  have B4 : Below w.heap.size w (w3.alloc (.cells #[.bool (dbad du), .bool (decide (dman du < 0)), (.slice a3 (nl (dman du).natAbs) c3), .int .i64 (dexp du)] 26)) := (have := Beh.mk B3; zbh)
  have fr3u : 0 < (nl (dman du).natAbs) → ab a3 ≠ w3.heap.size := fun h => by have := M33.old h; omega
  have gu : w.heap.size ≤ w3.heap.size := by have := B3.size; omega
  generalize (w3.alloc (.cells #[.bool (dbad du), .bool (decide (dman du < 0)), (.slice a3 (nl (dman du).natAbs) c3), .int .i64 (dexp du)] 26)) = w4 at Vu4 M34 B4 ⊢
  generalize w3.heap.size = zu at Vu4 fr3u gu ⊢
  (try clear uc0 uc1 uc2 uc3 uc4)
  obtain ⟨uc0, uc1, uc2, uc3, uc4, uc5⟩ := Vu4
  have Vu4 := Lib.hid (DyV.mk uc0 uc1 uc2 uc3 uc4 uc5)
  refine (HS _ a3 c3 M34.on (hT.below (have := Beh.mk B4; zbh))).out.mono ?_
  rintro e w5 ⟨rfl, hb5⟩
  have Vu5 : DyV w5 zu (dbad du) (decide (dman du < 0)) (.slice a3 (nl (dman du).natAbs) c3) (dexp du) := (Vu4.out.on.below hb5)
  (try clear uc0 uc1 uc2 uc3 uc4)
  obtain ⟨uc0, uc1, uc2, uc3, uc4, uc5⟩ := Vu5
  have Vu5 := Lib.hid (DyV.mk uc0 uc1 uc2 uc3 uc4 uc5)
  have M35 : Mag w5 a3 (nl (dman du).natAbs) c3 (dman du).natAbs := Mag.below M34.on hb5
  have B5 := below_box (w := w) (have := Beh.mk B4; zbh) hb5
  clear hb5
  (try clear xx)
  (try clear Vu4)
  (try clear M34)
  (try clear B4)
  go_wp2_with fail
  refine (HR _ a3 c3 M35.on (hT.below (have := Beh.mk B5; zbh))).out.mono ?_
  rintro e w6 ⟨rfl, hb6⟩
  have Vu6 : DyV w6 zu (dbad du) (decide (dman du < 0)) (.slice a3 (nl (dman du).natAbs) c3) (dexp du) := (Vu5.out.on.below hb6)
  (try clear uc0 uc1 uc2 uc3 uc4)
  obtain ⟨uc0, uc1, uc2, uc3, uc4, uc5⟩ := Vu6
  have Vu6 := Lib.hid (DyV.mk uc0 uc1 uc2 uc3 uc4 uc5)
  have M36 : Mag w6 a3 (nl (dman du).natAbs) c3 (dman du).natAbs := Mag.below M35.on hb6
  have B6 := below_box (w := w) (have := Beh.mk B5; zbh) hb6
  clear hb6
  (try clear xx)
  (try clear Vu5)
  (try clear M35)
  (try clear B5)
  go_wp2_with fail
  go_ret
  exact ⟨rfl, (have := Beh.mk B6; zbh)⟩

theorem r3add_any (w : World) (a b : Nat) (ha : a < 18446744073709551616) (hb : b < 18446744073709551616) (mode : Int) (hT : Tab w) :
    Calls Tryz.prog 71 #[.int .u64 a, .int .u64 b, .int .i64 mode] w fun o w' => o = .returned (.int .u64 (fadd a b mode : Nat)) ∧ Below w.heap.size w w' := by
  have sp := r3add_spec w a b ha hb mode (fadd a b mode)
  cases n1 : fnan a with
  | true => exact sp (Or.inl ⟨n1, by unfold fadd; rw [n1]; rfl⟩)
  | false =>
  cases n2 : fnan b with
  | true => exact sp (Or.inr (Or.inl ⟨n1, n2, by unfold fadd; rw [n1, n2]; rfl⟩))
  | false =>
  cases i1 : finf a with
  | true =>
    cases i2 : finf b with
    | true =>
      rcases ne_two a b with ⟨h1, h2, h3⟩ | ⟨h1, h2, h3⟩
      · exact sp (Or.inr (Or.inr (Or.inl ⟨n1, n2, i1, i2, h1, by unfold fadd; rw [n1, n2, i1, i2]; simp [h3]; rfl⟩)))
      · exact sp (Or.inr (Or.inr (Or.inr (Or.inl ⟨n1, n2, i1, i2, h1, by unfold fadd; rw [n1, n2, i1, i2]; simp [h3]⟩))))
    | false => exact sp (Or.inr (Or.inr (Or.inr (Or.inr (Or.inl ⟨n1, n2, i1, i2, by unfold fadd; rw [n1, n2, i1, i2]; simp⟩)))))
  | false =>
  cases i2 : finf b with
  | true => exact sp (Or.inr (Or.inr (Or.inr (Or.inr (Or.inr (Or.inl ⟨n1, n2, i1, i2, by unfold fadd; rw [n1, n2, i1, i2]; simp⟩))))))
  | false =>
  have hu : fadd a b mode = if fzero a && decide (a = b) then a else if dman (dadd (fof a) (fof b)) = 0 then fnothing mode else fround (dadd (fof a) (fof b)) mode := by unfold fadd; rw [n1, n2, i1, i2]; simp
  rcases ne_two a b with ⟨h1, h2, h3⟩ | ⟨h1, h2, h3⟩
  · rw [decide_eq_false h3, Bool.and_false, if_neg (by decide)] at hu
    by_cases hs : dman (dadd (fof a) (fof b)) = 0
    · rw [if_pos hs] at hu
      rw [hu]
      cases z1 : fzero a with
      | true => exact r3add_t0 w a b ha hb mode hT n1 n2 i1 i2 z1 h2 hs
      | false => exact r3add_f0 w a b ha hb mode hT n1 n2 i1 i2 z1 hs
    · rw [if_neg hs] at hu
      rw [hu]
      cases z1 : fzero a with
      | true => exact r3add_t1 w a b ha hb mode hT n1 n2 i1 i2 z1 h2 hs
      | false => exact r3add_f1 w a b ha hb mode hT n1 n2 i1 i2 z1 hs
  · cases z1 : fzero a with
    | true => exact sp (Or.inr (Or.inr (Or.inr (Or.inr (Or.inr (Or.inr ⟨n1, n2, i1, i2, z1, h2, by rw [hu, z1, decide_eq_true h3]; rfl⟩))))))
    | false =>
      rw [z1, Bool.false_and, if_neg (by decide)] at hu
      by_cases hs : dman (dadd (fof a) (fof b)) = 0
      · rw [if_pos hs] at hu
        rw [hu]; exact r3add_f0 w a b ha hb mode hT n1 n2 i1 i2 z1 hs
      · rw [if_neg hs] at hu
        rw [hu]; exact r3add_f1 w a b ha hb mode hT n1 n2 i1 i2 z1 hs

set_option maxRecDepth 100000 in
set_option maxHeartbeats 20000000 in
theorem r3mul_spec (w : World) (a b : Nat) (ha : a < 18446744073709551616) (hb : b < 18446744073709551616) (mode : Int) (V : Nat) (h : (fnan a = true ∧ V = (9221120237041090560 : Nat)) ∨ (fnan a = false ∧ fnan b = true ∧ V = (9221120237041090560 : Nat)) ∨ (fnan a = false ∧ fnan b = false ∧ finf a = true ∧ fzero b = true ∧ V = (9221120237041090560 : Nat)) ∨ (fnan a = false ∧ fnan b = false ∧ finf a = false ∧ fzero a = true ∧ finf b = true ∧ V = (9221120237041090560 : Nat)) ∨ (fnan a = false ∧ fnan b = false ∧ finf a = true ∧ fzero a = false ∧ fzero b = false ∧ V = (fsgn (fS a != fS b) 9218868437227405312 : Nat)) ∨ (fnan a = false ∧ fnan b = false ∧ finf a = false ∧ fzero a = false ∧ finf b = true ∧ V = (fsgn (fS a != fS b) 9218868437227405312 : Nat)) ∨ (fnan a = false ∧ fnan b = false ∧ finf a = false ∧ fzero a = true ∧ finf b = false ∧ V = (fsgn (fS a != fS b) 0 : Nat)) ∨ (fnan a = false ∧ fnan b = false ∧ finf a = false ∧ fzero a = false ∧ finf b = false ∧ fzero b = true ∧ V = (fsgn (fS a != fS b) 0 : Nat))) :
    Calls Tryz.prog 75 #[.int .u64 a, .int .u64 b, .int .i64 mode] w fun o w' => o = .returned (.int .u64 (V : Nat)) ∧ Below w.heap.size w w' := by
  have HNa := fun W => Lib.hid (rnan_any W a)
  have HNb := fun W => Lib.hid (rnan_any W b)
  have HIa := fun W => Lib.hid (rinf_any W a)
  have HIb := fun W => Lib.hid (rinf_any W b)
  have HZa := fun W => Lib.hid (rzero_any W a)
  have HZb := fun W => Lib.hid (rzero_any W b)
  have HSa := fun W => Lib.hid (rminus_any W a ha)
  have HSb := fun W => Lib.hid (rminus_any W b hb)
  have HG1 := fun W => Lib.hid (rsigned_any W 9218868437227405312 (fS a != fS b) (by decide))
  have HG2 := fun W => Lib.hid (rsigned_any W 0 (fS a != fS b) (by decide))
  generalize fS a = sa at *
  generalize fS b = sb at *
  rcases h with ⟨n1, hV⟩ | ⟨n1, n2, hV⟩ | ⟨n1, n2, i1, z2, hV⟩ | ⟨n1, n2, i1, z1, i2, hV⟩ | ⟨n1, n2, i1, z1, z2, hV⟩ | ⟨n1, n2, i1, z1, i2, hV⟩ | ⟨n1, n2, i1, z1, i2, hV⟩ | ⟨n1, n2, i1, z1, i2, z2, hV⟩
  all_goals (try rw [n1] at HNa); (try rw [n2] at HNb); (try rw [i1] at HIa); (try rw [i2] at HIb); (try rw [z1] at HZa); (try rw [z2] at HZb)
  all_goals (
    rw [hV]
    clear hV
    go_enter Tryz.func75, Tryz.ntmps75
    go_wp2_with (first
    | (go_at_call 164; (first | refine (HNa _).out.mono ?_ | refine (HNb _).out.mono ?_); rintro e w1 ⟨rfl, rfl⟩)
    | (go_at_call 180; (first | refine (HIa _).out.mono ?_ | refine (HIb _).out.mono ?_); rintro e w1 ⟨rfl, rfl⟩)
    | (go_at_call 175; (first | refine (HZa _).out.mono ?_ | refine (HZb _).out.mono ?_); rintro e w1 ⟨rfl, rfl⟩)
    | (go_at_call 173; (first | refine (HSa _).out.mono ?_ | refine (HSb _).out.mono ?_); rintro e w1 ⟨rfl, rfl⟩)
    | (go_at_call 184; (first | refine (HG1 _).out.mono ?_ | refine (HG2 _).out.mono ?_); rintro e w1 ⟨rfl, rfl⟩))
    go_ret
    exact ⟨rfl, Below.refl _ _⟩)

set_option maxRecDepth 100000 in
set_option maxHeartbeats 20000000 in
theorem r3mul_main (w : World) (a b : Nat) (ha : a < 18446744073709551616) (hb : b < 18446744073709551616) (mode : Int) (hT : Tab w) (n1 : fnan a = false) (n2 : fnan b = false) (i1 : finf a = false) (i2 : finf b = false) (z1 : fzero a = false) (z2 : fzero b = false) :
    Calls Tryz.prog 75 #[.int .u64 a, .int .u64 b, .int .i64 mode] w fun o w' => o = .returned (.int .u64 (fround (dmul (fof a) (fof b)) mode : Nat)) ∧ Below w.heap.size w w' := by
  have HNa := fun W => Lib.hid (rnan_any W a)
  have HNb := fun W => Lib.hid (rnan_any W b)
  have HIa := fun W => Lib.hid (rinf_any W a)
  have HIb := fun W => Lib.hid (rinf_any W b)
  have HZa := fun W => Lib.hid (rzero_any W a)
  have HZb := fun W => Lib.hid (rzero_any W b)
  rw [n1] at HNa; rw [n2] at HNb; rw [i1] at HIa; rw [i2] at HIb; rw [z1] at HZa; rw [z2] at HZb
  have HSa := fun W => Lib.hid (rminus_any W a ha)
  have HSb := fun W => Lib.hid (rminus_any W b hb)
  have HG1 := fun W => Lib.hid (rsigned_any W 9218868437227405312 (fS a != fS b) (by decide))
  have HG2 := fun W => Lib.hid (rsigned_any W 0 (fS a != fS b) (by decide))
  generalize fS a = sa at *
  generalize fS b = sb at *
  have HOa := fun W ht => Lib.hid (r3of_any W a ha ht)
  have HOb := fun W ht => Lib.hid (r3of_any W b hb ht)
  have Na := isN_fof a
  have Nb := isN_fof b
  generalize fof a = da at *
  generalize fof b = db at *
  have HD := fun W b1 q1 b2 q2 (h1 : Mag W b1 (nl (dman da).natAbs) q1 (dman da).natAbs) (h2 : Mag W b2 (nl (dman db).natAbs) q2 (dman db).natAbs) ht => Lib.hid (rdmul_any W _ _ _ _ _ _ _ _ _ _ _ _ _ _ (dyis_n Na h1) (dyis_n Nb h2) ht)
  have Nu := isN_mul da db
  generalize dmul da db = du at *
  have HR := fun W b1 q1 (h1 : Mag W b1 (nl (dman du).natAbs) q1 (dman du).natAbs) ht => Lib.hid (r3round_any W _ _ _ _ _ _ mode _ (dyis_n Nu h1) ht)
  generalize ((fround du mode : Nat) : Int) = V at *
  clear Na Nb Nu
  go_enter Tryz.func75, Tryz.ntmps75
  go_wp2_with (first
    | (go_at_call 164; (first | refine (HNa _).out.mono ?_ | refine (HNb _).out.mono ?_); rintro e w1 ⟨rfl, rfl⟩)
    | (go_at_call 180; (first | refine (HIa _).out.mono ?_ | refine (HIb _).out.mono ?_); rintro e w1 ⟨rfl, rfl⟩)
    | (go_at_call 175; (first | refine (HZa _).out.mono ?_ | refine (HZb _).out.mono ?_); rintro e w1 ⟨rfl, rfl⟩)
    | (go_at_call 173; (first | refine (HSa _).out.mono ?_ | refine (HSb _).out.mono ?_); rintro e w1 ⟨rfl, rfl⟩)
    | (go_at_call 184; (first | refine (HG1 _).out.mono ?_ | refine (HG2 _).out.mono ?_); rintro e w1 ⟨rfl, rfl⟩))
  have B0 : Below w.heap.size w w := Below.refl _ _
  refine (HOa _ (hT.below (have := Beh.mk B0; zbh))).out.mono ?_
  rintro e w1 ⟨a1, c1, rfl, M11, hb1, hf1⟩
  have B1 := below_box (w := w) (have := Beh.mk B0; zbh) hb1
  clear hb1 hf1
  (try clear xx)
  (try clear B0)
  go_wp2_with fail
  refine (HOb _ (hT.below (have := Beh.mk B1; zbh))).out.mono ?_
  rintro e w2 ⟨a2, c2, rfl, M22, hb2, hf2⟩
  have M12 : Mag w2 a1 (nl (dman da).natAbs) c1 (dman da).natAbs := Mag.below M11.on hb2
  have B2 := below_box (w := w) (have := Beh.mk B1; zbh) hb2
  clear hb2 hf2
  (try clear xx)
  (try clear M11)
  (try clear B1)
  go_wp2_with fail
  refine (HD _ a1 c1 a2 c2 M12.on M22.on (hT.below (have := Beh.mk B2; zbh))).out.mono ?_
  rintro e w3 ⟨a3, c3, rfl, M33, hb3, hf3⟩
  have M13 : Mag w3 a1 (nl (dman da).natAbs) c1 (dman da).natAbs := Mag.below M12.on hb3
  have M23 : Mag w3 a2 (nl (dman db).natAbs) c2 (dman db).natAbs := Mag.below M22.on hb3
  have B3 := below_box (w := w) (have := Beh.mk B2; zbh) hb3
  clear hb3 hf3
  (try clear xx)
  (try clear M12)
  (try clear M22)
  (try clear B2)
  go_wp2_with fail
  refine (HR _ a3 c3 M33.on (hT.below (have := Beh.mk B3; zbh))).out.mono ?_
  rintro e w4 ⟨rfl, hb4⟩
  have M14 : Mag w4 a1 (nl (dman da).natAbs) c1 (dman da).natAbs := Mag.below M13.on hb4
  have M24 : Mag w4 a2 (nl (dman db).natAbs) c2 (dman db).natAbs := Mag.below M23.on hb4
  have M34 : Mag w4 a3 (nl (dman du).natAbs) c3 (dman du).natAbs := Mag.below M33.on hb4
  have B4 := below_box (w := w) (have := Beh.mk B3; zbh) hb4
  clear hb4
  (try clear xx)
  (try clear M13)
  (try clear M23)
  (try clear M33)
  (try clear B3)
  go_wp2_with fail
  go_ret
  exact ⟨rfl, (have := Beh.mk B4; zbh)⟩

theorem kinds3 (f : Nat) : (finf f = true ∧ fzero f = false) ∨ (finf f = false ∧ fzero f = true) ∨ (finf f = false ∧ fzero f = false) := by
  unfold finf fzero
  by_cases h1 : fM f = 9218868437227405312
  · left; rw [h1]; decide
  · by_cases h2 : fM f = 0
    · right; left; rw [h2]; decide
    · right; right; simp [h1, h2]
theorem r3mul_any (w : World) (a b : Nat) (ha : a < 18446744073709551616) (hb : b < 18446744073709551616) (mode : Int) (hT : Tab w) :
    Calls Tryz.prog 75 #[.int .u64 a, .int .u64 b, .int .i64 mode] w fun o w' => o = .returned (.int .u64 (fmul a b mode : Nat)) ∧ Below w.heap.size w w' := by
  have sp := r3mul_spec w a b ha hb mode (fmul a b mode)
  cases n1 : fnan a with
  | true => exact sp (Or.inl ⟨n1, by unfold fmul; rw [n1]; rfl⟩)
  | false =>
  cases n2 : fnan b with
  | true => exact sp (Or.inr (Or.inl ⟨n1, n2, by unfold fmul; rw [n1, n2]; rfl⟩))
  | false =>
  rcases kinds3 a with ⟨i1, z1⟩ | ⟨i1, z1⟩ | ⟨i1, z1⟩ <;> rcases kinds3 b with ⟨i2, z2⟩ | ⟨i2, z2⟩ | ⟨i2, z2⟩
  · exact sp (Or.inr (Or.inr (Or.inr (Or.inr (Or.inl ⟨n1, n2, i1, z1, z2, by unfold fmul; rw [n1, n2, i1, i2, z1, z2]; rfl⟩)))))
  · exact sp (Or.inr (Or.inr (Or.inl ⟨n1, n2, i1, z2, by unfold fmul; rw [n1, n2, i1, i2, z1, z2]; rfl⟩)))
  · exact sp (Or.inr (Or.inr (Or.inr (Or.inr (Or.inl ⟨n1, n2, i1, z1, z2, by unfold fmul; rw [n1, n2, i1, i2, z1, z2]; rfl⟩)))))
  · exact sp (Or.inr (Or.inr (Or.inr (Or.inl ⟨n1, n2, i1, z1, i2, by unfold fmul; rw [n1, n2, i1, i2, z1, z2]; rfl⟩))))
  · exact sp (Or.inr (Or.inr (Or.inr (Or.inr (Or.inr (Or.inr (Or.inl ⟨n1, n2, i1, z1, i2, by unfold fmul; rw [n1, n2, i1, i2, z1, z2]; rfl⟩)))))))
  · exact sp (Or.inr (Or.inr (Or.inr (Or.inr (Or.inr (Or.inr (Or.inl ⟨n1, n2, i1, z1, i2, by unfold fmul; rw [n1, n2, i1, i2, z1, z2]; rfl⟩)))))))
  · exact sp (Or.inr (Or.inr (Or.inr (Or.inr (Or.inr (Or.inl ⟨n1, n2, i1, z1, i2, by unfold fmul; rw [n1, n2, i1, i2, z1, z2]; rfl⟩))))))
  · exact sp (Or.inr (Or.inr (Or.inr (Or.inr (Or.inr (Or.inr (Or.inr (⟨n1, n2, i1, z1, i2, z2, by unfold fmul; rw [n1, n2, i1, i2, z1, z2]; rfl⟩))))))))
  · rw [show fmul a b mode = fround (dmul (fof a) (fof b)) mode by unfold fmul; rw [n1, n2, i1, i2, z1, z2]; rfl]; exact r3mul_main w a b ha hb mode hT n1 n2 i1 i2 z1 z2

end Go.Proofs.YtakbappmkdaioaaGreatDoor


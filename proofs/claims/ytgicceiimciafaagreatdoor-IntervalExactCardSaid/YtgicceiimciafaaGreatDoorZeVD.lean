/-
  Walks: package sparseref05: Meet, Interior.
  Walks: package sparseref05: Mul, Hull.
  Walks: package sparseref05: Sqr, quotient, Sqrt.
-/
import Derived.Test.YtgicceiimciafaaGreatDoorZeVA
set_option maxRecDepth 100000
set_option maxHeartbeats 20000000
namespace Go.Proofs.YtgicceiimciafaaGreatDoor
open Go.RowKit Sp
set_option linter.unusedSimpArgs false
attribute [local irreducible] Calls
theorem rofF_any (w : World) [ht : Tb w] (a : Nat) (ha : a < 18446744073709551616) : Calls Tryz.prog 60 #[.int .u64 (a : Nat)] w fun e w' => ∃ A C, e = .returned (.agg #[.int .i64 (nin a), .bool (dbad (nof a)), .bool (decide (dman (nof a) < 0)), .slice A (nl (dman (nof a)).natAbs) C, .int .i64 (dexp (nof a))]) ∧ DS w' (dbad (nof a)) (decide (dman (nof a) < 0)) A (nl (dman (nof a)).natAbs) C (dexp (nof a)) (nof a) ∧ From w w' ∧ BI w' A (nl (dman (nof a)).natAbs) C (dman (nof a)).natAbs ∧ (0 < nl (dman (nof a)).natAbs → w.heap.size ≤ ab A) := by
 by_cases h1 : a = fInf
 · skip
   have hv : nin a = 1 ∧ nof a = some (0, 0) := by unfold nin nof; subst h1; exact ⟨by decide, by decide⟩
   rw [hv.1, hv.2]
   clear hv
   subst h1
   show Calls Tryz.prog 60 #[.int .u64 9218868437227405312] w fun e w' => ∃ A C, e = .returned (.agg #[.int .i64 (1), .bool (dbad (some (0, 0))), .bool (decide (dman (some (0, 0)) < 0)), .slice A (nl (dman (some (0, 0))).natAbs) C, .int .i64 (dexp (some (0, 0)))]) ∧ DS w' (dbad (some (0, 0))) (decide (dman (some (0, 0)) < 0)) A (nl (dman (some (0, 0))).natAbs) C (dexp (some (0, 0))) (some (0, 0)) ∧ From w w' ∧ BI w' A (nl (dman (some (0, 0))).natAbs) C (dman (some (0, 0))).natAbs ∧ (0 < nl (dman (some (0, 0))).natAbs → w.heap.size ≤ ab A)
   go_enter Tryz.func60, Tryz.ntmps60
   go_wp2_with fail
   refine bodyPost_ret (v := .agg #[.int .i64 (1), .bool false, .bool false, .slice none 0 0, .int .i64 0]) (by simp only [results, Tryz.results60]; go_simp) rfl ?_
   exact ⟨none, 0, rfl, ⟨dys_of isN_00 (Mag.nil _)⟩, ⟨zbh⟩, ⟨Mag.nil _⟩, fun h => absurd h (by decide)⟩
 · by_cases h2 : a = fNInf
   · skip
     have hv : nin a = -1 ∧ nof a = some (0, 0) := by unfold nin nof; subst h2; exact ⟨by decide, by decide⟩
     rw [hv.1, hv.2]
     clear hv
     subst h2
     show Calls Tryz.prog 60 #[.int .u64 18442240474082181120] w fun e w' => ∃ A C, e = .returned (.agg #[.int .i64 (-1), .bool (dbad (some (0, 0))), .bool (decide (dman (some (0, 0)) < 0)), .slice A (nl (dman (some (0, 0))).natAbs) C, .int .i64 (dexp (some (0, 0)))]) ∧ DS w' (dbad (some (0, 0))) (decide (dman (some (0, 0)) < 0)) A (nl (dman (some (0, 0))).natAbs) C (dexp (some (0, 0))) (some (0, 0)) ∧ From w w' ∧ BI w' A (nl (dman (some (0, 0))).natAbs) C (dman (some (0, 0))).natAbs ∧ (0 < nl (dman (some (0, 0))).natAbs → w.heap.size ≤ ab A)
     go_enter Tryz.func60, Tryz.ntmps60
     go_wp2_with fail
     refine bodyPost_ret (v := .agg #[.int .i64 (-1), .bool false, .bool false, .slice none 0 0, .int .i64 0]) (by simp only [results, Tryz.results60]; go_simp) rfl ?_
     exact ⟨none, 0, rfl, ⟨dys_of isN_00 (Mag.nil _)⟩, ⟨zbh⟩, ⟨Mag.nil _⟩, fun h => absurd h (by decide)⟩
   · have hv : nin a = 0 ∧ nof a = fof a := by unfold nin nof; rw [if_neg h1, if_neg h2, if_neg h1, if_neg h2]; exact ⟨rfl, rfl⟩
     rw [hv.1, hv.2]
     clear hv
     have n1 : ¬ ((a : Nat) : Int) = 9218868437227405312 := fun h => h1 (by unfold fInf; omega)
     have n2 : ¬ ((a : Nat) : Int) = 18442240474082181120 := fun h => h2 (by unfold fNInf; omega)
     have HA := fun W [Tb W] => Lib.hid (r3of_any W a ha tb)
     have hN := isN_fof a
     clear h1 h2
     generalize fof a = d at *
     generalize ((a : Nat) : Int) = p at *
     go_enter Tryz.func60, Tryz.ntmps60
     go_wp2_with fail
     refine (HA _).out.mono ?_
     rintro e w1 ⟨a1, c1, rfl, m1, hb, hf⟩
     have b1 := From.mk hb
     have hne : 0 < nl (dman d).natAbs → ab a1 ≠ w.heap.size := fun h => by have := hf h; simp at this; omega
     have hf1 := fun h => by have := hf h; simp at this; exact Nat.le_trans (Nat.le_succ _) this
     clear hb hf
     go_wp2_with fail
     refine bodyPost_ret (v := .agg #[.int .i64 0, .bool (dbad d), .bool (decide (dman d < 0)), .slice a1 (nl (dman d).natAbs) c1, .int .i64 (dexp d)]) (by simp only [results, Tryz.results60]; go_simp) rfl ?_
     exact ⟨a1, c1, rfl, ⟨dys_of hN (((((m1.set hne 0 _).set hne 1 _).set hne 2 _).set hne 3 _).set hne 4 _)⟩, ⟨zbh⟩, ⟨((((m1.set hne 0 _).set hne 1 _).set hne 2 _).set hne 3 _).set hne 4 _⟩, hf1⟩
end Go.Proofs.YtgicceiimciafaaGreatDoor
namespace Go.Proofs.YtgicceiimciafaaGreatDoor
open Go.RowKit Sp
set_option linter.unusedSimpArgs false
attribute [local irreducible] Calls
theorem nspan_ns (w : World) [ht : Tb w] (I : Nat → Int) (d : Nat → Option (Int × Int)) (A : Nat → Option Addr) (C : Nat → Nat) (hI : ∀ k, k < 4 → IsN (d k)) (hM : ∀ k, k < 4 → Mag w (A k) (nl (dman (d k)).natAbs) (C k) (dman (d k)).natAbs)
 (i4 : Int) (d4 : Option (Int × Int)) (i5 : Int) (d5 : Option (Int × Int)) (h4 : (i4, d4) = nlo4 (I 0, d 0) (I 1, d 1) (I 2, d 2) (I 3, d 3)) (h5 : (i5, d5) = nhi4 (I 0, d 0) (I 1, d 1) (I 2, d 2) (I 3, d 3)) :
 Calls Tryz.prog 64 #[.agg #[.int .i64 (I 0), .bool (dbad (d 0)), .bool (decide (dman (d 0) < 0)), .slice (A 0) (nl (dman (d 0)).natAbs) (C 0), .int .i64 (dexp (d 0))], .agg #[.int .i64 (I 1), .bool (dbad (d 1)), .bool (decide (dman (d 1) < 0)), .slice (A 1) (nl (dman (d 1)).natAbs) (C 1), .int .i64 (dexp (d 1))], .agg #[.int .i64 (I 2), .bool (dbad (d 2)), .bool (decide (dman (d 2) < 0)), .slice (A 2) (nl (dman (d 2)).natAbs) (C 2), .int .i64 (dexp (d 2))], .agg #[.int .i64 (I 3), .bool (dbad (d 3)), .bool (decide (dman (d 3) < 0)), .slice (A 3) (nl (dman (d 3)).natAbs) (C 3), .int .i64 (dexp (d 3))]] w fun o w' => ∃ j l, j < 4 ∧ l < 4 ∧ d4 = d j ∧ d5 = d l ∧
  o = .returned (.tuple #[.agg #[.int .i64 i4, .bool (dbad d4), .bool (decide (dman d4 < 0)), .slice (A j) (nl (dman d4).natAbs) (C j), .int .i64 (dexp d4)], .agg #[.int .i64 i5, .bool (dbad d5), .bool (decide (dman d5 < 0)), .slice (A l) (nl (dman d5).natAbs) (C l), .int .i64 (dexp d5)]]) ∧ From w w' := by
 refine (nspan_any w I d A C hI hM).mono ?_
 rintro o w' ⟨j, l, hj, hl, e1, e2, rfl, hb⟩
 obtain ⟨a1, a2⟩ := Prod.mk.inj (h4.trans e1.symm)
 obtain ⟨b1, b2⟩ := Prod.mk.inj (h5.trans e2.symm)
 exact ⟨j, l, hj, hl, a2, b2, by rw [a1, a2, b1, b2], hb⟩
theorem nmin_isN {p q : Int × Option (Int × Int)} (hp : IsN p.2) (hq : IsN q.2) : IsN (nmin p q).2 := by unfold nmin; split <;> assumption
theorem nmax_isN {p q : Int × Option (Int × Int)} (hp : IsN p.2) (hq : IsN q.2) : IsN (nmax p q).2 := by unfold nmax; split <;> assumption
theorem nlo4_isN {p q r s : Int} {a b c d : Option (Int × Int)} (ha : IsN a) (hb : IsN b) (hc : IsN c) (hd : IsN d) : IsN (nlo4 (p, a) (q, b) (r, c) (s, d)).2 := nmin_isN (nmin_isN (nmin_isN ha hb) hc) hd
theorem nhi4_isN {p q r s : Int} {a b c d : Option (Int × Int)} (ha : IsN a) (hb : IsN b) (hc : IsN c) (hd : IsN d) : IsN (nhi4 (p, a) (q, b) (r, c) (s, d)).2 := nmax_isN (nmax_isN (nmax_isN ha hb) hc) hd
theorem nhull_any (w : World) [Tb w] (a : Nat) (b : Nat) (c : Nat) (d : Nat) (ha : a < 18446744073709551616) (hb : b < 18446744073709551616) (hc : c < 18446744073709551616) (hd : d < 18446744073709551616) : Calls Tryz.prog 32 #[.agg #[.int .u64 (a : Nat), .int .u64 (b : Nat)], .agg #[.int .u64 (c : Nat), .int .u64 (d : Nat)]] w fun o w' => o = .returned (.agg #[.int .u64 ((rhullI (a, b) (c, d)).1 : Nat), .int .u64 ((rhullI (a, b) (c, d)).2 : Nat)]) ∧ Below w.heap.size w w' := by
 have H1 := fun W => Lib.hid (frm (r5valid_any W a b ha hb))
 have H2 := fun W => Lib.hid (frm (r5valid_any W c d hc hd))
 have HW := fun W => Lib.hid (frm (nall_any W))
 obtain ⟨i4, d4, h4⟩ : ∃ i e, nlo4 (nin a, nof a) (nin b, nof b) (nin c, nof c) (nin d, nof d) = (i, e) := ⟨_, _, rfl⟩
 obtain ⟨i5, d5, h5⟩ : ∃ i e, nhi4 (nin a, nof a) (nin b, nof b) (nin c, nof c) (nin d, nof d) = (i, e) := ⟨_, _, rfl⟩
 have Na := isN_nof a
 have Nb := isN_nof b
 have Nc := isN_nof c
 have Nd := isN_nof d
 have Nd4 : IsN d4 := by have := nlo4_isN Na Nb Nc Nd (p := nin a) (q := nin b) (r := nin c) (s := nin d); rw [h4] at this; exact this
 have Nd5 : IsN d5 := by have := nhi4_isN Na Nb Nc Nd (p := nin a) (q := nin b) (r := nin c) (s := nin d); rw [h5] at this; exact this
 have HA := fun W [Tb W] => Lib.hid (show Calls Tryz.prog 60 #[.int .u64 (a : Nat)] W fun e w' => ∃ A C, e = .returned (.agg #[.int .i64 (nin a), .bool (dbad (nof a)), .bool (decide (dman (nof a) < 0)), .slice A (nl (dman (nof a)).natAbs) C, .int .i64 (dexp (nof a))]) ∧ DS w' (dbad (nof a)) (decide (dman (nof a) < 0)) A (nl (dman (nof a)).natAbs) C (dexp (nof a)) (nof a) ∧ From W w' ∧ BI w' A (nl (dman (nof a)).natAbs) C (dman (nof a)).natAbs ∧ (0 < nl (dman (nof a)).natAbs → W.heap.size ≤ ab A) from rofF_any W a ha)
 have HB := fun W [Tb W] => Lib.hid (show Calls Tryz.prog 60 #[.int .u64 (b : Nat)] W fun e w' => ∃ A C, e = .returned (.agg #[.int .i64 (nin b), .bool (dbad (nof b)), .bool (decide (dman (nof b) < 0)), .slice A (nl (dman (nof b)).natAbs) C, .int .i64 (dexp (nof b))]) ∧ DS w' (dbad (nof b)) (decide (dman (nof b) < 0)) A (nl (dman (nof b)).natAbs) C (dexp (nof b)) (nof b) ∧ From W w' ∧ BI w' A (nl (dman (nof b)).natAbs) C (dman (nof b)).natAbs ∧ (0 < nl (dman (nof b)).natAbs → W.heap.size ≤ ab A) from rofF_any W b hb)
 have HC := fun W [Tb W] => Lib.hid (show Calls Tryz.prog 60 #[.int .u64 (c : Nat)] W fun e w' => ∃ A C, e = .returned (.agg #[.int .i64 (nin c), .bool (dbad (nof c)), .bool (decide (dman (nof c) < 0)), .slice A (nl (dman (nof c)).natAbs) C, .int .i64 (dexp (nof c))]) ∧ DS w' (dbad (nof c)) (decide (dman (nof c) < 0)) A (nl (dman (nof c)).natAbs) C (dexp (nof c)) (nof c) ∧ From W w' ∧ BI w' A (nl (dman (nof c)).natAbs) C (dman (nof c)).natAbs ∧ (0 < nl (dman (nof c)).natAbs → W.heap.size ≤ ab A) from rofF_any W c hc)
 have HD := fun W [Tb W] => Lib.hid (show Calls Tryz.prog 60 #[.int .u64 (d : Nat)] W fun e w' => ∃ A C, e = .returned (.agg #[.int .i64 (nin d), .bool (dbad (nof d)), .bool (decide (dman (nof d) < 0)), .slice A (nl (dman (nof d)).natAbs) C, .int .i64 (dexp (nof d))]) ∧ DS w' (dbad (nof d)) (decide (dman (nof d) < 0)) A (nl (dman (nof d)).natAbs) C (dexp (nof d)) (nof d) ∧ From W w' ∧ BI w' A (nl (dman (nof d)).natAbs) C (dman (nof d)).natAbs ∧ (0 < nl (dman (nof d)).natAbs → W.heap.size ≤ ab A) from rofF_any W d hd)
 have HO := fun W A C A' C' [i1 : DS W (dbad d4) (decide (dman d4 < 0)) A (nl (dman d4).natAbs) C (dexp d4) d4] [i2 : DS W (dbad d5) (decide (dman d5 < 0)) A' (nl (dman d5).natAbs) C' (dexp d5) d5] [Tb W] => Lib.hid (frm (nout_any W i4 _ _ A _ C _ d4 i5 _ _ A' _ C' _ d5 (hd := i1) (hd' := i2)))
 unfold rhullI nb
 have hv : (if (iok (a, b) && iok (c, d)) = true then nout (nlo4 (nin a, nof a) (nin b, nof b) (nin c, nof c) (nin d, nof d)) (nhi4 (nin a, nof a) (nin b, nof b) (nin c, nof c) (nin d, nof d)) else iall) = if (iok (a, b) && iok (c, d)) = true then nout (i4, d4) (i5, d5) else iall := by rw [h4, h5]
 rw [hv]
 clear hv
 unfold iall
 generalize nout (i4, d4) (i5, d5) = V at *
 generalize nin a = ia at *
 generalize nof a = da at *
 generalize nin b = ib at *
 generalize nof b = db at *
 generalize nin c = ic at *
 generalize nof c = dc at *
 generalize nin d = id at *
 generalize nof d = dd at *
 have HN4 : ∀ k, k < 4 → IsN ((pick6 da db dc dd d4 d5) k) := (fun k hk => by rcases (show k = 0 ∨ k = 1 ∨ k = 2 ∨ k = 3 by omega) with rfl | rfl | rfl | rfl <;> assumption)
 have H4 : ((pick6 ia ib ic id i4 i5) 4, (pick6 da db dc dd d4 d5) 4) = nlo4 ((pick6 ia ib ic id i4 i5) 0, (pick6 da db dc dd d4 d5) 0) ((pick6 ia ib ic id i4 i5) 1, (pick6 da db dc dd d4 d5) 1) ((pick6 ia ib ic id i4 i5) 2, (pick6 da db dc dd d4 d5) 2) ((pick6 ia ib ic id i4 i5) 3, (pick6 da db dc dd d4 d5) 3) := h4.symm
 have H5 : ((pick6 ia ib ic id i4 i5) 5, (pick6 da db dc dd d4 d5) 5) = nhi4 ((pick6 ia ib ic id i4 i5) 0, (pick6 da db dc dd d4 d5) 0) ((pick6 ia ib ic id i4 i5) 1, (pick6 da db dc dd d4 d5) 1) ((pick6 ia ib ic id i4 i5) 2, (pick6 da db dc dd d4 d5) 2) ((pick6 ia ib ic id i4 i5) 3, (pick6 da db dc dd d4 d5) 3) := h5.symm
 have HSp := fun W (A : Nat → Option Addr) (C : Nat → Nat) {ca : Nat → Bool} (hm : ∀ i, ca i = true → Mag W (A i) (nl (dman (((pick6 da db dc dd d4 d5)) i)).natAbs) (C i) (dman (((pick6 da db dc dd d4 d5)) i)).natAbs) (hc : ∀ k, k < 4 → ca k = true) [Tb W] => Lib.hid (nspan_ns W ((pick6 ia ib ic id i4 i5)) ((pick6 da db dc dd d4 d5)) A C HN4 (fun k hk => hm k (hc k hk)) (((pick6 ia ib ic id i4 i5)) 4) (((pick6 da db dc dd d4 d5)) 4) (((pick6 ia ib ic id i4 i5)) 5) (((pick6 da db dc dd d4 d5)) 5) H4 H5)
 clear h4 h5 H4 H5 HN4
 generalize iok (a, b) = k1 at *
 generalize iok (c, d) = k2 at *
 generalize ((a : Nat) : Int) = p at *
 generalize ((b : Nat) : Int) = q at *
 generalize ((c : Nat) : Int) = r at *
 generalize ((d : Nat) : Int) = s at *
 cases k1
 · show Calls _ _ _ _ fun o w' => o = .returned (.agg #[.int .u64 18442240474082181120, .int .u64 9218868437227405312]) ∧ Below w.heap.size w w'
   clear H2
   go_enter Tryz.func32, Tryz.ntmps32
   go_wp2_with fail
   refine (H1 _).out.mono ?_; rintro o w1 ⟨rfl, b1⟩; go_wp2_with fail
   refine (HW _).out.mono ?_; rintro o w2 ⟨rfl, b2⟩; go_wp2_with fail
   refine bodyPost_ret (v := .agg #[.int .u64 18442240474082181120, .int .u64 9218868437227405312]) (by simp only [results, Tryz.results32]; go_simp) rfl ?_
   exact ⟨rfl, zbh⟩
 · cases k2
   · show Calls _ _ _ _ fun o w' => o = .returned (.agg #[.int .u64 18442240474082181120, .int .u64 9218868437227405312]) ∧ Below w.heap.size w w'
     go_enter Tryz.func32, Tryz.ntmps32
     go_wp2_with fail
     refine (H1 _).out.mono ?_; rintro o w1 ⟨rfl, b1⟩; go_wp2_with fail
     refine (H2 _).out.mono ?_; rintro o w2 ⟨rfl, b2⟩; go_wp2_with fail
     refine (HW _).out.mono ?_; rintro o w3 ⟨rfl, b3⟩; go_wp2_with fail
     refine bodyPost_ret (v := .agg #[.int .u64 18442240474082181120, .int .u64 9218868437227405312]) (by simp only [results, Tryz.results32]; go_simp) rfl ?_
     exact ⟨rfl, zbh⟩
   · skip
     go_enter Tryz.func32, Tryz.ntmps32
     go_wp2_with fail
     refine (H1 _).out.mono ?_; rintro o w1 ⟨rfl, b1⟩; go_wp2_with fail
     refine (H2 _).out.mono ?_; rintro o w2 ⟨rfl, b2⟩; go_wp2_with fail
     refine wp_region_from (by kernel_rfl) (fun w0 b0 => ?_)
     refine tkz 0 17 (.pointer (some ⟨w.heap.size, 0, none⟩)) (hy := fun w hSw => by haveI : From w0 w := ⟨hSw⟩; go_simp) (hS := Below.refl _ _) (h := ?_)
     refine tkz 1 18 (.int .u64 p) (hy := fun w hSw => by haveI : From w0 w := ⟨hSw⟩; go_simp) (hS := Below.refl _ _) (h := ?_)
     refine tkz 3 20 (.pointer (some ⟨w.heap.size, 1, none⟩)) (hy := fun w hSw => by haveI : From w0 w := ⟨hSw⟩; go_simp) (hS := Below.refl _ _) (h := ?_)
     refine tkz 4 21 (.int .u64 q) (hy := fun w hSw => by haveI : From w0 w := ⟨hSw⟩; go_simp) (hS := Below.refl _ _) (h := ?_)
     refine tkz 6 23 (.pointer (some ⟨w.heap.size + 1, 0, none⟩)) (hy := fun w hSw => by haveI : From w0 w := ⟨hSw⟩; go_simp) (hS := Below.refl _ _) (h := ?_)
     refine tkz 7 24 (.int .u64 r) (hy := fun w hSw => by haveI : From w0 w := ⟨hSw⟩; go_simp) (hS := Below.refl _ _) (h := ?_)
     refine tkz 9 26 (.pointer (some ⟨w.heap.size + 1, 1, none⟩)) (hy := fun w hSw => by haveI : From w0 w := ⟨hSw⟩; go_simp) (hS := Below.refl _ _) (h := ?_)
     refine tkz 10 27 (.int .u64 s) (hy := fun w hSw => by haveI : From w0 w := ⟨hSw⟩; go_simp) (hS := Below.refl _ _) (h := ?_)
     have hN0 := NS.start w0 (pick6 ia ib ic id i4 i5) (pick6 da db dc dd d4 d5) (fun _ => 0) (fun _ => none) (fun _ => 0)
     refine wpAnyH_ns w0 (pick6 ia ib ic id i4 i5) (pick6 da db dc dd d4 d5) (fun al ca st ex => #[true, true, ca 0, true, true, ca 1, true, true, ca 2, true, true, ca 3, ca 4, ex 1, ex 2, ex 3, al 4, al 5, st 4, st 5]) (fun al ca ex bf af cf => [(19, NT (ca 0) ((pick6 ia ib ic id i4 i5) 0) ((pick6 da db dc dd d4 d5) 0) (af 0) (cf 0)), (22, NT (ca 1) ((pick6 ia ib ic id i4 i5) 1) ((pick6 da db dc dd d4 d5) 1) (af 1) (cf 1)), (25, NT (ca 2) ((pick6 ia ib ic id i4 i5) 2) ((pick6 da db dc dd d4 d5) 2) (af 2) (cf 2)), (28, NT (ca 3) ((pick6 ia ib ic id i4 i5) 3) ((pick6 da db dc dd d4 d5) 3) (af 3) (cf 3)), (29, VT (ca 4) (.tuple #[.agg #[.int .i64 ((pick6 ia ib ic id i4 i5) 4), .bool (dbad ((pick6 da db dc dd d4 d5) 4)), .bool (decide (dman ((pick6 da db dc dd d4 d5) 4) < 0)), .slice (af 4) (nl (dman ((pick6 da db dc dd d4 d5) 4)).natAbs) (cf 4), .int .i64 (dexp ((pick6 da db dc dd d4 d5) 4))], .agg #[.int .i64 ((pick6 ia ib ic id i4 i5) 5), .bool (dbad ((pick6 da db dc dd d4 d5) 5)), .bool (decide (dman ((pick6 da db dc dd d4 d5) 5) < 0)), .slice (af 5) (nl (dman ((pick6 da db dc dd d4 d5) 5)).natAbs) (cf 5), .int .i64 (dexp ((pick6 da db dc dd d4 d5) 5))]])), (16, VT (ex 1) (.tuple #[.agg #[.int .i64 ((pick6 ia ib ic id i4 i5) 4), .bool (dbad ((pick6 da db dc dd d4 d5) 4)), .bool (decide (dman ((pick6 da db dc dd d4 d5) 4) < 0)), .slice (af 4) (nl (dman ((pick6 da db dc dd d4 d5) 4)).natAbs) (cf 4), .int .i64 (dexp ((pick6 da db dc dd d4 d5) 4))], .agg #[.int .i64 ((pick6 ia ib ic id i4 i5) 5), .bool (dbad ((pick6 da db dc dd d4 d5) 5)), .bool (decide (dman ((pick6 da db dc dd d4 d5) 5) < 0)), .slice (af 5) (nl (dman ((pick6 da db dc dd d4 d5) 5)).natAbs) (cf 5), .int .i64 (dexp ((pick6 da db dc dd d4 d5) 5))]])), (30, VT (ex 2) (.agg #[.int .i64 ((pick6 ia ib ic id i4 i5) 4), .bool (dbad ((pick6 da db dc dd d4 d5) 4)), .bool (decide (dman ((pick6 da db dc dd d4 d5) 4) < 0)), .slice (af 4) (nl (dman ((pick6 da db dc dd d4 d5) 4)).natAbs) (cf 4), .int .i64 (dexp ((pick6 da db dc dd d4 d5) 4))])), (31, VT (ex 3) (.agg #[.int .i64 ((pick6 ia ib ic id i4 i5) 5), .bool (dbad ((pick6 da db dc dd d4 d5) 5)), .bool (decide (dman ((pick6 da db dc dd d4 d5) 5) < 0)), .slice (af 5) (nl (dman ((pick6 da db dc dd d4 d5) 5)).natAbs) (cf 5), .int .i64 (dexp ((pick6 da db dc dd d4 d5) 5))])), (5, PT (al 4) (bf 4)), (6, PT (al 5) (bf 5))]) (fun al ca st ex af cf => ca 5 = ca 4 ∧ (ex 1 = true → ca 4 = true) ∧ (ex 2 = true → ca 4 = true) ∧ (ex 3 = true → ca 4 = true)) rfl hN0 (ex := fun _ => false) ⟨rfl, fun h => absurd h Bool.false_ne_true, fun h => absurd h Bool.false_ne_true, fun h => absurd h Bool.false_ne_true⟩ rfl (by simp only [fillA, List.setIfInBounds_toArray, List.set_cons_zero, List.set_cons_succ] <;> rfl) (by decide) (by kernel_rfl) (fun _ _ _ _ => rfl) ?_ ?_
     · intro al ca st ex bf af cf vw hN hX hw0
       repeat' (first | exact AllI.nil | refine AllI.cons ?_ ?_)
       · intro h; cases h
       · intro h; cases h
       · intro (hl : ca 0 = false) _ K hK
         simp only [fillA, List.setIfInBounds_toArray, List.set_cons_zero, List.set_cons_succ]
         go_simp
         refine (HA _).out.mono ?_; rintro o w1 ⟨a1, c1, rfl, i1, b1, m1, f1⟩
         go_simp
         exact ns_ca hK hN 0 hl hX b1 m1 f1
       · intro h; cases h
       · intro h; cases h
       · intro (hl : ca 1 = false) _ K hK
         simp only [fillA, List.setIfInBounds_toArray, List.set_cons_zero, List.set_cons_succ]
         go_simp
         refine (HB _).out.mono ?_; rintro o w1 ⟨a1, c1, rfl, i1, b1, m1, f1⟩
         go_simp
         exact ns_ca hK hN 1 hl hX b1 m1 f1
       · intro h; cases h
       · intro h; cases h
       · intro (hl : ca 2 = false) _ K hK
         simp only [fillA, List.setIfInBounds_toArray, List.set_cons_zero, List.set_cons_succ]
         go_simp
         refine (HC _).out.mono ?_; rintro o w1 ⟨a1, c1, rfl, i1, b1, m1, f1⟩
         go_simp
         exact ns_ca hK hN 2 hl hX b1 m1 f1
       · intro h; cases h
       · intro h; cases h
       · intro (hl : ca 3 = false) _ K hK
         simp only [fillA, List.setIfInBounds_toArray, List.set_cons_zero, List.set_cons_succ]
         go_simp
         refine (HD _).out.mono ?_; rintro o w1 ⟨a1, c1, rfl, i1, b1, m1, f1⟩
         go_simp
         exact ns_ca hK hN 3 hl hX b1 m1 f1
       · intro (hl : ca 4 = false) haf K hK
         have h0 : ca 0 = true := haf ⟨2, .data⟩ (by simp) rfl
         have h1 : ca 1 = true := haf ⟨5, .data⟩ (by simp) rfl
         have h2 : ca 2 = true := haf ⟨8, .data⟩ (by simp) rfl
         have h3 : ca 3 = true := haf ⟨11, .data⟩ (by simp) rfl
         have x1 := off_of hX.2.1 hl
         have x2 := off_of hX.2.2.1 hl
         have x3 := off_of hX.2.2.2 hl
         have hall : ∀ k, k < 4 → ca k = true := fun k hk => by rcases (show k = 0 ∨ k = 1 ∨ k = 2 ∨ k = 3 by omega) with rfl | rfl | rfl | rfl <;> assumption
         clear haf
         simp only [fillA, h0, h1, h2, h3, NT_true, List.setIfInBounds_toArray, List.set_cons_zero, List.set_cons_succ]
         simp [go_sem]
         refine (HSp vw af cf hN.nu hall).out.mono ?_; rintro o w1 ⟨j, l, hj, hl4, q4, q5, rfl, b1⟩
         simp [go_sem]
         exact hK.out al (up1 (up1 ca 4 true) 5 true) st ex bf (up1 (up1 af 4 (af j)) 5 (af l)) (up1 (up1 cf 4 (cf j)) 5 (cf l)) _ _ rfl (by have g := fun (k : Nat) (hk : k < 4) => (up1_ne (up1 ca 4 true) (show k ≠ 5 by omega) true).trans ((up1_ne ca (show k ≠ 4 by omega) true).trans (hall k hk)); simp only [fillA, g 0 (by decide), g 1 (by decide), g 2 (by decide), g 3 (by decide), x1, x2, x3, NT_true, VT_false, List.setIfInBounds_toArray, List.set_cons_zero, List.set_cons_succ] <;> rfl) ⟨rfl, fun _ => rfl, fun _ => rfl, fun _ => rfl⟩ ((hN.on b1).pick2 4 5 j l hl (hX.1.trans hl) (by decide) (hall j hj) (hall l hl4) q4 q5)
       · intro _ haf K hK
         have h4 : ca 4 = true := haf ⟨12, .data⟩ (by simp) rfl
         clear haf
         simp [fillA, h4, VT_true, go_sem]
         exact hK.out al ca st (up1 ex 1 true) bf af cf _ _ rfl (by simp only [fillA, h4, List.setIfInBounds_toArray, List.set_cons_zero, List.set_cons_succ] <;> rfl) ⟨hX.1, fun _ => h4, hX.2.2.1, hX.2.2.2⟩ hN
       · intro _ haf K hK
         have h4 : ex 1 = true := haf ⟨13, .data⟩ (by simp) rfl
         clear haf
         simp [fillA, h4, VT_true, go_sem]
         exact hK.out al ca st (up1 ex 2 true) bf af cf _ _ rfl (by have g1 : up1 ex 2 true 1 = true := h4; simp only [fillA, g1, VT_true, List.setIfInBounds_toArray, List.set_cons_zero, List.set_cons_succ] <;> rfl) ⟨hX.1, hX.2.1, fun _ => hX.2.1 h4, hX.2.2.2⟩ hN
       · intro _ haf K hK
         have h4 : ex 1 = true := haf ⟨13, .data⟩ (by simp) rfl
         clear haf
         simp [fillA, h4, VT_true, go_sem]
         exact hK.out al ca st (up1 ex 3 true) bf af cf _ _ rfl (by have g1 : up1 ex 3 true 1 = true := h4; simp only [fillA, g1, VT_true, List.setIfInBounds_toArray, List.set_cons_zero, List.set_cons_succ] <;> rfl) ⟨hX.1, hX.2.1, hX.2.2.1, fun _ => hX.2.1 h4⟩ hN
       · intro (hl : al 4 = false) _ K hK
         simp [go_sem]
         exact ns_al hK hN 4 hl hX
       · intro (hl : al 5 = false) _ K hK
         simp [go_sem]
         exact ns_al hK hN 5 hl hX
       · intro _ haf K hK
         have h1 : al 4 = true := haf ⟨16, .data⟩ (by simp) rfl
         have h3 : ex 2 = true := haf ⟨14, .data⟩ (by simp) rfl
         have h2 : ca 4 = true := hX.2.2.1 h3
         clear haf
         haveI hz := (hN.bx 4 h1).2.spec
         simp [fillA, h1, h3, PT_true, VT_true, go_sem]
         have hS := hN.store 4 h1 h2
         exact ns_st hK 4 hS hX (by simp only [fillA, h1, h3, PT_true, VT_true, List.setIfInBounds_toArray, List.set_cons_zero, List.set_cons_succ] <;> rfl)
       · intro _ haf K hK
         have h1 : al 5 = true := haf ⟨17, .data⟩ (by simp) rfl
         have h3 : ex 3 = true := haf ⟨15, .data⟩ (by simp) rfl
         have h2 : ca 5 = true := hX.1.trans (hX.2.2.2 h3)
         clear haf
         haveI hz := (hN.bx 5 h1).2.spec
         simp [fillA, h1, h3, PT_true, VT_true, go_sem]
         have hS := hN.store 5 h1 h2
         exact ns_st hK 5 hS hX (by simp only [fillA, h1, h3, PT_true, VT_true, List.setIfInBounds_toArray, List.set_cons_zero, List.set_cons_succ] <;> rfl)
     · intro al ca st ex bf af cf vw hN hX hw0 hall
       have q2 : ca 0 = true := hall 2 (by decide)
       have q5 : ca 1 = true := hall 5 (by decide)
       have q8 : ca 2 = true := hall 8 (by decide)
       have q11 : ca 3 = true := hall 11 (by decide)
       have q12 : ca 4 = true := hall 12 (by decide)
       have q13 : ex 1 = true := hall 13 (by decide)
       have q14 : ex 2 = true := hall 14 (by decide)
       have q15 : ex 3 = true := hall 15 (by decide)
       have q16 : al 4 = true := hall 16 (by decide)
       have q17 : al 5 = true := hall 17 (by decide)
       have q18 : st 4 = true := hall 18 (by decide)
       have q19 : st 5 = true := hall 19 (by decide)
       clear hall
       simp only [fillA, q2, q5, q8, q11, q12, q13, q14, q15, q16, q17, PT_true, NT_true, VT_true, List.setIfInBounds_toArray, List.set_cons_zero, List.set_cons_succ]
       haveI n4 : NB5 vw (bf 4) i4 d4 (af 4) (cf 4) := (hN.se 4 q18).2.2
       haveI n5 : NB5 vw (bf 5) i5 d5 (af 5) (cf 5) := (hN.se 5 q19).2.2
       haveI m4 : DS vw (dbad d4) (decide (dman d4 < 0)) (af 4) (nl (dman d4).natAbs) (cf 4) (dexp d4) d4 := ⟨dys_of Nd4 (hN.nu 4 q12)⟩
       haveI m5 : DS vw (dbad d5) (decide (dman d5 < 0)) (af 5) (nl (dman d5).natAbs) (cf 5) (dexp d5) d5 := ⟨dys_of Nd5 (hN.nu 5 (hX.1.trans q12))⟩
       go_wp2_with fail
       refine (HO _ _ _ _ _).out.mono ?_; rintro o w9 ⟨rfl, b9⟩; go_wp2_with fail
       refine bodyPost_ret (v := .agg #[.int .u64 (V.1 : Nat), .int .u64 (V.2 : Nat)]) (by simp only [results, Tryz.results32]; go_simp) rfl ?_
       exact ⟨rfl, zbh⟩
theorem nsg3 (f : Nat) : nsg (nin f) (nof f) = -1 ∨ nsg (nin f) (nof f) = 0 ∨ nsg (nin f) (nof f) = 1 := by
 unfold nsg nin
 by_cases h1 : f = fInf
 · rw [if_pos h1, if_pos (by decide)]; exact Or.inr (Or.inr rfl)
 · rw [if_neg h1]
   by_cases h2 : f = fNInf
   · rw [if_pos h2, if_pos (by decide)]; exact Or.inl rfl
   · rw [if_neg h2, if_neg (by decide)]; exact cmpI_range _ _
theorem nsgw (f g : Nat) : IntKind.i64.wrap (nsg (nin f) (nof f) * nsg (nin g) (nof g)) = nsg (nin f) (nof f) * nsg (nin g) (nof g) := by
 rcases nsg3 f with h | h | h <;> rcases nsg3 g with k | k | k <;> rw [h, k] <;> decide
theorem nprod_isN {p q : Int × Option (Int × Int)} : IsN (nprod p q).2 := by
 unfold nprod
 split
 · exact isN_00
 · split
   · exact isN_00
   · exact isN_mul _ _
theorem nmul_any (w : World) [Tb w] (a : Nat) (b : Nat) (c : Nat) (d : Nat) (ha : a < 18446744073709551616) (hb : b < 18446744073709551616) (hc : c < 18446744073709551616) (hd : d < 18446744073709551616) : Calls Tryz.prog 24 #[.agg #[.int .u64 (a : Nat), .int .u64 (b : Nat)], .agg #[.int .u64 (c : Nat), .int .u64 (d : Nat)]] w fun o w' => o = .returned (.agg #[.int .u64 ((rmulI (a, b) (c, d)).1 : Nat), .int .u64 ((rmulI (a, b) (c, d)).2 : Nat)]) ∧ Below w.heap.size w w' := by
 have H1 := fun W => Lib.hid (frm (r5valid_any W a b ha hb))
 have H2 := fun W => Lib.hid (frm (r5valid_any W c d hc hd))
 have HW := fun W => Lib.hid (frm (nall_any W))
 have Na := isN_nof a
 have Nb := isN_nof b
 have Nc := isN_nof c
 have Nd := isN_nof d
 obtain ⟨e0, g0, hp0⟩ : ∃ e g, nprod (nin a, nof a) (nin c, nof c) = (e, g) := ⟨_, _, rfl⟩
 have Ng0 : IsN g0 := by have := @nprod_isN (nin a, nof a) (nin c, nof c); rw [hp0] at this; exact this
 have HP0 := fun W A C A' C' [j1 : DS W (dbad (nof a)) (decide (dman (nof a) < 0)) A (nl (dman (nof a)).natAbs) C (dexp (nof a)) (nof a)] [j2 : DS W (dbad (nof c)) (decide (dman (nof c) < 0)) A' (nl (dman (nof c)).natAbs) C' (dexp (nof c)) (nof c)] [Tb W] => Lib.hid (nprod_any W (nin a) _ _ A _ C _ (nof a) (nin c) _ _ A' _ C' _ (nof c) (hd := j1) (hd' := j2) (nsgw a c))
 rw [hp0] at HP0
 dsimp only at HP0
 obtain ⟨e1, g1, hp1⟩ : ∃ e g, nprod (nin a, nof a) (nin d, nof d) = (e, g) := ⟨_, _, rfl⟩
 have Ng1 : IsN g1 := by have := @nprod_isN (nin a, nof a) (nin d, nof d); rw [hp1] at this; exact this
 have HP1 := fun W A C A' C' [j1 : DS W (dbad (nof a)) (decide (dman (nof a) < 0)) A (nl (dman (nof a)).natAbs) C (dexp (nof a)) (nof a)] [j2 : DS W (dbad (nof d)) (decide (dman (nof d) < 0)) A' (nl (dman (nof d)).natAbs) C' (dexp (nof d)) (nof d)] [Tb W] => Lib.hid (nprod_any W (nin a) _ _ A _ C _ (nof a) (nin d) _ _ A' _ C' _ (nof d) (hd := j1) (hd' := j2) (nsgw a d))
 rw [hp1] at HP1
 dsimp only at HP1
 obtain ⟨e2, g2, hp2⟩ : ∃ e g, nprod (nin b, nof b) (nin c, nof c) = (e, g) := ⟨_, _, rfl⟩
 have Ng2 : IsN g2 := by have := @nprod_isN (nin b, nof b) (nin c, nof c); rw [hp2] at this; exact this
 have HP2 := fun W A C A' C' [j1 : DS W (dbad (nof b)) (decide (dman (nof b) < 0)) A (nl (dman (nof b)).natAbs) C (dexp (nof b)) (nof b)] [j2 : DS W (dbad (nof c)) (decide (dman (nof c) < 0)) A' (nl (dman (nof c)).natAbs) C' (dexp (nof c)) (nof c)] [Tb W] => Lib.hid (nprod_any W (nin b) _ _ A _ C _ (nof b) (nin c) _ _ A' _ C' _ (nof c) (hd := j1) (hd' := j2) (nsgw b c))
 rw [hp2] at HP2
 dsimp only at HP2
 obtain ⟨e3, g3, hp3⟩ : ∃ e g, nprod (nin b, nof b) (nin d, nof d) = (e, g) := ⟨_, _, rfl⟩
 have Ng3 : IsN g3 := by have := @nprod_isN (nin b, nof b) (nin d, nof d); rw [hp3] at this; exact this
 have HP3 := fun W A C A' C' [j1 : DS W (dbad (nof b)) (decide (dman (nof b) < 0)) A (nl (dman (nof b)).natAbs) C (dexp (nof b)) (nof b)] [j2 : DS W (dbad (nof d)) (decide (dman (nof d) < 0)) A' (nl (dman (nof d)).natAbs) C' (dexp (nof d)) (nof d)] [Tb W] => Lib.hid (nprod_any W (nin b) _ _ A _ C _ (nof b) (nin d) _ _ A' _ C' _ (nof d) (hd := j1) (hd' := j2) (nsgw b d))
 rw [hp3] at HP3
 dsimp only at HP3
 obtain ⟨i4, d4, h4⟩ : ∃ i e, nlo4 (e0, g0) (e1, g1) (e2, g2) (e3, g3) = (i, e) := ⟨_, _, rfl⟩
 obtain ⟨i5, d5, h5⟩ : ∃ i e, nhi4 (e0, g0) (e1, g1) (e2, g2) (e3, g3) = (i, e) := ⟨_, _, rfl⟩
 have Nd4 : IsN d4 := by have := nlo4_isN Ng0 Ng1 Ng2 Ng3 (p := e0) (q := e1) (r := e2) (s := e3); rw [h4] at this; exact this
 have Nd5 : IsN d5 := by have := nhi4_isN Ng0 Ng1 Ng2 Ng3 (p := e0) (q := e1) (r := e2) (s := e3); rw [h5] at this; exact this
 have HA := fun W [Tb W] => Lib.hid (show Calls Tryz.prog 60 #[.int .u64 (a : Nat)] W fun e w' => ∃ A C, e = .returned (.agg #[.int .i64 (nin a), .bool (dbad (nof a)), .bool (decide (dman (nof a) < 0)), .slice A (nl (dman (nof a)).natAbs) C, .int .i64 (dexp (nof a))]) ∧ DS w' (dbad (nof a)) (decide (dman (nof a) < 0)) A (nl (dman (nof a)).natAbs) C (dexp (nof a)) (nof a) ∧ From W w' ∧ BI w' A (nl (dman (nof a)).natAbs) C (dman (nof a)).natAbs ∧ (0 < nl (dman (nof a)).natAbs → W.heap.size ≤ ab A) from rofF_any W a ha)
 have HB := fun W [Tb W] => Lib.hid (show Calls Tryz.prog 60 #[.int .u64 (b : Nat)] W fun e w' => ∃ A C, e = .returned (.agg #[.int .i64 (nin b), .bool (dbad (nof b)), .bool (decide (dman (nof b) < 0)), .slice A (nl (dman (nof b)).natAbs) C, .int .i64 (dexp (nof b))]) ∧ DS w' (dbad (nof b)) (decide (dman (nof b) < 0)) A (nl (dman (nof b)).natAbs) C (dexp (nof b)) (nof b) ∧ From W w' ∧ BI w' A (nl (dman (nof b)).natAbs) C (dman (nof b)).natAbs ∧ (0 < nl (dman (nof b)).natAbs → W.heap.size ≤ ab A) from rofF_any W b hb)
 have HC := fun W [Tb W] => Lib.hid (show Calls Tryz.prog 60 #[.int .u64 (c : Nat)] W fun e w' => ∃ A C, e = .returned (.agg #[.int .i64 (nin c), .bool (dbad (nof c)), .bool (decide (dman (nof c) < 0)), .slice A (nl (dman (nof c)).natAbs) C, .int .i64 (dexp (nof c))]) ∧ DS w' (dbad (nof c)) (decide (dman (nof c) < 0)) A (nl (dman (nof c)).natAbs) C (dexp (nof c)) (nof c) ∧ From W w' ∧ BI w' A (nl (dman (nof c)).natAbs) C (dman (nof c)).natAbs ∧ (0 < nl (dman (nof c)).natAbs → W.heap.size ≤ ab A) from rofF_any W c hc)
 have HD := fun W [Tb W] => Lib.hid (show Calls Tryz.prog 60 #[.int .u64 (d : Nat)] W fun e w' => ∃ A C, e = .returned (.agg #[.int .i64 (nin d), .bool (dbad (nof d)), .bool (decide (dman (nof d) < 0)), .slice A (nl (dman (nof d)).natAbs) C, .int .i64 (dexp (nof d))]) ∧ DS w' (dbad (nof d)) (decide (dman (nof d) < 0)) A (nl (dman (nof d)).natAbs) C (dexp (nof d)) (nof d) ∧ From W w' ∧ BI w' A (nl (dman (nof d)).natAbs) C (dman (nof d)).natAbs ∧ (0 < nl (dman (nof d)).natAbs → W.heap.size ≤ ab A) from rofF_any W d hd)
 have HO := fun W A C A' C' [i1 : DS W (dbad d4) (decide (dman d4 < 0)) A (nl (dman d4).natAbs) C (dexp d4) d4] [i2 : DS W (dbad d5) (decide (dman d5 < 0)) A' (nl (dman d5).natAbs) C' (dexp d5) d5] [Tb W] => Lib.hid (frm (nout_any W i4 _ _ A _ C _ d4 i5 _ _ A' _ C' _ d5 (hd := i1) (hd' := i2)))
 unfold rmulI nb
 have hv : (if (iok (a, b) && iok (c, d)) = true then nout (nlo4 (nprod (nin a, nof a) (nin c, nof c)) (nprod (nin a, nof a) (nin d, nof d)) (nprod (nin b, nof b) (nin c, nof c)) (nprod (nin b, nof b) (nin d, nof d))) (nhi4 (nprod (nin a, nof a) (nin c, nof c)) (nprod (nin a, nof a) (nin d, nof d)) (nprod (nin b, nof b) (nin c, nof c)) (nprod (nin b, nof b) (nin d, nof d))) else iall) = if (iok (a, b) && iok (c, d)) = true then nout (i4, d4) (i5, d5) else iall := by rw [hp0, hp1, hp2, hp3, h4, h5]
 rw [hv]
 clear hv hp0 hp1 hp2 hp3
 unfold iall
 generalize nout (i4, d4) (i5, d5) = V at *
 generalize nin a = ia at *
 generalize nof a = da at *
 generalize nin b = ib at *
 generalize nof b = db at *
 generalize nin c = ic at *
 generalize nof c = dc at *
 generalize nin d = id at *
 generalize nof d = dd at *
 have HN4 : ∀ k, k < 4 → IsN ((pick6 g0 g1 g2 g3 d4 d5) k) := (fun k hk => by rcases (show k = 0 ∨ k = 1 ∨ k = 2 ∨ k = 3 by omega) with rfl | rfl | rfl | rfl <;> assumption)
 have H4 : ((pick6 e0 e1 e2 e3 i4 i5) 4, (pick6 g0 g1 g2 g3 d4 d5) 4) = nlo4 ((pick6 e0 e1 e2 e3 i4 i5) 0, (pick6 g0 g1 g2 g3 d4 d5) 0) ((pick6 e0 e1 e2 e3 i4 i5) 1, (pick6 g0 g1 g2 g3 d4 d5) 1) ((pick6 e0 e1 e2 e3 i4 i5) 2, (pick6 g0 g1 g2 g3 d4 d5) 2) ((pick6 e0 e1 e2 e3 i4 i5) 3, (pick6 g0 g1 g2 g3 d4 d5) 3) := h4.symm
 have H5 : ((pick6 e0 e1 e2 e3 i4 i5) 5, (pick6 g0 g1 g2 g3 d4 d5) 5) = nhi4 ((pick6 e0 e1 e2 e3 i4 i5) 0, (pick6 g0 g1 g2 g3 d4 d5) 0) ((pick6 e0 e1 e2 e3 i4 i5) 1, (pick6 g0 g1 g2 g3 d4 d5) 1) ((pick6 e0 e1 e2 e3 i4 i5) 2, (pick6 g0 g1 g2 g3 d4 d5) 2) ((pick6 e0 e1 e2 e3 i4 i5) 3, (pick6 g0 g1 g2 g3 d4 d5) 3) := h5.symm
 have HSp := fun W (A : Nat → Option Addr) (C : Nat → Nat) {ca : Nat → Bool} (hm : ∀ i, ca i = true → Mag W (A i) (nl (dman (((pick6 g0 g1 g2 g3 d4 d5)) i)).natAbs) (C i) (dman (((pick6 g0 g1 g2 g3 d4 d5)) i)).natAbs) (hc : ∀ k, k < 4 → ca k = true) [Tb W] => Lib.hid (nspan_ns W ((pick6 e0 e1 e2 e3 i4 i5)) ((pick6 g0 g1 g2 g3 d4 d5)) A C HN4 (fun k hk => hm k (hc k hk)) (((pick6 e0 e1 e2 e3 i4 i5)) 4) (((pick6 g0 g1 g2 g3 d4 d5)) 4) (((pick6 e0 e1 e2 e3 i4 i5)) 5) (((pick6 g0 g1 g2 g3 d4 d5)) 5) H4 H5)
 clear h4 h5 H4 H5 HN4
 generalize iok (a, b) = k1 at *
 generalize iok (c, d) = k2 at *
 generalize ((a : Nat) : Int) = p at *
 generalize ((b : Nat) : Int) = q at *
 generalize ((c : Nat) : Int) = r at *
 generalize ((d : Nat) : Int) = s at *
 cases k1
 · show Calls _ _ _ _ fun o w' => o = .returned (.agg #[.int .u64 18442240474082181120, .int .u64 9218868437227405312]) ∧ Below w.heap.size w w'
   clear H2
   go_enter Tryz.func24, Tryz.ntmps24
   go_wp2_with fail
   refine (H1 _).out.mono ?_; rintro o w1 ⟨rfl, b1⟩; go_wp2_with fail
   refine (HW _).out.mono ?_; rintro o w2 ⟨rfl, b2⟩; go_wp2_with fail
   refine bodyPost_ret (v := .agg #[.int .u64 18442240474082181120, .int .u64 9218868437227405312]) (by simp only [results, Tryz.results24]; go_simp) rfl ?_
   exact ⟨rfl, zbh⟩
 · cases k2
   · show Calls _ _ _ _ fun o w' => o = .returned (.agg #[.int .u64 18442240474082181120, .int .u64 9218868437227405312]) ∧ Below w.heap.size w w'
     go_enter Tryz.func24, Tryz.ntmps24
     go_wp2_with fail
     refine (H1 _).out.mono ?_; rintro o w1 ⟨rfl, b1⟩; go_wp2_with fail
     refine (H2 _).out.mono ?_; rintro o w2 ⟨rfl, b2⟩; go_wp2_with fail
     refine (HW _).out.mono ?_; rintro o w3 ⟨rfl, b3⟩; go_wp2_with fail
     refine bodyPost_ret (v := .agg #[.int .u64 18442240474082181120, .int .u64 9218868437227405312]) (by simp only [results, Tryz.results24]; go_simp) rfl ?_
     exact ⟨rfl, zbh⟩
   · skip
     go_enter Tryz.func24, Tryz.ntmps24
     go_wp2_with fail
     refine (H1 _).out.mono ?_; rintro o w1 ⟨rfl, b1⟩; go_wp2_with fail
     refine (H2 _).out.mono ?_; rintro o w2 ⟨rfl, b2⟩; go_wp2_with fail
     refine wp_region_from (by kernel_rfl) (fun w0 b0 => ?_)
     refine tkz 0 20 (.pointer (some ⟨w.heap.size, 0, none⟩)) (hy := fun w hSw => by haveI : From w0 w := ⟨hSw⟩; go_simp) (hS := Below.refl _ _) (h := ?_)
     refine tkz 1 21 (.int .u64 p) (hy := fun w hSw => by haveI : From w0 w := ⟨hSw⟩; go_simp) (hS := Below.refl _ _) (h := ?_)
     refine tkz 3 23 (.pointer (some ⟨w.heap.size, 1, none⟩)) (hy := fun w hSw => by haveI : From w0 w := ⟨hSw⟩; go_simp) (hS := Below.refl _ _) (h := ?_)
     refine tkz 4 24 (.int .u64 q) (hy := fun w hSw => by haveI : From w0 w := ⟨hSw⟩; go_simp) (hS := Below.refl _ _) (h := ?_)
     refine tkz 6 26 (.pointer (some ⟨w.heap.size + 1, 0, none⟩)) (hy := fun w hSw => by haveI : From w0 w := ⟨hSw⟩; go_simp) (hS := Below.refl _ _) (h := ?_)
     refine tkz 7 27 (.int .u64 r) (hy := fun w hSw => by haveI : From w0 w := ⟨hSw⟩; go_simp) (hS := Below.refl _ _) (h := ?_)
     refine tkz 9 29 (.pointer (some ⟨w.heap.size + 1, 1, none⟩)) (hy := fun w hSw => by haveI : From w0 w := ⟨hSw⟩; go_simp) (hS := Below.refl _ _) (h := ?_)
     refine tkz 10 30 (.int .u64 s) (hy := fun w hSw => by haveI : From w0 w := ⟨hSw⟩; go_simp) (hS := Below.refl _ _) (h := ?_)
     have hN0 := NS.start w0 (pick4 ia ib ic id) (pick4 da db dc dd) (fun _ => 0) (fun _ => none) (fun _ => 0)
     refine wpAnyH_ns w0 (pick4 ia ib ic id) (pick4 da db dc dd) (fun al ca st ex => #[true, true, ca 0, true, true, ca 1, true, true, ca 2, true, true, ca 3, al 0, al 1, al 2, al 3, st 0, st 1, st 2, st 3]) (fun al ca ex bf af cf => [(22, NT (ca 0) ((pick4 ia ib ic id) 0) ((pick4 da db dc dd) 0) (af 0) (cf 0)), (25, NT (ca 1) ((pick4 ia ib ic id) 1) ((pick4 da db dc dd) 1) (af 1) (cf 1)), (28, NT (ca 2) ((pick4 ia ib ic id) 2) ((pick4 da db dc dd) 2) (af 2) (cf 2)), (31, NT (ca 3) ((pick4 ia ib ic id) 3) ((pick4 da db dc dd) 3) (af 3) (cf 3)), (5, PT (al 0) (bf 0)), (6, PT (al 1) (bf 1)), (7, PT (al 2) (bf 2)), (8, PT (al 3) (bf 3))]) (fun al ca st ex af cf => True) rfl hN0 (ex := fun _ => false) trivial rfl (by simp only [fillA, List.setIfInBounds_toArray, List.set_cons_zero, List.set_cons_succ] <;> rfl) (by decide) (by kernel_rfl) (fun _ _ _ _ => rfl) ?_ ?_
     · intro al ca st ex bf af cf vw hN hX hw0
       repeat' (first | exact AllI.nil | refine AllI.cons ?_ ?_)
       · intro h; cases h
       · intro h; cases h
       · intro (hl : ca 0 = false) _ K hK
         simp only [fillA, List.setIfInBounds_toArray, List.set_cons_zero, List.set_cons_succ]
         go_simp
         refine (HA _).out.mono ?_; rintro o w1 ⟨a1, c1, rfl, i1, b1, m1, f1⟩
         go_simp
         exact ns_ca hK hN 0 hl hX b1 m1 f1
       · intro h; cases h
       · intro h; cases h
       · intro (hl : ca 1 = false) _ K hK
         simp only [fillA, List.setIfInBounds_toArray, List.set_cons_zero, List.set_cons_succ]
         go_simp
         refine (HB _).out.mono ?_; rintro o w1 ⟨a1, c1, rfl, i1, b1, m1, f1⟩
         go_simp
         exact ns_ca hK hN 1 hl hX b1 m1 f1
       · intro h; cases h
       · intro h; cases h
       · intro (hl : ca 2 = false) _ K hK
         simp only [fillA, List.setIfInBounds_toArray, List.set_cons_zero, List.set_cons_succ]
         go_simp
         refine (HC _).out.mono ?_; rintro o w1 ⟨a1, c1, rfl, i1, b1, m1, f1⟩
         go_simp
         exact ns_ca hK hN 2 hl hX b1 m1 f1
       · intro h; cases h
       · intro h; cases h
       · intro (hl : ca 3 = false) _ K hK
         simp only [fillA, List.setIfInBounds_toArray, List.set_cons_zero, List.set_cons_succ]
         go_simp
         refine (HD _).out.mono ?_; rintro o w1 ⟨a1, c1, rfl, i1, b1, m1, f1⟩
         go_simp
         exact ns_ca hK hN 3 hl hX b1 m1 f1
       · intro (hl : al 0 = false) _ K hK
         simp [go_sem]
         exact ns_al hK hN 0 hl hX
       · intro (hl : al 1 = false) _ K hK
         simp [go_sem]
         exact ns_al hK hN 1 hl hX
       · intro (hl : al 2 = false) _ K hK
         simp [go_sem]
         exact ns_al hK hN 2 hl hX
       · intro (hl : al 3 = false) _ K hK
         simp [go_sem]
         exact ns_al hK hN 3 hl hX
       · intro _ haf K hK
         have h1 : al 0 = true := haf ⟨12, .data⟩ (by simp) rfl
         have h2 : ca 0 = true := haf ⟨2, .data⟩ (by simp) rfl
         clear haf
         haveI hz := (hN.bx 0 h1).2.spec
         simp [fillA, h1, h2, PT_true, NT_true, go_sem]
         have hS := hN.store 0 h1 h2
         exact ns_st hK 0 hS hX (by simp only [fillA, h1, h2, PT_true, NT_true, List.setIfInBounds_toArray, List.set_cons_zero, List.set_cons_succ] <;> rfl)
       · intro _ haf K hK
         have h1 : al 1 = true := haf ⟨13, .data⟩ (by simp) rfl
         have h2 : ca 1 = true := haf ⟨5, .data⟩ (by simp) rfl
         clear haf
         haveI hz := (hN.bx 1 h1).2.spec
         simp [fillA, h1, h2, PT_true, NT_true, go_sem]
         have hS := hN.store 1 h1 h2
         exact ns_st hK 1 hS hX (by simp only [fillA, h1, h2, PT_true, NT_true, List.setIfInBounds_toArray, List.set_cons_zero, List.set_cons_succ] <;> rfl)
       · intro _ haf K hK
         have h1 : al 2 = true := haf ⟨14, .data⟩ (by simp) rfl
         have h2 : ca 2 = true := haf ⟨8, .data⟩ (by simp) rfl
         clear haf
         haveI hz := (hN.bx 2 h1).2.spec
         simp [fillA, h1, h2, PT_true, NT_true, go_sem]
         have hS := hN.store 2 h1 h2
         exact ns_st hK 2 hS hX (by simp only [fillA, h1, h2, PT_true, NT_true, List.setIfInBounds_toArray, List.set_cons_zero, List.set_cons_succ] <;> rfl)
       · intro _ haf K hK
         have h1 : al 3 = true := haf ⟨15, .data⟩ (by simp) rfl
         have h2 : ca 3 = true := haf ⟨11, .data⟩ (by simp) rfl
         clear haf
         haveI hz := (hN.bx 3 h1).2.spec
         simp [fillA, h1, h2, PT_true, NT_true, go_sem]
         have hS := hN.store 3 h1 h2
         exact ns_st hK 3 hS hX (by simp only [fillA, h1, h2, PT_true, NT_true, List.setIfInBounds_toArray, List.set_cons_zero, List.set_cons_succ] <;> rfl)
     · intro al ca st ex bf af cf vw hN hX hw0 hall
       have q2 : ca 0 = true := hall 2 (by decide)
       have q5 : ca 1 = true := hall 5 (by decide)
       have q8 : ca 2 = true := hall 8 (by decide)
       have q11 : ca 3 = true := hall 11 (by decide)
       have q12 : al 0 = true := hall 12 (by decide)
       have q13 : al 1 = true := hall 13 (by decide)
       have q14 : al 2 = true := hall 14 (by decide)
       have q15 : al 3 = true := hall 15 (by decide)
       have q16 : st 0 = true := hall 16 (by decide)
       have q17 : st 1 = true := hall 17 (by decide)
       have q18 : st 2 = true := hall 18 (by decide)
       have q19 : st 3 = true := hall 19 (by decide)
       clear hall
       simp only [fillA, q2, q5, q8, q11, q12, q13, q14, q15, PT_true, NT_true, VT_true, List.setIfInBounds_toArray, List.set_cons_zero, List.set_cons_succ]
       haveI n0 : NB5 vw (bf 0) ia da (af 0) (cf 0) := (hN.se 0 q16).2.2
       haveI D0 : DS vw (dbad da) (decide (dman da < 0)) (af 0) (nl (dman da).natAbs) (cf 0) (dexp da) da := ⟨dys_of Na (hN.nu 0 q2)⟩
       haveI n1 : NB5 vw (bf 1) ib db (af 1) (cf 1) := (hN.se 1 q17).2.2
       haveI D1 : DS vw (dbad db) (decide (dman db < 0)) (af 1) (nl (dman db).natAbs) (cf 1) (dexp db) db := ⟨dys_of Nb (hN.nu 1 q5)⟩
       haveI n2 : NB5 vw (bf 2) ic dc (af 2) (cf 2) := (hN.se 2 q18).2.2
       haveI D2 : DS vw (dbad dc) (decide (dman dc < 0)) (af 2) (nl (dman dc).natAbs) (cf 2) (dexp dc) dc := ⟨dys_of Nc (hN.nu 2 q8)⟩
       haveI n3 : NB5 vw (bf 3) id dd (af 3) (cf 3) := (hN.se 3 q19).2.2
       haveI D3 : DS vw (dbad dd) (decide (dman dd < 0)) (af 3) (nl (dman dd).natAbs) (cf 3) (dexp dd) dd := ⟨dys_of Nd (hN.nu 3 q11)⟩
       clear hN hX
       generalize bf 0 = z0 at *
       generalize af 0 = A0 at *
       generalize cf 0 = C0 at *
       generalize bf 1 = z1 at *
       generalize af 1 = A1 at *
       generalize cf 1 = C1 at *
       generalize bf 2 = z2 at *
       generalize af 2 = A2 at *
       generalize cf 2 = C2 at *
       generalize bf 3 = z3 at *
       generalize af 3 = A3 at *
       generalize cf 3 = C3 at *
       go_wp2_with fail
       refine wp_region_from (by kernel_rfl) (fun w0 b0 => ?_)
       refine tkz 0 33 (.agg #[.int .i64 ia, .bool (dbad da), .bool (decide (dman da < 0)), .slice A0 (nl (dman da).natAbs) C0, .int .i64 (dexp da)]) (hy := fun w hSw => by haveI : From w0 w := ⟨hSw⟩; go_simp) (hS := Below.refl _ _) (h := ?_)
       refine tkz 1 34 (.agg #[.int .i64 ic, .bool (dbad dc), .bool (decide (dman dc < 0)), .slice A2 (nl (dman dc).natAbs) C2, .int .i64 (dexp dc)]) (hy := fun w hSw => by haveI : From w0 w := ⟨hSw⟩; go_simp) (hS := Below.refl _ _) (h := ?_)
       refine tkz 3 36 (.agg #[.int .i64 ia, .bool (dbad da), .bool (decide (dman da < 0)), .slice A0 (nl (dman da).natAbs) C0, .int .i64 (dexp da)]) (hy := fun w hSw => by haveI : From w0 w := ⟨hSw⟩; go_simp) (hS := Below.refl _ _) (h := ?_)
       refine tkz 4 37 (.agg #[.int .i64 id, .bool (dbad dd), .bool (decide (dman dd < 0)), .slice A3 (nl (dman dd).natAbs) C3, .int .i64 (dexp dd)]) (hy := fun w hSw => by haveI : From w0 w := ⟨hSw⟩; go_simp) (hS := Below.refl _ _) (h := ?_)
       refine tkz 6 39 (.agg #[.int .i64 ib, .bool (dbad db), .bool (decide (dman db < 0)), .slice A1 (nl (dman db).natAbs) C1, .int .i64 (dexp db)]) (hy := fun w hSw => by haveI : From w0 w := ⟨hSw⟩; go_simp) (hS := Below.refl _ _) (h := ?_)
       refine tkz 7 40 (.agg #[.int .i64 ic, .bool (dbad dc), .bool (decide (dman dc < 0)), .slice A2 (nl (dman dc).natAbs) C2, .int .i64 (dexp dc)]) (hy := fun w hSw => by haveI : From w0 w := ⟨hSw⟩; go_simp) (hS := Below.refl _ _) (h := ?_)
       refine tkz 9 42 (.agg #[.int .i64 ib, .bool (dbad db), .bool (decide (dman db < 0)), .slice A1 (nl (dman db).natAbs) C1, .int .i64 (dexp db)]) (hy := fun w hSw => by haveI : From w0 w := ⟨hSw⟩; go_simp) (hS := Below.refl _ _) (h := ?_)
       refine tkz 10 43 (.agg #[.int .i64 id, .bool (dbad dd), .bool (decide (dman dd < 0)), .slice A3 (nl (dman dd).natAbs) C3, .int .i64 (dexp dd)]) (hy := fun w hSw => by haveI : From w0 w := ⟨hSw⟩; go_simp) (hS := Below.refl _ _) (h := ?_)
       have hN0 := NS.start w0 (pick6 e0 e1 e2 e3 i4 i5) (pick6 g0 g1 g2 g3 d4 d5) (fun _ => 0) (fun _ => none) (fun _ => 0)
       refine wpAnyH_ns w0 (pick6 e0 e1 e2 e3 i4 i5) (pick6 g0 g1 g2 g3 d4 d5) (fun al ca st ex => #[true, true, ca 0, true, true, ca 1, true, true, ca 2, true, true, ca 3, ca 4, ex 1, ex 2, ex 3, al 4, al 5, st 4, st 5]) (fun al ca ex bf af cf => [(35, NT (ca 0) ((pick6 e0 e1 e2 e3 i4 i5) 0) ((pick6 g0 g1 g2 g3 d4 d5) 0) (af 0) (cf 0)), (38, NT (ca 1) ((pick6 e0 e1 e2 e3 i4 i5) 1) ((pick6 g0 g1 g2 g3 d4 d5) 1) (af 1) (cf 1)), (41, NT (ca 2) ((pick6 e0 e1 e2 e3 i4 i5) 2) ((pick6 g0 g1 g2 g3 d4 d5) 2) (af 2) (cf 2)), (44, NT (ca 3) ((pick6 e0 e1 e2 e3 i4 i5) 3) ((pick6 g0 g1 g2 g3 d4 d5) 3) (af 3) (cf 3)), (45, VT (ca 4) (.tuple #[.agg #[.int .i64 ((pick6 e0 e1 e2 e3 i4 i5) 4), .bool (dbad ((pick6 g0 g1 g2 g3 d4 d5) 4)), .bool (decide (dman ((pick6 g0 g1 g2 g3 d4 d5) 4) < 0)), .slice (af 4) (nl (dman ((pick6 g0 g1 g2 g3 d4 d5) 4)).natAbs) (cf 4), .int .i64 (dexp ((pick6 g0 g1 g2 g3 d4 d5) 4))], .agg #[.int .i64 ((pick6 e0 e1 e2 e3 i4 i5) 5), .bool (dbad ((pick6 g0 g1 g2 g3 d4 d5) 5)), .bool (decide (dman ((pick6 g0 g1 g2 g3 d4 d5) 5) < 0)), .slice (af 5) (nl (dman ((pick6 g0 g1 g2 g3 d4 d5) 5)).natAbs) (cf 5), .int .i64 (dexp ((pick6 g0 g1 g2 g3 d4 d5) 5))]])), (32, VT (ex 1) (.tuple #[.agg #[.int .i64 ((pick6 e0 e1 e2 e3 i4 i5) 4), .bool (dbad ((pick6 g0 g1 g2 g3 d4 d5) 4)), .bool (decide (dman ((pick6 g0 g1 g2 g3 d4 d5) 4) < 0)), .slice (af 4) (nl (dman ((pick6 g0 g1 g2 g3 d4 d5) 4)).natAbs) (cf 4), .int .i64 (dexp ((pick6 g0 g1 g2 g3 d4 d5) 4))], .agg #[.int .i64 ((pick6 e0 e1 e2 e3 i4 i5) 5), .bool (dbad ((pick6 g0 g1 g2 g3 d4 d5) 5)), .bool (decide (dman ((pick6 g0 g1 g2 g3 d4 d5) 5) < 0)), .slice (af 5) (nl (dman ((pick6 g0 g1 g2 g3 d4 d5) 5)).natAbs) (cf 5), .int .i64 (dexp ((pick6 g0 g1 g2 g3 d4 d5) 5))]])), (46, VT (ex 2) (.agg #[.int .i64 ((pick6 e0 e1 e2 e3 i4 i5) 4), .bool (dbad ((pick6 g0 g1 g2 g3 d4 d5) 4)), .bool (decide (dman ((pick6 g0 g1 g2 g3 d4 d5) 4) < 0)), .slice (af 4) (nl (dman ((pick6 g0 g1 g2 g3 d4 d5) 4)).natAbs) (cf 4), .int .i64 (dexp ((pick6 g0 g1 g2 g3 d4 d5) 4))])), (47, VT (ex 3) (.agg #[.int .i64 ((pick6 e0 e1 e2 e3 i4 i5) 5), .bool (dbad ((pick6 g0 g1 g2 g3 d4 d5) 5)), .bool (decide (dman ((pick6 g0 g1 g2 g3 d4 d5) 5) < 0)), .slice (af 5) (nl (dman ((pick6 g0 g1 g2 g3 d4 d5) 5)).natAbs) (cf 5), .int .i64 (dexp ((pick6 g0 g1 g2 g3 d4 d5) 5))])), (9, PT (al 4) (bf 4)), (10, PT (al 5) (bf 5))]) (fun al ca st ex af cf => ca 5 = ca 4 ∧ (ex 1 = true → ca 4 = true) ∧ (ex 2 = true → ca 4 = true) ∧ (ex 3 = true → ca 4 = true)) rfl hN0 (ex := fun _ => false) ⟨rfl, fun h => absurd h Bool.false_ne_true, fun h => absurd h Bool.false_ne_true, fun h => absurd h Bool.false_ne_true⟩ rfl (by simp only [fillA, List.setIfInBounds_toArray, List.set_cons_zero, List.set_cons_succ] <;> rfl) (by decide) (by kernel_rfl) (fun _ _ _ _ => rfl) ?_ ?_
       · intro al ca st ex bf af cf vw hN hX hw0
         repeat' (first | exact AllI.nil | refine AllI.cons ?_ ?_)
         · intro h; cases h
         · intro h; cases h
         · intro (hl : ca 0 = false) _ K hK
           simp only [fillA, List.setIfInBounds_toArray, List.set_cons_zero, List.set_cons_succ]
           go_simp
           refine (HP0 _ _ _ _ _).out.mono ?_; rintro o w1 ⟨a1, c1, rfl, i1, b1, m1, f1⟩
           go_simp
           exact ns_ca hK hN 0 hl hX b1 m1 f1
         · intro h; cases h
         · intro h; cases h
         · intro (hl : ca 1 = false) _ K hK
           simp only [fillA, List.setIfInBounds_toArray, List.set_cons_zero, List.set_cons_succ]
           go_simp
           refine (HP1 _ _ _ _ _).out.mono ?_; rintro o w1 ⟨a1, c1, rfl, i1, b1, m1, f1⟩
           go_simp
           exact ns_ca hK hN 1 hl hX b1 m1 f1
         · intro h; cases h
         · intro h; cases h
         · intro (hl : ca 2 = false) _ K hK
           simp only [fillA, List.setIfInBounds_toArray, List.set_cons_zero, List.set_cons_succ]
           go_simp
           refine (HP2 _ _ _ _ _).out.mono ?_; rintro o w1 ⟨a1, c1, rfl, i1, b1, m1, f1⟩
           go_simp
           exact ns_ca hK hN 2 hl hX b1 m1 f1
         · intro h; cases h
         · intro h; cases h
         · intro (hl : ca 3 = false) _ K hK
           simp only [fillA, List.setIfInBounds_toArray, List.set_cons_zero, List.set_cons_succ]
           go_simp
           refine (HP3 _ _ _ _ _).out.mono ?_; rintro o w1 ⟨a1, c1, rfl, i1, b1, m1, f1⟩
           go_simp
           exact ns_ca hK hN 3 hl hX b1 m1 f1
         · intro (hl : ca 4 = false) haf K hK
           have h0 : ca 0 = true := haf ⟨2, .data⟩ (by simp) rfl
           have h1 : ca 1 = true := haf ⟨5, .data⟩ (by simp) rfl
           have h2 : ca 2 = true := haf ⟨8, .data⟩ (by simp) rfl
           have h3 : ca 3 = true := haf ⟨11, .data⟩ (by simp) rfl
           have x1 := off_of hX.2.1 hl
           have x2 := off_of hX.2.2.1 hl
           have x3 := off_of hX.2.2.2 hl
           have hall : ∀ k, k < 4 → ca k = true := fun k hk => by rcases (show k = 0 ∨ k = 1 ∨ k = 2 ∨ k = 3 by omega) with rfl | rfl | rfl | rfl <;> assumption
           clear haf
           simp only [fillA, h0, h1, h2, h3, NT_true, List.setIfInBounds_toArray, List.set_cons_zero, List.set_cons_succ]
           simp [go_sem]
           refine (HSp vw af cf hN.nu hall).out.mono ?_; rintro o w1 ⟨j, l, hj, hl4, q4, q5, rfl, b1⟩
           simp [go_sem]
           exact hK.out al (up1 (up1 ca 4 true) 5 true) st ex bf (up1 (up1 af 4 (af j)) 5 (af l)) (up1 (up1 cf 4 (cf j)) 5 (cf l)) _ _ rfl (by have g := fun (k : Nat) (hk : k < 4) => (up1_ne (up1 ca 4 true) (show k ≠ 5 by omega) true).trans ((up1_ne ca (show k ≠ 4 by omega) true).trans (hall k hk)); simp only [fillA, g 0 (by decide), g 1 (by decide), g 2 (by decide), g 3 (by decide), x1, x2, x3, NT_true, VT_false, List.setIfInBounds_toArray, List.set_cons_zero, List.set_cons_succ] <;> rfl) ⟨rfl, fun _ => rfl, fun _ => rfl, fun _ => rfl⟩ ((hN.on b1).pick2 4 5 j l hl (hX.1.trans hl) (by decide) (hall j hj) (hall l hl4) q4 q5)
         · intro _ haf K hK
           have h4 : ca 4 = true := haf ⟨12, .data⟩ (by simp) rfl
           clear haf
           simp [fillA, h4, VT_true, go_sem]
           exact hK.out al ca st (up1 ex 1 true) bf af cf _ _ rfl (by simp only [fillA, h4, List.setIfInBounds_toArray, List.set_cons_zero, List.set_cons_succ] <;> rfl) ⟨hX.1, fun _ => h4, hX.2.2.1, hX.2.2.2⟩ hN
         · intro _ haf K hK
           have h4 : ex 1 = true := haf ⟨13, .data⟩ (by simp) rfl
           clear haf
           simp [fillA, h4, VT_true, go_sem]
           exact hK.out al ca st (up1 ex 2 true) bf af cf _ _ rfl (by have g1 : up1 ex 2 true 1 = true := h4; simp only [fillA, g1, VT_true, List.setIfInBounds_toArray, List.set_cons_zero, List.set_cons_succ] <;> rfl) ⟨hX.1, hX.2.1, fun _ => hX.2.1 h4, hX.2.2.2⟩ hN
         · intro _ haf K hK
           have h4 : ex 1 = true := haf ⟨13, .data⟩ (by simp) rfl
           clear haf
           simp [fillA, h4, VT_true, go_sem]
           exact hK.out al ca st (up1 ex 3 true) bf af cf _ _ rfl (by have g1 : up1 ex 3 true 1 = true := h4; simp only [fillA, g1, VT_true, List.setIfInBounds_toArray, List.set_cons_zero, List.set_cons_succ] <;> rfl) ⟨hX.1, hX.2.1, hX.2.2.1, fun _ => hX.2.1 h4⟩ hN
         · intro (hl : al 4 = false) _ K hK
           simp [go_sem]
           exact ns_al hK hN 4 hl hX
         · intro (hl : al 5 = false) _ K hK
           simp [go_sem]
           exact ns_al hK hN 5 hl hX
         · intro _ haf K hK
           have h1 : al 4 = true := haf ⟨16, .data⟩ (by simp) rfl
           have h3 : ex 2 = true := haf ⟨14, .data⟩ (by simp) rfl
           have h2 : ca 4 = true := hX.2.2.1 h3
           clear haf
           haveI hz := (hN.bx 4 h1).2.spec
           simp [fillA, h1, h3, PT_true, VT_true, go_sem]
           have hS := hN.store 4 h1 h2
           exact ns_st hK 4 hS hX (by simp only [fillA, h1, h3, PT_true, VT_true, List.setIfInBounds_toArray, List.set_cons_zero, List.set_cons_succ] <;> rfl)
         · intro _ haf K hK
           have h1 : al 5 = true := haf ⟨17, .data⟩ (by simp) rfl
           have h3 : ex 3 = true := haf ⟨15, .data⟩ (by simp) rfl
           have h2 : ca 5 = true := hX.1.trans (hX.2.2.2 h3)
           clear haf
           haveI hz := (hN.bx 5 h1).2.spec
           simp [fillA, h1, h3, PT_true, VT_true, go_sem]
           have hS := hN.store 5 h1 h2
           exact ns_st hK 5 hS hX (by simp only [fillA, h1, h3, PT_true, VT_true, List.setIfInBounds_toArray, List.set_cons_zero, List.set_cons_succ] <;> rfl)
       · intro al ca st ex bf af cf vw hN hX hw0 hall
         have q2 : ca 0 = true := hall 2 (by decide)
         have q5 : ca 1 = true := hall 5 (by decide)
         have q8 : ca 2 = true := hall 8 (by decide)
         have q11 : ca 3 = true := hall 11 (by decide)
         have q12 : ca 4 = true := hall 12 (by decide)
         have q13 : ex 1 = true := hall 13 (by decide)
         have q14 : ex 2 = true := hall 14 (by decide)
         have q15 : ex 3 = true := hall 15 (by decide)
         have q16 : al 4 = true := hall 16 (by decide)
         have q17 : al 5 = true := hall 17 (by decide)
         have q18 : st 4 = true := hall 18 (by decide)
         have q19 : st 5 = true := hall 19 (by decide)
         clear hall
         simp only [fillA, q2, q5, q8, q11, q12, q13, q14, q15, q16, q17, PT_true, NT_true, VT_true, List.setIfInBounds_toArray, List.set_cons_zero, List.set_cons_succ]
         haveI n4 : NB5 vw (bf 4) i4 d4 (af 4) (cf 4) := (hN.se 4 q18).2.2
         haveI n5 : NB5 vw (bf 5) i5 d5 (af 5) (cf 5) := (hN.se 5 q19).2.2
         haveI m4 : DS vw (dbad d4) (decide (dman d4 < 0)) (af 4) (nl (dman d4).natAbs) (cf 4) (dexp d4) d4 := ⟨dys_of Nd4 (hN.nu 4 q12)⟩
         haveI m5 : DS vw (dbad d5) (decide (dman d5 < 0)) (af 5) (nl (dman d5).natAbs) (cf 5) (dexp d5) d5 := ⟨dys_of Nd5 (hN.nu 5 (hX.1.trans q12))⟩
         go_wp2_with fail
         refine (HO _ _ _ _ _).out.mono ?_; rintro o w9 ⟨rfl, b9⟩; go_wp2_with fail
         refine bodyPost_ret (v := .agg #[.int .u64 (V.1 : Nat), .int .u64 (V.2 : Nat)]) (by simp only [results, Tryz.results24]; go_simp) rfl ?_
         exact ⟨rfl, zbh⟩
end Go.Proofs.YtgicceiimciafaaGreatDoor
namespace Go.Proofs.YtgicceiimciafaaGreatDoor
open Go.RowKit Sp
set_option linter.unusedSimpArgs false
attribute [local irreducible] Calls
theorem nsqr_any (w : World) [ht : Tb w] (a : Nat) (b : Nat) (ha : a < 18446744073709551616) (hb : b < 18446744073709551616) : Calls Tryz.prog 28 #[.agg #[.int .u64 (a : Nat), .int .u64 (b : Nat)]] w fun o w' => o = .returned (.agg #[.int .u64 ((rsqrI (a, b)).1 : Nat), .int .u64 ((rsqrI (a, b)).2 : Nat)]) ∧ Below w.heap.size w w' := by
 have H1 := fun W => Lib.hid (frm (r5valid_any W a b ha hb))
 have HW := fun W => Lib.hid (frm (nall_any W))
 have Na := isN_nof a
 have Nb := isN_nof b
 obtain ⟨e0, g0, hp0⟩ : ∃ e g, nprod (nin a, nof a) (nin a, nof a) = (e, g) := ⟨_, _, rfl⟩
 have Ng0 : IsN g0 := by have := @nprod_isN (nin a, nof a) (nin a, nof a); rw [hp0] at this; exact this
 have HP0 := fun W A C A' C' [j1 : DS W (dbad (nof a)) (decide (dman (nof a) < 0)) A (nl (dman (nof a)).natAbs) C (dexp (nof a)) (nof a)] [j2 : DS W (dbad (nof a)) (decide (dman (nof a) < 0)) A' (nl (dman (nof a)).natAbs) C' (dexp (nof a)) (nof a)] [Tb W] => Lib.hid (nprod_any W (nin a) _ _ A _ C _ (nof a) (nin a) _ _ A' _ C' _ (nof a) (hd := j1) (hd' := j2) (nsgw a a))
 rw [hp0] at HP0
 dsimp only at HP0
 obtain ⟨e1, g1, hp1⟩ : ∃ e g, nprod (nin b, nof b) (nin b, nof b) = (e, g) := ⟨_, _, rfl⟩
 have Ng1 : IsN g1 := by have := @nprod_isN (nin b, nof b) (nin b, nof b); rw [hp1] at this; exact this
 have HP1 := fun W A C A' C' [j1 : DS W (dbad (nof b)) (decide (dman (nof b) < 0)) A (nl (dman (nof b)).natAbs) C (dexp (nof b)) (nof b)] [j2 : DS W (dbad (nof b)) (decide (dman (nof b) < 0)) A' (nl (dman (nof b)).natAbs) C' (dexp (nof b)) (nof b)] [Tb W] => Lib.hid (nprod_any W (nin b) _ _ A _ C _ (nof b) (nin b) _ _ A' _ C' _ (nof b) (hd := j1) (hd' := j2) (nsgw b b))
 rw [hp1] at HP1
 dsimp only at HP1
 obtain ⟨e2, g2, hp2⟩ : ∃ e g, nprod (nin a, nof a) (nin a, nof a) = (e, g) := ⟨_, _, rfl⟩
 have Ng2 : IsN g2 := by have := @nprod_isN (nin a, nof a) (nin a, nof a); rw [hp2] at this; exact this
 have HP2 := fun W A C A' C' [j1 : DS W (dbad (nof a)) (decide (dman (nof a) < 0)) A (nl (dman (nof a)).natAbs) C (dexp (nof a)) (nof a)] [j2 : DS W (dbad (nof a)) (decide (dman (nof a) < 0)) A' (nl (dman (nof a)).natAbs) C' (dexp (nof a)) (nof a)] [Tb W] => Lib.hid (nprod_any W (nin a) _ _ A _ C _ (nof a) (nin a) _ _ A' _ C' _ (nof a) (hd := j1) (hd' := j2) (nsgw a a))
 rw [hp2] at HP2
 dsimp only at HP2
 obtain ⟨e3, g3, hp3⟩ : ∃ e g, nprod (nin b, nof b) (nin b, nof b) = (e, g) := ⟨_, _, rfl⟩
 have Ng3 : IsN g3 := by have := @nprod_isN (nin b, nof b) (nin b, nof b); rw [hp3] at this; exact this
 have HP3 := fun W A C A' C' [j1 : DS W (dbad (nof b)) (decide (dman (nof b) < 0)) A (nl (dman (nof b)).natAbs) C (dexp (nof b)) (nof b)] [j2 : DS W (dbad (nof b)) (decide (dman (nof b) < 0)) A' (nl (dman (nof b)).natAbs) C' (dexp (nof b)) (nof b)] [Tb W] => Lib.hid (nprod_any W (nin b) _ _ A _ C _ (nof b) (nin b) _ _ A' _ C' _ (nof b) (hd := j1) (hd' := j2) (nsgw b b))
 rw [hp3] at HP3
 dsimp only at HP3
 obtain ⟨i4, d4, h4⟩ : ∃ i e, nlo4 (e0, g0) (e1, g1) (e2, g2) (e3, g3) = (i, e) := ⟨_, _, rfl⟩
 obtain ⟨i5, d5, h5⟩ : ∃ i e, nhi4 (e0, g0) (e1, g1) (e2, g2) (e3, g3) = (i, e) := ⟨_, _, rfl⟩
 have Nd4 : IsN d4 := by have := nlo4_isN Ng0 Ng1 Ng2 Ng3 (p := e0) (q := e1) (r := e2) (s := e3); rw [h4] at this; exact this
 have Nd5 : IsN d5 := by have := nhi4_isN Ng0 Ng1 Ng2 Ng3 (p := e0) (q := e1) (r := e2) (s := e3); rw [h5] at this; exact this
 have HA := fun W [Tb W] => Lib.hid (show Calls Tryz.prog 60 #[.int .u64 (a : Nat)] W fun e w' => ∃ A C, e = .returned (.agg #[.int .i64 (nin a), .bool (dbad (nof a)), .bool (decide (dman (nof a) < 0)), .slice A (nl (dman (nof a)).natAbs) C, .int .i64 (dexp (nof a))]) ∧ DS w' (dbad (nof a)) (decide (dman (nof a) < 0)) A (nl (dman (nof a)).natAbs) C (dexp (nof a)) (nof a) ∧ From W w' ∧ BI w' A (nl (dman (nof a)).natAbs) C (dman (nof a)).natAbs ∧ (0 < nl (dman (nof a)).natAbs → W.heap.size ≤ ab A) from rofF_any W a ha)
 have HB := fun W [Tb W] => Lib.hid (show Calls Tryz.prog 60 #[.int .u64 (b : Nat)] W fun e w' => ∃ A C, e = .returned (.agg #[.int .i64 (nin b), .bool (dbad (nof b)), .bool (decide (dman (nof b) < 0)), .slice A (nl (dman (nof b)).natAbs) C, .int .i64 (dexp (nof b))]) ∧ DS w' (dbad (nof b)) (decide (dman (nof b) < 0)) A (nl (dman (nof b)).natAbs) C (dexp (nof b)) (nof b) ∧ From W w' ∧ BI w' A (nl (dman (nof b)).natAbs) C (dman (nof b)).natAbs ∧ (0 < nl (dman (nof b)).natAbs → W.heap.size ≤ ab A) from rofF_any W b hb)
 have HSa := fun W A C [j1 : DS W (dbad (nof a)) (decide (dman (nof a) < 0)) A (nl (dman (nof a)).natAbs) C (dexp (nof a)) (nof a)] [Tb W] => Lib.hid (frm (nsign_any W (nin a) _ _ A _ C _ (nof a) (hd := j1)))
 have HSb := fun W A C [j1 : DS W (dbad (nof b)) (decide (dman (nof b) < 0)) A (nl (dman (nof b)).natAbs) C (dexp (nof b)) (nof b)] [Tb W] => Lib.hid (frm (nsign_any W (nin b) _ _ A _ C _ (nof b) (hd := j1)))
 have HOn := fun W A C A' C' [i1 : DS W (dbad d4) (decide (dman d4 < 0)) A (nl (dman d4).natAbs) C (dexp d4) d4] [i2 : DS W (dbad d5) (decide (dman d5 < 0)) A' (nl (dman d5).natAbs) C' (dexp d5) d5] [Tb W] => Lib.hid (frm (nout_any W i4 _ _ A _ C _ d4 i5 _ _ A' _ C' _ d5 (hd := i1) (hd' := i2)))
 have HOz := fun W A' C' [i1 : DS W false false none 0 0 0 (some (0, 0))] [i2 : DS W (dbad d5) (decide (dman d5 < 0)) A' (nl (dman d5).natAbs) C' (dexp d5) d5] [Tb W] => Lib.hid (frm (nout_any W 0 false false none 0 0 0 (some (0, 0)) i5 _ _ A' _ C' _ d5 (hd := i1) (hd' := i2)))
 unfold rsqrI nb
 have hv : (if iok (a, b) = true then nout (if nsg (nin (a, b).1) (nof (a, b).1) ≤ 0 ∧ 0 ≤ nsg (nin (a, b).2) (nof (a, b).2) then n00 else nlo4 (nprod (nin a, nof a) (nin a, nof a)) (nprod (nin b, nof b) (nin b, nof b)) (nprod (nin a, nof a) (nin a, nof a)) (nprod (nin b, nof b) (nin b, nof b))) (nhi4 (nprod (nin a, nof a) (nin a, nof a)) (nprod (nin b, nof b) (nin b, nof b)) (nprod (nin a, nof a) (nin a, nof a)) (nprod (nin b, nof b) (nin b, nof b))) else iall) = if iok (a, b) = true then (if nsg (nin a) (nof a) ≤ 0 ∧ 0 ≤ nsg (nin b) (nof b) then nout n00 (i5, d5) else nout (i4, d4) (i5, d5)) else iall := by
  have r2 : (e2, g2) = (e0, g0) := hp2.symm.trans hp0
  have r3 : (e3, g3) = (e1, g1) := hp3.symm.trans hp1
  have h4' := h4
  have h5' := h5
  rw [r2, r3] at h4' h5'
  rw [hp0, hp1, h4', h5']
  dsimp only
  by_cases q : nsg (nin a) (nof a) ≤ 0 ∧ 0 ≤ nsg (nin b) (nof b)
  · rw [if_pos q, if_pos q]
  · rw [if_neg q, if_neg q]
 dsimp only at hv ⊢
 rw [hv]
 clear hv hp0 hp1 hp2 hp3
 unfold iall
 obtain ⟨Vy, hVy⟩ : ∃ V, nout n00 (i5, d5) = V := ⟨_, rfl⟩
 obtain ⟨Vn, hVn⟩ : ∃ V, nout (i4, d4) (i5, d5) = V := ⟨_, rfl⟩
 have hOz : nout (0, some (0, 0)) (i5, d5) = Vy := hVy
 rw [hOz] at HOz
 rw [hVn] at HOn
 replace hVy := Lib.hid hVy
 replace hVn := Lib.hid hVn
 clear hOz
 generalize nsg (nin a) (nof a) = ga at *
 generalize nsg (nin b) (nof b) = gb at *
 generalize nin a = ia at *
 generalize nof a = da at *
 generalize nin b = ib at *
 generalize nof b = db at *
 have HN4 : ∀ k, k < 4 → IsN ((pick6 g0 g1 g2 g3 d4 d5) k) := (fun k hk => by rcases (show k = 0 ∨ k = 1 ∨ k = 2 ∨ k = 3 by omega) with rfl | rfl | rfl | rfl <;> assumption)
 have H4 : ((pick6 e0 e1 e2 e3 i4 i5) 4, (pick6 g0 g1 g2 g3 d4 d5) 4) = nlo4 ((pick6 e0 e1 e2 e3 i4 i5) 0, (pick6 g0 g1 g2 g3 d4 d5) 0) ((pick6 e0 e1 e2 e3 i4 i5) 1, (pick6 g0 g1 g2 g3 d4 d5) 1) ((pick6 e0 e1 e2 e3 i4 i5) 2, (pick6 g0 g1 g2 g3 d4 d5) 2) ((pick6 e0 e1 e2 e3 i4 i5) 3, (pick6 g0 g1 g2 g3 d4 d5) 3) := h4.symm
 have H5 : ((pick6 e0 e1 e2 e3 i4 i5) 5, (pick6 g0 g1 g2 g3 d4 d5) 5) = nhi4 ((pick6 e0 e1 e2 e3 i4 i5) 0, (pick6 g0 g1 g2 g3 d4 d5) 0) ((pick6 e0 e1 e2 e3 i4 i5) 1, (pick6 g0 g1 g2 g3 d4 d5) 1) ((pick6 e0 e1 e2 e3 i4 i5) 2, (pick6 g0 g1 g2 g3 d4 d5) 2) ((pick6 e0 e1 e2 e3 i4 i5) 3, (pick6 g0 g1 g2 g3 d4 d5) 3) := h5.symm
 have HSp := fun W (A : Nat → Option Addr) (C : Nat → Nat) {ca : Nat → Bool} (hm : ∀ i, ca i = true → Mag W (A i) (nl (dman (((pick6 g0 g1 g2 g3 d4 d5)) i)).natAbs) (C i) (dman (((pick6 g0 g1 g2 g3 d4 d5)) i)).natAbs) (hc : ∀ k, k < 4 → ca k = true) [Tb W] => Lib.hid (nspan_ns W ((pick6 e0 e1 e2 e3 i4 i5)) ((pick6 g0 g1 g2 g3 d4 d5)) A C HN4 (fun k hk => hm k (hc k hk)) (((pick6 e0 e1 e2 e3 i4 i5)) 4) (((pick6 g0 g1 g2 g3 d4 d5)) 4) (((pick6 e0 e1 e2 e3 i4 i5)) 5) (((pick6 g0 g1 g2 g3 d4 d5)) 5) H4 H5)
 clear h4 h5 H4 H5 HN4
 generalize iok (a, b) = k1 at *
 generalize ((a : Nat) : Int) = p at *
 generalize ((b : Nat) : Int) = q at *
 cases k1
 · show Calls _ _ _ _ fun o w' => o = .returned (.agg #[.int .u64 18442240474082181120, .int .u64 9218868437227405312]) ∧ Below w.heap.size w w'
   go_enter Tryz.func28, Tryz.ntmps28
   go_wp2_with fail
   refine (H1 _).out.mono ?_; rintro o w1 ⟨rfl, b1⟩; go_wp2_with fail
   refine (HW _).out.mono ?_; rintro o w2 ⟨rfl, b2⟩; go_wp2_with fail
   refine bodyPost_ret (v := .agg #[.int .u64 18442240474082181120, .int .u64 9218868437227405312]) (by simp only [results, Tryz.results28]; go_simp) rfl ?_
   exact ⟨rfl, zbh⟩
 · skip
   go_enter Tryz.func28, Tryz.ntmps28
   go_wp2_with fail
   refine (H1 _).out.mono ?_; rintro o w1 ⟨rfl, b1⟩; go_wp2_with fail
   refine wp_region_from (by kernel_rfl) (fun w0 b0 => ?_)
   refine tkz 0 11 (.pointer (some ⟨w.heap.size, 0, none⟩)) (hy := fun w hSw => by haveI : From w0 w := ⟨hSw⟩; go_simp) (hS := Below.refl _ _) (h := ?_)
   refine tkz 1 12 (.int .u64 p) (hy := fun w hSw => by haveI : From w0 w := ⟨hSw⟩; go_simp) (hS := Below.refl _ _) (h := ?_)
   refine tkz 3 14 (.pointer (some ⟨w.heap.size, 1, none⟩)) (hy := fun w hSw => by haveI : From w0 w := ⟨hSw⟩; go_simp) (hS := Below.refl _ _) (h := ?_)
   refine tkz 4 15 (.int .u64 q) (hy := fun w hSw => by haveI : From w0 w := ⟨hSw⟩; go_simp) (hS := Below.refl _ _) (h := ?_)
   have hN0 := NS.start w0 (pick4 ia ib ia ib) (pick4 da db da db) (fun _ => 0) (fun _ => none) (fun _ => 0)
   refine wpAnyH_ns w0 (pick4 ia ib ia ib) (pick4 da db da db) (fun al ca st ex => #[true, true, ca 0, true, true, ca 1, al 0, al 1, st 0, st 1]) (fun al ca ex bf af cf => [(13, NT (ca 0) ((pick4 ia ib ia ib) 0) ((pick4 da db da db) 0) (af 0) (cf 0)), (16, NT (ca 1) ((pick4 ia ib ia ib) 1) ((pick4 da db da db) 1) (af 1) (cf 1)), (3, PT (al 0) (bf 0)), (4, PT (al 1) (bf 1))]) (fun al ca st ex af cf => True) rfl hN0 (ex := fun _ => false) trivial rfl (by simp only [fillA, List.setIfInBounds_toArray, List.set_cons_zero, List.set_cons_succ] <;> rfl) (by decide) (by kernel_rfl) (fun _ _ _ _ => rfl) ?_ ?_
   · intro al ca st ex bf af cf vw hN hX hw0
     repeat' (first | exact AllI.nil | refine AllI.cons ?_ ?_)
     · intro h; cases h
     · intro h; cases h
     · intro (hl : ca 0 = false) _ K hK
       simp only [fillA, List.setIfInBounds_toArray, List.set_cons_zero, List.set_cons_succ]
       go_simp
       refine (HA _).out.mono ?_; rintro o w1 ⟨a1, c1, rfl, i1, b1, m1, f1⟩
       go_simp
       exact ns_ca hK hN 0 hl hX b1 m1 f1
     · intro h; cases h
     · intro h; cases h
     · intro (hl : ca 1 = false) _ K hK
       simp only [fillA, List.setIfInBounds_toArray, List.set_cons_zero, List.set_cons_succ]
       go_simp
       refine (HB _).out.mono ?_; rintro o w1 ⟨a1, c1, rfl, i1, b1, m1, f1⟩
       go_simp
       exact ns_ca hK hN 1 hl hX b1 m1 f1
     · intro (hl : al 0 = false) _ K hK
       simp [go_sem]
       exact ns_al hK hN 0 hl hX
     · intro (hl : al 1 = false) _ K hK
       simp [go_sem]
       exact ns_al hK hN 1 hl hX
     · intro _ haf K hK
       have h1 : al 0 = true := haf ⟨6, .data⟩ (by simp) rfl
       have h2 : ca 0 = true := haf ⟨2, .data⟩ (by simp) rfl
       clear haf
       haveI hz := (hN.bx 0 h1).2.spec
       simp [fillA, h1, h2, PT_true, NT_true, go_sem]
       have hS := hN.store 0 h1 h2
       exact ns_st hK 0 hS hX (by simp only [fillA, h1, h2, PT_true, NT_true, List.setIfInBounds_toArray, List.set_cons_zero, List.set_cons_succ] <;> rfl)
     · intro _ haf K hK
       have h1 : al 1 = true := haf ⟨7, .data⟩ (by simp) rfl
       have h2 : ca 1 = true := haf ⟨5, .data⟩ (by simp) rfl
       clear haf
       haveI hz := (hN.bx 1 h1).2.spec
       simp [fillA, h1, h2, PT_true, NT_true, go_sem]
       have hS := hN.store 1 h1 h2
       exact ns_st hK 1 hS hX (by simp only [fillA, h1, h2, PT_true, NT_true, List.setIfInBounds_toArray, List.set_cons_zero, List.set_cons_succ] <;> rfl)
   · intro al ca st ex bf af cf vw hN hX hw0 hall
     have q2 : ca 0 = true := hall 2 (by decide)
     have q5 : ca 1 = true := hall 5 (by decide)
     have q6 : al 0 = true := hall 6 (by decide)
     have q7 : al 1 = true := hall 7 (by decide)
     have q8 : st 0 = true := hall 8 (by decide)
     have q9 : st 1 = true := hall 9 (by decide)
     clear hall
     simp only [fillA, q2, q5, q6, q7, PT_true, NT_true, VT_true, List.setIfInBounds_toArray, List.set_cons_zero, List.set_cons_succ]
     haveI n0 : NB5 vw (bf 0) ia da (af 0) (cf 0) := (hN.se 0 q8).2.2
     haveI D0 : DS vw (dbad da) (decide (dman da < 0)) (af 0) (nl (dman da).natAbs) (cf 0) (dexp da) da := ⟨dys_of Na (hN.nu 0 q2)⟩
     haveI n1 : NB5 vw (bf 1) ib db (af 1) (cf 1) := (hN.se 1 q9).2.2
     haveI D1 : DS vw (dbad db) (decide (dman db < 0)) (af 1) (nl (dman db).natAbs) (cf 1) (dexp db) db := ⟨dys_of Nb (hN.nu 1 q5)⟩
     clear hN hX
     generalize bf 0 = z0 at *
     generalize af 0 = A0 at *
     generalize cf 0 = C0 at *
     generalize bf 1 = z1 at *
     generalize af 1 = A1 at *
     generalize cf 1 = C1 at *
     haveI W0 := D0.out
     haveI W1 := D1.out
     go_wp2_with fail
     refine wp_region_from (by kernel_rfl) (fun w0 b0 => ?_)
     refine tkz 0 18 (.agg #[.int .i64 ia, .bool (dbad da), .bool (decide (dman da < 0)), .slice A0 (nl (dman da).natAbs) C0, .int .i64 (dexp da)]) (hy := fun w hSw => by haveI : From w0 w := ⟨hSw⟩; go_simp) (hS := Below.refl _ _) (h := ?_)
     refine tkz 1 19 (.agg #[.int .i64 ia, .bool (dbad da), .bool (decide (dman da < 0)), .slice A0 (nl (dman da).natAbs) C0, .int .i64 (dexp da)]) (hy := fun w hSw => by haveI : From w0 w := ⟨hSw⟩; go_simp) (hS := Below.refl _ _) (h := ?_)
     refine tkz 3 21 (.agg #[.int .i64 ib, .bool (dbad db), .bool (decide (dman db < 0)), .slice A1 (nl (dman db).natAbs) C1, .int .i64 (dexp db)]) (hy := fun w hSw => by haveI : From w0 w := ⟨hSw⟩; go_simp) (hS := Below.refl _ _) (h := ?_)
     refine tkz 4 22 (.agg #[.int .i64 ib, .bool (dbad db), .bool (decide (dman db < 0)), .slice A1 (nl (dman db).natAbs) C1, .int .i64 (dexp db)]) (hy := fun w hSw => by haveI : From w0 w := ⟨hSw⟩; go_simp) (hS := Below.refl _ _) (h := ?_)
     refine tkz 6 24 (.agg #[.int .i64 ia, .bool (dbad da), .bool (decide (dman da < 0)), .slice A0 (nl (dman da).natAbs) C0, .int .i64 (dexp da)]) (hy := fun w hSw => by haveI : From w0 w := ⟨hSw⟩; go_simp) (hS := Below.refl _ _) (h := ?_)
     refine tkz 7 25 (.agg #[.int .i64 ia, .bool (dbad da), .bool (decide (dman da < 0)), .slice A0 (nl (dman da).natAbs) C0, .int .i64 (dexp da)]) (hy := fun w hSw => by haveI : From w0 w := ⟨hSw⟩; go_simp) (hS := Below.refl _ _) (h := ?_)
     refine tkz 9 27 (.agg #[.int .i64 ib, .bool (dbad db), .bool (decide (dman db < 0)), .slice A1 (nl (dman db).natAbs) C1, .int .i64 (dexp db)]) (hy := fun w hSw => by haveI : From w0 w := ⟨hSw⟩; go_simp) (hS := Below.refl _ _) (h := ?_)
     refine tkz 10 28 (.agg #[.int .i64 ib, .bool (dbad db), .bool (decide (dman db < 0)), .slice A1 (nl (dman db).natAbs) C1, .int .i64 (dexp db)]) (hy := fun w hSw => by haveI : From w0 w := ⟨hSw⟩; go_simp) (hS := Below.refl _ _) (h := ?_)
     have hN0 := NS.start w0 (pick6 e0 e1 e2 e3 i4 i5) (pick6 g0 g1 g2 g3 d4 d5) (fun _ => 0) (fun _ => none) (fun _ => 0)
     refine wpAnyH_ns w0 (pick6 e0 e1 e2 e3 i4 i5) (pick6 g0 g1 g2 g3 d4 d5) (fun al ca st ex => #[true, true, ca 0, true, true, ca 1, true, true, ca 2, true, true, ca 3, ca 4, ex 1, ex 2, ex 3, al 4, al 5, st 4, st 5]) (fun al ca ex bf af cf => [(20, NT (ca 0) ((pick6 e0 e1 e2 e3 i4 i5) 0) ((pick6 g0 g1 g2 g3 d4 d5) 0) (af 0) (cf 0)), (23, NT (ca 1) ((pick6 e0 e1 e2 e3 i4 i5) 1) ((pick6 g0 g1 g2 g3 d4 d5) 1) (af 1) (cf 1)), (26, NT (ca 2) ((pick6 e0 e1 e2 e3 i4 i5) 2) ((pick6 g0 g1 g2 g3 d4 d5) 2) (af 2) (cf 2)), (29, NT (ca 3) ((pick6 e0 e1 e2 e3 i4 i5) 3) ((pick6 g0 g1 g2 g3 d4 d5) 3) (af 3) (cf 3)), (30, VT (ca 4) (.tuple #[.agg #[.int .i64 ((pick6 e0 e1 e2 e3 i4 i5) 4), .bool (dbad ((pick6 g0 g1 g2 g3 d4 d5) 4)), .bool (decide (dman ((pick6 g0 g1 g2 g3 d4 d5) 4) < 0)), .slice (af 4) (nl (dman ((pick6 g0 g1 g2 g3 d4 d5) 4)).natAbs) (cf 4), .int .i64 (dexp ((pick6 g0 g1 g2 g3 d4 d5) 4))], .agg #[.int .i64 ((pick6 e0 e1 e2 e3 i4 i5) 5), .bool (dbad ((pick6 g0 g1 g2 g3 d4 d5) 5)), .bool (decide (dman ((pick6 g0 g1 g2 g3 d4 d5) 5) < 0)), .slice (af 5) (nl (dman ((pick6 g0 g1 g2 g3 d4 d5) 5)).natAbs) (cf 5), .int .i64 (dexp ((pick6 g0 g1 g2 g3 d4 d5) 5))]])), (17, VT (ex 1) (.tuple #[.agg #[.int .i64 ((pick6 e0 e1 e2 e3 i4 i5) 4), .bool (dbad ((pick6 g0 g1 g2 g3 d4 d5) 4)), .bool (decide (dman ((pick6 g0 g1 g2 g3 d4 d5) 4) < 0)), .slice (af 4) (nl (dman ((pick6 g0 g1 g2 g3 d4 d5) 4)).natAbs) (cf 4), .int .i64 (dexp ((pick6 g0 g1 g2 g3 d4 d5) 4))], .agg #[.int .i64 ((pick6 e0 e1 e2 e3 i4 i5) 5), .bool (dbad ((pick6 g0 g1 g2 g3 d4 d5) 5)), .bool (decide (dman ((pick6 g0 g1 g2 g3 d4 d5) 5) < 0)), .slice (af 5) (nl (dman ((pick6 g0 g1 g2 g3 d4 d5) 5)).natAbs) (cf 5), .int .i64 (dexp ((pick6 g0 g1 g2 g3 d4 d5) 5))]])), (31, VT (ex 2) (.agg #[.int .i64 ((pick6 e0 e1 e2 e3 i4 i5) 4), .bool (dbad ((pick6 g0 g1 g2 g3 d4 d5) 4)), .bool (decide (dman ((pick6 g0 g1 g2 g3 d4 d5) 4) < 0)), .slice (af 4) (nl (dman ((pick6 g0 g1 g2 g3 d4 d5) 4)).natAbs) (cf 4), .int .i64 (dexp ((pick6 g0 g1 g2 g3 d4 d5) 4))])), (32, VT (ex 3) (.agg #[.int .i64 ((pick6 e0 e1 e2 e3 i4 i5) 5), .bool (dbad ((pick6 g0 g1 g2 g3 d4 d5) 5)), .bool (decide (dman ((pick6 g0 g1 g2 g3 d4 d5) 5) < 0)), .slice (af 5) (nl (dman ((pick6 g0 g1 g2 g3 d4 d5) 5)).natAbs) (cf 5), .int .i64 (dexp ((pick6 g0 g1 g2 g3 d4 d5) 5))])), (5, PT (al 4) (bf 4)), (6, PT (al 5) (bf 5))]) (fun al ca st ex af cf => ca 5 = ca 4 ∧ (ex 1 = true → ca 4 = true) ∧ (ex 2 = true → ca 4 = true) ∧ (ex 3 = true → ca 4 = true)) rfl hN0 (ex := fun _ => false) ⟨rfl, fun h => absurd h Bool.false_ne_true, fun h => absurd h Bool.false_ne_true, fun h => absurd h Bool.false_ne_true⟩ rfl (by simp only [fillA, List.setIfInBounds_toArray, List.set_cons_zero, List.set_cons_succ] <;> rfl) (by decide) (by kernel_rfl) (fun _ _ _ _ => rfl) ?_ ?_
     · intro al ca st ex bf af cf vw hN hX hw0
       repeat' (first | exact AllI.nil | refine AllI.cons ?_ ?_)
       · intro h; cases h
       · intro h; cases h
       · intro (hl : ca 0 = false) _ K hK
         simp only [fillA, List.setIfInBounds_toArray, List.set_cons_zero, List.set_cons_succ]
         go_simp
         refine (HP0 _ _ _ _ _).out.mono ?_; rintro o w1 ⟨a1, c1, rfl, i1, b1, m1, f1⟩
         go_simp
         exact ns_ca hK hN 0 hl hX b1 m1 f1
       · intro h; cases h
       · intro h; cases h
       · intro (hl : ca 1 = false) _ K hK
         simp only [fillA, List.setIfInBounds_toArray, List.set_cons_zero, List.set_cons_succ]
         go_simp
         refine (HP1 _ _ _ _ _).out.mono ?_; rintro o w1 ⟨a1, c1, rfl, i1, b1, m1, f1⟩
         go_simp
         exact ns_ca hK hN 1 hl hX b1 m1 f1
       · intro h; cases h
       · intro h; cases h
       · intro (hl : ca 2 = false) _ K hK
         simp only [fillA, List.setIfInBounds_toArray, List.set_cons_zero, List.set_cons_succ]
         go_simp
         refine (HP2 _ _ _ _ _).out.mono ?_; rintro o w1 ⟨a1, c1, rfl, i1, b1, m1, f1⟩
         go_simp
         exact ns_ca hK hN 2 hl hX b1 m1 f1
       · intro h; cases h
       · intro h; cases h
       · intro (hl : ca 3 = false) _ K hK
         simp only [fillA, List.setIfInBounds_toArray, List.set_cons_zero, List.set_cons_succ]
         go_simp
         refine (HP3 _ _ _ _ _).out.mono ?_; rintro o w1 ⟨a1, c1, rfl, i1, b1, m1, f1⟩
         go_simp
         exact ns_ca hK hN 3 hl hX b1 m1 f1
       · intro (hl : ca 4 = false) haf K hK
         have h0 : ca 0 = true := haf ⟨2, .data⟩ (by simp) rfl
         have h1 : ca 1 = true := haf ⟨5, .data⟩ (by simp) rfl
         have h2 : ca 2 = true := haf ⟨8, .data⟩ (by simp) rfl
         have h3 : ca 3 = true := haf ⟨11, .data⟩ (by simp) rfl
         have x1 := off_of hX.2.1 hl
         have x2 := off_of hX.2.2.1 hl
         have x3 := off_of hX.2.2.2 hl
         have hall : ∀ k, k < 4 → ca k = true := fun k hk => by rcases (show k = 0 ∨ k = 1 ∨ k = 2 ∨ k = 3 by omega) with rfl | rfl | rfl | rfl <;> assumption
         clear haf
         simp only [fillA, h0, h1, h2, h3, NT_true, List.setIfInBounds_toArray, List.set_cons_zero, List.set_cons_succ]
         simp [go_sem]
         refine (HSp vw af cf hN.nu hall).out.mono ?_; rintro o w1 ⟨j, l, hj, hl4, q4, q5, rfl, b1⟩
         simp [go_sem]
         exact hK.out al (up1 (up1 ca 4 true) 5 true) st ex bf (up1 (up1 af 4 (af j)) 5 (af l)) (up1 (up1 cf 4 (cf j)) 5 (cf l)) _ _ rfl (by have g := fun (k : Nat) (hk : k < 4) => (up1_ne (up1 ca 4 true) (show k ≠ 5 by omega) true).trans ((up1_ne ca (show k ≠ 4 by omega) true).trans (hall k hk)); simp only [fillA, g 0 (by decide), g 1 (by decide), g 2 (by decide), g 3 (by decide), x1, x2, x3, NT_true, VT_false, List.setIfInBounds_toArray, List.set_cons_zero, List.set_cons_succ] <;> rfl) ⟨rfl, fun _ => rfl, fun _ => rfl, fun _ => rfl⟩ ((hN.on b1).pick2 4 5 j l hl (hX.1.trans hl) (by decide) (hall j hj) (hall l hl4) q4 q5)
       · intro _ haf K hK
         have h4 : ca 4 = true := haf ⟨12, .data⟩ (by simp) rfl
         clear haf
         simp [fillA, h4, VT_true, go_sem]
         exact hK.out al ca st (up1 ex 1 true) bf af cf _ _ rfl (by simp only [fillA, h4, List.setIfInBounds_toArray, List.set_cons_zero, List.set_cons_succ] <;> rfl) ⟨hX.1, fun _ => h4, hX.2.2.1, hX.2.2.2⟩ hN
       · intro _ haf K hK
         have h4 : ex 1 = true := haf ⟨13, .data⟩ (by simp) rfl
         clear haf
         simp [fillA, h4, VT_true, go_sem]
         exact hK.out al ca st (up1 ex 2 true) bf af cf _ _ rfl (by have g1 : up1 ex 2 true 1 = true := h4; simp only [fillA, g1, VT_true, List.setIfInBounds_toArray, List.set_cons_zero, List.set_cons_succ] <;> rfl) ⟨hX.1, hX.2.1, fun _ => hX.2.1 h4, hX.2.2.2⟩ hN
       · intro _ haf K hK
         have h4 : ex 1 = true := haf ⟨13, .data⟩ (by simp) rfl
         clear haf
         simp [fillA, h4, VT_true, go_sem]
         exact hK.out al ca st (up1 ex 3 true) bf af cf _ _ rfl (by have g1 : up1 ex 3 true 1 = true := h4; simp only [fillA, g1, VT_true, List.setIfInBounds_toArray, List.set_cons_zero, List.set_cons_succ] <;> rfl) ⟨hX.1, hX.2.1, hX.2.2.1, fun _ => hX.2.1 h4⟩ hN
       · intro (hl : al 4 = false) _ K hK
         simp [go_sem]
         exact ns_al hK hN 4 hl hX
       · intro (hl : al 5 = false) _ K hK
         simp [go_sem]
         exact ns_al hK hN 5 hl hX
       · intro _ haf K hK
         have h1 : al 4 = true := haf ⟨16, .data⟩ (by simp) rfl
         have h3 : ex 2 = true := haf ⟨14, .data⟩ (by simp) rfl
         have h2 : ca 4 = true := hX.2.2.1 h3
         clear haf
         haveI hz := (hN.bx 4 h1).2.spec
         simp [fillA, h1, h3, PT_true, VT_true, go_sem]
         have hS := hN.store 4 h1 h2
         exact ns_st hK 4 hS hX (by simp only [fillA, h1, h3, PT_true, VT_true, List.setIfInBounds_toArray, List.set_cons_zero, List.set_cons_succ] <;> rfl)
       · intro _ haf K hK
         have h1 : al 5 = true := haf ⟨17, .data⟩ (by simp) rfl
         have h3 : ex 3 = true := haf ⟨15, .data⟩ (by simp) rfl
         have h2 : ca 5 = true := hX.1.trans (hX.2.2.2 h3)
         clear haf
         haveI hz := (hN.bx 5 h1).2.spec
         simp [fillA, h1, h3, PT_true, VT_true, go_sem]
         have hS := hN.store 5 h1 h2
         exact ns_st hK 5 hS hX (by simp only [fillA, h1, h3, PT_true, VT_true, List.setIfInBounds_toArray, List.set_cons_zero, List.set_cons_succ] <;> rfl)
     · intro al ca st ex bf af cf vw hN hX hw0 hall
       have q2 : ca 0 = true := hall 2 (by decide)
       have q5 : ca 1 = true := hall 5 (by decide)
       have q8 : ca 2 = true := hall 8 (by decide)
       have q11 : ca 3 = true := hall 11 (by decide)
       have q12 : ca 4 = true := hall 12 (by decide)
       have q13 : ex 1 = true := hall 13 (by decide)
       have q14 : ex 2 = true := hall 14 (by decide)
       have q15 : ex 3 = true := hall 15 (by decide)
       have q16 : al 4 = true := hall 16 (by decide)
       have q17 : al 5 = true := hall 17 (by decide)
       have q18 : st 4 = true := hall 18 (by decide)
       have q19 : st 5 = true := hall 19 (by decide)
       clear hall
       simp only [fillA, q2, q5, q8, q11, q12, q13, q14, q15, q16, q17, PT_true, NT_true, VT_true, List.setIfInBounds_toArray, List.set_cons_zero, List.set_cons_succ]
       haveI n4 : NB5 vw (bf 4) i4 d4 (af 4) (cf 4) := (hN.se 4 q18).2.2
       haveI n5 : NB5 vw (bf 5) i5 d5 (af 5) (cf 5) := (hN.se 5 q19).2.2
       have M5 := hN.nu 5 (hX.1.trans q12)
       have F5 := hN.fr 4 5 q16 (hX.1.trans q12)
       have ne5 : ¬ bf 5 = bf 4 := hN.ne 5 4 (by decide) q17 q16
       have ne4 : ¬ bf 4 = bf 5 := fun h => ne5 h.symm
       have g4 := (hN.bx 4 q16).1
       haveI m4 : DS vw (dbad d4) (decide (dman d4 < 0)) (af 4) (nl (dman d4).natAbs) (cf 4) (dexp d4) d4 := ⟨dys_of Nd4 (hN.nu 4 q12)⟩
       haveI m5 : DS vw (dbad d5) (decide (dman d5 < 0)) (af 5) (nl (dman d5).natAbs) (cf 5) (dexp d5) d5 := ⟨dys_of Nd5 M5⟩
       haveI BM5 : BI vw (af 5) (nl (dman d5).natAbs) (cf 5) (dman d5).natAbs := ⟨M5⟩
       have s1 := b1.out.size
       rw [World.size_alloc, World.size_alloc] at s1
       have s0 := (show Below w1.heap.size w1 w0 from zbh).size
       clear hN hX
       generalize bf 4 = y4 at *
       generalize bf 5 = y5 at *
       generalize af 4 = A4 at *
       generalize cf 4 = C4 at *
       generalize af 5 = A5 at *
       generalize cf 5 = C5 at *
       by_cases h1 : ga ≤ 0
       · have e1 : decide (ga ≤ 0) = true := decide_eq_true h1
         have f1 := Lib.hid h1
         by_cases h2 : 0 ≤ gb
         · have e2 : decide (gb ≥ 0) = true := decide_eq_true h2
           have f2 := Lib.hid h2
           go_wp2_with fail
           refine (HSa _ _ _).out.mono ?_; rintro o w7 ⟨rfl, b7⟩; go_wp2_with fail
           refine (HSb _ _ _).out.mono ?_; rintro o w8 ⟨rfl, b8⟩; go_wp2_with fail
           have M8 : Mag w8 A5 (nl (dman d5).natAbs) C5 (dman d5).natAbs := (inferInstance : BI w8 _ _ _ _).out
           haveI q1 : DS (((((w8.setCell ⟨y4, 0, none⟩ (.int .i64 0)).setCell ⟨y4, 1, none⟩ (.bool false)).setCell ⟨y4, 2, none⟩ (.bool false)).setCell ⟨y4, 3, none⟩ (.slice none 0 0)).setCell ⟨y4, 4, none⟩ (.int .i64 0)) (dbad d5) (decide (dman d5 < 0)) A5 (nl (dman d5).natAbs) C5 (dexp d5) d5 := ⟨dys_of Nd5 (Mag.st5 M8 F5 _ _ _ _ _)⟩
           haveI q2 : DS (((((w8.setCell ⟨y4, 0, none⟩ (.int .i64 0)).setCell ⟨y4, 1, none⟩ (.bool false)).setCell ⟨y4, 2, none⟩ (.bool false)).setCell ⟨y4, 3, none⟩ (.slice none 0 0)).setCell ⟨y4, 4, none⟩ (.int .i64 0)) false false none 0 0 0 (some (0, 0)) := ⟨dys_of isN_00 (Mag.nil _)⟩
           have gz : w.heap.size ≤ y4 := by omega
           have ny : ¬ w.heap.size + 1 = y4 := by omega
           have ny' : ¬ y4 = w.heap.size + 1 := by omega
           haveI nbz : NB (w.heap.size + 1) y4 := ⟨ny⟩
           have B8 : Below w.heap.size w w8 := zbh
           have BS : Below w.heap.size w (((((w8.setCell ⟨y4, 0, none⟩ (.int .i64 0)).setCell ⟨y4, 1, none⟩ (.bool false)).setCell ⟨y4, 2, none⟩ (.bool false)).setCell ⟨y4, 3, none⟩ (.slice none 0 0)).setCell ⟨y4, 4, none⟩ (.int .i64 0)) := ((((B8.setCell gz _).setCell gz _).setCell gz _).setCell gz _).setCell gz _
           haveI q3 : Beh w (((((w8.setCell ⟨y4, 0, none⟩ (.int .i64 0)).setCell ⟨y4, 1, none⟩ (.bool false)).setCell ⟨y4, 2, none⟩ (.bool false)).setCell ⟨y4, 3, none⟩ (.slice none 0 0)).setCell ⟨y4, 4, none⟩ (.int .i64 0)) := ⟨BS⟩
           haveI q4 : Tb (((((w8.setCell ⟨y4, 0, none⟩ (.int .i64 0)).setCell ⟨y4, 1, none⟩ (.bool false)).setCell ⟨y4, 2, none⟩ (.bool false)).setCell ⟨y4, 3, none⟩ (.slice none 0 0)).setCell ⟨y4, 4, none⟩ (.int .i64 0)) := ⟨ht.out.below BS⟩
           refine (HOz _ _ _).out.mono ?_; rintro o w9 ⟨rfl, b9⟩; go_wp2_with fail
           refine bodyPost_ret (v := .agg #[.int .u64 (Vy.1 : Nat), .int .u64 (Vy.2 : Nat)]) (by simp only [results, Tryz.results28]; go_simp) rfl ?_
           refine ⟨?_, zbh⟩
           rw [hVy.out]
         · have e2 : decide (gb ≥ 0) = false := decide_eq_false h2
           have f2 := Lib.hid h2
           go_wp2_with fail
           refine (HSa _ _ _).out.mono ?_; rintro o w7 ⟨rfl, b7⟩; go_wp2_with fail
           refine (HSb _ _ _).out.mono ?_; rintro o w8 ⟨rfl, b8⟩; go_wp2_with fail
           refine (HOn _ _ _ _ _).out.mono ?_; rintro o w9 ⟨rfl, b9⟩; go_wp2_with fail
           refine bodyPost_ret (v := .agg #[.int .u64 (Vn.1 : Nat), .int .u64 (Vn.2 : Nat)]) (by simp only [results, Tryz.results28]; go_simp) rfl ?_
           refine ⟨?_, zbh⟩
           rw [hVn.out]
       · have e1 : decide (ga ≤ 0) = false := decide_eq_false h1
         have f1 := Lib.hid h1
         go_wp2_with fail
         refine (HSa _ _ _).out.mono ?_; rintro o w7 ⟨rfl, b7⟩; go_wp2_with fail
         refine (HOn _ _ _ _ _).out.mono ?_; rintro o w9 ⟨rfl, b9⟩; go_wp2_with fail
         refine bodyPost_ret (v := .agg #[.int .u64 (Vn.1 : Nat), .int .u64 (Vn.2 : Nat)]) (by simp only [results, Tryz.results28]; go_simp) rfl ?_
         refine ⟨?_, zbh⟩
         rw [hVn.out]
end Go.Proofs.YtgicceiimciafaaGreatDoor

/-
  Walks: package sparseref05: Meet, Interior.
-/
import Derived.Test.YtakbappmkdaioaaGreatDoorZlVA
namespace Go.Proofs.YtakbappmkdaioaaGreatDoor
open Go.RowKit Sp
set_option linter.unusedSimpArgs false

attribute [local irreducible] Calls
set_option maxRecDepth 100000 in
set_option maxHeartbeats 8000000 in
theorem rofF_any (w : World) [ht : Tb w] (a : Nat) (ha : a < 18446744073709551616) : Calls Tryz.prog 193 #[.int .u64 (a : Nat)] w fun e w' => ∃ A C, e = .returned (.agg #[.int .i64 (nin a), .bool (dbad (nof a)), .bool (decide (dman (nof a) < 0)), .slice A (nl (dman (nof a)).natAbs) C, .int .i64 (dexp (nof a))]) ∧ DS w' (dbad (nof a)) (decide (dman (nof a) < 0)) A (nl (dman (nof a)).natAbs) C (dexp (nof a)) (nof a) ∧ From w w' ∧ BI w' A (nl (dman (nof a)).natAbs) C (dman (nof a)).natAbs ∧ (0 < nl (dman (nof a)).natAbs → w.heap.size ≤ ab A) := by
  by_cases h1 : a = fInf
  · skip
    have hv : nin a = 1 ∧ nof a = some (0, 0) := by unfold nin nof; subst h1; exact ⟨by decide, by decide⟩
    rw [hv.1, hv.2]
    clear hv
    subst h1
    show Calls Tryz.prog 193 #[.int .u64 9218868437227405312] w fun e w' => ∃ A C, e = .returned (.agg #[.int .i64 (1), .bool (dbad (some (0, 0))), .bool (decide (dman (some (0, 0)) < 0)), .slice A (nl (dman (some (0, 0))).natAbs) C, .int .i64 (dexp (some (0, 0)))]) ∧ DS w' (dbad (some (0, 0))) (decide (dman (some (0, 0)) < 0)) A (nl (dman (some (0, 0))).natAbs) C (dexp (some (0, 0))) (some (0, 0)) ∧ From w w' ∧ BI w' A (nl (dman (some (0, 0))).natAbs) C (dman (some (0, 0))).natAbs ∧ (0 < nl (dman (some (0, 0))).natAbs → w.heap.size ≤ ab A)
    go_enter Tryz.func193, Tryz.ntmps193
    go_wp2_with fail
    refine bodyPost_ret (v := .agg #[.int .i64 (1), .bool false, .bool false, .slice none 0 0, .int .i64 0]) (by simp only [results, Tryz.results193]; go_simp) rfl ?_
    exact ⟨none, 0, rfl, ⟨dys_of isN_00 (Mag.nil _)⟩, ⟨zbh⟩, ⟨Mag.nil _⟩, fun h => absurd h (by decide)⟩
  · by_cases h2 : a = fNInf
    · skip
      have hv : nin a = -1 ∧ nof a = some (0, 0) := by unfold nin nof; subst h2; exact ⟨by decide, by decide⟩
      rw [hv.1, hv.2]
      clear hv
      subst h2
      show Calls Tryz.prog 193 #[.int .u64 18442240474082181120] w fun e w' => ∃ A C, e = .returned (.agg #[.int .i64 (-1), .bool (dbad (some (0, 0))), .bool (decide (dman (some (0, 0)) < 0)), .slice A (nl (dman (some (0, 0))).natAbs) C, .int .i64 (dexp (some (0, 0)))]) ∧ DS w' (dbad (some (0, 0))) (decide (dman (some (0, 0)) < 0)) A (nl (dman (some (0, 0))).natAbs) C (dexp (some (0, 0))) (some (0, 0)) ∧ From w w' ∧ BI w' A (nl (dman (some (0, 0))).natAbs) C (dman (some (0, 0))).natAbs ∧ (0 < nl (dman (some (0, 0))).natAbs → w.heap.size ≤ ab A)
      go_enter Tryz.func193, Tryz.ntmps193
      go_wp2_with fail
      refine bodyPost_ret (v := .agg #[.int .i64 (-1), .bool false, .bool false, .slice none 0 0, .int .i64 0]) (by simp only [results, Tryz.results193]; go_simp) rfl ?_
      exact ⟨none, 0, rfl, ⟨dys_of isN_00 (Mag.nil _)⟩, ⟨zbh⟩, ⟨Mag.nil _⟩, fun h => absurd h (by decide)⟩
    · have hv : nin a = 0 ∧ nof a = fof a := by unfold nin nof; rw [if_neg h1, if_neg h2, if_neg h1, if_neg h2]; exact ⟨rfl, rfl⟩
      rw [hv.1, hv.2]
      clear hv
      have n1 : ¬ ((a : Nat) : Int) = 9218868437227405312 := fun h => h1 (by unfold fInf; omega)
      have n2 : ¬ ((a : Nat) : Int) = 18442240474082181120 := fun h => h2 (by unfold fNInf; omega)
      have HA := fun W [Tb W] => Lib.hid (r3of_any W a ha tb)
      have hN := isN_fof a
      clear h1 h2
      generalize fof a = d at *
      generalize ((a : Nat) : Int) = p at *
      go_enter Tryz.func193, Tryz.ntmps193
      go_wp2_with fail
      refine (HA _).out.mono ?_
      rintro e w1 ⟨a1, c1, rfl, m1, hb, hf⟩
      have b1 := From.mk hb
      have hne : 0 < nl (dman d).natAbs → ab a1 ≠ w.heap.size := fun h => by have := hf h; simp at this; omega
      have hf1 := fun h => by have := hf h; simp at this; exact Nat.le_trans (Nat.le_succ _) this
      clear hb hf
      go_wp2_with fail
      refine bodyPost_ret (v := .agg #[.int .i64 0, .bool (dbad d), .bool (decide (dman d < 0)), .slice a1 (nl (dman d).natAbs) c1, .int .i64 (dexp d)]) (by simp only [results, Tryz.results193]; go_simp) rfl ?_
      exact ⟨a1, c1, rfl, ⟨dys_of hN (((((m1.set hne 0 _).set hne 1 _).set hne 2 _).set hne 3 _).set hne 4 _)⟩, ⟨zbh⟩, ⟨((((m1.set hne 0 _).set hne 1 _).set hne 2 _).set hne 3 _).set hne 4 _⟩, hf1⟩
set_option maxRecDepth 100000 in
set_option maxHeartbeats 20000000 in
theorem nmeet_any (w : World) [ht : Tb w] (a : Nat) (b : Nat) (c : Nat) (d : Nat) (ha : a < 18446744073709551616) (hb : b < 18446744073709551616) (hc : c < 18446744073709551616) (hd : d < 18446744073709551616) : Calls Tryz.prog 90 #[.agg #[.int .u64 (a : Nat), .int .u64 (b : Nat)], .agg #[.int .u64 (c : Nat), .int .u64 (d : Nat)]] w fun o w' => o = .returned (.tuple #[.agg #[.int .u64 ((imeet (a, b) (c, d)).1 : Nat), .int .u64 ((imeet (a, b) (c, d)).2 : Nat)], .bool (imeetok (a, b) (c, d))]) ∧ Below w.heap.size w w' := by
  have H1 := fun W => Lib.hid (frm (r5valid_any W a b ha hb))
  have H2 := fun W => Lib.hid (frm (r5valid_any W c d hc hd))
  cases k1 : iok (a, b) with
  | false =>
    have hv : imeetok (a, b) (c, d) = false := by unfold imeetok; rw [k1]; rfl
    have hv' : imeet (a, b) (c, d) = (0, 0) := by unfold imeet; rw [hv]; rfl
    rw [hv, hv']
    rw [k1] at H1
    show Calls _ _ _ _ fun o w' => o = .returned (.tuple #[.agg #[.int .u64 0, .int .u64 0], .bool false]) ∧ Below w.heap.size w w'
    clear H2 hv hv' k1
    generalize ((a : Nat) : Int) = p at *
    generalize ((b : Nat) : Int) = q at *
    generalize ((c : Nat) : Int) = r at *
    generalize ((d : Nat) : Int) = s at *
    go_enter Tryz.func90, Tryz.ntmps90
    go_wp2_with fail
    refine (H1 _).out.mono ?_; rintro o w1 ⟨rfl, b1⟩; go_wp2_with fail
    refine bodyPost_ret (v := .tuple #[.agg #[.int .u64 0, .int .u64 0], .bool false]) (by simp only [results, Tryz.results90]; go_simp) rfl ?_
    exact ⟨rfl, zbh⟩
  | true =>
    cases k2 : iok (c, d) with
    | false =>
      have hv : imeetok (a, b) (c, d) = false := by unfold imeetok; rw [k2, Bool.and_false]; rfl
      have hv' : imeet (a, b) (c, d) = (0, 0) := by unfold imeet; rw [hv]; rfl
      rw [hv, hv']
      rw [k1] at H1
      rw [k2] at H2
      show Calls _ _ _ _ fun o w' => o = .returned (.tuple #[.agg #[.int .u64 0, .int .u64 0], .bool false]) ∧ Below w.heap.size w w'
      clear hv hv' k1 k2
      generalize ((a : Nat) : Int) = p at *
      generalize ((b : Nat) : Int) = q at *
      generalize ((c : Nat) : Int) = r at *
      generalize ((d : Nat) : Int) = s at *
      go_enter Tryz.func90, Tryz.ntmps90
      go_wp2_with fail
      refine (H1 _).out.mono ?_; rintro o w1 ⟨rfl, b1⟩; go_wp2_with fail
      refine (H2 _).out.mono ?_; rintro o w2 ⟨rfl, b2⟩; go_wp2_with fail
      refine bodyPost_ret (v := .tuple #[.agg #[.int .u64 0, .int .u64 0], .bool false]) (by simp only [results, Tryz.results90]; go_simp) rfl ?_
      exact ⟨rfl, zbh⟩
    | true =>
      obtain ⟨n1, n2, _⟩ := (iok_iff (x := (a, b)) ⟨ha, hb⟩).1 k1
      obtain ⟨n3, n4, _⟩ := (iok_iff (x := (c, d)) ⟨hc, hd⟩).1 k2
      have L1 := nless_f ha hc n1 n3
      have L2 := nless_f hd hb n4 n2
      obtain ⟨lo, hlo⟩ : ∃ lo, lo = fmax2 a c := ⟨_, rfl⟩
      obtain ⟨hi, hhi⟩ : ∃ hi, hi = fmin2 b d := ⟨_, rfl⟩
      have bl : lo < 18446744073709551616 := by rw [hlo]; exact fmax2_lt ha hc
      have bh : hi < 18446744073709551616 := by rw [hhi]; exact fmin2_lt hb hd
      have nl' : fnan lo = false := by rw [hlo]; unfold fmax2; split; exact n3; exact n1
      have nh' : fnan hi = false := by rw [hhi]; unfold fmin2; split; exact n4; exact n2
      have L3 := nless_f bh bl nh' nl'
      have hv : imeetok (a, b) (c, d) = !fless hi lo := by unfold imeetok; rw [k1, k2, hlo, hhi]; rfl
      have hv' : imeet (a, b) (c, d) = if fless hi lo = true then (0, 0) else (fclean lo, fclean hi) := by
        unfold imeet; rw [hv, hlo, hhi]; cases fless (fmin2 b d) (fmax2 a c) <;> rfl
      rw [hv, hv']
      clear hv hv'
      have O1 := nrnd_of bl nl' 1
      have O2 := nrnd_of bh nh' 2
      rw [k1] at H1
      rw [k2] at H2
      have HA := fun W [Tb W] => Lib.hid (show Calls Tryz.prog 193 #[.int .u64 (a : Nat)] W fun e w' => ∃ A C, e = .returned (.agg #[.int .i64 (nin a), .bool (dbad (nof a)), .bool (decide (dman (nof a) < 0)), .slice A (nl (dman (nof a)).natAbs) C, .int .i64 (dexp (nof a))]) ∧ DS w' (dbad (nof a)) (decide (dman (nof a) < 0)) A (nl (dman (nof a)).natAbs) C (dexp (nof a)) (nof a) ∧ From W w' ∧ BI w' A (nl (dman (nof a)).natAbs) C (dman (nof a)).natAbs ∧ (0 < nl (dman (nof a)).natAbs → W.heap.size ≤ ab A) from rofF_any W a ha)
      have HB := fun W [Tb W] => Lib.hid (show Calls Tryz.prog 193 #[.int .u64 (b : Nat)] W fun e w' => ∃ A C, e = .returned (.agg #[.int .i64 (nin b), .bool (dbad (nof b)), .bool (decide (dman (nof b) < 0)), .slice A (nl (dman (nof b)).natAbs) C, .int .i64 (dexp (nof b))]) ∧ DS w' (dbad (nof b)) (decide (dman (nof b) < 0)) A (nl (dman (nof b)).natAbs) C (dexp (nof b)) (nof b) ∧ From W w' ∧ BI w' A (nl (dman (nof b)).natAbs) C (dman (nof b)).natAbs ∧ (0 < nl (dman (nof b)).natAbs → W.heap.size ≤ ab A) from rofF_any W b hb)
      have HC := fun W [Tb W] => Lib.hid (show Calls Tryz.prog 193 #[.int .u64 (c : Nat)] W fun e w' => ∃ A C, e = .returned (.agg #[.int .i64 (nin c), .bool (dbad (nof c)), .bool (decide (dman (nof c) < 0)), .slice A (nl (dman (nof c)).natAbs) C, .int .i64 (dexp (nof c))]) ∧ DS w' (dbad (nof c)) (decide (dman (nof c) < 0)) A (nl (dman (nof c)).natAbs) C (dexp (nof c)) (nof c) ∧ From W w' ∧ BI w' A (nl (dman (nof c)).natAbs) C (dman (nof c)).natAbs ∧ (0 < nl (dman (nof c)).natAbs → W.heap.size ≤ ab A) from rofF_any W c hc)
      have HD := fun W [Tb W] => Lib.hid (show Calls Tryz.prog 193 #[.int .u64 (d : Nat)] W fun e w' => ∃ A C, e = .returned (.agg #[.int .i64 (nin d), .bool (dbad (nof d)), .bool (decide (dman (nof d) < 0)), .slice A (nl (dman (nof d)).natAbs) C, .int .i64 (dexp (nof d))]) ∧ DS w' (dbad (nof d)) (decide (dman (nof d) < 0)) A (nl (dman (nof d)).natAbs) C (dexp (nof d)) (nof d) ∧ From W w' ∧ BI w' A (nl (dman (nof d)).natAbs) C (dman (nof d)).natAbs ∧ (0 < nl (dman (nof d)).natAbs → W.heap.size ≤ ab A) from rofF_any W d hd)
      have HL := fun W A C A' C' [i1 : DS W (dbad (nof a)) (decide (dman (nof a) < 0)) A (nl (dman (nof a)).natAbs) C (dexp (nof a)) (nof a)] [i2 : DS W (dbad (nof c)) (decide (dman (nof c) < 0)) A' (nl (dman (nof c)).natAbs) C' (dexp (nof c)) (nof c)] [Tb W] => Lib.hid (frm (rless_any W (nin a) (nin c) _ _ _ _ A A' _ _ C C' _ _ (nof a) (nof c) (h1 := i1) (h2 := i2)))
      have HM := fun W A C A' C' [i1 : DS W (dbad (nof d)) (decide (dman (nof d) < 0)) A (nl (dman (nof d)).natAbs) C (dexp (nof d)) (nof d)] [i2 : DS W (dbad (nof b)) (decide (dman (nof b) < 0)) A' (nl (dman (nof b)).natAbs) C' (dexp (nof b)) (nof b)] [Tb W] => Lib.hid (frm (rless_any W (nin d) (nin b) _ _ _ _ A A' _ _ C C' _ _ (nof d) (nof b) (h1 := i1) (h2 := i2)))
      have HK := fun W A C A' C' [i1 : DS W (dbad (nof hi)) (decide (dman (nof hi) < 0)) A (nl (dman (nof hi)).natAbs) C (dexp (nof hi)) (nof hi)] [i2 : DS W (dbad (nof lo)) (decide (dman (nof lo) < 0)) A' (nl (dman (nof lo)).natAbs) C' (dexp (nof lo)) (nof lo)] [Tb W] => Lib.hid (frm (rless_any W (nin hi) (nin lo) _ _ _ _ A A' _ _ C C' _ _ (nof hi) (nof lo) (h1 := i1) (h2 := i2)))
      have HO := fun W A C A' C' [i1 : DS W (dbad (nof lo)) (decide (dman (nof lo) < 0)) A (nl (dman (nof lo)).natAbs) C (dexp (nof lo)) (nof lo)] [i2 : DS W (dbad (nof hi)) (decide (dman (nof hi) < 0)) A' (nl (dman (nof hi)).natAbs) C' (dexp (nof hi)) (nof hi)] [Tb W] => Lib.hid (frm (nout_any W (nin lo) _ _ A _ C _ (nof lo) (nin hi) _ _ A' _ C' _ (nof hi) (hd := i1) (hd' := i2)))
      rw [L1] at HL
      rw [L2] at HM
      rw [L3] at HK
      have hO : nout (nin lo, nof lo) (nin hi, nof hi) = (fclean lo, fclean hi) := by unfold nout; rw [← O1, ← O2]
      rw [hO] at HO
      dsimp only at HO
      have E1 : (nin lo, nof lo) = if fless a c = true then (nin c, nof c) else (nin a, nof a) := by rw [hlo]; unfold fmax2; split <;> rfl
      have E2 : (nin hi, nof hi) = if fless d b = true then (nin d, nof d) else (nin b, nof b) := by rw [hhi]; unfold fmin2; split <;> rfl
      have Na := isN_nof a
      have Nb := isN_nof b
      have Nc := isN_nof c
      have Nd := isN_nof d
      have Nlo := isN_nof lo
      have Nhi := isN_nof hi
      clear k1 k2 n1 n2 n3 n4 L1 L2 L3 O1 O2 hO nl' nh' hlo hhi
      generalize fless a c = y1 at *
      generalize fless d b = y2 at *
      generalize fless hi lo = y3 at *
      generalize nin a = ia at *
      generalize nof a = da at *
      generalize nin b = ib at *
      generalize nof b = db at *
      generalize nin c = ic at *
      generalize nof c = dc at *
      generalize nin d = id at *
      generalize nof d = dd at *
      generalize nin lo = ilo at *
      generalize nof lo = dlo at *
      generalize nin hi = ihi at *
      generalize nof hi = dhi at *
      generalize ((a : Nat) : Int) = p at *
      generalize ((b : Nat) : Int) = q at *
      generalize ((c : Nat) : Int) = r at *
      generalize ((d : Nat) : Int) = s at *
      clear bl bh ha hb hc hd
      have E1 := Lib.hid E1
      have E2 := Lib.hid E2
      go_enter Tryz.func90, Tryz.ntmps90
      go_wp2_with fail
      refine (H1 _).out.mono ?_; rintro o w1 ⟨rfl, b1⟩; go_wp2_with fail
      refine (H2 _).out.mono ?_; rintro o w2 ⟨rfl, b2⟩; go_wp2_with fail
      go_cut [6, 7] (fun p6 p7 wx => ∃ z0 z1, p6 = .pointer (some ⟨z0, 0, none⟩) ∧ p7 = .pointer (some ⟨z1, 0, none⟩) ∧ z0 ≠ z1 ∧ w2.heap.size ≤ z0 ∧ w2.heap.size ≤ z1 ∧ ∃ A0 C0 A1 C1, NB5 wx z0 ia da A0 C0 ∧ NB5 wx z1 ib db A1 C1 ∧ BI wx A0 (nl (dman da).natAbs) C0 (dman da).natAbs ∧ BI wx A1 (nl (dman db).natAbs) C1 (dman db).natAbs ∧ (0 < nl (dman da).natAbs → ab A0 ≠ z0 ∧ ab A0 ≠ z1) ∧ (0 < nl (dman db).natAbs → ab A1 ≠ z0 ∧ ab A1 ≠ z1) ∧ From w2 wx)
      case first =>
        refine wp_region_from (by kernel_rfl) (fun w0 b0 => ?_)
        refine tkv 0 (some 17) (.pointer (some ⟨w.heap.size, 0, none⟩)) rfl rfl (by kernel_rfl) (by kernel_rfl) (by kernel_rfl) (fun _ _ _ h => h) (by rfl) (fun w hSw => by haveI : From w0 w := ⟨hSw⟩; go_simp) (Below.refl _ _) ?_
        simp only [Act.put, List.setIfInBounds_toArray, List.set_cons_zero, List.set_cons_succ]
        refine tkv 1 (some 18) (.int .u64 p) rfl rfl (by kernel_rfl) (by kernel_rfl) (by kernel_rfl) (fun _ _ _ h => h) (by rfl) (fun w hSw => by haveI : From w0 w := ⟨hSw⟩; go_simp) (Below.refl _ _) ?_
        simp only [Act.put, List.setIfInBounds_toArray, List.set_cons_zero, List.set_cons_succ]
        refine tkv 3 (some 20) (.pointer (some ⟨w.heap.size, 1, none⟩)) rfl rfl (by kernel_rfl) (by kernel_rfl) (by kernel_rfl) (fun _ _ _ h => h) (by rfl) (fun w hSw => by haveI : From w0 w := ⟨hSw⟩; go_simp) (Below.refl _ _) ?_
        simp only [Act.put, List.setIfInBounds_toArray, List.set_cons_zero, List.set_cons_succ]
        refine tkv 4 (some 21) (.int .u64 q) rfl rfl (by kernel_rfl) (by kernel_rfl) (by kernel_rfl) (fun _ _ _ h => h) (by rfl) (fun w hSw => by haveI : From w0 w := ⟨hSw⟩; go_simp) (Below.refl _ _) ?_
        simp only [Act.put, List.setIfInBounds_toArray, List.set_cons_zero, List.set_cons_succ]
        have hN0 := NS.start w0 (pick4 ia ib ia ib) (pick4 da db da db) (fun _ => 0) (fun _ => none) (fun _ => 0)
        refine wpAnyH_ns w0 (pick4 ia ib ia ib) (pick4 da db da db) (fun al ca st ex => #[true, true, ca 0, true, true, ca 1, al 0, al 1, st 0, st 1]) (fun al ca ex bf af cf => [(19, NT (ca 0) ((pick4 ia ib ia ib) 0) ((pick4 da db da db) 0) (af 0) (cf 0)), (22, NT (ca 1) ((pick4 ia ib ia ib) 1) ((pick4 da db da db) 1) (af 1) (cf 1)), (6, PT (al 0) (bf 0)), (7, PT (al 1) (bf 1))]) (fun al ca st ex af cf => True) rfl hN0 (ex := fun _ => false) trivial rfl rfl (by decide) (by kernel_rfl) (fun _ _ _ _ => rfl) ?_ ?_
        · intro al ca st ex bf af cf vw hN hX hw0 i o ho hl haf K hK
          have hi : i < 10 := (Array.getElem?_eq_some_iff.1 ho).1
          rcases (show i = 0 ∨ i = 1 ∨ i = 2 ∨ i = 3 ∨ i = 4 ∨ i = 5 ∨ i = 6 ∨ i = 7 ∨ i = 8 ∨ i = 9 by omega) with rfl | rfl | rfl | rfl | rfl | rfl | rfl | rfl | rfl | rfl
          · exact absurd hl (by intro h; cases h)
          · exact absurd hl (by intro h; cases h)
          · simp only [List.getElem?_toArray, List.getElem?_cons_succ, List.getElem?_cons_zero, Option.some.injEq] at ho
            subst ho
            have hl' : ca 0 = false := hl
            clear haf hl
            simp only [fillA, List.setIfInBounds_toArray, List.set_cons_zero, List.set_cons_succ]
            go_simp
            refine (HA _).out.mono ?_; rintro o w1 ⟨a1, c1, rfl, i1, b1, m1, f1⟩
            go_simp
            exact hK.out al (up1 ca 0 true) st ex bf (up1 af 0 a1) (up1 cf 0 c1) _ _ rfl (by simp only [fillA, List.setIfInBounds_toArray, List.set_cons_zero, List.set_cons_succ] <;> rfl) hX (hN.call 0 hl' b1 a1 c1 m1.out f1)
          · exact absurd hl (by intro h; cases h)
          · exact absurd hl (by intro h; cases h)
          · simp only [List.getElem?_toArray, List.getElem?_cons_succ, List.getElem?_cons_zero, Option.some.injEq] at ho
            subst ho
            have hl' : ca 1 = false := hl
            clear haf hl
            simp only [fillA, List.setIfInBounds_toArray, List.set_cons_zero, List.set_cons_succ]
            go_simp
            refine (HB _).out.mono ?_; rintro o w1 ⟨a1, c1, rfl, i1, b1, m1, f1⟩
            go_simp
            exact hK.out al (up1 ca 1 true) st ex bf (up1 af 1 a1) (up1 cf 1 c1) _ _ rfl (by simp only [fillA, List.setIfInBounds_toArray, List.set_cons_zero, List.set_cons_succ] <;> rfl) hX (hN.call 1 hl' b1 a1 c1 m1.out f1)
          · simp only [List.getElem?_toArray, List.getElem?_cons_succ, List.getElem?_cons_zero, Option.some.injEq] at ho
            subst ho
            have hl' : al 0 = false := hl
            clear haf hl
            simp [go_sem]
            exact hK.out (up1 al 0 true) ca st ex (up1 bf 0 vw.heap.size) af cf _ _ rfl (by simp only [fillA, List.setIfInBounds_toArray, List.set_cons_zero, List.set_cons_succ] <;> rfl) hX (hN.alloc 0 hl' _ _ _ _ _ _)
          · simp only [List.getElem?_toArray, List.getElem?_cons_succ, List.getElem?_cons_zero, Option.some.injEq] at ho
            subst ho
            have hl' : al 1 = false := hl
            clear haf hl
            simp [go_sem]
            exact hK.out (up1 al 1 true) ca st ex (up1 bf 1 vw.heap.size) af cf _ _ rfl (by simp only [fillA, List.setIfInBounds_toArray, List.set_cons_zero, List.set_cons_succ] <;> rfl) hX (hN.alloc 1 hl' _ _ _ _ _ _)
          · simp only [List.getElem?_toArray, List.getElem?_cons_succ, List.getElem?_cons_zero, Option.some.injEq] at ho
            subst ho
            have h1 : al 0 = true := haf ⟨6, .data⟩ (by simp) rfl
            have h2 : ca 0 = true := haf ⟨2, .data⟩ (by simp) rfl
            clear haf
            obtain ⟨hb, z0, z1, z2, z3, z4, hz⟩ := hN.bx 0 h1
            simp only [fillA, h1, h2, PT_true, NT_true, List.setIfInBounds_toArray, List.set_cons_zero, List.set_cons_succ]
            simp [go_sem]
            have hS := hN.store 0 h1 h2
            exact hK.out al ca (up1 st 0 true) ex bf af cf _ _ rfl (by simp only [fillA, h1, h2, PT_true, NT_true, List.setIfInBounds_toArray, List.set_cons_zero, List.set_cons_succ] <;> rfl) hX hS
          · simp only [List.getElem?_toArray, List.getElem?_cons_succ, List.getElem?_cons_zero, Option.some.injEq] at ho
            subst ho
            have h1 : al 1 = true := haf ⟨7, .data⟩ (by simp) rfl
            have h2 : ca 1 = true := haf ⟨5, .data⟩ (by simp) rfl
            clear haf
            obtain ⟨hb, z0, z1, z2, z3, z4, hz⟩ := hN.bx 1 h1
            simp only [fillA, h1, h2, PT_true, NT_true, List.setIfInBounds_toArray, List.set_cons_zero, List.set_cons_succ]
            simp [go_sem]
            have hS := hN.store 1 h1 h2
            exact hK.out al ca (up1 st 1 true) ex bf af cf _ _ rfl (by simp only [fillA, h1, h2, PT_true, NT_true, List.setIfInBounds_toArray, List.set_cons_zero, List.set_cons_succ] <;> rfl) hX hS
        · intro al ca st ex bf af cf vw hN hX hw0 hall
          have q2 : ca 0 = true := hall 2 (by decide)
          have q5 : ca 1 = true := hall 5 (by decide)
          have q6 : al 0 = true := hall 6 (by decide)
          have q7 : al 1 = true := hall 7 (by decide)
          have q8 : st 0 = true := hall 8 (by decide)
          have q9 : st 1 = true := hall 9 (by decide)
          clear hall
          simp only [fillA, q2, q5, q6, q7, PT_true, NT_true, VT_true, List.setIfInBounds_toArray, List.set_cons_zero, List.set_cons_succ]
          have n0 := hN.se 0 q8
          have n1 := hN.se 1 q9
          have ne := hN.ne 0 1 (by decide) q6 q7
          have z0 := (hN.bx 0 q6).1
          have z1 := (hN.bx 1 q7).1
          have hs := b0.out.size
          go_wp2_with fail
          go_meet
          exact ⟨_, _, rfl, rfl, ne, by omega, by omega, _, _, _, _, n0.2.2, n1.2.2, ⟨hN.nu 0 q2⟩, ⟨hN.nu 1 q5⟩, fun h => ⟨hN.fr 0 0 q6 q2 h, hN.fr 1 0 q7 q2 h⟩, fun h => ⟨hN.fr 0 1 q6 q5 h, hN.fr 1 1 q7 q5 h⟩, ⟨zbh⟩⟩
      case rest =>
        obtain ⟨z0, z1, rfl, rfl, ne, g0, g1, A0, C0, A1, C1, r1, r2, r3, r4, r5, r6, r7⟩ := hcut
        generalize wc = v at *
        have ne' : z1 ≠ z0 := fun h => ne h.symm
        have Nl := Na
        have Nh := Nb
        haveI t0 : NB5 v z0 ia da A0 C0 := r1
        haveI t1 : NB5 v z1 ib db A1 C1 := r2
        haveI t2 := r3
        haveI t3 := r4
        haveI t4 : DS v (dbad da) (decide (dman da < 0)) A0 (nl (dman da).natAbs) C0 (dexp da) da := ⟨dys_of Nl r3.out⟩
        haveI t5 : DS v (dbad db) (decide (dman db < 0)) A1 (nl (dman db).natAbs) C1 (dexp db) db := ⟨dys_of Nh r4.out⟩
        haveI t6 : From w2 v := r7
        go_wp2_with fail
        first
        | go_region_held3 (fun w' => w'.cell? ⟨z0, 0, none⟩ = some (.int .i64 ia) ∧ w'.cell? ⟨z0, 1, none⟩ = some (.bool (dbad da)) ∧ w'.cell? ⟨z0, 2, none⟩ = some (.bool (decide (dman da < 0))) ∧ w'.cell? ⟨z0, 3, none⟩ = some (.slice A0 (nl (dman da).natAbs) C0) ∧ w'.cell? ⟨z0, 4, none⟩ = some (.int .i64 (dexp da)) ∧ w'.cell? ⟨w.heap.size + 1, 0, none⟩ = some (.int .u64 r) ∧ w'.cell? ⟨w.heap.size + 1, 1, none⟩ = some (.int .u64 s)) (first | (go_simp; done))
            (first
              | (go_at_call 193; refine (HC _).out.mono ?_; rintro o w5 ⟨A5, C5, rfl, i5, b5, m5, f5⟩)
              | (go_at_call 194; refine (HL _ _ _ _ _).out.mono ?_; rintro o w6 ⟨rfl, b6⟩)
              | fail)
        | fail "region"
        all_goals (
          go_upto_if 27 with fail
          go_cut [] (fun wx => ∃ A0 C0 A1 C1, NB5 wx z0 ilo dlo A0 C0 ∧ NB5 wx z1 ib db A1 C1 ∧ BI wx A0 (nl (dman dlo).natAbs) C0 (dman dlo).natAbs ∧ BI wx A1 (nl (dman db).natAbs) C1 (dman db).natAbs ∧ (0 < nl (dman dlo).natAbs → ab A0 ≠ z0 ∧ ab A0 ≠ z1) ∧ (0 < nl (dman db).natAbs → ab A1 ≠ z0 ∧ ab A1 ≠ z1) ∧ From w2 wx)
          case first =>
            have s6 := (show Below v.heap.size v w6 from zbh).size
            have E' := E1.out
            rcases two_ways y1 with hy | hy
            · rw [hy, if_pos rfl] at E'
              obtain ⟨e1, e2⟩ := Prod.mk.inj E'
              subst hy
              go_wp2_with fail
              refine (HC _).out.mono ?_; rintro o w7 ⟨a7, c7, rfl, i7, b7, m7, f7⟩; go_wp2_with fail
              go_meet
              have q0 : NB5 w7 z0 ia da A0 C0 := inferInstance
              have q1 : NB5 w7 z1 ib db A1 C1 := inferInstance
              have q2 : Mag w7 A0 (nl (dman da).natAbs) C0 (dman da).natAbs := (inferInstance : BI w7 _ _ _ _).out
              have q3 : Mag w7 A1 (nl (dman db).natAbs) C1 (dman db).natAbs := (inferInstance : BI w7 _ _ _ _).out
              have B7 : Below w2.heap.size w2 w7 := zbh
              have h7 : 0 < nl (dman dc).natAbs → ab a7 ≠ z0 ∧ ab a7 ≠ z1 := fun h => by
                have := f7 h; have := t0.lt; have := t1.lt; constructor <;> omega
              rw [e1, e2]
              exact ⟨a7, c7, A1, C1, N5.set5 q0 _ _ _ _ _, N5.st5 q1 ne' _ _ _ _ _, ⟨Mag.st5 m7.out (fun h => (h7 h).1) _ _ _ _ _⟩, ⟨Mag.st5 q3 (fun h => (r6 h).1) _ _ _ _ _⟩, h7, r6, ⟨((((B7.setCell g0 _).setCell g0 _).setCell g0 _).setCell g0 _).setCell g0 _⟩⟩
            · rw [hy, if_neg Bool.false_ne_true] at E'
              obtain ⟨e1, e2⟩ := Prod.mk.inj E'
              subst hy
              go_wp2_with fail
              go_meet
              rw [e1, e2]
              exact ⟨A0, C0, A1, C1, inferInstance, inferInstance, inferInstance, inferInstance, r5, r6, ⟨zbh⟩⟩
          case rest =>
            clear t0 t1 t2 t3 t4 t5 t6 r1 r2 r3 r4 r5 r6 r7 Nl Nh
            obtain ⟨A0, C0, A1, C1, r1, r2, r3, r4, r5, r6, r7⟩ := hcut
            generalize wc = v1 at *
            have Nl := Nlo
            have Nh := Nb
            haveI t0 : NB5 v1 z0 ilo dlo A0 C0 := r1
            haveI t1 : NB5 v1 z1 ib db A1 C1 := r2
            haveI t2 := r3
            haveI t3 := r4
            haveI t4 : DS v1 (dbad dlo) (decide (dman dlo < 0)) A0 (nl (dman dlo).natAbs) C0 (dexp dlo) dlo := ⟨dys_of Nl r3.out⟩
            haveI t5 : DS v1 (dbad db) (decide (dman db < 0)) A1 (nl (dman db).natAbs) C1 (dexp db) db := ⟨dys_of Nh r4.out⟩
            haveI t6 : From w2 v1 := r7
            go_wp2_with fail
            first
            | go_region_held3 (fun w' => w'.cell? ⟨z1, 0, none⟩ = some (.int .i64 ib) ∧ w'.cell? ⟨z1, 1, none⟩ = some (.bool (dbad db)) ∧ w'.cell? ⟨z1, 2, none⟩ = some (.bool (decide (dman db < 0))) ∧ w'.cell? ⟨z1, 3, none⟩ = some (.slice A1 (nl (dman db).natAbs) C1) ∧ w'.cell? ⟨z1, 4, none⟩ = some (.int .i64 (dexp db)) ∧ w'.cell? ⟨w.heap.size + 1, 0, none⟩ = some (.int .u64 r) ∧ w'.cell? ⟨w.heap.size + 1, 1, none⟩ = some (.int .u64 s)) (first | (go_simp; done))
                (first
                  | (go_at_call 193; refine (HD _).out.mono ?_; rintro o w5 ⟨A5, C5, rfl, i5, b5, m5, f5⟩)
                  | (go_at_call 194; refine (HM _ _ _ _ _).out.mono ?_; rintro o w6 ⟨rfl, b6⟩)
                  | fail)
            | fail "region"
            all_goals (
              go_upto_if 35 with fail
              go_cut [] (fun wx => ∃ A0 C0 A1 C1, NB5 wx z0 ilo dlo A0 C0 ∧ NB5 wx z1 ihi dhi A1 C1 ∧ BI wx A0 (nl (dman dlo).natAbs) C0 (dman dlo).natAbs ∧ BI wx A1 (nl (dman dhi).natAbs) C1 (dman dhi).natAbs ∧ (0 < nl (dman dlo).natAbs → ab A0 ≠ z0 ∧ ab A0 ≠ z1) ∧ (0 < nl (dman dhi).natAbs → ab A1 ≠ z0 ∧ ab A1 ≠ z1) ∧ From w2 wx)
              case first =>
                have s6 := (show Below v1.heap.size v1 w6 from zbh).size
                have E' := E2.out
                rcases two_ways y2 with hy | hy
                · rw [hy, if_pos rfl] at E'
                  obtain ⟨e1, e2⟩ := Prod.mk.inj E'
                  subst hy
                  go_wp2_with fail
                  refine (HD _).out.mono ?_; rintro o w7 ⟨a7, c7, rfl, i7, b7, m7, f7⟩; go_wp2_with fail
                  go_meet
                  have q0 : NB5 w7 z0 ilo dlo A0 C0 := inferInstance
                  have q1 : NB5 w7 z1 ib db A1 C1 := inferInstance
                  have q2 : Mag w7 A0 (nl (dman dlo).natAbs) C0 (dman dlo).natAbs := (inferInstance : BI w7 _ _ _ _).out
                  have q3 : Mag w7 A1 (nl (dman db).natAbs) C1 (dman db).natAbs := (inferInstance : BI w7 _ _ _ _).out
                  have B7 : Below w2.heap.size w2 w7 := zbh
                  have h7 : 0 < nl (dman dd).natAbs → ab a7 ≠ z0 ∧ ab a7 ≠ z1 := fun h => by
                    have := f7 h; have := t0.lt; have := t1.lt; constructor <;> omega
                  rw [e1, e2]
                  exact ⟨A0, C0, a7, c7, N5.st5 q0 ne _ _ _ _ _, N5.set5 q1 _ _ _ _ _, ⟨Mag.st5 q2 (fun h => (r5 h).2) _ _ _ _ _⟩, ⟨Mag.st5 m7.out (fun h => (h7 h).2) _ _ _ _ _⟩, r5, h7, ⟨((((B7.setCell g1 _).setCell g1 _).setCell g1 _).setCell g1 _).setCell g1 _⟩⟩
                · rw [hy, if_neg Bool.false_ne_true] at E'
                  obtain ⟨e1, e2⟩ := Prod.mk.inj E'
                  subst hy
                  go_wp2_with fail
                  go_meet
                  rw [e1, e2]
                  exact ⟨A0, C0, A1, C1, inferInstance, inferInstance, inferInstance, inferInstance, r5, r6, ⟨zbh⟩⟩
              case rest =>
                clear t0 t1 t2 t3 t4 t5 t6 r1 r2 r3 r4 r5 r6 r7 Nl Nh
                obtain ⟨A0, C0, A1, C1, r1, r2, r3, r4, r5, r6, r7⟩ := hcut
                generalize wc = v2 at *
                have Nl := Nlo
                have Nh := Nhi
                haveI t0 : NB5 v2 z0 ilo dlo A0 C0 := r1
                haveI t1 : NB5 v2 z1 ihi dhi A1 C1 := r2
                haveI t2 := r3
                haveI t3 := r4
                haveI t4 : DS v2 (dbad dlo) (decide (dman dlo < 0)) A0 (nl (dman dlo).natAbs) C0 (dexp dlo) dlo := ⟨dys_of Nl r3.out⟩
                haveI t5 : DS v2 (dbad dhi) (decide (dman dhi < 0)) A1 (nl (dman dhi).natAbs) C1 (dexp dhi) dhi := ⟨dys_of Nh r4.out⟩
                haveI t6 : From w2 v2 := r7
                go_wp2_with fail
                refine (HK _ _ _ _ _).out.mono ?_; rintro o w8 ⟨rfl, b8⟩
                cases y3
                · go_wp2_with fail
                  refine (HO _ _ _ _ _).out.mono ?_; rintro o w9 ⟨rfl, b9⟩; go_wp2_with fail
                  refine bodyPost_ret (v := .tuple #[.agg #[.int .u64 (fclean lo : Nat), .int .u64 (fclean hi : Nat)], .bool true]) (by simp only [results, Tryz.results90]; go_simp) rfl ?_
                  exact ⟨rfl, zbh⟩
                · go_wp2_with fail
                  refine bodyPost_ret (v := .tuple #[.agg #[.int .u64 0, .int .u64 0], .bool false]) (by simp only [results, Tryz.results90]; go_simp) rfl ?_
                  exact ⟨rfl, zbh⟩))
end Go.Proofs.YtakbappmkdaioaaGreatDoor


/-
  Walks: package sparseref05: Valid, of, less, Subset, Contains; sparselaw05.within.
-/
import Derived.Test.YtakbappmkdaioaaGreatDoorZlJA
import Derived.Test.YtakbappmkdaioaaGreatDoorZlS3
import Derived.Test.YtakbappmkdaioaaGreatDoorZlRV
import Derived.Test.YtakbappmkdaioaaGreatDoorZlIP
import Derived.Test.YtakbappmkdaioaaGreatDoorZlCs
namespace Go.Proofs.YtakbappmkdaioaaGreatDoor
open Go.RowKit Sp
set_option linter.unusedSimpArgs false

attribute [local irreducible] Calls

set_option maxRecDepth 100000 in
set_option maxHeartbeats 8000000 in
theorem r5valid_any (w : World) (a b : Nat) (ha : a < 18446744073709551616) (hb : b < 18446744073709551616) : Calls Tryz.prog 106 #[.agg #[.int .u64 (a : Nat), .int .u64 (b : Nat)]] w fun e w' => e = .returned (.bool (iok (a, b))) ∧ Below w.heap.size w w' := by
  have H1 := fun W => Lib.hid (r3cmp_any W a b ha hb)
  have e1 := beq_nat a fInf 9218868437227405312 (by decide)
  have e2 := beq_nat b fNInf 18442240474082181120 (by decide)
  have hv : iok (a, b) = (fcmpok a b && decide (fcmpv a b ≤ 0) && !(((a : Nat) : Int) == 9218868437227405312) && !(((b : Nat) : Int) == 18442240474082181120)) := by
    rw [e1, e2]; unfold iok; simp only [ne_eq, decide_not]
  rw [hv]
  clear hv e1 e2
  generalize fcmpv a b = c at *
  generalize fcmpok a b = k at *
  generalize ((a : Nat) : Int) = p at *
  generalize ((b : Nat) : Int) = q at *
  rcases two_ways k with rfl | rfl <;> rcases two_ways (decide (c ≤ 0)) with hc | hc <;> rcases two_ways (p == 9218868437227405312) with hp | hp
  all_goals (
    rw [hc, hp]
    simp only [decide_eq_true_eq, decide_eq_false_iff_not, beq_iff_eq, beq_eq_false_iff_ne, ne_eq] at hc hp
    (try subst hp)
    go_enter Tryz.func106, Tryz.ntmps106
    go_wp2_with fail
    refine (H1 _).out.mono ?_
    rintro e w1 ⟨rfl, rfl⟩
    go_wp2_with fail
    go_ret
    first | exact ⟨rfl, zbh⟩ | (refine ⟨?_, zbh⟩; simp [bne, hp]; done) | (refine ⟨?_, zbh⟩; simp [bne]; done))

set_option maxRecDepth 100000 in
set_option maxHeartbeats 8000000 in
theorem rof_any (w : World) [ht : Tb w] (a : Nat) (ha : a < 18446744073709551616) : Calls Tryz.prog 193 #[.int .u64 (a : Nat)] w fun e w' => ∃ A C, e = .returned (.agg #[.int .i64 (nin a), .bool (dbad (nof a)), .bool (decide (dman (nof a) < 0)), .slice A (nl (dman (nof a)).natAbs) C, .int .i64 (dexp (nof a))]) ∧ DS w' (dbad (nof a)) (decide (dman (nof a) < 0)) A (nl (dman (nof a)).natAbs) C (dexp (nof a)) (nof a) ∧ From w w' := by
  by_cases h1 : a = fInf
  · skip
    have hv : nin a = 1 ∧ nof a = some (0, 0) := by unfold nin nof; subst h1; exact ⟨by decide, by decide⟩
    rw [hv.1, hv.2]
    clear hv
    subst h1
    show Calls Tryz.prog 193 #[.int .u64 9218868437227405312] w fun e w' => ∃ A C, e = .returned (.agg #[.int .i64 (1), .bool (dbad (some (0, 0))), .bool (decide (dman (some (0, 0)) < 0)), .slice A (nl (dman (some (0, 0))).natAbs) C, .int .i64 (dexp (some (0, 0)))]) ∧ DS w' (dbad (some (0, 0))) (decide (dman (some (0, 0)) < 0)) A (nl (dman (some (0, 0))).natAbs) C (dexp (some (0, 0))) (some (0, 0)) ∧ From w w'
    go_enter Tryz.func193, Tryz.ntmps193
    go_wp2_with fail
    refine bodyPost_ret (v := .agg #[.int .i64 (1), .bool false, .bool false, .slice none 0 0, .int .i64 0]) (by simp only [results, Tryz.results193]; go_simp) rfl ?_
    exact ⟨none, 0, rfl, ⟨dys_of isN_00 (Mag.nil _)⟩, ⟨zbh⟩⟩
  · by_cases h2 : a = fNInf
    · skip
      have hv : nin a = -1 ∧ nof a = some (0, 0) := by unfold nin nof; subst h2; exact ⟨by decide, by decide⟩
      rw [hv.1, hv.2]
      clear hv
      subst h2
      show Calls Tryz.prog 193 #[.int .u64 18442240474082181120] w fun e w' => ∃ A C, e = .returned (.agg #[.int .i64 (-1), .bool (dbad (some (0, 0))), .bool (decide (dman (some (0, 0)) < 0)), .slice A (nl (dman (some (0, 0))).natAbs) C, .int .i64 (dexp (some (0, 0)))]) ∧ DS w' (dbad (some (0, 0))) (decide (dman (some (0, 0)) < 0)) A (nl (dman (some (0, 0))).natAbs) C (dexp (some (0, 0))) (some (0, 0)) ∧ From w w'
      go_enter Tryz.func193, Tryz.ntmps193
      go_wp2_with fail
      refine bodyPost_ret (v := .agg #[.int .i64 (-1), .bool false, .bool false, .slice none 0 0, .int .i64 0]) (by simp only [results, Tryz.results193]; go_simp) rfl ?_
      exact ⟨none, 0, rfl, ⟨dys_of isN_00 (Mag.nil _)⟩, ⟨zbh⟩⟩
    · have hv : nin a = 0 ∧ nof a = fof a := by unfold nin nof; rw [if_neg h1, if_neg h2, if_neg h1, if_neg h2]; exact ⟨rfl, rfl⟩
      rw [hv.1, hv.2]
      clear hv
      have n1 : ¬ ((a : Nat) : Int) = 9218868437227405312 := fun h => h1 (by unfold fInf; omega)
      have n2 : ¬ ((a : Nat) : Int) = 18442240474082181120 := fun h => h2 (by unfold fNInf; omega)
      have HA := fun W [Tb W] => Lib.hid (r3of_any W a ha tb)
      have hN := isN_fof a
      clear h1 h2
      generalize fof a = d at *
      generalize ((a : Nat) : Int) = p at *
      go_enter Tryz.func193, Tryz.ntmps193
      go_wp2_with fail
      refine (HA _).out.mono ?_
      rintro e w1 ⟨a1, c1, rfl, m1, hb, hf⟩
      have b1 := From.mk hb
      have hne : 0 < nl (dman d).natAbs → ab a1 ≠ w.heap.size := fun h => by have := hf h; simp at this; omega
      clear hb hf
      go_wp2_with fail
      refine bodyPost_ret (v := .agg #[.int .i64 0, .bool (dbad d), .bool (decide (dman d < 0)), .slice a1 (nl (dman d).natAbs) c1, .int .i64 (dexp d)]) (by simp only [results, Tryz.results193]; go_simp) rfl ?_
      exact ⟨a1, c1, rfl, ⟨dys_of hN (((((m1.set hne 0 _).set hne 1 _).set hne 2 _).set hne 3 _).set hne 4 _)⟩, ⟨zbh⟩⟩

set_option maxRecDepth 100000 in
set_option maxHeartbeats 8000000 in
theorem rless_any (w : World) [ht : Tb w] (i j : Int) (v s v' s' : Bool) (A A' : Option Addr) (n n' c c' : Nat) (e e' : Int) (d d' : Option (Int × Int)) [h1 : DS w v s A n c e d] [h2 : DS w v' s' A' n' c' e' d'] :
    Calls Tryz.prog 194 #[.agg #[.int .i64 i, .bool v, .bool s, .slice A n c, .int .i64 e], .agg #[.int .i64 j, .bool v', .bool s', .slice A' n' c', .int .i64 e']] w fun o w' => o = .returned (.bool (nless i d j d')) ∧ Below w.heap.size w w' := by
  have HC := fun W [i1 : DS W v s A n c e d] [i2 : DS W v' s' A' n' c' e' d'] [Tb W] => Lib.hid (frm (rdcmp_any W v s v' s' A A' n n' c c' e e' d d' i1.out i2.out tb))
  rcases two_ways (i == 0) with hi | hi <;> rcases two_ways (j == 0) with hj | hj
  · have hi := eq_of_beq hi; subst hi
    have hj := eq_of_beq hj; subst hj
    have hv : nless 0 d 0 d' = decide (dcmp d d' < 0) := by unfold nless; rfl
    rw [hv]
    clear hv
    generalize dcmp d d' = u at *
    generalize (!dbad d && !dbad d') = u' at *
    go_enter Tryz.func194, Tryz.ntmps194
    go_wp2_with fail
    refine (HC _).out.mono ?_
    rintro e w1 ⟨rfl, b1⟩
    go_wp2_with fail
    go_ret
    exact ⟨rfl, zbh⟩
  · have hi := eq_of_beq hi; subst hi
    have hv : nless 0 d j d' = decide (0 < j) := by unfold nless; rw [if_pos (by simp [bne, hj])]
    rw [hv]
    clear hv
    have gj : (j != 0) = true := by simp [bne, hj]
    go_enter Tryz.func194, Tryz.ntmps194
    go_wp2_with fail
    go_ret
    exact ⟨rfl, zbh⟩
  · skip
    have hj := eq_of_beq hj; subst hj
    have hv : nless i d 0 d' = decide (i < 0) := by unfold nless; rw [if_pos (by simp [bne, hi])]
    rw [hv]
    clear hv
    have gi : (i != 0) = true := by simp [bne, hi]
    go_enter Tryz.func194, Tryz.ntmps194
    go_wp2_with fail
    go_ret
    exact ⟨rfl, zbh⟩
  · skip
    have hv : nless i d j d' = decide (i < j) := by unfold nless; rw [if_pos (by simp [bne, hi, hj])]
    rw [hv]
    clear hv
    have gi : (i != 0) = true := by simp [bne, hi]
    have gj : (j != 0) = true := by simp [bne, hj]
    go_enter Tryz.func194, Tryz.ntmps194
    go_wp2_with fail
    go_ret
    exact ⟨rfl, zbh⟩

section
variable {P : Program} {md : Region.Mode} {ops : Array Oper} {Q : Exit → Act → World → Prop} {S : World → Prop} {fuel : Nat} {listed : Array Bool} {a : Act} {w : World}
/-- an operation that yields its value, taken first -/
theorem tkv (i : Nat) (d : Option Tmp) {o : Oper} (v : Value) (hi : ops[i]? = some o) (hd : o.dst = d) (hs : Region.noSelect ops = true) (hf : Region.free md ops listed i = true) (hr : (Region.ready md ops listed).contains i = true)
    (hQ : ∀ c a w, Q (.panic c) (a.put o.dst v) w → Q (.panic c) a w) (hw : Region.wanted o (yielded ops a.tmps) = true) (hy : ∀ w, S w → (execOp a.eval o).run P w = .ok (.value v) w) (hS : S w)
    (h : wpAnyH P md ops Q S fuel (listed.setIfInBounds i true) (a.put d v) w) : wpAnyH P md ops Q S (fuel + 1) listed a w := by
  subst hd; exact wpAnyH_take hi hs hf hr hQ (Or.inl ⟨hw, hy⟩) hS h
/-- an operation that its guard passes over -/
theorem tku (i : Nat) (d : Option Tmp) {o : Oper} (hi : ops[i]? = some o) (hd : o.dst = d) (hs : Region.noSelect ops = true) (hf : Region.free md ops listed i = true) (hr : (Region.ready md ops listed).contains i = true)
    (hQ : ∀ c a w, Q (.panic c) (a.put o.dst undef) w → Q (.panic c) a w) (hw : Region.wanted o (yielded ops a.tmps) = false) (hS : S w)
    (h : wpAnyH P md ops Q S fuel (listed.setIfInBounds i true) (a.put d undef) w) : wpAnyH P md ops Q S (fuel + 1) listed a w := by
  subst hd; exact wpAnyH_take hi hs hf hr hQ (Or.inr ⟨hw, rfl⟩) hS h
end

set_option maxRecDepth 100000 in
set_option maxHeartbeats 8000000 in
theorem rsubset_any (w : World) [ht : Tb w] (a : Nat) (b : Nat) (c : Nat) (d : Nat) (ha : a < 18446744073709551616) (hb : b < 18446744073709551616) (hc : c < 18446744073709551616) (hd : d < 18446744073709551616) : Calls Tryz.prog 94 #[.agg #[.int .u64 (a : Nat), .int .u64 (b : Nat)], .agg #[.int .u64 (c : Nat), .int .u64 (d : Nat)]] w fun o w' => o = .returned (.bool (rsub (a, b) (c, d))) ∧ Below w.heap.size w w' := by
  have HV := fun W => Lib.hid (frm (r5valid_any W a b ha hb))
  have HU := fun W => Lib.hid (frm (r5valid_any W c d hc hd))
  have HA := fun W [Tb W] => Lib.hid (rof_any W a ha)
  have HB := fun W [Tb W] => Lib.hid (rof_any W b hb)
  have HC := fun W [Tb W] => Lib.hid (rof_any W c hc)
  have HD := fun W [Tb W] => Lib.hid (rof_any W d hd)
  have HL := fun W A C A' C' [i1 : DS W (dbad (nof a)) (decide (dman (nof a) < 0)) A (nl (dman (nof a)).natAbs) C (dexp (nof a)) (nof a)] [i2 : DS W (dbad (nof c)) (decide (dman (nof c) < 0)) A' (nl (dman (nof c)).natAbs) C' (dexp (nof c)) (nof c)] [Tb W] => Lib.hid (frm (rless_any W (nin a) (nin c) _ _ _ _ A A' _ _ C C' _ _ (nof a) (nof c) (h1 := i1) (h2 := i2)))
  have HM := fun W A C A' C' [i1 : DS W (dbad (nof d)) (decide (dman (nof d) < 0)) A (nl (dman (nof d)).natAbs) C (dexp (nof d)) (nof d)] [i2 : DS W (dbad (nof b)) (decide (dman (nof b) < 0)) A' (nl (dman (nof b)).natAbs) C' (dexp (nof b)) (nof b)] [Tb W] => Lib.hid (frm (rless_any W (nin d) (nin b) _ _ _ _ A A' _ _ C C' _ _ (nof d) (nof b) (h1 := i1) (h2 := i2)))
  unfold rsub
  show Calls _ _ _ _ fun o w' => o = .returned (.bool (iok (a, b) && iok (c, d) && !nless (nin a) (nof a) (nin c) (nof c) && !nless (nin d) (nof d) (nin b) (nof b))) ∧ Below w.heap.size w w'
  generalize iok (a, b) = k1 at *
  generalize iok (c, d) = k2 at *
  generalize nless (nin a) (nof a) (nin c) (nof c) = k3 at *
  generalize nless (nin d) (nof d) (nin b) (nof b) = k4 at *
  generalize nin a = ia at *
  generalize nof a = da at *
  generalize nin b = ib at *
  generalize nof b = db at *
  generalize nin c = ic at *
  generalize nof c = dc at *
  generalize nin d = id at *
  generalize nof d = dd at *
  generalize ((a : Nat) : Int) = p at *
  generalize ((b : Nat) : Int) = q at *
  generalize ((c : Nat) : Int) = r at *
  generalize ((d : Nat) : Int) = s at *
  cases k1
  · skip
    go_enter Tryz.func94, Tryz.ntmps94
    go_wp2_with fail
    refine wp_region_held_drew (S := fun w' => w'.cell? ⟨w.heap.size, 0, none⟩ = some (.int .u64 p) ∧ w'.cell? ⟨w.heap.size, 1, none⟩ = some (.int .u64 q) ∧ w'.cell? ⟨w.heap.size + 1, 0, none⟩ = some (.int .u64 r) ∧ w'.cell? ⟨w.heap.size + 1, 1, none⟩ = some (.int .u64 s)) (by kernel_rfl) (by go_simp) (fun hHeld => ?_)
    simp only [List.size_toArray, List.length_cons, List.length_nil, Nat.reduceAdd, Array.replicate_succ, Array.replicate_zero, List.push_toArray, List.append_toArray, List.nil_append, List.cons_append]
    refine tkv 0 (some 5) (.agg #[.int .u64 p, .int .u64 q]) rfl rfl (by kernel_rfl) (by kernel_rfl) (by kernel_rfl) (fun _ _ _ h => h) (by rfl) (fun w hSw => by (try dsimp only at hSw); go_simp) hHeld ?_
    simp only [Act.put, List.setIfInBounds_toArray, List.set_cons_zero, List.set_cons_succ]
    refine wpAnyH_ready (rs := [1]) (by kernel_rfl) (by simp) ?_
    refine AllReadyH.cons rfl (fun K hK => ?_) AllReadyH.nil
    go_simp
    go_wp2_with (go_at_call 106; refine (HV _).out.mono ?_; rintro o w1 ⟨rfl, b1⟩)
    refine hK.out _ _ (by first | (go_simp; done) | (dsimp only; go_simp)) (fun hHeld => ?_)
    clear hK K
    simp only [Act.put, List.setIfInBounds_toArray, List.set_cons_zero, List.set_cons_succ]
    refine tkv 2 (some 7) (.bool false) rfl rfl (by kernel_rfl) (by kernel_rfl) (by kernel_rfl) (fun _ _ _ h => h) (by rfl) (fun w hSw => by (try dsimp only at hSw); rfl) hHeld ?_
    simp only [Act.put, List.setIfInBounds_toArray, List.set_cons_zero, List.set_cons_succ]
    refine tku 3 (some 8) rfl rfl (by kernel_rfl) (by kernel_rfl) (by kernel_rfl) (fun _ _ _ h => h) (by rfl) hHeld ?_
    simp only [Act.put, List.setIfInBounds_toArray, List.set_cons_zero, List.set_cons_succ]
    refine tku 4 (some 9) rfl rfl (by kernel_rfl) (by kernel_rfl) (by kernel_rfl) (fun _ _ _ h => h) (by rfl) hHeld ?_
    simp only [Act.put, List.setIfInBounds_toArray, List.set_cons_zero, List.set_cons_succ]
    refine tkv 5 (some 10) (.bool false) rfl rfl (by kernel_rfl) (by kernel_rfl) (by kernel_rfl) (fun _ _ _ h => h) (by rfl) (fun w hSw => by (try dsimp only at hSw); rfl) hHeld ?_
    simp only [Act.put, List.setIfInBounds_toArray, List.set_cons_zero, List.set_cons_succ]
    refine tkv 6 (some 11) (.bool false) rfl rfl (by kernel_rfl) (by kernel_rfl) (by kernel_rfl) (fun _ _ _ h => h) (by rfl) (fun w hSw => by (try dsimp only at hSw); rfl) hHeld ?_
    simp only [Act.put, List.setIfInBounds_toArray, List.set_cons_zero, List.set_cons_succ]
    refine tku 7 (some 12) rfl rfl (by kernel_rfl) (by kernel_rfl) (by kernel_rfl) (fun _ _ _ h => h) (by rfl) hHeld ?_
    simp only [Act.put, List.setIfInBounds_toArray, List.set_cons_zero, List.set_cons_succ]
    refine tku 8 (some 13) rfl rfl (by kernel_rfl) (by kernel_rfl) (by kernel_rfl) (fun _ _ _ h => h) (by rfl) hHeld ?_
    simp only [Act.put, List.setIfInBounds_toArray, List.set_cons_zero, List.set_cons_succ]
    refine tku 9 (some 14) rfl rfl (by kernel_rfl) (by kernel_rfl) (by kernel_rfl) (fun _ _ _ h => h) (by rfl) hHeld ?_
    simp only [Act.put, List.setIfInBounds_toArray, List.set_cons_zero, List.set_cons_succ]
    refine tku 10 (some 15) rfl rfl (by kernel_rfl) (by kernel_rfl) (by kernel_rfl) (fun _ _ _ h => h) (by rfl) hHeld ?_
    simp only [Act.put, List.setIfInBounds_toArray, List.set_cons_zero, List.set_cons_succ]
    refine tku 11 (some 16) rfl rfl (by kernel_rfl) (by kernel_rfl) (by kernel_rfl) (fun _ _ _ h => h) (by rfl) hHeld ?_
    simp only [Act.put, List.setIfInBounds_toArray, List.set_cons_zero, List.set_cons_succ]
    refine tku 12 (some 17) rfl rfl (by kernel_rfl) (by kernel_rfl) (by kernel_rfl) (fun _ _ _ h => h) (by rfl) hHeld ?_
    simp only [Act.put, List.setIfInBounds_toArray, List.set_cons_zero, List.set_cons_succ]
    refine tku 13 (some 18) rfl rfl (by kernel_rfl) (by kernel_rfl) (by kernel_rfl) (fun _ _ _ h => h) (by rfl) hHeld ?_
    simp only [Act.put, List.setIfInBounds_toArray, List.set_cons_zero, List.set_cons_succ]
    refine tku 14 (some 19) rfl rfl (by kernel_rfl) (by kernel_rfl) (by kernel_rfl) (fun _ _ _ h => h) (by rfl) hHeld ?_
    simp only [Act.put, List.setIfInBounds_toArray, List.set_cons_zero, List.set_cons_succ]
    refine tkv 15 (some 20) (.bool false) rfl rfl (by kernel_rfl) (by kernel_rfl) (by kernel_rfl) (fun _ _ _ h => h) (by rfl) (fun w hSw => by (try dsimp only at hSw); rfl) hHeld ?_
    simp only [Act.put, List.setIfInBounds_toArray, List.set_cons_zero, List.set_cons_succ]
    refine tkv 16 (some 21) (.bool false) rfl rfl (by kernel_rfl) (by kernel_rfl) (by kernel_rfl) (fun _ _ _ h => h) (by rfl) (fun w hSw => by (try dsimp only at hSw); rfl) hHeld ?_
    simp only [Act.put, List.setIfInBounds_toArray, List.set_cons_zero, List.set_cons_succ]
    refine tku 17 (some 22) rfl rfl (by kernel_rfl) (by kernel_rfl) (by kernel_rfl) (fun _ _ _ h => h) (by rfl) hHeld ?_
    simp only [Act.put, List.setIfInBounds_toArray, List.set_cons_zero, List.set_cons_succ]
    refine tku 18 (some 23) rfl rfl (by kernel_rfl) (by kernel_rfl) (by kernel_rfl) (fun _ _ _ h => h) (by rfl) hHeld ?_
    simp only [Act.put, List.setIfInBounds_toArray, List.set_cons_zero, List.set_cons_succ]
    refine tku 19 (some 24) rfl rfl (by kernel_rfl) (by kernel_rfl) (by kernel_rfl) (fun _ _ _ h => h) (by rfl) hHeld ?_
    simp only [Act.put, List.setIfInBounds_toArray, List.set_cons_zero, List.set_cons_succ]
    refine tku 20 (some 25) rfl rfl (by kernel_rfl) (by kernel_rfl) (by kernel_rfl) (fun _ _ _ h => h) (by rfl) hHeld ?_
    simp only [Act.put, List.setIfInBounds_toArray, List.set_cons_zero, List.set_cons_succ]
    refine tku 21 (some 26) rfl rfl (by kernel_rfl) (by kernel_rfl) (by kernel_rfl) (fun _ _ _ h => h) (by rfl) hHeld ?_
    simp only [Act.put, List.setIfInBounds_toArray, List.set_cons_zero, List.set_cons_succ]
    refine tku 22 (some 27) rfl rfl (by kernel_rfl) (by kernel_rfl) (by kernel_rfl) (fun _ _ _ h => h) (by rfl) hHeld ?_
    simp only [Act.put, List.setIfInBounds_toArray, List.set_cons_zero, List.set_cons_succ]
    refine tku 23 (some 28) rfl rfl (by kernel_rfl) (by kernel_rfl) (by kernel_rfl) (fun _ _ _ h => h) (by rfl) hHeld ?_
    simp only [Act.put, List.setIfInBounds_toArray, List.set_cons_zero, List.set_cons_succ]
    refine tku 24 (some 29) rfl rfl (by kernel_rfl) (by kernel_rfl) (by kernel_rfl) (fun _ _ _ h => h) (by rfl) hHeld ?_
    simp only [Act.put, List.setIfInBounds_toArray, List.set_cons_zero, List.set_cons_succ]
    refine tkv 25 (some 30) (.bool false) rfl rfl (by kernel_rfl) (by kernel_rfl) (by kernel_rfl) (fun _ _ _ h => h) (by rfl) (fun w hSw => by (try dsimp only at hSw); rfl) hHeld ?_
    simp only [Act.put, List.setIfInBounds_toArray, List.set_cons_zero, List.set_cons_succ]
    refine tkv 26 (some 4) (.bool false) rfl rfl (by kernel_rfl) (by kernel_rfl) (by kernel_rfl) (fun _ _ _ h => h) (by rfl) (fun w hSw => by (try dsimp only at hSw); rfl) hHeld ?_
    simp only [Act.put, List.setIfInBounds_toArray, List.set_cons_zero, List.set_cons_succ]
    refine wpAnyH_done (by kernel_rfl) ?_ _
    go_wp2_with fail
    go_ret
    exact ⟨rfl, zbh⟩
  · cases k2
    · skip
      go_enter Tryz.func94, Tryz.ntmps94
      go_wp2_with fail
      refine wp_region_held_drew (S := fun w' => w'.cell? ⟨w.heap.size, 0, none⟩ = some (.int .u64 p) ∧ w'.cell? ⟨w.heap.size, 1, none⟩ = some (.int .u64 q) ∧ w'.cell? ⟨w.heap.size + 1, 0, none⟩ = some (.int .u64 r) ∧ w'.cell? ⟨w.heap.size + 1, 1, none⟩ = some (.int .u64 s)) (by kernel_rfl) (by go_simp) (fun hHeld => ?_)
      simp only [List.size_toArray, List.length_cons, List.length_nil, Nat.reduceAdd, Array.replicate_succ, Array.replicate_zero, List.push_toArray, List.append_toArray, List.nil_append, List.cons_append]
      refine tkv 0 (some 5) (.agg #[.int .u64 p, .int .u64 q]) rfl rfl (by kernel_rfl) (by kernel_rfl) (by kernel_rfl) (fun _ _ _ h => h) (by rfl) (fun w hSw => by (try dsimp only at hSw); go_simp) hHeld ?_
      simp only [Act.put, List.setIfInBounds_toArray, List.set_cons_zero, List.set_cons_succ]
      refine wpAnyH_ready (rs := [1]) (by kernel_rfl) (by simp) ?_
      refine AllReadyH.cons rfl (fun K hK => ?_) AllReadyH.nil
      go_simp
      go_wp2_with (go_at_call 106; refine (HV _).out.mono ?_; rintro o w1 ⟨rfl, b1⟩)
      refine hK.out _ _ (by first | (go_simp; done) | (dsimp only; go_simp)) (fun hHeld => ?_)
      clear hK K
      simp only [Act.put, List.setIfInBounds_toArray, List.set_cons_zero, List.set_cons_succ]
      refine tkv 2 (some 7) (.bool true) rfl rfl (by kernel_rfl) (by kernel_rfl) (by kernel_rfl) (fun _ _ _ h => h) (by rfl) (fun w hSw => by (try dsimp only at hSw); rfl) hHeld ?_
      simp only [Act.put, List.setIfInBounds_toArray, List.set_cons_zero, List.set_cons_succ]
      refine tkv 3 (some 8) (.agg #[.int .u64 r, .int .u64 s]) rfl rfl (by kernel_rfl) (by kernel_rfl) (by kernel_rfl) (fun _ _ _ h => h) (by rfl) (fun w hSw => by (try dsimp only at hSw); go_simp) hHeld ?_
      simp only [Act.put, List.setIfInBounds_toArray, List.set_cons_zero, List.set_cons_succ]
      refine wpAnyH_ready (rs := [4]) (by kernel_rfl) (by simp) ?_
      refine AllReadyH.cons rfl (fun K hK => ?_) AllReadyH.nil
      go_simp
      go_wp2_with (go_at_call 106; refine (HU _).out.mono ?_; rintro o w2 ⟨rfl, b2⟩)
      refine hK.out _ _ (by first | (go_simp; done) | (dsimp only; go_simp)) (fun hHeld => ?_)
      clear hK K
      simp only [Act.put, List.setIfInBounds_toArray, List.set_cons_zero, List.set_cons_succ]
      refine tkv 5 (some 10) (.bool false) rfl rfl (by kernel_rfl) (by kernel_rfl) (by kernel_rfl) (fun _ _ _ h => h) (by rfl) (fun w hSw => by (try dsimp only at hSw); rfl) hHeld ?_
      simp only [Act.put, List.setIfInBounds_toArray, List.set_cons_zero, List.set_cons_succ]
      refine tkv 6 (some 11) (.bool false) rfl rfl (by kernel_rfl) (by kernel_rfl) (by kernel_rfl) (fun _ _ _ h => h) (by rfl) (fun w hSw => by (try dsimp only at hSw); rfl) hHeld ?_
      simp only [Act.put, List.setIfInBounds_toArray, List.set_cons_zero, List.set_cons_succ]
      refine tku 7 (some 12) rfl rfl (by kernel_rfl) (by kernel_rfl) (by kernel_rfl) (fun _ _ _ h => h) (by rfl) hHeld ?_
      simp only [Act.put, List.setIfInBounds_toArray, List.set_cons_zero, List.set_cons_succ]
      refine tku 8 (some 13) rfl rfl (by kernel_rfl) (by kernel_rfl) (by kernel_rfl) (fun _ _ _ h => h) (by rfl) hHeld ?_
      simp only [Act.put, List.setIfInBounds_toArray, List.set_cons_zero, List.set_cons_succ]
      refine tku 9 (some 14) rfl rfl (by kernel_rfl) (by kernel_rfl) (by kernel_rfl) (fun _ _ _ h => h) (by rfl) hHeld ?_
      simp only [Act.put, List.setIfInBounds_toArray, List.set_cons_zero, List.set_cons_succ]
      refine tku 10 (some 15) rfl rfl (by kernel_rfl) (by kernel_rfl) (by kernel_rfl) (fun _ _ _ h => h) (by rfl) hHeld ?_
      simp only [Act.put, List.setIfInBounds_toArray, List.set_cons_zero, List.set_cons_succ]
      refine tku 11 (some 16) rfl rfl (by kernel_rfl) (by kernel_rfl) (by kernel_rfl) (fun _ _ _ h => h) (by rfl) hHeld ?_
      simp only [Act.put, List.setIfInBounds_toArray, List.set_cons_zero, List.set_cons_succ]
      refine tku 12 (some 17) rfl rfl (by kernel_rfl) (by kernel_rfl) (by kernel_rfl) (fun _ _ _ h => h) (by rfl) hHeld ?_
      simp only [Act.put, List.setIfInBounds_toArray, List.set_cons_zero, List.set_cons_succ]
      refine tku 13 (some 18) rfl rfl (by kernel_rfl) (by kernel_rfl) (by kernel_rfl) (fun _ _ _ h => h) (by rfl) hHeld ?_
      simp only [Act.put, List.setIfInBounds_toArray, List.set_cons_zero, List.set_cons_succ]
      refine tku 14 (some 19) rfl rfl (by kernel_rfl) (by kernel_rfl) (by kernel_rfl) (fun _ _ _ h => h) (by rfl) hHeld ?_
      simp only [Act.put, List.setIfInBounds_toArray, List.set_cons_zero, List.set_cons_succ]
      refine tkv 15 (some 20) (.bool false) rfl rfl (by kernel_rfl) (by kernel_rfl) (by kernel_rfl) (fun _ _ _ h => h) (by rfl) (fun w hSw => by (try dsimp only at hSw); rfl) hHeld ?_
      simp only [Act.put, List.setIfInBounds_toArray, List.set_cons_zero, List.set_cons_succ]
      refine tkv 16 (some 21) (.bool false) rfl rfl (by kernel_rfl) (by kernel_rfl) (by kernel_rfl) (fun _ _ _ h => h) (by rfl) (fun w hSw => by (try dsimp only at hSw); rfl) hHeld ?_
      simp only [Act.put, List.setIfInBounds_toArray, List.set_cons_zero, List.set_cons_succ]
      refine tku 17 (some 22) rfl rfl (by kernel_rfl) (by kernel_rfl) (by kernel_rfl) (fun _ _ _ h => h) (by rfl) hHeld ?_
      simp only [Act.put, List.setIfInBounds_toArray, List.set_cons_zero, List.set_cons_succ]
      refine tku 18 (some 23) rfl rfl (by kernel_rfl) (by kernel_rfl) (by kernel_rfl) (fun _ _ _ h => h) (by rfl) hHeld ?_
      simp only [Act.put, List.setIfInBounds_toArray, List.set_cons_zero, List.set_cons_succ]
      refine tku 19 (some 24) rfl rfl (by kernel_rfl) (by kernel_rfl) (by kernel_rfl) (fun _ _ _ h => h) (by rfl) hHeld ?_
      simp only [Act.put, List.setIfInBounds_toArray, List.set_cons_zero, List.set_cons_succ]
      refine tku 20 (some 25) rfl rfl (by kernel_rfl) (by kernel_rfl) (by kernel_rfl) (fun _ _ _ h => h) (by rfl) hHeld ?_
      simp only [Act.put, List.setIfInBounds_toArray, List.set_cons_zero, List.set_cons_succ]
      refine tku 21 (some 26) rfl rfl (by kernel_rfl) (by kernel_rfl) (by kernel_rfl) (fun _ _ _ h => h) (by rfl) hHeld ?_
      simp only [Act.put, List.setIfInBounds_toArray, List.set_cons_zero, List.set_cons_succ]
      refine tku 22 (some 27) rfl rfl (by kernel_rfl) (by kernel_rfl) (by kernel_rfl) (fun _ _ _ h => h) (by rfl) hHeld ?_
      simp only [Act.put, List.setIfInBounds_toArray, List.set_cons_zero, List.set_cons_succ]
      refine tku 23 (some 28) rfl rfl (by kernel_rfl) (by kernel_rfl) (by kernel_rfl) (fun _ _ _ h => h) (by rfl) hHeld ?_
      simp only [Act.put, List.setIfInBounds_toArray, List.set_cons_zero, List.set_cons_succ]
      refine tku 24 (some 29) rfl rfl (by kernel_rfl) (by kernel_rfl) (by kernel_rfl) (fun _ _ _ h => h) (by rfl) hHeld ?_
      simp only [Act.put, List.setIfInBounds_toArray, List.set_cons_zero, List.set_cons_succ]
      refine tkv 25 (some 30) (.bool false) rfl rfl (by kernel_rfl) (by kernel_rfl) (by kernel_rfl) (fun _ _ _ h => h) (by rfl) (fun w hSw => by (try dsimp only at hSw); rfl) hHeld ?_
      simp only [Act.put, List.setIfInBounds_toArray, List.set_cons_zero, List.set_cons_succ]
      refine tkv 26 (some 4) (.bool false) rfl rfl (by kernel_rfl) (by kernel_rfl) (by kernel_rfl) (fun _ _ _ h => h) (by rfl) (fun w hSw => by (try dsimp only at hSw); rfl) hHeld ?_
      simp only [Act.put, List.setIfInBounds_toArray, List.set_cons_zero, List.set_cons_succ]
      refine wpAnyH_done (by kernel_rfl) ?_ _
      go_wp2_with fail
      go_ret
      exact ⟨rfl, zbh⟩
    · cases k3
      · skip
        go_enter Tryz.func94, Tryz.ntmps94
        go_wp2_with fail
        first
        | go_region_held3 (fun w' => w'.cell? ⟨w.heap.size, 0, none⟩ = some (.int .u64 p) ∧ w'.cell? ⟨w.heap.size, 1, none⟩ = some (.int .u64 q) ∧ w'.cell? ⟨w.heap.size + 1, 0, none⟩ = some (.int .u64 r) ∧ w'.cell? ⟨w.heap.size + 1, 1, none⟩ = some (.int .u64 s)) (first | (go_simp; done))
            (first
              | (go_at_call 106; refine (HV _).out.mono ?_; rintro o w1 ⟨rfl, b1⟩)
              | (go_at_call 106; refine (HU _).out.mono ?_; rintro o w2 ⟨rfl, b2⟩)
              | (go_at_call 193; refine (HA _).out.mono ?_; rintro o w3 ⟨A3, C3, rfl, i3, b3⟩)
              | (go_at_call 193; refine (HC _).out.mono ?_; rintro o w4 ⟨A4, C4, rfl, i4, b4⟩)
              | (go_at_call 194; refine (HL _ _ _ _ _).out.mono ?_; rintro o w5 ⟨rfl, b5⟩)
              | (go_at_call 193; refine (HD _).out.mono ?_; rintro o w6 ⟨A6, C6, rfl, i6, b6⟩)
              | (go_at_call 193; refine (HB _).out.mono ?_; rintro o w7 ⟨A7, C7, rfl, i7, b7⟩)
              | (go_at_call 194; refine (HM _ _ _ _ _).out.mono ?_; rintro o w8 ⟨rfl, b8⟩)
              | fail)
        | fail "region"
        all_goals (
          go_wp2_with fail
          go_ret
          exact ⟨rfl, zbh⟩)
      · skip
        go_enter Tryz.func94, Tryz.ntmps94
        go_wp2_with fail
        refine wp_region_held_drew (S := fun w' => w'.cell? ⟨w.heap.size, 0, none⟩ = some (.int .u64 p) ∧ w'.cell? ⟨w.heap.size, 1, none⟩ = some (.int .u64 q) ∧ w'.cell? ⟨w.heap.size + 1, 0, none⟩ = some (.int .u64 r) ∧ w'.cell? ⟨w.heap.size + 1, 1, none⟩ = some (.int .u64 s)) (by kernel_rfl) (by go_simp) (fun hHeld => ?_)
        simp only [List.size_toArray, List.length_cons, List.length_nil, Nat.reduceAdd, Array.replicate_succ, Array.replicate_zero, List.push_toArray, List.append_toArray, List.nil_append, List.cons_append]
        refine tkv 0 (some 5) (.agg #[.int .u64 p, .int .u64 q]) rfl rfl (by kernel_rfl) (by kernel_rfl) (by kernel_rfl) (fun _ _ _ h => h) (by rfl) (fun w hSw => by (try dsimp only at hSw); go_simp) hHeld ?_
        simp only [Act.put, List.setIfInBounds_toArray, List.set_cons_zero, List.set_cons_succ]
        refine wpAnyH_ready (rs := [1]) (by kernel_rfl) (by simp) ?_
        refine AllReadyH.cons rfl (fun K hK => ?_) AllReadyH.nil
        go_simp
        go_wp2_with (go_at_call 106; refine (HV _).out.mono ?_; rintro o w1 ⟨rfl, b1⟩)
        refine hK.out _ _ (by first | (go_simp; done) | (dsimp only; go_simp)) (fun hHeld => ?_)
        clear hK K
        simp only [Act.put, List.setIfInBounds_toArray, List.set_cons_zero, List.set_cons_succ]
        refine tkv 2 (some 7) (.bool true) rfl rfl (by kernel_rfl) (by kernel_rfl) (by kernel_rfl) (fun _ _ _ h => h) (by rfl) (fun w hSw => by (try dsimp only at hSw); rfl) hHeld ?_
        simp only [Act.put, List.setIfInBounds_toArray, List.set_cons_zero, List.set_cons_succ]
        refine tkv 3 (some 8) (.agg #[.int .u64 r, .int .u64 s]) rfl rfl (by kernel_rfl) (by kernel_rfl) (by kernel_rfl) (fun _ _ _ h => h) (by rfl) (fun w hSw => by (try dsimp only at hSw); go_simp) hHeld ?_
        simp only [Act.put, List.setIfInBounds_toArray, List.set_cons_zero, List.set_cons_succ]
        refine wpAnyH_ready (rs := [4]) (by kernel_rfl) (by simp) ?_
        refine AllReadyH.cons rfl (fun K hK => ?_) AllReadyH.nil
        go_simp
        go_wp2_with (go_at_call 106; refine (HU _).out.mono ?_; rintro o w2 ⟨rfl, b2⟩)
        refine hK.out _ _ (by first | (go_simp; done) | (dsimp only; go_simp)) (fun hHeld => ?_)
        clear hK K
        simp only [Act.put, List.setIfInBounds_toArray, List.set_cons_zero, List.set_cons_succ]
        refine tkv 5 (some 10) (.bool true) rfl rfl (by kernel_rfl) (by kernel_rfl) (by kernel_rfl) (fun _ _ _ h => h) (by rfl) (fun w hSw => by (try dsimp only at hSw); rfl) hHeld ?_
        simp only [Act.put, List.setIfInBounds_toArray, List.set_cons_zero, List.set_cons_succ]
        refine tkv 6 (some 11) (.bool true) rfl rfl (by kernel_rfl) (by kernel_rfl) (by kernel_rfl) (fun _ _ _ h => h) (by rfl) (fun w hSw => by (try dsimp only at hSw); rfl) hHeld ?_
        simp only [Act.put, List.setIfInBounds_toArray, List.set_cons_zero, List.set_cons_succ]
        refine tkv 7 (some 12) (.pointer (some ⟨w.heap.size, 0, none⟩)) rfl rfl (by kernel_rfl) (by kernel_rfl) (by kernel_rfl) (fun _ _ _ h => h) (by rfl) (fun w hSw => by (try dsimp only at hSw); go_simp) hHeld ?_
        simp only [Act.put, List.setIfInBounds_toArray, List.set_cons_zero, List.set_cons_succ]
        refine tkv 8 (some 13) (.int .u64 p) rfl rfl (by kernel_rfl) (by kernel_rfl) (by kernel_rfl) (fun _ _ _ h => h) (by rfl) (fun w hSw => by (try dsimp only at hSw); go_simp) hHeld ?_
        simp only [Act.put, List.setIfInBounds_toArray, List.set_cons_zero, List.set_cons_succ]
        refine tkv 10 (some 15) (.pointer (some ⟨w.heap.size + 1, 0, none⟩)) rfl rfl (by kernel_rfl) (by kernel_rfl) (by kernel_rfl) (fun _ _ _ h => h) (by rfl) (fun w hSw => by (try dsimp only at hSw); go_simp) hHeld ?_
        simp only [Act.put, List.setIfInBounds_toArray, List.set_cons_zero, List.set_cons_succ]
        refine tkv 11 (some 16) (.int .u64 r) rfl rfl (by kernel_rfl) (by kernel_rfl) (by kernel_rfl) (fun _ _ _ h => h) (by rfl) (fun w hSw => by (try dsimp only at hSw); go_simp) hHeld ?_
        simp only [Act.put, List.setIfInBounds_toArray, List.set_cons_zero, List.set_cons_succ]
        refine wpAnyH_ready (rs := [9]) (by kernel_rfl) (by simp) ?_
        refine AllReadyH.cons rfl (fun K hK => ?_) AllReadyH.nil
        go_simp
        go_wp2_with (go_at_call 193; refine (HA _).out.mono ?_; rintro o w3 ⟨A3, C3, rfl, i3, b3⟩)
        refine hK.out _ _ (by first | (go_simp; done) | (dsimp only; go_simp)) (fun hHeld => ?_)
        clear hK K
        simp only [Act.put, List.setIfInBounds_toArray, List.set_cons_zero, List.set_cons_succ]
        refine wpAnyH_ready (rs := [12]) (by kernel_rfl) (by simp) ?_
        refine AllReadyH.cons rfl (fun K hK => ?_) AllReadyH.nil
        go_simp
        go_wp2_with (go_at_call 193; refine (HC _).out.mono ?_; rintro o w4 ⟨A4, C4, rfl, i4, b4⟩)
        refine hK.out _ _ (by first | (go_simp; done) | (dsimp only; go_simp)) (fun hHeld => ?_)
        clear hK K
        simp only [Act.put, List.setIfInBounds_toArray, List.set_cons_zero, List.set_cons_succ]
        refine wpAnyH_ready (rs := [13]) (by kernel_rfl) (by simp) ?_
        refine AllReadyH.cons rfl (fun K hK => ?_) AllReadyH.nil
        go_simp
        go_wp2_with (go_at_call 194; refine (HL _ _ _ _ _).out.mono ?_; rintro o w5 ⟨rfl, b5⟩)
        refine hK.out _ _ (by first | (go_simp; done) | (dsimp only; go_simp)) (fun hHeld => ?_)
        clear hK K
        simp only [Act.put, List.setIfInBounds_toArray, List.set_cons_zero, List.set_cons_succ]
        refine tkv 14 (some 19) (.bool false) rfl rfl (by kernel_rfl) (by kernel_rfl) (by kernel_rfl) (fun _ _ _ h => h) (by rfl) (fun w hSw => by (try dsimp only at hSw); go_simp) hHeld ?_
        simp only [Act.put, List.setIfInBounds_toArray, List.set_cons_zero, List.set_cons_succ]
        refine tkv 15 (some 20) (.bool false) rfl rfl (by kernel_rfl) (by kernel_rfl) (by kernel_rfl) (fun _ _ _ h => h) (by rfl) (fun w hSw => by (try dsimp only at hSw); rfl) hHeld ?_
        simp only [Act.put, List.setIfInBounds_toArray, List.set_cons_zero, List.set_cons_succ]
        refine tkv 16 (some 21) (.bool false) rfl rfl (by kernel_rfl) (by kernel_rfl) (by kernel_rfl) (fun _ _ _ h => h) (by rfl) (fun w hSw => by (try dsimp only at hSw); rfl) hHeld ?_
        simp only [Act.put, List.setIfInBounds_toArray, List.set_cons_zero, List.set_cons_succ]
        refine tku 17 (some 22) rfl rfl (by kernel_rfl) (by kernel_rfl) (by kernel_rfl) (fun _ _ _ h => h) (by rfl) hHeld ?_
        simp only [Act.put, List.setIfInBounds_toArray, List.set_cons_zero, List.set_cons_succ]
        refine tku 18 (some 23) rfl rfl (by kernel_rfl) (by kernel_rfl) (by kernel_rfl) (fun _ _ _ h => h) (by rfl) hHeld ?_
        simp only [Act.put, List.setIfInBounds_toArray, List.set_cons_zero, List.set_cons_succ]
        refine tku 19 (some 24) rfl rfl (by kernel_rfl) (by kernel_rfl) (by kernel_rfl) (fun _ _ _ h => h) (by rfl) hHeld ?_
        simp only [Act.put, List.setIfInBounds_toArray, List.set_cons_zero, List.set_cons_succ]
        refine tku 20 (some 25) rfl rfl (by kernel_rfl) (by kernel_rfl) (by kernel_rfl) (fun _ _ _ h => h) (by rfl) hHeld ?_
        simp only [Act.put, List.setIfInBounds_toArray, List.set_cons_zero, List.set_cons_succ]
        refine tku 21 (some 26) rfl rfl (by kernel_rfl) (by kernel_rfl) (by kernel_rfl) (fun _ _ _ h => h) (by rfl) hHeld ?_
        simp only [Act.put, List.setIfInBounds_toArray, List.set_cons_zero, List.set_cons_succ]
        refine tku 22 (some 27) rfl rfl (by kernel_rfl) (by kernel_rfl) (by kernel_rfl) (fun _ _ _ h => h) (by rfl) hHeld ?_
        simp only [Act.put, List.setIfInBounds_toArray, List.set_cons_zero, List.set_cons_succ]
        refine tku 23 (some 28) rfl rfl (by kernel_rfl) (by kernel_rfl) (by kernel_rfl) (fun _ _ _ h => h) (by rfl) hHeld ?_
        simp only [Act.put, List.setIfInBounds_toArray, List.set_cons_zero, List.set_cons_succ]
        refine tku 24 (some 29) rfl rfl (by kernel_rfl) (by kernel_rfl) (by kernel_rfl) (fun _ _ _ h => h) (by rfl) hHeld ?_
        simp only [Act.put, List.setIfInBounds_toArray, List.set_cons_zero, List.set_cons_succ]
        refine tkv 25 (some 30) (.bool false) rfl rfl (by kernel_rfl) (by kernel_rfl) (by kernel_rfl) (fun _ _ _ h => h) (by rfl) (fun w hSw => by (try dsimp only at hSw); rfl) hHeld ?_
        simp only [Act.put, List.setIfInBounds_toArray, List.set_cons_zero, List.set_cons_succ]
        refine tkv 26 (some 4) (.bool false) rfl rfl (by kernel_rfl) (by kernel_rfl) (by kernel_rfl) (fun _ _ _ h => h) (by rfl) (fun w hSw => by (try dsimp only at hSw); rfl) hHeld ?_
        simp only [Act.put, List.setIfInBounds_toArray, List.set_cons_zero, List.set_cons_succ]
        refine wpAnyH_done (by kernel_rfl) ?_ _
        go_wp2_with fail
        go_ret
        exact ⟨rfl, zbh⟩

set_option maxRecDepth 100000 in
set_option maxHeartbeats 8000000 in
theorem rcontains_any (w : World) [ht : Tb w] (a : Nat) (b : Nat) (ha : a < 18446744073709551616) (hb : b < 18446744073709551616) (v s : Bool) (A : Option Addr) (n c : Nat) (e : Int) (d : Option (Int × Int)) [hx : DS w v s A n c e d] :
    Calls Tryz.prog 92 #[.agg #[.int .u64 (a : Nat), .int .u64 (b : Nat)], .agg #[.bool v, .bool s, .slice A n c, .int .i64 e]] w fun o w' => o = .returned (.bool (rcont (a, b) d)) ∧ Below w.heap.size w w' := by
  have HN := fun W [i1 : DS W v s A n c e d] [Tb W] => Lib.hid (frs i1.out.1.isN (rdnorm_in W i1.out tb))
  have HV := fun W => Lib.hid (frm (r5valid_any W a b ha hb))
  have HA := fun W [Tb W] => Lib.hid (rof_any W a ha)
  have HB := fun W [Tb W] => Lib.hid (rof_any W b hb)
  have HL := fun W A C A' C' [i1 : DS W (dbad d) (decide (dman d < 0)) A (nl (dman d).natAbs) C (dexp d) d] [i2 : DS W (dbad (nof a)) (decide (dman (nof a) < 0)) A' (nl (dman (nof a)).natAbs) C' (dexp (nof a)) (nof a)] [Tb W] => Lib.hid (frm (rless_any W 0 (nin a) _ _ _ _ A A' _ _ C C' _ _ d (nof a) (h1 := i1) (h2 := i2)))
  have HM := fun W A C A' C' [i1 : DS W (dbad (nof b)) (decide (dman (nof b) < 0)) A (nl (dman (nof b)).natAbs) C (dexp (nof b)) (nof b)] [i2 : DS W (dbad d) (decide (dman d < 0)) A' (nl (dman d).natAbs) C' (dexp d) d] [Tb W] => Lib.hid (frm (rless_any W (nin b) 0 _ _ _ _ A A' _ _ C C' _ _ (nof b) d (h1 := i1) (h2 := i2)))
  unfold rcont
  show Calls _ _ _ _ fun o w' => o = .returned (.bool (iok (a, b) && !dbad d && !nless 0 d (nin a) (nof a) && !nless (nin b) (nof b) 0 d)) ∧ Below w.heap.size w w'
  generalize iok (a, b) = k1 at *
  generalize nless 0 d (nin a) (nof a) = k3 at *
  generalize nless (nin b) (nof b) 0 d = k4 at *
  generalize nin a = ia at *
  generalize nof a = da at *
  generalize nin b = ib at *
  generalize nof b = db at *
  generalize ((a : Nat) : Int) = p at *
  generalize ((b : Nat) : Int) = q at *
  generalize dbad d = bd at *
  cases k1
  · skip
    go_enter Tryz.func92, Tryz.ntmps92
    go_wp2_with fail
    refine (HN _).out.mono ?_
    rintro o w1 ⟨A1, C1, rfl, i1, b1⟩
    go_wp2_with fail
    refine wp_region_held_drew (S := fun w' => w'.cell? ⟨w.heap.size, 0, none⟩ = some (.int .u64 p) ∧ w'.cell? ⟨w.heap.size, 1, none⟩ = some (.int .u64 q) ∧ w'.cell? ⟨w1.heap.size, 0, none⟩ = some (.int .i64 0) ∧ w'.cell? ⟨w1.heap.size, 1, none⟩ = some (.bool bd) ∧ w'.cell? ⟨w1.heap.size, 2, none⟩ = some (.bool (decide (dman d < 0))) ∧ w'.cell? ⟨w1.heap.size, 3, none⟩ = some (.slice A1 (nl (dman d).natAbs) C1) ∧ w'.cell? ⟨w1.heap.size, 4, none⟩ = some (.int .i64 (dexp d))) (by kernel_rfl) (by go_simp) (fun hHeld => ?_)
    simp only [List.size_toArray, List.length_cons, List.length_nil, Nat.reduceAdd, Array.replicate_succ, Array.replicate_zero, List.push_toArray, List.append_toArray, List.nil_append, List.cons_append]
    refine tkv 0 (some 9) (.agg #[.int .u64 p, .int .u64 q]) rfl rfl (by kernel_rfl) (by kernel_rfl) (by kernel_rfl) (fun _ _ _ h => h) (by rfl) (fun w hSw => by (try dsimp only at hSw); go_simp) hHeld ?_
    simp only [Act.put, List.setIfInBounds_toArray, List.set_cons_zero, List.set_cons_succ]
    refine wpAnyH_ready (rs := [1]) (by kernel_rfl) (by simp) ?_
    refine AllReadyH.cons rfl (fun K hK => ?_) AllReadyH.nil
    go_simp
    go_wp2_with (go_at_call 106; refine (HV _).out.mono ?_; rintro o w2 ⟨rfl, b2⟩)
    refine hK.out _ _ (by first | (go_simp; done) | (dsimp only; go_simp)) (fun hHeld => ?_)
    clear hK K
    simp only [Act.put, List.setIfInBounds_toArray, List.set_cons_zero, List.set_cons_succ]
    refine tkv 2 (some 11) (.bool false) rfl rfl (by kernel_rfl) (by kernel_rfl) (by kernel_rfl) (fun _ _ _ h => h) (by rfl) (fun w hSw => by (try dsimp only at hSw); rfl) hHeld ?_
    simp only [Act.put, List.setIfInBounds_toArray, List.set_cons_zero, List.set_cons_succ]
    refine tku 3 (some 12) rfl rfl (by kernel_rfl) (by kernel_rfl) (by kernel_rfl) (fun _ _ _ h => h) (by rfl) hHeld ?_
    simp only [Act.put, List.setIfInBounds_toArray, List.set_cons_zero, List.set_cons_succ]
    refine tku 4 (some 13) rfl rfl (by kernel_rfl) (by kernel_rfl) (by kernel_rfl) (fun _ _ _ h => h) (by rfl) hHeld ?_
    simp only [Act.put, List.setIfInBounds_toArray, List.set_cons_zero, List.set_cons_succ]
    refine tku 5 (some 14) rfl rfl (by kernel_rfl) (by kernel_rfl) (by kernel_rfl) (fun _ _ _ h => h) (by rfl) hHeld ?_
    simp only [Act.put, List.setIfInBounds_toArray, List.set_cons_zero, List.set_cons_succ]
    refine tku 6 (some 15) rfl rfl (by kernel_rfl) (by kernel_rfl) (by kernel_rfl) (fun _ _ _ h => h) (by rfl) hHeld ?_
    simp only [Act.put, List.setIfInBounds_toArray, List.set_cons_zero, List.set_cons_succ]
    refine tkv 7 (some 16) (.bool false) rfl rfl (by kernel_rfl) (by kernel_rfl) (by kernel_rfl) (fun _ _ _ h => h) (by rfl) (fun w hSw => by (try dsimp only at hSw); rfl) hHeld ?_
    simp only [Act.put, List.setIfInBounds_toArray, List.set_cons_zero, List.set_cons_succ]
    refine tkv 8 (some 17) (.bool false) rfl rfl (by kernel_rfl) (by kernel_rfl) (by kernel_rfl) (fun _ _ _ h => h) (by rfl) (fun w hSw => by (try dsimp only at hSw); rfl) hHeld ?_
    simp only [Act.put, List.setIfInBounds_toArray, List.set_cons_zero, List.set_cons_succ]
    refine tku 9 (some 18) rfl rfl (by kernel_rfl) (by kernel_rfl) (by kernel_rfl) (fun _ _ _ h => h) (by rfl) hHeld ?_
    simp only [Act.put, List.setIfInBounds_toArray, List.set_cons_zero, List.set_cons_succ]
    refine tku 10 (some 19) rfl rfl (by kernel_rfl) (by kernel_rfl) (by kernel_rfl) (fun _ _ _ h => h) (by rfl) hHeld ?_
    simp only [Act.put, List.setIfInBounds_toArray, List.set_cons_zero, List.set_cons_succ]
    refine tku 11 (some 20) rfl rfl (by kernel_rfl) (by kernel_rfl) (by kernel_rfl) (fun _ _ _ h => h) (by rfl) hHeld ?_
    simp only [Act.put, List.setIfInBounds_toArray, List.set_cons_zero, List.set_cons_succ]
    refine tku 12 (some 21) rfl rfl (by kernel_rfl) (by kernel_rfl) (by kernel_rfl) (fun _ _ _ h => h) (by rfl) hHeld ?_
    simp only [Act.put, List.setIfInBounds_toArray, List.set_cons_zero, List.set_cons_succ]
    refine tku 13 (some 22) rfl rfl (by kernel_rfl) (by kernel_rfl) (by kernel_rfl) (fun _ _ _ h => h) (by rfl) hHeld ?_
    simp only [Act.put, List.setIfInBounds_toArray, List.set_cons_zero, List.set_cons_succ]
    refine tku 14 (some 23) rfl rfl (by kernel_rfl) (by kernel_rfl) (by kernel_rfl) (fun _ _ _ h => h) (by rfl) hHeld ?_
    simp only [Act.put, List.setIfInBounds_toArray, List.set_cons_zero, List.set_cons_succ]
    refine tkv 15 (some 24) (.bool false) rfl rfl (by kernel_rfl) (by kernel_rfl) (by kernel_rfl) (fun _ _ _ h => h) (by rfl) (fun w hSw => by (try dsimp only at hSw); rfl) hHeld ?_
    simp only [Act.put, List.setIfInBounds_toArray, List.set_cons_zero, List.set_cons_succ]
    refine tkv 16 (some 25) (.bool false) rfl rfl (by kernel_rfl) (by kernel_rfl) (by kernel_rfl) (fun _ _ _ h => h) (by rfl) (fun w hSw => by (try dsimp only at hSw); rfl) hHeld ?_
    simp only [Act.put, List.setIfInBounds_toArray, List.set_cons_zero, List.set_cons_succ]
    refine tku 17 (some 26) rfl rfl (by kernel_rfl) (by kernel_rfl) (by kernel_rfl) (fun _ _ _ h => h) (by rfl) hHeld ?_
    simp only [Act.put, List.setIfInBounds_toArray, List.set_cons_zero, List.set_cons_succ]
    refine tku 18 (some 27) rfl rfl (by kernel_rfl) (by kernel_rfl) (by kernel_rfl) (fun _ _ _ h => h) (by rfl) hHeld ?_
    simp only [Act.put, List.setIfInBounds_toArray, List.set_cons_zero, List.set_cons_succ]
    refine tku 19 (some 28) rfl rfl (by kernel_rfl) (by kernel_rfl) (by kernel_rfl) (fun _ _ _ h => h) (by rfl) hHeld ?_
    simp only [Act.put, List.setIfInBounds_toArray, List.set_cons_zero, List.set_cons_succ]
    refine tku 20 (some 29) rfl rfl (by kernel_rfl) (by kernel_rfl) (by kernel_rfl) (fun _ _ _ h => h) (by rfl) hHeld ?_
    simp only [Act.put, List.setIfInBounds_toArray, List.set_cons_zero, List.set_cons_succ]
    refine tku 21 (some 30) rfl rfl (by kernel_rfl) (by kernel_rfl) (by kernel_rfl) (fun _ _ _ h => h) (by rfl) hHeld ?_
    simp only [Act.put, List.setIfInBounds_toArray, List.set_cons_zero, List.set_cons_succ]
    refine tku 22 (some 31) rfl rfl (by kernel_rfl) (by kernel_rfl) (by kernel_rfl) (fun _ _ _ h => h) (by rfl) hHeld ?_
    simp only [Act.put, List.setIfInBounds_toArray, List.set_cons_zero, List.set_cons_succ]
    refine tkv 23 (some 32) (.bool false) rfl rfl (by kernel_rfl) (by kernel_rfl) (by kernel_rfl) (fun _ _ _ h => h) (by rfl) (fun w hSw => by (try dsimp only at hSw); rfl) hHeld ?_
    simp only [Act.put, List.setIfInBounds_toArray, List.set_cons_zero, List.set_cons_succ]
    refine tkv 24 (some 4) (.bool false) rfl rfl (by kernel_rfl) (by kernel_rfl) (by kernel_rfl) (fun _ _ _ h => h) (by rfl) (fun w hSw => by (try dsimp only at hSw); rfl) hHeld ?_
    simp only [Act.put, List.setIfInBounds_toArray, List.set_cons_zero, List.set_cons_succ]
    refine wpAnyH_done (by kernel_rfl) ?_ _
    go_wp2_with fail
    go_ret
    exact ⟨rfl, zbh⟩
  · rcases two_ways bd with rfl | rfl
    · skip
      go_enter Tryz.func92, Tryz.ntmps92
      go_wp2_with fail
      refine (HN _).out.mono ?_
      rintro o w1 ⟨A1, C1, rfl, i1, b1⟩
      go_wp2_with fail
      refine wp_region_held_drew (S := fun w' => w'.cell? ⟨w.heap.size, 0, none⟩ = some (.int .u64 p) ∧ w'.cell? ⟨w.heap.size, 1, none⟩ = some (.int .u64 q) ∧ w'.cell? ⟨w1.heap.size, 0, none⟩ = some (.int .i64 0) ∧ w'.cell? ⟨w1.heap.size, 1, none⟩ = some (.bool (true)) ∧ w'.cell? ⟨w1.heap.size, 2, none⟩ = some (.bool (decide (dman d < 0))) ∧ w'.cell? ⟨w1.heap.size, 3, none⟩ = some (.slice A1 (nl (dman d).natAbs) C1) ∧ w'.cell? ⟨w1.heap.size, 4, none⟩ = some (.int .i64 (dexp d))) (by kernel_rfl) (by go_simp) (fun hHeld => ?_)
      simp only [List.size_toArray, List.length_cons, List.length_nil, Nat.reduceAdd, Array.replicate_succ, Array.replicate_zero, List.push_toArray, List.append_toArray, List.nil_append, List.cons_append]
      refine tkv 0 (some 9) (.agg #[.int .u64 p, .int .u64 q]) rfl rfl (by kernel_rfl) (by kernel_rfl) (by kernel_rfl) (fun _ _ _ h => h) (by rfl) (fun w hSw => by (try dsimp only at hSw); go_simp) hHeld ?_
      simp only [Act.put, List.setIfInBounds_toArray, List.set_cons_zero, List.set_cons_succ]
      refine wpAnyH_ready (rs := [1]) (by kernel_rfl) (by simp) ?_
      refine AllReadyH.cons rfl (fun K hK => ?_) AllReadyH.nil
      go_simp
      go_wp2_with (go_at_call 106; refine (HV _).out.mono ?_; rintro o w2 ⟨rfl, b2⟩)
      refine hK.out _ _ (by first | (go_simp; done) | (dsimp only; go_simp)) (fun hHeld => ?_)
      clear hK K
      simp only [Act.put, List.setIfInBounds_toArray, List.set_cons_zero, List.set_cons_succ]
      refine tkv 2 (some 11) (.bool true) rfl rfl (by kernel_rfl) (by kernel_rfl) (by kernel_rfl) (fun _ _ _ h => h) (by rfl) (fun w hSw => by (try dsimp only at hSw); rfl) hHeld ?_
      simp only [Act.put, List.setIfInBounds_toArray, List.set_cons_zero, List.set_cons_succ]
      refine tkv 3 (some 12) (.pointer (some ⟨w1.heap.size, 1, none⟩)) rfl rfl (by kernel_rfl) (by kernel_rfl) (by kernel_rfl) (fun _ _ _ h => h) (by rfl) (fun w hSw => by (try dsimp only at hSw); go_simp) hHeld ?_
      simp only [Act.put, List.setIfInBounds_toArray, List.set_cons_zero, List.set_cons_succ]
      refine tkv 4 (some 13) (.pointer (some ⟨w1.heap.size, 1, none⟩)) rfl rfl (by kernel_rfl) (by kernel_rfl) (by kernel_rfl) (fun _ _ _ h => h) (by rfl) (fun w hSw => by (try dsimp only at hSw); go_simp) hHeld ?_
      simp only [Act.put, List.setIfInBounds_toArray, List.set_cons_zero, List.set_cons_succ]
      refine tkv 5 (some 14) (.bool true) rfl rfl (by kernel_rfl) (by kernel_rfl) (by kernel_rfl) (fun _ _ _ h => h) (by rfl) (fun w hSw => by (try dsimp only at hSw); go_simp) hHeld ?_
      simp only [Act.put, List.setIfInBounds_toArray, List.set_cons_zero, List.set_cons_succ]
      refine tkv 6 (some 15) (.bool false) rfl rfl (by kernel_rfl) (by kernel_rfl) (by kernel_rfl) (fun _ _ _ h => h) (by rfl) (fun w hSw => by (try dsimp only at hSw); go_simp) hHeld ?_
      simp only [Act.put, List.setIfInBounds_toArray, List.set_cons_zero, List.set_cons_succ]
      refine tkv 7 (some 16) (.bool false) rfl rfl (by kernel_rfl) (by kernel_rfl) (by kernel_rfl) (fun _ _ _ h => h) (by rfl) (fun w hSw => by (try dsimp only at hSw); rfl) hHeld ?_
      simp only [Act.put, List.setIfInBounds_toArray, List.set_cons_zero, List.set_cons_succ]
      refine tkv 8 (some 17) (.bool false) rfl rfl (by kernel_rfl) (by kernel_rfl) (by kernel_rfl) (fun _ _ _ h => h) (by rfl) (fun w hSw => by (try dsimp only at hSw); rfl) hHeld ?_
      simp only [Act.put, List.setIfInBounds_toArray, List.set_cons_zero, List.set_cons_succ]
      refine tku 9 (some 18) rfl rfl (by kernel_rfl) (by kernel_rfl) (by kernel_rfl) (fun _ _ _ h => h) (by rfl) hHeld ?_
      simp only [Act.put, List.setIfInBounds_toArray, List.set_cons_zero, List.set_cons_succ]
      refine tku 10 (some 19) rfl rfl (by kernel_rfl) (by kernel_rfl) (by kernel_rfl) (fun _ _ _ h => h) (by rfl) hHeld ?_
      simp only [Act.put, List.setIfInBounds_toArray, List.set_cons_zero, List.set_cons_succ]
      refine tku 11 (some 20) rfl rfl (by kernel_rfl) (by kernel_rfl) (by kernel_rfl) (fun _ _ _ h => h) (by rfl) hHeld ?_
      simp only [Act.put, List.setIfInBounds_toArray, List.set_cons_zero, List.set_cons_succ]
      refine tku 12 (some 21) rfl rfl (by kernel_rfl) (by kernel_rfl) (by kernel_rfl) (fun _ _ _ h => h) (by rfl) hHeld ?_
      simp only [Act.put, List.setIfInBounds_toArray, List.set_cons_zero, List.set_cons_succ]
      refine tku 13 (some 22) rfl rfl (by kernel_rfl) (by kernel_rfl) (by kernel_rfl) (fun _ _ _ h => h) (by rfl) hHeld ?_
      simp only [Act.put, List.setIfInBounds_toArray, List.set_cons_zero, List.set_cons_succ]
      refine tku 14 (some 23) rfl rfl (by kernel_rfl) (by kernel_rfl) (by kernel_rfl) (fun _ _ _ h => h) (by rfl) hHeld ?_
      simp only [Act.put, List.setIfInBounds_toArray, List.set_cons_zero, List.set_cons_succ]
      refine tkv 15 (some 24) (.bool false) rfl rfl (by kernel_rfl) (by kernel_rfl) (by kernel_rfl) (fun _ _ _ h => h) (by rfl) (fun w hSw => by (try dsimp only at hSw); rfl) hHeld ?_
      simp only [Act.put, List.setIfInBounds_toArray, List.set_cons_zero, List.set_cons_succ]
      refine tkv 16 (some 25) (.bool false) rfl rfl (by kernel_rfl) (by kernel_rfl) (by kernel_rfl) (fun _ _ _ h => h) (by rfl) (fun w hSw => by (try dsimp only at hSw); rfl) hHeld ?_
      simp only [Act.put, List.setIfInBounds_toArray, List.set_cons_zero, List.set_cons_succ]
      refine tku 17 (some 26) rfl rfl (by kernel_rfl) (by kernel_rfl) (by kernel_rfl) (fun _ _ _ h => h) (by rfl) hHeld ?_
      simp only [Act.put, List.setIfInBounds_toArray, List.set_cons_zero, List.set_cons_succ]
      refine tku 18 (some 27) rfl rfl (by kernel_rfl) (by kernel_rfl) (by kernel_rfl) (fun _ _ _ h => h) (by rfl) hHeld ?_
      simp only [Act.put, List.setIfInBounds_toArray, List.set_cons_zero, List.set_cons_succ]
      refine tku 19 (some 28) rfl rfl (by kernel_rfl) (by kernel_rfl) (by kernel_rfl) (fun _ _ _ h => h) (by rfl) hHeld ?_
      simp only [Act.put, List.setIfInBounds_toArray, List.set_cons_zero, List.set_cons_succ]
      refine tku 20 (some 29) rfl rfl (by kernel_rfl) (by kernel_rfl) (by kernel_rfl) (fun _ _ _ h => h) (by rfl) hHeld ?_
      simp only [Act.put, List.setIfInBounds_toArray, List.set_cons_zero, List.set_cons_succ]
      refine tku 21 (some 30) rfl rfl (by kernel_rfl) (by kernel_rfl) (by kernel_rfl) (fun _ _ _ h => h) (by rfl) hHeld ?_
      simp only [Act.put, List.setIfInBounds_toArray, List.set_cons_zero, List.set_cons_succ]
      refine tku 22 (some 31) rfl rfl (by kernel_rfl) (by kernel_rfl) (by kernel_rfl) (fun _ _ _ h => h) (by rfl) hHeld ?_
      simp only [Act.put, List.setIfInBounds_toArray, List.set_cons_zero, List.set_cons_succ]
      refine tkv 23 (some 32) (.bool false) rfl rfl (by kernel_rfl) (by kernel_rfl) (by kernel_rfl) (fun _ _ _ h => h) (by rfl) (fun w hSw => by (try dsimp only at hSw); rfl) hHeld ?_
      simp only [Act.put, List.setIfInBounds_toArray, List.set_cons_zero, List.set_cons_succ]
      refine tkv 24 (some 4) (.bool false) rfl rfl (by kernel_rfl) (by kernel_rfl) (by kernel_rfl) (fun _ _ _ h => h) (by rfl) (fun w hSw => by (try dsimp only at hSw); rfl) hHeld ?_
      simp only [Act.put, List.setIfInBounds_toArray, List.set_cons_zero, List.set_cons_succ]
      refine wpAnyH_done (by kernel_rfl) ?_ _
      go_wp2_with fail
      go_ret
      exact ⟨rfl, zbh⟩
    · cases k3
      · skip
        go_enter Tryz.func92, Tryz.ntmps92
        go_wp2_with fail
        refine (HN _).out.mono ?_
        rintro o w1 ⟨A1, C1, rfl, i1, b1⟩
        go_wp2_with fail
        first
        | go_region_held3 (fun w' => w'.cell? ⟨w.heap.size, 0, none⟩ = some (.int .u64 p) ∧ w'.cell? ⟨w.heap.size, 1, none⟩ = some (.int .u64 q) ∧ w'.cell? ⟨w1.heap.size, 0, none⟩ = some (.int .i64 0) ∧ w'.cell? ⟨w1.heap.size, 1, none⟩ = some (.bool (false)) ∧ w'.cell? ⟨w1.heap.size, 2, none⟩ = some (.bool (decide (dman d < 0))) ∧ w'.cell? ⟨w1.heap.size, 3, none⟩ = some (.slice A1 (nl (dman d).natAbs) C1) ∧ w'.cell? ⟨w1.heap.size, 4, none⟩ = some (.int .i64 (dexp d))) (first | (go_simp; done))
            (first
              | (go_at_call 106; refine (HV _).out.mono ?_; rintro o w2 ⟨rfl, b2⟩)
              | (go_at_call 193; refine (HA _).out.mono ?_; rintro o w3 ⟨A3, C3, rfl, i3, b3⟩)
              | (go_at_call 193; refine (HB _).out.mono ?_; rintro o w4 ⟨A4, C4, rfl, i4, b4⟩)
              | (go_at_call 194; refine (HL _ _ _ _ _).out.mono ?_; rintro o w5 ⟨rfl, b5⟩)
              | (go_at_call 194; refine (HM _ _ _ _ _).out.mono ?_; rintro o w6 ⟨rfl, b6⟩)
              | fail)
        | fail "region"
        all_goals (
          go_wp2_with fail
          go_ret
          exact ⟨rfl, zbh⟩)
      · skip
        go_enter Tryz.func92, Tryz.ntmps92
        go_wp2_with fail
        refine (HN _).out.mono ?_
        rintro o w1 ⟨A1, C1, rfl, i1, b1⟩
        go_wp2_with fail
        refine wp_region_held_drew (S := fun w' => w'.cell? ⟨w.heap.size, 0, none⟩ = some (.int .u64 p) ∧ w'.cell? ⟨w.heap.size, 1, none⟩ = some (.int .u64 q) ∧ w'.cell? ⟨w1.heap.size, 0, none⟩ = some (.int .i64 0) ∧ w'.cell? ⟨w1.heap.size, 1, none⟩ = some (.bool (false)) ∧ w'.cell? ⟨w1.heap.size, 2, none⟩ = some (.bool (decide (dman d < 0))) ∧ w'.cell? ⟨w1.heap.size, 3, none⟩ = some (.slice A1 (nl (dman d).natAbs) C1) ∧ w'.cell? ⟨w1.heap.size, 4, none⟩ = some (.int .i64 (dexp d))) (by kernel_rfl) (by go_simp) (fun hHeld => ?_)
        simp only [List.size_toArray, List.length_cons, List.length_nil, Nat.reduceAdd, Array.replicate_succ, Array.replicate_zero, List.push_toArray, List.append_toArray, List.nil_append, List.cons_append]
        refine tkv 0 (some 9) (.agg #[.int .u64 p, .int .u64 q]) rfl rfl (by kernel_rfl) (by kernel_rfl) (by kernel_rfl) (fun _ _ _ h => h) (by rfl) (fun w hSw => by (try dsimp only at hSw); go_simp) hHeld ?_
        simp only [Act.put, List.setIfInBounds_toArray, List.set_cons_zero, List.set_cons_succ]
        refine wpAnyH_ready (rs := [1]) (by kernel_rfl) (by simp) ?_
        refine AllReadyH.cons rfl (fun K hK => ?_) AllReadyH.nil
        go_simp
        go_wp2_with (go_at_call 106; refine (HV _).out.mono ?_; rintro o w2 ⟨rfl, b2⟩)
        refine hK.out _ _ (by first | (go_simp; done) | (dsimp only; go_simp)) (fun hHeld => ?_)
        clear hK K
        simp only [Act.put, List.setIfInBounds_toArray, List.set_cons_zero, List.set_cons_succ]
        refine tkv 2 (some 11) (.bool true) rfl rfl (by kernel_rfl) (by kernel_rfl) (by kernel_rfl) (fun _ _ _ h => h) (by rfl) (fun w hSw => by (try dsimp only at hSw); rfl) hHeld ?_
        simp only [Act.put, List.setIfInBounds_toArray, List.set_cons_zero, List.set_cons_succ]
        refine tkv 3 (some 12) (.pointer (some ⟨w1.heap.size, 1, none⟩)) rfl rfl (by kernel_rfl) (by kernel_rfl) (by kernel_rfl) (fun _ _ _ h => h) (by rfl) (fun w hSw => by (try dsimp only at hSw); go_simp) hHeld ?_
        simp only [Act.put, List.setIfInBounds_toArray, List.set_cons_zero, List.set_cons_succ]
        refine tkv 4 (some 13) (.pointer (some ⟨w1.heap.size, 1, none⟩)) rfl rfl (by kernel_rfl) (by kernel_rfl) (by kernel_rfl) (fun _ _ _ h => h) (by rfl) (fun w hSw => by (try dsimp only at hSw); go_simp) hHeld ?_
        simp only [Act.put, List.setIfInBounds_toArray, List.set_cons_zero, List.set_cons_succ]
        refine tkv 5 (some 14) (.bool false) rfl rfl (by kernel_rfl) (by kernel_rfl) (by kernel_rfl) (fun _ _ _ h => h) (by rfl) (fun w hSw => by (try dsimp only at hSw); go_simp) hHeld ?_
        simp only [Act.put, List.setIfInBounds_toArray, List.set_cons_zero, List.set_cons_succ]
        refine tkv 6 (some 15) (.bool true) rfl rfl (by kernel_rfl) (by kernel_rfl) (by kernel_rfl) (fun _ _ _ h => h) (by rfl) (fun w hSw => by (try dsimp only at hSw); go_simp) hHeld ?_
        simp only [Act.put, List.setIfInBounds_toArray, List.set_cons_zero, List.set_cons_succ]
        refine tkv 7 (some 16) (.bool true) rfl rfl (by kernel_rfl) (by kernel_rfl) (by kernel_rfl) (fun _ _ _ h => h) (by rfl) (fun w hSw => by (try dsimp only at hSw); rfl) hHeld ?_
        simp only [Act.put, List.setIfInBounds_toArray, List.set_cons_zero, List.set_cons_succ]
        refine tkv 8 (some 17) (.bool true) rfl rfl (by kernel_rfl) (by kernel_rfl) (by kernel_rfl) (fun _ _ _ h => h) (by rfl) (fun w hSw => by (try dsimp only at hSw); rfl) hHeld ?_
        simp only [Act.put, List.setIfInBounds_toArray, List.set_cons_zero, List.set_cons_succ]
        refine tkv 9 (some 18) (.agg #[.int .i64 0, .bool false, .bool (decide (dman d < 0)), .slice A1 (nl (dman d).natAbs) C1, .int .i64 (dexp d)]) rfl rfl (by kernel_rfl) (by kernel_rfl) (by kernel_rfl) (fun _ _ _ h => h) (by rfl) (fun w hSw => by (try dsimp only at hSw); go_simp) hHeld ?_
        simp only [Act.put, List.setIfInBounds_toArray, List.set_cons_zero, List.set_cons_succ]
        refine tkv 10 (some 19) (.pointer (some ⟨w.heap.size, 0, none⟩)) rfl rfl (by kernel_rfl) (by kernel_rfl) (by kernel_rfl) (fun _ _ _ h => h) (by rfl) (fun w hSw => by (try dsimp only at hSw); go_simp) hHeld ?_
        simp only [Act.put, List.setIfInBounds_toArray, List.set_cons_zero, List.set_cons_succ]
        refine tkv 11 (some 20) (.int .u64 p) rfl rfl (by kernel_rfl) (by kernel_rfl) (by kernel_rfl) (fun _ _ _ h => h) (by rfl) (fun w hSw => by (try dsimp only at hSw); go_simp) hHeld ?_
        simp only [Act.put, List.setIfInBounds_toArray, List.set_cons_zero, List.set_cons_succ]
        refine wpAnyH_ready (rs := [12]) (by kernel_rfl) (by simp) ?_
        refine AllReadyH.cons rfl (fun K hK => ?_) AllReadyH.nil
        go_simp
        go_wp2_with (go_at_call 193; refine (HA _).out.mono ?_; rintro o w3 ⟨A3, C3, rfl, i3, b3⟩)
        refine hK.out _ _ (by first | (go_simp; done) | (dsimp only; go_simp)) (fun hHeld => ?_)
        clear hK K
        simp only [Act.put, List.setIfInBounds_toArray, List.set_cons_zero, List.set_cons_succ]
        refine wpAnyH_ready (rs := [13]) (by kernel_rfl) (by simp) ?_
        refine AllReadyH.cons rfl (fun K hK => ?_) AllReadyH.nil
        go_simp
        go_wp2_with (go_at_call 194; refine (HL _ _ _ _ _).out.mono ?_; rintro o w5 ⟨rfl, b5⟩)
        refine hK.out _ _ (by first | (go_simp; done) | (dsimp only; go_simp)) (fun hHeld => ?_)
        clear hK K
        simp only [Act.put, List.setIfInBounds_toArray, List.set_cons_zero, List.set_cons_succ]
        refine tkv 14 (some 23) (.bool false) rfl rfl (by kernel_rfl) (by kernel_rfl) (by kernel_rfl) (fun _ _ _ h => h) (by rfl) (fun w hSw => by (try dsimp only at hSw); go_simp) hHeld ?_
        simp only [Act.put, List.setIfInBounds_toArray, List.set_cons_zero, List.set_cons_succ]
        refine tkv 15 (some 24) (.bool false) rfl rfl (by kernel_rfl) (by kernel_rfl) (by kernel_rfl) (fun _ _ _ h => h) (by rfl) (fun w hSw => by (try dsimp only at hSw); rfl) hHeld ?_
        simp only [Act.put, List.setIfInBounds_toArray, List.set_cons_zero, List.set_cons_succ]
        refine tkv 16 (some 25) (.bool false) rfl rfl (by kernel_rfl) (by kernel_rfl) (by kernel_rfl) (fun _ _ _ h => h) (by rfl) (fun w hSw => by (try dsimp only at hSw); rfl) hHeld ?_
        simp only [Act.put, List.setIfInBounds_toArray, List.set_cons_zero, List.set_cons_succ]
        refine tku 17 (some 26) rfl rfl (by kernel_rfl) (by kernel_rfl) (by kernel_rfl) (fun _ _ _ h => h) (by rfl) hHeld ?_
        simp only [Act.put, List.setIfInBounds_toArray, List.set_cons_zero, List.set_cons_succ]
        refine tku 18 (some 27) rfl rfl (by kernel_rfl) (by kernel_rfl) (by kernel_rfl) (fun _ _ _ h => h) (by rfl) hHeld ?_
        simp only [Act.put, List.setIfInBounds_toArray, List.set_cons_zero, List.set_cons_succ]
        refine tku 19 (some 28) rfl rfl (by kernel_rfl) (by kernel_rfl) (by kernel_rfl) (fun _ _ _ h => h) (by rfl) hHeld ?_
        simp only [Act.put, List.setIfInBounds_toArray, List.set_cons_zero, List.set_cons_succ]
        refine tku 20 (some 29) rfl rfl (by kernel_rfl) (by kernel_rfl) (by kernel_rfl) (fun _ _ _ h => h) (by rfl) hHeld ?_
        simp only [Act.put, List.setIfInBounds_toArray, List.set_cons_zero, List.set_cons_succ]
        refine tku 21 (some 30) rfl rfl (by kernel_rfl) (by kernel_rfl) (by kernel_rfl) (fun _ _ _ h => h) (by rfl) hHeld ?_
        simp only [Act.put, List.setIfInBounds_toArray, List.set_cons_zero, List.set_cons_succ]
        refine tku 22 (some 31) rfl rfl (by kernel_rfl) (by kernel_rfl) (by kernel_rfl) (fun _ _ _ h => h) (by rfl) hHeld ?_
        simp only [Act.put, List.setIfInBounds_toArray, List.set_cons_zero, List.set_cons_succ]
        refine tkv 23 (some 32) (.bool false) rfl rfl (by kernel_rfl) (by kernel_rfl) (by kernel_rfl) (fun _ _ _ h => h) (by rfl) (fun w hSw => by (try dsimp only at hSw); rfl) hHeld ?_
        simp only [Act.put, List.setIfInBounds_toArray, List.set_cons_zero, List.set_cons_succ]
        refine tkv 24 (some 4) (.bool false) rfl rfl (by kernel_rfl) (by kernel_rfl) (by kernel_rfl) (fun _ _ _ h => h) (by rfl) (fun w hSw => by (try dsimp only at hSw); rfl) hHeld ?_
        simp only [Act.put, List.setIfInBounds_toArray, List.set_cons_zero, List.set_cons_succ]
        refine wpAnyH_done (by kernel_rfl) ?_ _
        go_wp2_with fail
        go_ret
        exact ⟨rfl, zbh⟩

end Go.Proofs.YtakbappmkdaioaaGreatDoor


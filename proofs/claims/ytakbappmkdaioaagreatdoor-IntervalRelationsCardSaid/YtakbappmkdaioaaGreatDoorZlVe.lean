/-
  Walks: package sparseref05: Interior, Rad.
-/
import Derived.Test.YtakbappmkdaioaaGreatDoorZlVA
import Derived.Test.YtakbappmkdaioaaGreatDoorZlVN
namespace Go.Proofs.YtakbappmkdaioaaGreatDoor
open Go.RowKit Sp
set_option linter.unusedSimpArgs false

attribute [local irreducible] Calls
set_option maxRecDepth 100000 in
set_option maxHeartbeats 20000000 in
theorem ninside_any (w : World) [ht : Tb w] (a : Nat) (b : Nat) (c : Nat) (d : Nat) (ha : a < 18446744073709551616) (hb : b < 18446744073709551616) (hc : c < 18446744073709551616) (hd : d < 18446744073709551616) : Calls Tryz.prog 96 #[.agg #[.int .u64 (a : Nat), .int .u64 (b : Nat)], .agg #[.int .u64 (c : Nat), .int .u64 (d : Nat)]] w fun o w' => o = .returned (.bool (rins (a, b) (c, d))) ∧ Below w.heap.size w w' := by
  have H1 := fun W => Lib.hid (frm (r5valid_any W a b ha hb))
  have H2 := fun W => Lib.hid (frm (r5valid_any W c d hc hd))
  have HA := fun W [Tb W] => Lib.hid (rof_any W a ha)
  have HB := fun W [Tb W] => Lib.hid (rof_any W b hb)
  have HC := fun W [Tb W] => Lib.hid (rof_any W c hc)
  have HD := fun W [Tb W] => Lib.hid (rof_any W d hd)
  have HL := fun W A C A' C' [i1 : DS W (dbad (nof c)) (decide (dman (nof c) < 0)) A (nl (dman (nof c)).natAbs) C (dexp (nof c)) (nof c)] [i2 : DS W (dbad (nof a)) (decide (dman (nof a) < 0)) A' (nl (dman (nof a)).natAbs) C' (dexp (nof a)) (nof a)] [Tb W] => Lib.hid (frm (rless_any W (nin c) (nin a) _ _ _ _ A A' _ _ C C' _ _ (nof c) (nof a) (h1 := i1) (h2 := i2)))
  have HM := fun W A C A' C' [i1 : DS W (dbad (nof b)) (decide (dman (nof b) < 0)) A (nl (dman (nof b)).natAbs) C (dexp (nof b)) (nof b)] [i2 : DS W (dbad (nof d)) (decide (dman (nof d) < 0)) A' (nl (dman (nof d)).natAbs) C' (dexp (nof d)) (nof d)] [Tb W] => Lib.hid (frm (rless_any W (nin b) (nin d) _ _ _ _ A A' _ _ C C' _ _ (nof b) (nof d) (h1 := i1) (h2 := i2)))
  have e1 : decide (c = fNInf) = (((c : Nat) : Int) == 18442240474082181120) := (beq_nat c fNInf 18442240474082181120 (by decide)).symm
  have e2 : decide (d = fInf) = (((d : Nat) : Int) == 9218868437227405312) := (beq_nat d fInf 9218868437227405312 (by decide)).symm
  unfold rins
  dsimp only
  rw [e1, e2]
  clear e1 e2
  generalize iok (a, b) = k1 at *
  generalize iok (c, d) = k2 at *
  generalize nless (nin c) (nof c) (nin a) (nof a) = k3 at *
  generalize nless (nin b) (nof b) (nin d) (nof d) = k4 at *
  generalize nin a = ia at *
  generalize nof a = da at *
  generalize nin b = ib at *
  generalize nof b = db at *
  generalize nin c = ic at *
  generalize nof c = dc at *
  generalize nin d = id at *
  generalize nof d = dd at *
  generalize ((a : Nat) : Int) = p at *
  generalize ((b : Nat) : Int) = q at *
  generalize ((c : Nat) : Int) = r at *
  generalize ((d : Nat) : Int) = s at *
  cases k1
  · skip
    go_enter Tryz.func96, Tryz.ntmps96
    go_wp2_with fail
    refine wp_region_held_drew (S := fun w' => w'.cell? ⟨w.heap.size, 0, none⟩ = some (.int .u64 p) ∧ w'.cell? ⟨w.heap.size, 1, none⟩ = some (.int .u64 q) ∧ w'.cell? ⟨w.heap.size + 1, 0, none⟩ = some (.int .u64 r) ∧ w'.cell? ⟨w.heap.size + 1, 1, none⟩ = some (.int .u64 s)) (by kernel_rfl) (by go_simp) (fun hHeld => ?_)
    simp only [List.size_toArray, List.length_cons, List.length_nil, Nat.reduceAdd, Array.replicate_succ, Array.replicate_zero, List.push_toArray, List.append_toArray, List.nil_append, List.cons_append]
    refine tkv 0 (some 5) (.agg #[.int .u64 p, .int .u64 q]) rfl rfl (by kernel_rfl) (by kernel_rfl) (by kernel_rfl) (fun _ _ _ h => h) (by rfl) (fun w hSw => by (try dsimp only at hSw); go_simp) hHeld ?_
    simp only [Act.put, List.setIfInBounds_toArray, List.set_cons_zero, List.set_cons_succ]
    refine wpAnyH_ready (rs := [1]) (by kernel_rfl) (by simp) ?_
    refine AllReadyH.cons rfl (fun K hK => ?_) AllReadyH.nil
    go_simp
    go_wp2_with (go_at_call 106; refine (H1 _).out.mono ?_; rintro o w1 ⟨rfl, b1⟩)
    refine hK.out _ _ (by first | (go_simp; done) | (dsimp only; go_simp)) (fun hHeld => ?_)
    clear hK K
    simp only [Act.put, List.setIfInBounds_toArray, List.set_cons_zero, List.set_cons_succ]
    refine tkv 2 (some 7) (.bool false) rfl rfl (by kernel_rfl) (by kernel_rfl) (by kernel_rfl) (fun _ _ _ h => h) (by rfl) (fun w hSw => by (try dsimp only at hSw); rfl) hHeld ?_
    simp only [Act.put, List.setIfInBounds_toArray, List.set_cons_zero, List.set_cons_succ]
    refine tku 3 (some 8) rfl rfl (by kernel_rfl) (by kernel_rfl) (by kernel_rfl) (fun _ _ _ h => h) (by rfl) hHeld ?_
    simp only [Act.put, List.setIfInBounds_toArray, List.set_cons_zero, List.set_cons_succ]
    refine tku 4 (some 9) rfl rfl (by kernel_rfl) (by kernel_rfl) (by kernel_rfl) (fun _ _ _ h => h) (by rfl) hHeld ?_
    simp only [Act.put, List.setIfInBounds_toArray, List.set_cons_zero, List.set_cons_succ]
    refine tkv 5 (some 10) (.bool false) rfl rfl (by kernel_rfl) (by kernel_rfl) (by kernel_rfl) (fun _ _ _ h => h) (by rfl) (fun w hSw => by (try dsimp only at hSw); rfl) hHeld ?_
    simp only [Act.put, List.setIfInBounds_toArray, List.set_cons_zero, List.set_cons_succ]
    refine tkv 6 (some 11) (.bool false) rfl rfl (by kernel_rfl) (by kernel_rfl) (by kernel_rfl) (fun _ _ _ h => h) (by rfl) (fun w hSw => by (try dsimp only at hSw); rfl) hHeld ?_
    simp only [Act.put, List.setIfInBounds_toArray, List.set_cons_zero, List.set_cons_succ]
    refine tku 7 (some 12) rfl rfl (by kernel_rfl) (by kernel_rfl) (by kernel_rfl) (fun _ _ _ h => h) (by rfl) hHeld ?_
    simp only [Act.put, List.setIfInBounds_toArray, List.set_cons_zero, List.set_cons_succ]
    refine tku 8 (some 13) rfl rfl (by kernel_rfl) (by kernel_rfl) (by kernel_rfl) (fun _ _ _ h => h) (by rfl) hHeld ?_
    simp only [Act.put, List.setIfInBounds_toArray, List.set_cons_zero, List.set_cons_succ]
    refine tku 9 (some 14) rfl rfl (by kernel_rfl) (by kernel_rfl) (by kernel_rfl) (fun _ _ _ h => h) (by rfl) hHeld ?_
    simp only [Act.put, List.setIfInBounds_toArray, List.set_cons_zero, List.set_cons_succ]
    refine tku 10 (some 15) rfl rfl (by kernel_rfl) (by kernel_rfl) (by kernel_rfl) (fun _ _ _ h => h) (by rfl) hHeld ?_
    simp only [Act.put, List.setIfInBounds_toArray, List.set_cons_zero, List.set_cons_succ]
    refine tku 11 (some 16) rfl rfl (by kernel_rfl) (by kernel_rfl) (by kernel_rfl) (fun _ _ _ h => h) (by rfl) hHeld ?_
    simp only [Act.put, List.setIfInBounds_toArray, List.set_cons_zero, List.set_cons_succ]
    refine tku 12 (some 17) rfl rfl (by kernel_rfl) (by kernel_rfl) (by kernel_rfl) (fun _ _ _ h => h) (by rfl) hHeld ?_
    simp only [Act.put, List.setIfInBounds_toArray, List.set_cons_zero, List.set_cons_succ]
    refine tku 13 (some 18) rfl rfl (by kernel_rfl) (by kernel_rfl) (by kernel_rfl) (fun _ _ _ h => h) (by rfl) hHeld ?_
    simp only [Act.put, List.setIfInBounds_toArray, List.set_cons_zero, List.set_cons_succ]
    refine tku 14 (some 19) rfl rfl (by kernel_rfl) (by kernel_rfl) (by kernel_rfl) (fun _ _ _ h => h) (by rfl) hHeld ?_
    simp only [Act.put, List.setIfInBounds_toArray, List.set_cons_zero, List.set_cons_succ]
    refine tku 15 (some 20) rfl rfl (by kernel_rfl) (by kernel_rfl) (by kernel_rfl) (fun _ _ _ h => h) (by rfl) hHeld ?_
    simp only [Act.put, List.setIfInBounds_toArray, List.set_cons_zero, List.set_cons_succ]
    refine tku 16 (some 21) rfl rfl (by kernel_rfl) (by kernel_rfl) (by kernel_rfl) (fun _ _ _ h => h) (by rfl) hHeld ?_
    simp only [Act.put, List.setIfInBounds_toArray, List.set_cons_zero, List.set_cons_succ]
    refine tku 17 (some 22) rfl rfl (by kernel_rfl) (by kernel_rfl) (by kernel_rfl) (fun _ _ _ h => h) (by rfl) hHeld ?_
    simp only [Act.put, List.setIfInBounds_toArray, List.set_cons_zero, List.set_cons_succ]
    refine tku 18 (some 23) rfl rfl (by kernel_rfl) (by kernel_rfl) (by kernel_rfl) (fun _ _ _ h => h) (by rfl) hHeld ?_
    simp only [Act.put, List.setIfInBounds_toArray, List.set_cons_zero, List.set_cons_succ]
    refine tkv 19 (some 24) (.bool false) rfl rfl (by kernel_rfl) (by kernel_rfl) (by kernel_rfl) (fun _ _ _ h => h) (by rfl) (fun w hSw => by (try dsimp only at hSw); rfl) hHeld ?_
    simp only [Act.put, List.setIfInBounds_toArray, List.set_cons_zero, List.set_cons_succ]
    refine tkv 20 (some 25) (.bool false) rfl rfl (by kernel_rfl) (by kernel_rfl) (by kernel_rfl) (fun _ _ _ h => h) (by rfl) (fun w hSw => by (try dsimp only at hSw); rfl) hHeld ?_
    simp only [Act.put, List.setIfInBounds_toArray, List.set_cons_zero, List.set_cons_succ]
    refine tku 21 (some 26) rfl rfl (by kernel_rfl) (by kernel_rfl) (by kernel_rfl) (fun _ _ _ h => h) (by rfl) hHeld ?_
    simp only [Act.put, List.setIfInBounds_toArray, List.set_cons_zero, List.set_cons_succ]
    refine tku 22 (some 27) rfl rfl (by kernel_rfl) (by kernel_rfl) (by kernel_rfl) (fun _ _ _ h => h) (by rfl) hHeld ?_
    simp only [Act.put, List.setIfInBounds_toArray, List.set_cons_zero, List.set_cons_succ]
    refine tku 23 (some 28) rfl rfl (by kernel_rfl) (by kernel_rfl) (by kernel_rfl) (fun _ _ _ h => h) (by rfl) hHeld ?_
    simp only [Act.put, List.setIfInBounds_toArray, List.set_cons_zero, List.set_cons_succ]
    refine tku 24 (some 29) rfl rfl (by kernel_rfl) (by kernel_rfl) (by kernel_rfl) (fun _ _ _ h => h) (by rfl) hHeld ?_
    simp only [Act.put, List.setIfInBounds_toArray, List.set_cons_zero, List.set_cons_succ]
    refine tku 25 (some 30) rfl rfl (by kernel_rfl) (by kernel_rfl) (by kernel_rfl) (fun _ _ _ h => h) (by rfl) hHeld ?_
    simp only [Act.put, List.setIfInBounds_toArray, List.set_cons_zero, List.set_cons_succ]
    refine tku 26 (some 31) rfl rfl (by kernel_rfl) (by kernel_rfl) (by kernel_rfl) (fun _ _ _ h => h) (by rfl) hHeld ?_
    simp only [Act.put, List.setIfInBounds_toArray, List.set_cons_zero, List.set_cons_succ]
    refine tku 27 (some 32) rfl rfl (by kernel_rfl) (by kernel_rfl) (by kernel_rfl) (fun _ _ _ h => h) (by rfl) hHeld ?_
    simp only [Act.put, List.setIfInBounds_toArray, List.set_cons_zero, List.set_cons_succ]
    refine tku 28 (some 33) rfl rfl (by kernel_rfl) (by kernel_rfl) (by kernel_rfl) (fun _ _ _ h => h) (by rfl) hHeld ?_
    simp only [Act.put, List.setIfInBounds_toArray, List.set_cons_zero, List.set_cons_succ]
    refine tku 29 (some 34) rfl rfl (by kernel_rfl) (by kernel_rfl) (by kernel_rfl) (fun _ _ _ h => h) (by rfl) hHeld ?_
    simp only [Act.put, List.setIfInBounds_toArray, List.set_cons_zero, List.set_cons_succ]
    refine tku 30 (some 35) rfl rfl (by kernel_rfl) (by kernel_rfl) (by kernel_rfl) (fun _ _ _ h => h) (by rfl) hHeld ?_
    simp only [Act.put, List.setIfInBounds_toArray, List.set_cons_zero, List.set_cons_succ]
    refine tku 31 (some 36) rfl rfl (by kernel_rfl) (by kernel_rfl) (by kernel_rfl) (fun _ _ _ h => h) (by rfl) hHeld ?_
    simp only [Act.put, List.setIfInBounds_toArray, List.set_cons_zero, List.set_cons_succ]
    refine tku 32 (some 37) rfl rfl (by kernel_rfl) (by kernel_rfl) (by kernel_rfl) (fun _ _ _ h => h) (by rfl) hHeld ?_
    simp only [Act.put, List.setIfInBounds_toArray, List.set_cons_zero, List.set_cons_succ]
    refine tkv 33 (some 38) (.bool false) rfl rfl (by kernel_rfl) (by kernel_rfl) (by kernel_rfl) (fun _ _ _ h => h) (by rfl) (fun w hSw => by (try dsimp only at hSw); rfl) hHeld ?_
    simp only [Act.put, List.setIfInBounds_toArray, List.set_cons_zero, List.set_cons_succ]
    refine tkv 34 (some 4) (.bool false) rfl rfl (by kernel_rfl) (by kernel_rfl) (by kernel_rfl) (fun _ _ _ h => h) (by rfl) (fun w hSw => by (try dsimp only at hSw); rfl) hHeld ?_
    simp only [Act.put, List.setIfInBounds_toArray, List.set_cons_zero, List.set_cons_succ]
    refine wpAnyH_done (by kernel_rfl) ?_ _
    go_wp2_with fail
    go_ret
    exact ⟨rfl, zbh⟩
  · cases k2
    · skip
      go_enter Tryz.func96, Tryz.ntmps96
      go_wp2_with fail
      refine wp_region_held_drew (S := fun w' => w'.cell? ⟨w.heap.size, 0, none⟩ = some (.int .u64 p) ∧ w'.cell? ⟨w.heap.size, 1, none⟩ = some (.int .u64 q) ∧ w'.cell? ⟨w.heap.size + 1, 0, none⟩ = some (.int .u64 r) ∧ w'.cell? ⟨w.heap.size + 1, 1, none⟩ = some (.int .u64 s)) (by kernel_rfl) (by go_simp) (fun hHeld => ?_)
      simp only [List.size_toArray, List.length_cons, List.length_nil, Nat.reduceAdd, Array.replicate_succ, Array.replicate_zero, List.push_toArray, List.append_toArray, List.nil_append, List.cons_append]
      refine tkv 0 (some 5) (.agg #[.int .u64 p, .int .u64 q]) rfl rfl (by kernel_rfl) (by kernel_rfl) (by kernel_rfl) (fun _ _ _ h => h) (by rfl) (fun w hSw => by (try dsimp only at hSw); go_simp) hHeld ?_
      simp only [Act.put, List.setIfInBounds_toArray, List.set_cons_zero, List.set_cons_succ]
      refine wpAnyH_ready (rs := [1]) (by kernel_rfl) (by simp) ?_
      refine AllReadyH.cons rfl (fun K hK => ?_) AllReadyH.nil
      go_simp
      go_wp2_with (go_at_call 106; refine (H1 _).out.mono ?_; rintro o w1 ⟨rfl, b1⟩)
      refine hK.out _ _ (by first | (go_simp; done) | (dsimp only; go_simp)) (fun hHeld => ?_)
      clear hK K
      simp only [Act.put, List.setIfInBounds_toArray, List.set_cons_zero, List.set_cons_succ]
      refine tkv 2 (some 7) (.bool true) rfl rfl (by kernel_rfl) (by kernel_rfl) (by kernel_rfl) (fun _ _ _ h => h) (by rfl) (fun w hSw => by (try dsimp only at hSw); rfl) hHeld ?_
      simp only [Act.put, List.setIfInBounds_toArray, List.set_cons_zero, List.set_cons_succ]
      refine tkv 3 (some 8) (.agg #[.int .u64 r, .int .u64 s]) rfl rfl (by kernel_rfl) (by kernel_rfl) (by kernel_rfl) (fun _ _ _ h => h) (by rfl) (fun w hSw => by (try dsimp only at hSw); go_simp) hHeld ?_
      simp only [Act.put, List.setIfInBounds_toArray, List.set_cons_zero, List.set_cons_succ]
      refine wpAnyH_ready (rs := [4]) (by kernel_rfl) (by simp) ?_
      refine AllReadyH.cons rfl (fun K hK => ?_) AllReadyH.nil
      go_simp
      go_wp2_with (go_at_call 106; refine (H2 _).out.mono ?_; rintro o w2 ⟨rfl, b2⟩)
      refine hK.out _ _ (by first | (go_simp; done) | (dsimp only; go_simp)) (fun hHeld => ?_)
      clear hK K
      simp only [Act.put, List.setIfInBounds_toArray, List.set_cons_zero, List.set_cons_succ]
      refine tkv 5 (some 10) (.bool false) rfl rfl (by kernel_rfl) (by kernel_rfl) (by kernel_rfl) (fun _ _ _ h => h) (by rfl) (fun w hSw => by (try dsimp only at hSw); rfl) hHeld ?_
      simp only [Act.put, List.setIfInBounds_toArray, List.set_cons_zero, List.set_cons_succ]
      refine tkv 6 (some 11) (.bool false) rfl rfl (by kernel_rfl) (by kernel_rfl) (by kernel_rfl) (fun _ _ _ h => h) (by rfl) (fun w hSw => by (try dsimp only at hSw); rfl) hHeld ?_
      simp only [Act.put, List.setIfInBounds_toArray, List.set_cons_zero, List.set_cons_succ]
      refine tku 7 (some 12) rfl rfl (by kernel_rfl) (by kernel_rfl) (by kernel_rfl) (fun _ _ _ h => h) (by rfl) hHeld ?_
      simp only [Act.put, List.setIfInBounds_toArray, List.set_cons_zero, List.set_cons_succ]
      refine tku 8 (some 13) rfl rfl (by kernel_rfl) (by kernel_rfl) (by kernel_rfl) (fun _ _ _ h => h) (by rfl) hHeld ?_
      simp only [Act.put, List.setIfInBounds_toArray, List.set_cons_zero, List.set_cons_succ]
      refine tku 9 (some 14) rfl rfl (by kernel_rfl) (by kernel_rfl) (by kernel_rfl) (fun _ _ _ h => h) (by rfl) hHeld ?_
      simp only [Act.put, List.setIfInBounds_toArray, List.set_cons_zero, List.set_cons_succ]
      refine tku 10 (some 15) rfl rfl (by kernel_rfl) (by kernel_rfl) (by kernel_rfl) (fun _ _ _ h => h) (by rfl) hHeld ?_
      simp only [Act.put, List.setIfInBounds_toArray, List.set_cons_zero, List.set_cons_succ]
      refine tku 11 (some 16) rfl rfl (by kernel_rfl) (by kernel_rfl) (by kernel_rfl) (fun _ _ _ h => h) (by rfl) hHeld ?_
      simp only [Act.put, List.setIfInBounds_toArray, List.set_cons_zero, List.set_cons_succ]
      refine tku 12 (some 17) rfl rfl (by kernel_rfl) (by kernel_rfl) (by kernel_rfl) (fun _ _ _ h => h) (by rfl) hHeld ?_
      simp only [Act.put, List.setIfInBounds_toArray, List.set_cons_zero, List.set_cons_succ]
      refine tku 13 (some 18) rfl rfl (by kernel_rfl) (by kernel_rfl) (by kernel_rfl) (fun _ _ _ h => h) (by rfl) hHeld ?_
      simp only [Act.put, List.setIfInBounds_toArray, List.set_cons_zero, List.set_cons_succ]
      refine tku 14 (some 19) rfl rfl (by kernel_rfl) (by kernel_rfl) (by kernel_rfl) (fun _ _ _ h => h) (by rfl) hHeld ?_
      simp only [Act.put, List.setIfInBounds_toArray, List.set_cons_zero, List.set_cons_succ]
      refine tku 15 (some 20) rfl rfl (by kernel_rfl) (by kernel_rfl) (by kernel_rfl) (fun _ _ _ h => h) (by rfl) hHeld ?_
      simp only [Act.put, List.setIfInBounds_toArray, List.set_cons_zero, List.set_cons_succ]
      refine tku 16 (some 21) rfl rfl (by kernel_rfl) (by kernel_rfl) (by kernel_rfl) (fun _ _ _ h => h) (by rfl) hHeld ?_
      simp only [Act.put, List.setIfInBounds_toArray, List.set_cons_zero, List.set_cons_succ]
      refine tku 17 (some 22) rfl rfl (by kernel_rfl) (by kernel_rfl) (by kernel_rfl) (fun _ _ _ h => h) (by rfl) hHeld ?_
      simp only [Act.put, List.setIfInBounds_toArray, List.set_cons_zero, List.set_cons_succ]
      refine tku 18 (some 23) rfl rfl (by kernel_rfl) (by kernel_rfl) (by kernel_rfl) (fun _ _ _ h => h) (by rfl) hHeld ?_
      simp only [Act.put, List.setIfInBounds_toArray, List.set_cons_zero, List.set_cons_succ]
      refine tkv 19 (some 24) (.bool false) rfl rfl (by kernel_rfl) (by kernel_rfl) (by kernel_rfl) (fun _ _ _ h => h) (by rfl) (fun w hSw => by (try dsimp only at hSw); rfl) hHeld ?_
      simp only [Act.put, List.setIfInBounds_toArray, List.set_cons_zero, List.set_cons_succ]
      refine tkv 20 (some 25) (.bool false) rfl rfl (by kernel_rfl) (by kernel_rfl) (by kernel_rfl) (fun _ _ _ h => h) (by rfl) (fun w hSw => by (try dsimp only at hSw); rfl) hHeld ?_
      simp only [Act.put, List.setIfInBounds_toArray, List.set_cons_zero, List.set_cons_succ]
      refine tku 21 (some 26) rfl rfl (by kernel_rfl) (by kernel_rfl) (by kernel_rfl) (fun _ _ _ h => h) (by rfl) hHeld ?_
      simp only [Act.put, List.setIfInBounds_toArray, List.set_cons_zero, List.set_cons_succ]
      refine tku 22 (some 27) rfl rfl (by kernel_rfl) (by kernel_rfl) (by kernel_rfl) (fun _ _ _ h => h) (by rfl) hHeld ?_
      simp only [Act.put, List.setIfInBounds_toArray, List.set_cons_zero, List.set_cons_succ]
      refine tku 23 (some 28) rfl rfl (by kernel_rfl) (by kernel_rfl) (by kernel_rfl) (fun _ _ _ h => h) (by rfl) hHeld ?_
      simp only [Act.put, List.setIfInBounds_toArray, List.set_cons_zero, List.set_cons_succ]
      refine tku 24 (some 29) rfl rfl (by kernel_rfl) (by kernel_rfl) (by kernel_rfl) (fun _ _ _ h => h) (by rfl) hHeld ?_
      simp only [Act.put, List.setIfInBounds_toArray, List.set_cons_zero, List.set_cons_succ]
      refine tku 25 (some 30) rfl rfl (by kernel_rfl) (by kernel_rfl) (by kernel_rfl) (fun _ _ _ h => h) (by rfl) hHeld ?_
      simp only [Act.put, List.setIfInBounds_toArray, List.set_cons_zero, List.set_cons_succ]
      refine tku 26 (some 31) rfl rfl (by kernel_rfl) (by kernel_rfl) (by kernel_rfl) (fun _ _ _ h => h) (by rfl) hHeld ?_
      simp only [Act.put, List.setIfInBounds_toArray, List.set_cons_zero, List.set_cons_succ]
      refine tku 27 (some 32) rfl rfl (by kernel_rfl) (by kernel_rfl) (by kernel_rfl) (fun _ _ _ h => h) (by rfl) hHeld ?_
      simp only [Act.put, List.setIfInBounds_toArray, List.set_cons_zero, List.set_cons_succ]
      refine tku 28 (some 33) rfl rfl (by kernel_rfl) (by kernel_rfl) (by kernel_rfl) (fun _ _ _ h => h) (by rfl) hHeld ?_
      simp only [Act.put, List.setIfInBounds_toArray, List.set_cons_zero, List.set_cons_succ]
      refine tku 29 (some 34) rfl rfl (by kernel_rfl) (by kernel_rfl) (by kernel_rfl) (fun _ _ _ h => h) (by rfl) hHeld ?_
      simp only [Act.put, List.setIfInBounds_toArray, List.set_cons_zero, List.set_cons_succ]
      refine tku 30 (some 35) rfl rfl (by kernel_rfl) (by kernel_rfl) (by kernel_rfl) (fun _ _ _ h => h) (by rfl) hHeld ?_
      simp only [Act.put, List.setIfInBounds_toArray, List.set_cons_zero, List.set_cons_succ]
      refine tku 31 (some 36) rfl rfl (by kernel_rfl) (by kernel_rfl) (by kernel_rfl) (fun _ _ _ h => h) (by rfl) hHeld ?_
      simp only [Act.put, List.setIfInBounds_toArray, List.set_cons_zero, List.set_cons_succ]
      refine tku 32 (some 37) rfl rfl (by kernel_rfl) (by kernel_rfl) (by kernel_rfl) (fun _ _ _ h => h) (by rfl) hHeld ?_
      simp only [Act.put, List.setIfInBounds_toArray, List.set_cons_zero, List.set_cons_succ]
      refine tkv 33 (some 38) (.bool false) rfl rfl (by kernel_rfl) (by kernel_rfl) (by kernel_rfl) (fun _ _ _ h => h) (by rfl) (fun w hSw => by (try dsimp only at hSw); rfl) hHeld ?_
      simp only [Act.put, List.setIfInBounds_toArray, List.set_cons_zero, List.set_cons_succ]
      refine tkv 34 (some 4) (.bool false) rfl rfl (by kernel_rfl) (by kernel_rfl) (by kernel_rfl) (fun _ _ _ h => h) (by rfl) (fun w hSw => by (try dsimp only at hSw); rfl) hHeld ?_
      simp only [Act.put, List.setIfInBounds_toArray, List.set_cons_zero, List.set_cons_succ]
      refine wpAnyH_done (by kernel_rfl) ?_ _
      go_wp2_with fail
      go_ret
      exact ⟨rfl, zbh⟩
    · rcases two_ways (r == 18442240474082181120) with h1 | h1
      · obtain rfl := eq_of_beq h1
        rcases two_ways (s == 9218868437227405312) with h2 | h2
        · obtain rfl := eq_of_beq h2
          go_enter Tryz.func96, Tryz.ntmps96
          go_wp2_with fail
          refine wp_region_held_drew (S := fun w' => w'.cell? ⟨w.heap.size, 0, none⟩ = some (.int .u64 p) ∧ w'.cell? ⟨w.heap.size, 1, none⟩ = some (.int .u64 q) ∧ w'.cell? ⟨w.heap.size + 1, 0, none⟩ = some (.int .u64 18442240474082181120) ∧ w'.cell? ⟨w.heap.size + 1, 1, none⟩ = some (.int .u64 9218868437227405312)) (by kernel_rfl) (by go_simp) (fun hHeld => ?_)
          simp only [List.size_toArray, List.length_cons, List.length_nil, Nat.reduceAdd, Array.replicate_succ, Array.replicate_zero, List.push_toArray, List.append_toArray, List.nil_append, List.cons_append]
          refine tkv 0 (some 5) (.agg #[.int .u64 p, .int .u64 q]) rfl rfl (by kernel_rfl) (by kernel_rfl) (by kernel_rfl) (fun _ _ _ h => h) (by rfl) (fun w hSw => by (try dsimp only at hSw); go_simp) hHeld ?_
          simp only [Act.put, List.setIfInBounds_toArray, List.set_cons_zero, List.set_cons_succ]
          refine wpAnyH_ready (rs := [1]) (by kernel_rfl) (by simp) ?_
          refine AllReadyH.cons rfl (fun K hK => ?_) AllReadyH.nil
          go_simp
          go_wp2_with (go_at_call 106; refine (H1 _).out.mono ?_; rintro o w1 ⟨rfl, b1⟩)
          refine hK.out _ _ (by first | (go_simp; done) | (dsimp only; go_simp)) (fun hHeld => ?_)
          clear hK K
          simp only [Act.put, List.setIfInBounds_toArray, List.set_cons_zero, List.set_cons_succ]
          refine tkv 2 (some 7) (.bool true) rfl rfl (by kernel_rfl) (by kernel_rfl) (by kernel_rfl) (fun _ _ _ h => h) (by rfl) (fun w hSw => by (try dsimp only at hSw); rfl) hHeld ?_
          simp only [Act.put, List.setIfInBounds_toArray, List.set_cons_zero, List.set_cons_succ]
          refine tkv 3 (some 8) (.agg #[.int .u64 18442240474082181120, .int .u64 9218868437227405312]) rfl rfl (by kernel_rfl) (by kernel_rfl) (by kernel_rfl) (fun _ _ _ h => h) (by rfl) (fun w hSw => by (try dsimp only at hSw); go_simp) hHeld ?_
          simp only [Act.put, List.setIfInBounds_toArray, List.set_cons_zero, List.set_cons_succ]
          refine wpAnyH_ready (rs := [4]) (by kernel_rfl) (by simp) ?_
          refine AllReadyH.cons rfl (fun K hK => ?_) AllReadyH.nil
          go_simp
          go_wp2_with (go_at_call 106; refine (H2 _).out.mono ?_; rintro o w2 ⟨rfl, b2⟩)
          refine hK.out _ _ (by first | (go_simp; done) | (dsimp only; go_simp)) (fun hHeld => ?_)
          clear hK K
          simp only [Act.put, List.setIfInBounds_toArray, List.set_cons_zero, List.set_cons_succ]
          refine tkv 5 (some 10) (.bool true) rfl rfl (by kernel_rfl) (by kernel_rfl) (by kernel_rfl) (fun _ _ _ h => h) (by rfl) (fun w hSw => by (try dsimp only at hSw); rfl) hHeld ?_
          simp only [Act.put, List.setIfInBounds_toArray, List.set_cons_zero, List.set_cons_succ]
          refine tkv 6 (some 11) (.bool true) rfl rfl (by kernel_rfl) (by kernel_rfl) (by kernel_rfl) (fun _ _ _ h => h) (by rfl) (fun w hSw => by (try dsimp only at hSw); rfl) hHeld ?_
          simp only [Act.put, List.setIfInBounds_toArray, List.set_cons_zero, List.set_cons_succ]
          refine tkv 7 (some 12) (.pointer (some ⟨w.heap.size + 1, 0, none⟩)) rfl rfl (by kernel_rfl) (by kernel_rfl) (by kernel_rfl) (fun _ _ _ h => h) (by rfl) (fun w hSw => by (try dsimp only at hSw); go_simp) hHeld ?_
          simp only [Act.put, List.setIfInBounds_toArray, List.set_cons_zero, List.set_cons_succ]
          refine tkv 8 (some 13) (.int .u64 18442240474082181120) rfl rfl (by kernel_rfl) (by kernel_rfl) (by kernel_rfl) (fun _ _ _ h => h) (by rfl) (fun w hSw => by (try dsimp only at hSw); go_simp) hHeld ?_
          simp only [Act.put, List.setIfInBounds_toArray, List.set_cons_zero, List.set_cons_succ]
          refine tkv 9 (some 14) (.bool true) rfl rfl (by kernel_rfl) (by kernel_rfl) (by kernel_rfl) (fun _ _ _ h => h) (by rfl) (fun w hSw => by (try dsimp only at hSw); go_simp) hHeld ?_
          simp only [Act.put, List.setIfInBounds_toArray, List.set_cons_zero, List.set_cons_succ]
          refine tkv 10 (some 15) (.bool true) rfl rfl (by kernel_rfl) (by kernel_rfl) (by kernel_rfl) (fun _ _ _ h => h) (by rfl) (fun w hSw => by (try dsimp only at hSw); go_simp) hHeld ?_
          simp only [Act.put, List.setIfInBounds_toArray, List.set_cons_zero, List.set_cons_succ]
          refine tku 11 (some 16) rfl rfl (by kernel_rfl) (by kernel_rfl) (by kernel_rfl) (fun _ _ _ h => h) (by rfl) hHeld ?_
          simp only [Act.put, List.setIfInBounds_toArray, List.set_cons_zero, List.set_cons_succ]
          refine tku 12 (some 17) rfl rfl (by kernel_rfl) (by kernel_rfl) (by kernel_rfl) (fun _ _ _ h => h) (by rfl) hHeld ?_
          simp only [Act.put, List.setIfInBounds_toArray, List.set_cons_zero, List.set_cons_succ]
          refine tku 13 (some 18) rfl rfl (by kernel_rfl) (by kernel_rfl) (by kernel_rfl) (fun _ _ _ h => h) (by rfl) hHeld ?_
          simp only [Act.put, List.setIfInBounds_toArray, List.set_cons_zero, List.set_cons_succ]
          refine tku 14 (some 19) rfl rfl (by kernel_rfl) (by kernel_rfl) (by kernel_rfl) (fun _ _ _ h => h) (by rfl) hHeld ?_
          simp only [Act.put, List.setIfInBounds_toArray, List.set_cons_zero, List.set_cons_succ]
          refine tku 15 (some 20) rfl rfl (by kernel_rfl) (by kernel_rfl) (by kernel_rfl) (fun _ _ _ h => h) (by rfl) hHeld ?_
          simp only [Act.put, List.setIfInBounds_toArray, List.set_cons_zero, List.set_cons_succ]
          refine tku 16 (some 21) rfl rfl (by kernel_rfl) (by kernel_rfl) (by kernel_rfl) (fun _ _ _ h => h) (by rfl) hHeld ?_
          simp only [Act.put, List.setIfInBounds_toArray, List.set_cons_zero, List.set_cons_succ]
          refine tku 17 (some 22) rfl rfl (by kernel_rfl) (by kernel_rfl) (by kernel_rfl) (fun _ _ _ h => h) (by rfl) hHeld ?_
          simp only [Act.put, List.setIfInBounds_toArray, List.set_cons_zero, List.set_cons_succ]
          refine tkv 18 (some 23) (.bool true) rfl rfl (by kernel_rfl) (by kernel_rfl) (by kernel_rfl) (fun _ _ _ h => h) (by rfl) (fun w hSw => by (try dsimp only at hSw); rfl) hHeld ?_
          simp only [Act.put, List.setIfInBounds_toArray, List.set_cons_zero, List.set_cons_succ]
          refine tkv 19 (some 24) (.bool true) rfl rfl (by kernel_rfl) (by kernel_rfl) (by kernel_rfl) (fun _ _ _ h => h) (by rfl) (fun w hSw => by (try dsimp only at hSw); rfl) hHeld ?_
          simp only [Act.put, List.setIfInBounds_toArray, List.set_cons_zero, List.set_cons_succ]
          refine tkv 20 (some 25) (.bool true) rfl rfl (by kernel_rfl) (by kernel_rfl) (by kernel_rfl) (fun _ _ _ h => h) (by rfl) (fun w hSw => by (try dsimp only at hSw); rfl) hHeld ?_
          simp only [Act.put, List.setIfInBounds_toArray, List.set_cons_zero, List.set_cons_succ]
          refine tkv 21 (some 26) (.pointer (some ⟨w.heap.size + 1, 1, none⟩)) rfl rfl (by kernel_rfl) (by kernel_rfl) (by kernel_rfl) (fun _ _ _ h => h) (by rfl) (fun w hSw => by (try dsimp only at hSw); go_simp) hHeld ?_
          simp only [Act.put, List.setIfInBounds_toArray, List.set_cons_zero, List.set_cons_succ]
          refine tkv 22 (some 27) (.int .u64 9218868437227405312) rfl rfl (by kernel_rfl) (by kernel_rfl) (by kernel_rfl) (fun _ _ _ h => h) (by rfl) (fun w hSw => by (try dsimp only at hSw); go_simp) hHeld ?_
          simp only [Act.put, List.setIfInBounds_toArray, List.set_cons_zero, List.set_cons_succ]
          refine tkv 23 (some 28) (.bool true) rfl rfl (by kernel_rfl) (by kernel_rfl) (by kernel_rfl) (fun _ _ _ h => h) (by rfl) (fun w hSw => by (try dsimp only at hSw); go_simp) hHeld ?_
          simp only [Act.put, List.setIfInBounds_toArray, List.set_cons_zero, List.set_cons_succ]
          refine tkv 24 (some 29) (.bool true) rfl rfl (by kernel_rfl) (by kernel_rfl) (by kernel_rfl) (fun _ _ _ h => h) (by rfl) (fun w hSw => by (try dsimp only at hSw); go_simp) hHeld ?_
          simp only [Act.put, List.setIfInBounds_toArray, List.set_cons_zero, List.set_cons_succ]
          refine tku 25 (some 30) rfl rfl (by kernel_rfl) (by kernel_rfl) (by kernel_rfl) (fun _ _ _ h => h) (by rfl) hHeld ?_
          simp only [Act.put, List.setIfInBounds_toArray, List.set_cons_zero, List.set_cons_succ]
          refine tku 26 (some 31) rfl rfl (by kernel_rfl) (by kernel_rfl) (by kernel_rfl) (fun _ _ _ h => h) (by rfl) hHeld ?_
          simp only [Act.put, List.setIfInBounds_toArray, List.set_cons_zero, List.set_cons_succ]
          refine tku 27 (some 32) rfl rfl (by kernel_rfl) (by kernel_rfl) (by kernel_rfl) (fun _ _ _ h => h) (by rfl) hHeld ?_
          simp only [Act.put, List.setIfInBounds_toArray, List.set_cons_zero, List.set_cons_succ]
          refine tku 28 (some 33) rfl rfl (by kernel_rfl) (by kernel_rfl) (by kernel_rfl) (fun _ _ _ h => h) (by rfl) hHeld ?_
          simp only [Act.put, List.setIfInBounds_toArray, List.set_cons_zero, List.set_cons_succ]
          refine tku 29 (some 34) rfl rfl (by kernel_rfl) (by kernel_rfl) (by kernel_rfl) (fun _ _ _ h => h) (by rfl) hHeld ?_
          simp only [Act.put, List.setIfInBounds_toArray, List.set_cons_zero, List.set_cons_succ]
          refine tku 30 (some 35) rfl rfl (by kernel_rfl) (by kernel_rfl) (by kernel_rfl) (fun _ _ _ h => h) (by rfl) hHeld ?_
          simp only [Act.put, List.setIfInBounds_toArray, List.set_cons_zero, List.set_cons_succ]
          refine tku 31 (some 36) rfl rfl (by kernel_rfl) (by kernel_rfl) (by kernel_rfl) (fun _ _ _ h => h) (by rfl) hHeld ?_
          simp only [Act.put, List.setIfInBounds_toArray, List.set_cons_zero, List.set_cons_succ]
          refine tkv 32 (some 37) (.bool true) rfl rfl (by kernel_rfl) (by kernel_rfl) (by kernel_rfl) (fun _ _ _ h => h) (by rfl) (fun w hSw => by (try dsimp only at hSw); rfl) hHeld ?_
          simp only [Act.put, List.setIfInBounds_toArray, List.set_cons_zero, List.set_cons_succ]
          refine tkv 33 (some 38) (.bool true) rfl rfl (by kernel_rfl) (by kernel_rfl) (by kernel_rfl) (fun _ _ _ h => h) (by rfl) (fun w hSw => by (try dsimp only at hSw); rfl) hHeld ?_
          simp only [Act.put, List.setIfInBounds_toArray, List.set_cons_zero, List.set_cons_succ]
          refine tkv 34 (some 4) (.bool true) rfl rfl (by kernel_rfl) (by kernel_rfl) (by kernel_rfl) (fun _ _ _ h => h) (by rfl) (fun w hSw => by (try dsimp only at hSw); rfl) hHeld ?_
          simp only [Act.put, List.setIfInBounds_toArray, List.set_cons_zero, List.set_cons_succ]
          refine wpAnyH_done (by kernel_rfl) ?_ _
          go_wp2_with fail
          go_ret
          exact ⟨rfl, zbh⟩
        · rw [h2]
          go_enter Tryz.func96, Tryz.ntmps96
          go_wp2_with fail
          refine wp_region_held_drew (S := fun w' => w'.cell? ⟨w.heap.size, 0, none⟩ = some (.int .u64 p) ∧ w'.cell? ⟨w.heap.size, 1, none⟩ = some (.int .u64 q) ∧ w'.cell? ⟨w.heap.size + 1, 0, none⟩ = some (.int .u64 18442240474082181120) ∧ w'.cell? ⟨w.heap.size + 1, 1, none⟩ = some (.int .u64 s)) (by kernel_rfl) (by go_simp) (fun hHeld => ?_)
          simp only [List.size_toArray, List.length_cons, List.length_nil, Nat.reduceAdd, Array.replicate_succ, Array.replicate_zero, List.push_toArray, List.append_toArray, List.nil_append, List.cons_append]
          refine tkv 0 (some 5) (.agg #[.int .u64 p, .int .u64 q]) rfl rfl (by kernel_rfl) (by kernel_rfl) (by kernel_rfl) (fun _ _ _ h => h) (by rfl) (fun w hSw => by (try dsimp only at hSw); go_simp) hHeld ?_
          simp only [Act.put, List.setIfInBounds_toArray, List.set_cons_zero, List.set_cons_succ]
          refine wpAnyH_ready (rs := [1]) (by kernel_rfl) (by simp) ?_
          refine AllReadyH.cons rfl (fun K hK => ?_) AllReadyH.nil
          go_simp
          go_wp2_with (go_at_call 106; refine (H1 _).out.mono ?_; rintro o w1 ⟨rfl, b1⟩)
          refine hK.out _ _ (by first | (go_simp; done) | (dsimp only; go_simp)) (fun hHeld => ?_)
          clear hK K
          simp only [Act.put, List.setIfInBounds_toArray, List.set_cons_zero, List.set_cons_succ]
          refine tkv 2 (some 7) (.bool true) rfl rfl (by kernel_rfl) (by kernel_rfl) (by kernel_rfl) (fun _ _ _ h => h) (by rfl) (fun w hSw => by (try dsimp only at hSw); rfl) hHeld ?_
          simp only [Act.put, List.setIfInBounds_toArray, List.set_cons_zero, List.set_cons_succ]
          refine tkv 3 (some 8) (.agg #[.int .u64 18442240474082181120, .int .u64 s]) rfl rfl (by kernel_rfl) (by kernel_rfl) (by kernel_rfl) (fun _ _ _ h => h) (by rfl) (fun w hSw => by (try dsimp only at hSw); go_simp) hHeld ?_
          simp only [Act.put, List.setIfInBounds_toArray, List.set_cons_zero, List.set_cons_succ]
          refine wpAnyH_ready (rs := [4]) (by kernel_rfl) (by simp) ?_
          refine AllReadyH.cons rfl (fun K hK => ?_) AllReadyH.nil
          go_simp
          go_wp2_with (go_at_call 106; refine (H2 _).out.mono ?_; rintro o w2 ⟨rfl, b2⟩)
          refine hK.out _ _ (by first | (go_simp; done) | (dsimp only; go_simp)) (fun hHeld => ?_)
          clear hK K
          simp only [Act.put, List.setIfInBounds_toArray, List.set_cons_zero, List.set_cons_succ]
          refine tkv 5 (some 10) (.bool true) rfl rfl (by kernel_rfl) (by kernel_rfl) (by kernel_rfl) (fun _ _ _ h => h) (by rfl) (fun w hSw => by (try dsimp only at hSw); rfl) hHeld ?_
          simp only [Act.put, List.setIfInBounds_toArray, List.set_cons_zero, List.set_cons_succ]
          refine tkv 6 (some 11) (.bool true) rfl rfl (by kernel_rfl) (by kernel_rfl) (by kernel_rfl) (fun _ _ _ h => h) (by rfl) (fun w hSw => by (try dsimp only at hSw); rfl) hHeld ?_
          simp only [Act.put, List.setIfInBounds_toArray, List.set_cons_zero, List.set_cons_succ]
          refine tkv 7 (some 12) (.pointer (some ⟨w.heap.size + 1, 0, none⟩)) rfl rfl (by kernel_rfl) (by kernel_rfl) (by kernel_rfl) (fun _ _ _ h => h) (by rfl) (fun w hSw => by (try dsimp only at hSw); go_simp) hHeld ?_
          simp only [Act.put, List.setIfInBounds_toArray, List.set_cons_zero, List.set_cons_succ]
          refine tkv 8 (some 13) (.int .u64 18442240474082181120) rfl rfl (by kernel_rfl) (by kernel_rfl) (by kernel_rfl) (fun _ _ _ h => h) (by rfl) (fun w hSw => by (try dsimp only at hSw); go_simp) hHeld ?_
          simp only [Act.put, List.setIfInBounds_toArray, List.set_cons_zero, List.set_cons_succ]
          refine tkv 9 (some 14) (.bool true) rfl rfl (by kernel_rfl) (by kernel_rfl) (by kernel_rfl) (fun _ _ _ h => h) (by rfl) (fun w hSw => by (try dsimp only at hSw); go_simp) hHeld ?_
          simp only [Act.put, List.setIfInBounds_toArray, List.set_cons_zero, List.set_cons_succ]
          refine tkv 10 (some 15) (.bool true) rfl rfl (by kernel_rfl) (by kernel_rfl) (by kernel_rfl) (fun _ _ _ h => h) (by rfl) (fun w hSw => by (try dsimp only at hSw); go_simp) hHeld ?_
          simp only [Act.put, List.setIfInBounds_toArray, List.set_cons_zero, List.set_cons_succ]
          refine tku 11 (some 16) rfl rfl (by kernel_rfl) (by kernel_rfl) (by kernel_rfl) (fun _ _ _ h => h) (by rfl) hHeld ?_
          simp only [Act.put, List.setIfInBounds_toArray, List.set_cons_zero, List.set_cons_succ]
          refine tku 12 (some 17) rfl rfl (by kernel_rfl) (by kernel_rfl) (by kernel_rfl) (fun _ _ _ h => h) (by rfl) hHeld ?_
          simp only [Act.put, List.setIfInBounds_toArray, List.set_cons_zero, List.set_cons_succ]
          refine tku 13 (some 18) rfl rfl (by kernel_rfl) (by kernel_rfl) (by kernel_rfl) (fun _ _ _ h => h) (by rfl) hHeld ?_
          simp only [Act.put, List.setIfInBounds_toArray, List.set_cons_zero, List.set_cons_succ]
          refine tku 14 (some 19) rfl rfl (by kernel_rfl) (by kernel_rfl) (by kernel_rfl) (fun _ _ _ h => h) (by rfl) hHeld ?_
          simp only [Act.put, List.setIfInBounds_toArray, List.set_cons_zero, List.set_cons_succ]
          refine tku 15 (some 20) rfl rfl (by kernel_rfl) (by kernel_rfl) (by kernel_rfl) (fun _ _ _ h => h) (by rfl) hHeld ?_
          simp only [Act.put, List.setIfInBounds_toArray, List.set_cons_zero, List.set_cons_succ]
          refine tku 16 (some 21) rfl rfl (by kernel_rfl) (by kernel_rfl) (by kernel_rfl) (fun _ _ _ h => h) (by rfl) hHeld ?_
          simp only [Act.put, List.setIfInBounds_toArray, List.set_cons_zero, List.set_cons_succ]
          refine tku 17 (some 22) rfl rfl (by kernel_rfl) (by kernel_rfl) (by kernel_rfl) (fun _ _ _ h => h) (by rfl) hHeld ?_
          simp only [Act.put, List.setIfInBounds_toArray, List.set_cons_zero, List.set_cons_succ]
          refine tkv 18 (some 23) (.bool true) rfl rfl (by kernel_rfl) (by kernel_rfl) (by kernel_rfl) (fun _ _ _ h => h) (by rfl) (fun w hSw => by (try dsimp only at hSw); rfl) hHeld ?_
          simp only [Act.put, List.setIfInBounds_toArray, List.set_cons_zero, List.set_cons_succ]
          refine tkv 19 (some 24) (.bool true) rfl rfl (by kernel_rfl) (by kernel_rfl) (by kernel_rfl) (fun _ _ _ h => h) (by rfl) (fun w hSw => by (try dsimp only at hSw); rfl) hHeld ?_
          simp only [Act.put, List.setIfInBounds_toArray, List.set_cons_zero, List.set_cons_succ]
          refine tkv 20 (some 25) (.bool true) rfl rfl (by kernel_rfl) (by kernel_rfl) (by kernel_rfl) (fun _ _ _ h => h) (by rfl) (fun w hSw => by (try dsimp only at hSw); rfl) hHeld ?_
          simp only [Act.put, List.setIfInBounds_toArray, List.set_cons_zero, List.set_cons_succ]
          refine tkv 21 (some 26) (.pointer (some ⟨w.heap.size + 1, 1, none⟩)) rfl rfl (by kernel_rfl) (by kernel_rfl) (by kernel_rfl) (fun _ _ _ h => h) (by rfl) (fun w hSw => by (try dsimp only at hSw); go_simp) hHeld ?_
          simp only [Act.put, List.setIfInBounds_toArray, List.set_cons_zero, List.set_cons_succ]
          refine tkv 22 (some 27) (.int .u64 s) rfl rfl (by kernel_rfl) (by kernel_rfl) (by kernel_rfl) (fun _ _ _ h => h) (by rfl) (fun w hSw => by (try dsimp only at hSw); go_simp) hHeld ?_
          simp only [Act.put, List.setIfInBounds_toArray, List.set_cons_zero, List.set_cons_succ]
          refine tkv 23 (some 28) (.bool false) rfl rfl (by kernel_rfl) (by kernel_rfl) (by kernel_rfl) (fun _ _ _ h => h) (by rfl) (fun w hSw => by (try dsimp only at hSw); go_simp) hHeld ?_
          simp only [Act.put, List.setIfInBounds_toArray, List.set_cons_zero, List.set_cons_succ]
          refine tkv 24 (some 29) (.bool false) rfl rfl (by kernel_rfl) (by kernel_rfl) (by kernel_rfl) (fun _ _ _ h => h) (by rfl) (fun w hSw => by (try dsimp only at hSw); go_simp) hHeld ?_
          simp only [Act.put, List.setIfInBounds_toArray, List.set_cons_zero, List.set_cons_succ]
          refine tkv 25 (some 30) (.pointer (some ⟨w.heap.size, 1, none⟩)) rfl rfl (by kernel_rfl) (by kernel_rfl) (by kernel_rfl) (fun _ _ _ h => h) (by rfl) (fun w hSw => by (try dsimp only at hSw); go_simp) hHeld ?_
          simp only [Act.put, List.setIfInBounds_toArray, List.set_cons_zero, List.set_cons_succ]
          refine tkv 26 (some 31) (.int .u64 q) rfl rfl (by kernel_rfl) (by kernel_rfl) (by kernel_rfl) (fun _ _ _ h => h) (by rfl) (fun w hSw => by (try dsimp only at hSw); go_simp) hHeld ?_
          simp only [Act.put, List.setIfInBounds_toArray, List.set_cons_zero, List.set_cons_succ]
          refine tkv 28 (some 33) (.pointer (some ⟨w.heap.size + 1, 1, none⟩)) rfl rfl (by kernel_rfl) (by kernel_rfl) (by kernel_rfl) (fun _ _ _ h => h) (by rfl) (fun w hSw => by (try dsimp only at hSw); go_simp) hHeld ?_
          simp only [Act.put, List.setIfInBounds_toArray, List.set_cons_zero, List.set_cons_succ]
          refine tkv 29 (some 34) (.int .u64 s) rfl rfl (by kernel_rfl) (by kernel_rfl) (by kernel_rfl) (fun _ _ _ h => h) (by rfl) (fun w hSw => by (try dsimp only at hSw); go_simp) hHeld ?_
          simp only [Act.put, List.setIfInBounds_toArray, List.set_cons_zero, List.set_cons_succ]
          refine wpAnyH_ready (rs := [27]) (by kernel_rfl) (by simp) ?_
          refine AllReadyH.cons rfl (fun K hK => ?_) AllReadyH.nil
          go_simp
          go_wp2_with (go_at_call 193; refine (HB _).out.mono ?_; rintro o w6 ⟨A6, C6, rfl, i6, b6⟩)
          refine hK.out _ _ (by first | (go_simp; done) | (dsimp only; go_simp)) (fun hHeld => ?_)
          clear hK K
          simp only [Act.put, List.setIfInBounds_toArray, List.set_cons_zero, List.set_cons_succ]
          refine wpAnyH_ready (rs := [30]) (by kernel_rfl) (by simp) ?_
          refine AllReadyH.cons rfl (fun K hK => ?_) AllReadyH.nil
          go_simp
          go_wp2_with (go_at_call 193; refine (HD _).out.mono ?_; rintro o w7 ⟨A7, C7, rfl, i7, b7⟩)
          refine hK.out _ _ (by first | (go_simp; done) | (dsimp only; go_simp)) (fun hHeld => ?_)
          clear hK K
          simp only [Act.put, List.setIfInBounds_toArray, List.set_cons_zero, List.set_cons_succ]
          refine wpAnyH_ready (rs := [31]) (by kernel_rfl) (by simp) ?_
          refine AllReadyH.cons rfl (fun K hK => ?_) AllReadyH.nil
          go_simp
          go_wp2_with (go_at_call 194; refine (HM _ _ _ _ _).out.mono ?_; rintro o w8 ⟨rfl, b8⟩)
          refine hK.out _ _ (by first | (go_simp; done) | (dsimp only; go_simp)) (fun hHeld => ?_)
          clear hK K
          simp only [Act.put, List.setIfInBounds_toArray, List.set_cons_zero, List.set_cons_succ]
          refine tkv 32 (some 37) (.bool k4) rfl rfl (by kernel_rfl) (by kernel_rfl) (by kernel_rfl) (fun _ _ _ h => h) (by rfl) (fun w hSw => by (try dsimp only at hSw); go_simp) hHeld ?_
          simp only [Act.put, List.setIfInBounds_toArray, List.set_cons_zero, List.set_cons_succ]
          refine tkv 33 (some 38) (.bool k4) rfl rfl (by kernel_rfl) (by kernel_rfl) (by kernel_rfl) (fun _ _ _ h => h) (by rfl) (fun w hSw => by (try dsimp only at hSw); go_simp) hHeld ?_
          simp only [Act.put, List.setIfInBounds_toArray, List.set_cons_zero, List.set_cons_succ]
          refine tkv 34 (some 4) (.bool k4) rfl rfl (by kernel_rfl) (by kernel_rfl) (by kernel_rfl) (fun _ _ _ h => h) (by rfl) (fun w hSw => by (try dsimp only at hSw); go_simp) hHeld ?_
          simp only [Act.put, List.setIfInBounds_toArray, List.set_cons_zero, List.set_cons_succ]
          refine wpAnyH_done (by kernel_rfl) ?_ _
          go_wp2_with fail
          go_ret
          exact ⟨rfl, zbh⟩
      · rw [h1]
        cases k3
        · skip
          go_enter Tryz.func96, Tryz.ntmps96
          go_wp2_with fail
          refine wp_region_held_drew (S := fun w' => w'.cell? ⟨w.heap.size, 0, none⟩ = some (.int .u64 p) ∧ w'.cell? ⟨w.heap.size, 1, none⟩ = some (.int .u64 q) ∧ w'.cell? ⟨w.heap.size + 1, 0, none⟩ = some (.int .u64 r) ∧ w'.cell? ⟨w.heap.size + 1, 1, none⟩ = some (.int .u64 s)) (by kernel_rfl) (by go_simp) (fun hHeld => ?_)
          simp only [List.size_toArray, List.length_cons, List.length_nil, Nat.reduceAdd, Array.replicate_succ, Array.replicate_zero, List.push_toArray, List.append_toArray, List.nil_append, List.cons_append]
          refine tkv 0 (some 5) (.agg #[.int .u64 p, .int .u64 q]) rfl rfl (by kernel_rfl) (by kernel_rfl) (by kernel_rfl) (fun _ _ _ h => h) (by rfl) (fun w hSw => by (try dsimp only at hSw); go_simp) hHeld ?_
          simp only [Act.put, List.setIfInBounds_toArray, List.set_cons_zero, List.set_cons_succ]
          refine wpAnyH_ready (rs := [1]) (by kernel_rfl) (by simp) ?_
          refine AllReadyH.cons rfl (fun K hK => ?_) AllReadyH.nil
          go_simp
          go_wp2_with (go_at_call 106; refine (H1 _).out.mono ?_; rintro o w1 ⟨rfl, b1⟩)
          refine hK.out _ _ (by first | (go_simp; done) | (dsimp only; go_simp)) (fun hHeld => ?_)
          clear hK K
          simp only [Act.put, List.setIfInBounds_toArray, List.set_cons_zero, List.set_cons_succ]
          refine tkv 2 (some 7) (.bool true) rfl rfl (by kernel_rfl) (by kernel_rfl) (by kernel_rfl) (fun _ _ _ h => h) (by rfl) (fun w hSw => by (try dsimp only at hSw); rfl) hHeld ?_
          simp only [Act.put, List.setIfInBounds_toArray, List.set_cons_zero, List.set_cons_succ]
          refine tkv 3 (some 8) (.agg #[.int .u64 r, .int .u64 s]) rfl rfl (by kernel_rfl) (by kernel_rfl) (by kernel_rfl) (fun _ _ _ h => h) (by rfl) (fun w hSw => by (try dsimp only at hSw); go_simp) hHeld ?_
          simp only [Act.put, List.setIfInBounds_toArray, List.set_cons_zero, List.set_cons_succ]
          refine wpAnyH_ready (rs := [4]) (by kernel_rfl) (by simp) ?_
          refine AllReadyH.cons rfl (fun K hK => ?_) AllReadyH.nil
          go_simp
          go_wp2_with (go_at_call 106; refine (H2 _).out.mono ?_; rintro o w2 ⟨rfl, b2⟩)
          refine hK.out _ _ (by first | (go_simp; done) | (dsimp only; go_simp)) (fun hHeld => ?_)
          clear hK K
          simp only [Act.put, List.setIfInBounds_toArray, List.set_cons_zero, List.set_cons_succ]
          refine tkv 5 (some 10) (.bool true) rfl rfl (by kernel_rfl) (by kernel_rfl) (by kernel_rfl) (fun _ _ _ h => h) (by rfl) (fun w hSw => by (try dsimp only at hSw); rfl) hHeld ?_
          simp only [Act.put, List.setIfInBounds_toArray, List.set_cons_zero, List.set_cons_succ]
          refine tkv 6 (some 11) (.bool true) rfl rfl (by kernel_rfl) (by kernel_rfl) (by kernel_rfl) (fun _ _ _ h => h) (by rfl) (fun w hSw => by (try dsimp only at hSw); rfl) hHeld ?_
          simp only [Act.put, List.setIfInBounds_toArray, List.set_cons_zero, List.set_cons_succ]
          refine tkv 7 (some 12) (.pointer (some ⟨w.heap.size + 1, 0, none⟩)) rfl rfl (by kernel_rfl) (by kernel_rfl) (by kernel_rfl) (fun _ _ _ h => h) (by rfl) (fun w hSw => by (try dsimp only at hSw); go_simp) hHeld ?_
          simp only [Act.put, List.setIfInBounds_toArray, List.set_cons_zero, List.set_cons_succ]
          refine tkv 8 (some 13) (.int .u64 r) rfl rfl (by kernel_rfl) (by kernel_rfl) (by kernel_rfl) (fun _ _ _ h => h) (by rfl) (fun w hSw => by (try dsimp only at hSw); go_simp) hHeld ?_
          simp only [Act.put, List.setIfInBounds_toArray, List.set_cons_zero, List.set_cons_succ]
          refine tkv 9 (some 14) (.bool false) rfl rfl (by kernel_rfl) (by kernel_rfl) (by kernel_rfl) (fun _ _ _ h => h) (by rfl) (fun w hSw => by (try dsimp only at hSw); go_simp) hHeld ?_
          simp only [Act.put, List.setIfInBounds_toArray, List.set_cons_zero, List.set_cons_succ]
          refine tkv 10 (some 15) (.bool false) rfl rfl (by kernel_rfl) (by kernel_rfl) (by kernel_rfl) (fun _ _ _ h => h) (by rfl) (fun w hSw => by (try dsimp only at hSw); go_simp) hHeld ?_
          simp only [Act.put, List.setIfInBounds_toArray, List.set_cons_zero, List.set_cons_succ]
          refine tkv 11 (some 16) (.pointer (some ⟨w.heap.size + 1, 0, none⟩)) rfl rfl (by kernel_rfl) (by kernel_rfl) (by kernel_rfl) (fun _ _ _ h => h) (by rfl) (fun w hSw => by (try dsimp only at hSw); go_simp) hHeld ?_
          simp only [Act.put, List.setIfInBounds_toArray, List.set_cons_zero, List.set_cons_succ]
          refine tkv 12 (some 17) (.int .u64 r) rfl rfl (by kernel_rfl) (by kernel_rfl) (by kernel_rfl) (fun _ _ _ h => h) (by rfl) (fun w hSw => by (try dsimp only at hSw); go_simp) hHeld ?_
          simp only [Act.put, List.setIfInBounds_toArray, List.set_cons_zero, List.set_cons_succ]
          refine tkv 14 (some 19) (.pointer (some ⟨w.heap.size, 0, none⟩)) rfl rfl (by kernel_rfl) (by kernel_rfl) (by kernel_rfl) (fun _ _ _ h => h) (by rfl) (fun w hSw => by (try dsimp only at hSw); go_simp) hHeld ?_
          simp only [Act.put, List.setIfInBounds_toArray, List.set_cons_zero, List.set_cons_succ]
          refine tkv 15 (some 20) (.int .u64 p) rfl rfl (by kernel_rfl) (by kernel_rfl) (by kernel_rfl) (fun _ _ _ h => h) (by rfl) (fun w hSw => by (try dsimp only at hSw); go_simp) hHeld ?_
          simp only [Act.put, List.setIfInBounds_toArray, List.set_cons_zero, List.set_cons_succ]
          refine wpAnyH_ready (rs := [13]) (by kernel_rfl) (by simp) ?_
          refine AllReadyH.cons rfl (fun K hK => ?_) AllReadyH.nil
          go_simp
          go_wp2_with (go_at_call 193; refine (HC _).out.mono ?_; rintro o w3 ⟨A3, C3, rfl, i3, b3⟩)
          refine hK.out _ _ (by first | (go_simp; done) | (dsimp only; go_simp)) (fun hHeld => ?_)
          clear hK K
          simp only [Act.put, List.setIfInBounds_toArray, List.set_cons_zero, List.set_cons_succ]
          refine wpAnyH_ready (rs := [16]) (by kernel_rfl) (by simp) ?_
          refine AllReadyH.cons rfl (fun K hK => ?_) AllReadyH.nil
          go_simp
          go_wp2_with (go_at_call 193; refine (HA _).out.mono ?_; rintro o w4 ⟨A4, C4, rfl, i4, b4⟩)
          refine hK.out _ _ (by first | (go_simp; done) | (dsimp only; go_simp)) (fun hHeld => ?_)
          clear hK K
          simp only [Act.put, List.setIfInBounds_toArray, List.set_cons_zero, List.set_cons_succ]
          refine wpAnyH_ready (rs := [17]) (by kernel_rfl) (by simp) ?_
          refine AllReadyH.cons rfl (fun K hK => ?_) AllReadyH.nil
          go_simp
          go_wp2_with (go_at_call 194; refine (HL _ _ _ _ _).out.mono ?_; rintro o w5 ⟨rfl, b5⟩)
          refine hK.out _ _ (by first | (go_simp; done) | (dsimp only; go_simp)) (fun hHeld => ?_)
          clear hK K
          simp only [Act.put, List.setIfInBounds_toArray, List.set_cons_zero, List.set_cons_succ]
          refine tkv 18 (some 23) (.bool false) rfl rfl (by kernel_rfl) (by kernel_rfl) (by kernel_rfl) (fun _ _ _ h => h) (by rfl) (fun w hSw => by (try dsimp only at hSw); go_simp) hHeld ?_
          simp only [Act.put, List.setIfInBounds_toArray, List.set_cons_zero, List.set_cons_succ]
          refine tkv 19 (some 24) (.bool false) rfl rfl (by kernel_rfl) (by kernel_rfl) (by kernel_rfl) (fun _ _ _ h => h) (by rfl) (fun w hSw => by (try dsimp only at hSw); go_simp) hHeld ?_
          simp only [Act.put, List.setIfInBounds_toArray, List.set_cons_zero, List.set_cons_succ]
          refine tkv 20 (some 25) (.bool false) rfl rfl (by kernel_rfl) (by kernel_rfl) (by kernel_rfl) (fun _ _ _ h => h) (by rfl) (fun w hSw => by (try dsimp only at hSw); go_simp) hHeld ?_
          simp only [Act.put, List.setIfInBounds_toArray, List.set_cons_zero, List.set_cons_succ]
          refine tku 21 (some 26) rfl rfl (by kernel_rfl) (by kernel_rfl) (by kernel_rfl) (fun _ _ _ h => h) (by rfl) hHeld ?_
          simp only [Act.put, List.setIfInBounds_toArray, List.set_cons_zero, List.set_cons_succ]
          refine tku 22 (some 27) rfl rfl (by kernel_rfl) (by kernel_rfl) (by kernel_rfl) (fun _ _ _ h => h) (by rfl) hHeld ?_
          simp only [Act.put, List.setIfInBounds_toArray, List.set_cons_zero, List.set_cons_succ]
          refine tku 23 (some 28) rfl rfl (by kernel_rfl) (by kernel_rfl) (by kernel_rfl) (fun _ _ _ h => h) (by rfl) hHeld ?_
          simp only [Act.put, List.setIfInBounds_toArray, List.set_cons_zero, List.set_cons_succ]
          refine tku 24 (some 29) rfl rfl (by kernel_rfl) (by kernel_rfl) (by kernel_rfl) (fun _ _ _ h => h) (by rfl) hHeld ?_
          simp only [Act.put, List.setIfInBounds_toArray, List.set_cons_zero, List.set_cons_succ]
          refine tku 25 (some 30) rfl rfl (by kernel_rfl) (by kernel_rfl) (by kernel_rfl) (fun _ _ _ h => h) (by rfl) hHeld ?_
          simp only [Act.put, List.setIfInBounds_toArray, List.set_cons_zero, List.set_cons_succ]
          refine tku 26 (some 31) rfl rfl (by kernel_rfl) (by kernel_rfl) (by kernel_rfl) (fun _ _ _ h => h) (by rfl) hHeld ?_
          simp only [Act.put, List.setIfInBounds_toArray, List.set_cons_zero, List.set_cons_succ]
          refine tku 27 (some 32) rfl rfl (by kernel_rfl) (by kernel_rfl) (by kernel_rfl) (fun _ _ _ h => h) (by rfl) hHeld ?_
          simp only [Act.put, List.setIfInBounds_toArray, List.set_cons_zero, List.set_cons_succ]
          refine tku 28 (some 33) rfl rfl (by kernel_rfl) (by kernel_rfl) (by kernel_rfl) (fun _ _ _ h => h) (by rfl) hHeld ?_
          simp only [Act.put, List.setIfInBounds_toArray, List.set_cons_zero, List.set_cons_succ]
          refine tku 29 (some 34) rfl rfl (by kernel_rfl) (by kernel_rfl) (by kernel_rfl) (fun _ _ _ h => h) (by rfl) hHeld ?_
          simp only [Act.put, List.setIfInBounds_toArray, List.set_cons_zero, List.set_cons_succ]
          refine tku 30 (some 35) rfl rfl (by kernel_rfl) (by kernel_rfl) (by kernel_rfl) (fun _ _ _ h => h) (by rfl) hHeld ?_
          simp only [Act.put, List.setIfInBounds_toArray, List.set_cons_zero, List.set_cons_succ]
          refine tku 31 (some 36) rfl rfl (by kernel_rfl) (by kernel_rfl) (by kernel_rfl) (fun _ _ _ h => h) (by rfl) hHeld ?_
          simp only [Act.put, List.setIfInBounds_toArray, List.set_cons_zero, List.set_cons_succ]
          refine tku 32 (some 37) rfl rfl (by kernel_rfl) (by kernel_rfl) (by kernel_rfl) (fun _ _ _ h => h) (by rfl) hHeld ?_
          simp only [Act.put, List.setIfInBounds_toArray, List.set_cons_zero, List.set_cons_succ]
          refine tkv 33 (some 38) (.bool false) rfl rfl (by kernel_rfl) (by kernel_rfl) (by kernel_rfl) (fun _ _ _ h => h) (by rfl) (fun w hSw => by (try dsimp only at hSw); rfl) hHeld ?_
          simp only [Act.put, List.setIfInBounds_toArray, List.set_cons_zero, List.set_cons_succ]
          refine tkv 34 (some 4) (.bool false) rfl rfl (by kernel_rfl) (by kernel_rfl) (by kernel_rfl) (fun _ _ _ h => h) (by rfl) (fun w hSw => by (try dsimp only at hSw); rfl) hHeld ?_
          simp only [Act.put, List.setIfInBounds_toArray, List.set_cons_zero, List.set_cons_succ]
          refine wpAnyH_done (by kernel_rfl) ?_ _
          go_wp2_with fail
          go_ret
          exact ⟨rfl, zbh⟩
        · rcases two_ways (s == 9218868437227405312) with h2 | h2
          · obtain rfl := eq_of_beq h2
            go_enter Tryz.func96, Tryz.ntmps96
            go_wp2_with fail
            refine wp_region_held_drew (S := fun w' => w'.cell? ⟨w.heap.size, 0, none⟩ = some (.int .u64 p) ∧ w'.cell? ⟨w.heap.size, 1, none⟩ = some (.int .u64 q) ∧ w'.cell? ⟨w.heap.size + 1, 0, none⟩ = some (.int .u64 r) ∧ w'.cell? ⟨w.heap.size + 1, 1, none⟩ = some (.int .u64 9218868437227405312)) (by kernel_rfl) (by go_simp) (fun hHeld => ?_)
            simp only [List.size_toArray, List.length_cons, List.length_nil, Nat.reduceAdd, Array.replicate_succ, Array.replicate_zero, List.push_toArray, List.append_toArray, List.nil_append, List.cons_append]
            refine tkv 0 (some 5) (.agg #[.int .u64 p, .int .u64 q]) rfl rfl (by kernel_rfl) (by kernel_rfl) (by kernel_rfl) (fun _ _ _ h => h) (by rfl) (fun w hSw => by (try dsimp only at hSw); go_simp) hHeld ?_
            simp only [Act.put, List.setIfInBounds_toArray, List.set_cons_zero, List.set_cons_succ]
            refine wpAnyH_ready (rs := [1]) (by kernel_rfl) (by simp) ?_
            refine AllReadyH.cons rfl (fun K hK => ?_) AllReadyH.nil
            go_simp
            go_wp2_with (go_at_call 106; refine (H1 _).out.mono ?_; rintro o w1 ⟨rfl, b1⟩)
            refine hK.out _ _ (by first | (go_simp; done) | (dsimp only; go_simp)) (fun hHeld => ?_)
            clear hK K
            simp only [Act.put, List.setIfInBounds_toArray, List.set_cons_zero, List.set_cons_succ]
            refine tkv 2 (some 7) (.bool true) rfl rfl (by kernel_rfl) (by kernel_rfl) (by kernel_rfl) (fun _ _ _ h => h) (by rfl) (fun w hSw => by (try dsimp only at hSw); rfl) hHeld ?_
            simp only [Act.put, List.setIfInBounds_toArray, List.set_cons_zero, List.set_cons_succ]
            refine tkv 3 (some 8) (.agg #[.int .u64 r, .int .u64 9218868437227405312]) rfl rfl (by kernel_rfl) (by kernel_rfl) (by kernel_rfl) (fun _ _ _ h => h) (by rfl) (fun w hSw => by (try dsimp only at hSw); go_simp) hHeld ?_
            simp only [Act.put, List.setIfInBounds_toArray, List.set_cons_zero, List.set_cons_succ]
            refine wpAnyH_ready (rs := [4]) (by kernel_rfl) (by simp) ?_
            refine AllReadyH.cons rfl (fun K hK => ?_) AllReadyH.nil
            go_simp
            go_wp2_with (go_at_call 106; refine (H2 _).out.mono ?_; rintro o w2 ⟨rfl, b2⟩)
            refine hK.out _ _ (by first | (go_simp; done) | (dsimp only; go_simp)) (fun hHeld => ?_)
            clear hK K
            simp only [Act.put, List.setIfInBounds_toArray, List.set_cons_zero, List.set_cons_succ]
            refine tkv 5 (some 10) (.bool true) rfl rfl (by kernel_rfl) (by kernel_rfl) (by kernel_rfl) (fun _ _ _ h => h) (by rfl) (fun w hSw => by (try dsimp only at hSw); rfl) hHeld ?_
            simp only [Act.put, List.setIfInBounds_toArray, List.set_cons_zero, List.set_cons_succ]
            refine tkv 6 (some 11) (.bool true) rfl rfl (by kernel_rfl) (by kernel_rfl) (by kernel_rfl) (fun _ _ _ h => h) (by rfl) (fun w hSw => by (try dsimp only at hSw); rfl) hHeld ?_
            simp only [Act.put, List.setIfInBounds_toArray, List.set_cons_zero, List.set_cons_succ]
            refine tkv 7 (some 12) (.pointer (some ⟨w.heap.size + 1, 0, none⟩)) rfl rfl (by kernel_rfl) (by kernel_rfl) (by kernel_rfl) (fun _ _ _ h => h) (by rfl) (fun w hSw => by (try dsimp only at hSw); go_simp) hHeld ?_
            simp only [Act.put, List.setIfInBounds_toArray, List.set_cons_zero, List.set_cons_succ]
            refine tkv 8 (some 13) (.int .u64 r) rfl rfl (by kernel_rfl) (by kernel_rfl) (by kernel_rfl) (fun _ _ _ h => h) (by rfl) (fun w hSw => by (try dsimp only at hSw); go_simp) hHeld ?_
            simp only [Act.put, List.setIfInBounds_toArray, List.set_cons_zero, List.set_cons_succ]
            refine tkv 9 (some 14) (.bool false) rfl rfl (by kernel_rfl) (by kernel_rfl) (by kernel_rfl) (fun _ _ _ h => h) (by rfl) (fun w hSw => by (try dsimp only at hSw); go_simp) hHeld ?_
            simp only [Act.put, List.setIfInBounds_toArray, List.set_cons_zero, List.set_cons_succ]
            refine tkv 10 (some 15) (.bool false) rfl rfl (by kernel_rfl) (by kernel_rfl) (by kernel_rfl) (fun _ _ _ h => h) (by rfl) (fun w hSw => by (try dsimp only at hSw); go_simp) hHeld ?_
            simp only [Act.put, List.setIfInBounds_toArray, List.set_cons_zero, List.set_cons_succ]
            refine tkv 11 (some 16) (.pointer (some ⟨w.heap.size + 1, 0, none⟩)) rfl rfl (by kernel_rfl) (by kernel_rfl) (by kernel_rfl) (fun _ _ _ h => h) (by rfl) (fun w hSw => by (try dsimp only at hSw); go_simp) hHeld ?_
            simp only [Act.put, List.setIfInBounds_toArray, List.set_cons_zero, List.set_cons_succ]
            refine tkv 12 (some 17) (.int .u64 r) rfl rfl (by kernel_rfl) (by kernel_rfl) (by kernel_rfl) (fun _ _ _ h => h) (by rfl) (fun w hSw => by (try dsimp only at hSw); go_simp) hHeld ?_
            simp only [Act.put, List.setIfInBounds_toArray, List.set_cons_zero, List.set_cons_succ]
            refine tkv 14 (some 19) (.pointer (some ⟨w.heap.size, 0, none⟩)) rfl rfl (by kernel_rfl) (by kernel_rfl) (by kernel_rfl) (fun _ _ _ h => h) (by rfl) (fun w hSw => by (try dsimp only at hSw); go_simp) hHeld ?_
            simp only [Act.put, List.setIfInBounds_toArray, List.set_cons_zero, List.set_cons_succ]
            refine tkv 15 (some 20) (.int .u64 p) rfl rfl (by kernel_rfl) (by kernel_rfl) (by kernel_rfl) (fun _ _ _ h => h) (by rfl) (fun w hSw => by (try dsimp only at hSw); go_simp) hHeld ?_
            simp only [Act.put, List.setIfInBounds_toArray, List.set_cons_zero, List.set_cons_succ]
            refine wpAnyH_ready (rs := [13]) (by kernel_rfl) (by simp) ?_
            refine AllReadyH.cons rfl (fun K hK => ?_) AllReadyH.nil
            go_simp
            go_wp2_with (go_at_call 193; refine (HC _).out.mono ?_; rintro o w3 ⟨A3, C3, rfl, i3, b3⟩)
            refine hK.out _ _ (by first | (go_simp; done) | (dsimp only; go_simp)) (fun hHeld => ?_)
            clear hK K
            simp only [Act.put, List.setIfInBounds_toArray, List.set_cons_zero, List.set_cons_succ]
            refine wpAnyH_ready (rs := [16]) (by kernel_rfl) (by simp) ?_
            refine AllReadyH.cons rfl (fun K hK => ?_) AllReadyH.nil
            go_simp
            go_wp2_with (go_at_call 193; refine (HA _).out.mono ?_; rintro o w4 ⟨A4, C4, rfl, i4, b4⟩)
            refine hK.out _ _ (by first | (go_simp; done) | (dsimp only; go_simp)) (fun hHeld => ?_)
            clear hK K
            simp only [Act.put, List.setIfInBounds_toArray, List.set_cons_zero, List.set_cons_succ]
            refine wpAnyH_ready (rs := [17]) (by kernel_rfl) (by simp) ?_
            refine AllReadyH.cons rfl (fun K hK => ?_) AllReadyH.nil
            go_simp
            go_wp2_with (go_at_call 194; refine (HL _ _ _ _ _).out.mono ?_; rintro o w5 ⟨rfl, b5⟩)
            refine hK.out _ _ (by first | (go_simp; done) | (dsimp only; go_simp)) (fun hHeld => ?_)
            clear hK K
            simp only [Act.put, List.setIfInBounds_toArray, List.set_cons_zero, List.set_cons_succ]
            refine tkv 18 (some 23) (.bool true) rfl rfl (by kernel_rfl) (by kernel_rfl) (by kernel_rfl) (fun _ _ _ h => h) (by rfl) (fun w hSw => by (try dsimp only at hSw); go_simp) hHeld ?_
            simp only [Act.put, List.setIfInBounds_toArray, List.set_cons_zero, List.set_cons_succ]
            refine tkv 19 (some 24) (.bool true) rfl rfl (by kernel_rfl) (by kernel_rfl) (by kernel_rfl) (fun _ _ _ h => h) (by rfl) (fun w hSw => by (try dsimp only at hSw); go_simp) hHeld ?_
            simp only [Act.put, List.setIfInBounds_toArray, List.set_cons_zero, List.set_cons_succ]
            refine tkv 20 (some 25) (.bool true) rfl rfl (by kernel_rfl) (by kernel_rfl) (by kernel_rfl) (fun _ _ _ h => h) (by rfl) (fun w hSw => by (try dsimp only at hSw); go_simp) hHeld ?_
            simp only [Act.put, List.setIfInBounds_toArray, List.set_cons_zero, List.set_cons_succ]
            refine tkv 21 (some 26) (.pointer (some ⟨w.heap.size + 1, 1, none⟩)) rfl rfl (by kernel_rfl) (by kernel_rfl) (by kernel_rfl) (fun _ _ _ h => h) (by rfl) (fun w hSw => by (try dsimp only at hSw); go_simp) hHeld ?_
            simp only [Act.put, List.setIfInBounds_toArray, List.set_cons_zero, List.set_cons_succ]
            refine tkv 22 (some 27) (.int .u64 9218868437227405312) rfl rfl (by kernel_rfl) (by kernel_rfl) (by kernel_rfl) (fun _ _ _ h => h) (by rfl) (fun w hSw => by (try dsimp only at hSw); go_simp) hHeld ?_
            simp only [Act.put, List.setIfInBounds_toArray, List.set_cons_zero, List.set_cons_succ]
            refine tkv 23 (some 28) (.bool true) rfl rfl (by kernel_rfl) (by kernel_rfl) (by kernel_rfl) (fun _ _ _ h => h) (by rfl) (fun w hSw => by (try dsimp only at hSw); go_simp) hHeld ?_
            simp only [Act.put, List.setIfInBounds_toArray, List.set_cons_zero, List.set_cons_succ]
            refine tkv 24 (some 29) (.bool true) rfl rfl (by kernel_rfl) (by kernel_rfl) (by kernel_rfl) (fun _ _ _ h => h) (by rfl) (fun w hSw => by (try dsimp only at hSw); go_simp) hHeld ?_
            simp only [Act.put, List.setIfInBounds_toArray, List.set_cons_zero, List.set_cons_succ]
            refine tku 25 (some 30) rfl rfl (by kernel_rfl) (by kernel_rfl) (by kernel_rfl) (fun _ _ _ h => h) (by rfl) hHeld ?_
            simp only [Act.put, List.setIfInBounds_toArray, List.set_cons_zero, List.set_cons_succ]
            refine tku 26 (some 31) rfl rfl (by kernel_rfl) (by kernel_rfl) (by kernel_rfl) (fun _ _ _ h => h) (by rfl) hHeld ?_
            simp only [Act.put, List.setIfInBounds_toArray, List.set_cons_zero, List.set_cons_succ]
            refine tku 27 (some 32) rfl rfl (by kernel_rfl) (by kernel_rfl) (by kernel_rfl) (fun _ _ _ h => h) (by rfl) hHeld ?_
            simp only [Act.put, List.setIfInBounds_toArray, List.set_cons_zero, List.set_cons_succ]
            refine tku 28 (some 33) rfl rfl (by kernel_rfl) (by kernel_rfl) (by kernel_rfl) (fun _ _ _ h => h) (by rfl) hHeld ?_
            simp only [Act.put, List.setIfInBounds_toArray, List.set_cons_zero, List.set_cons_succ]
            refine tku 29 (some 34) rfl rfl (by kernel_rfl) (by kernel_rfl) (by kernel_rfl) (fun _ _ _ h => h) (by rfl) hHeld ?_
            simp only [Act.put, List.setIfInBounds_toArray, List.set_cons_zero, List.set_cons_succ]
            refine tku 30 (some 35) rfl rfl (by kernel_rfl) (by kernel_rfl) (by kernel_rfl) (fun _ _ _ h => h) (by rfl) hHeld ?_
            simp only [Act.put, List.setIfInBounds_toArray, List.set_cons_zero, List.set_cons_succ]
            refine tku 31 (some 36) rfl rfl (by kernel_rfl) (by kernel_rfl) (by kernel_rfl) (fun _ _ _ h => h) (by rfl) hHeld ?_
            simp only [Act.put, List.setIfInBounds_toArray, List.set_cons_zero, List.set_cons_succ]
            refine tkv 32 (some 37) (.bool true) rfl rfl (by kernel_rfl) (by kernel_rfl) (by kernel_rfl) (fun _ _ _ h => h) (by rfl) (fun w hSw => by (try dsimp only at hSw); rfl) hHeld ?_
            simp only [Act.put, List.setIfInBounds_toArray, List.set_cons_zero, List.set_cons_succ]
            refine tkv 33 (some 38) (.bool true) rfl rfl (by kernel_rfl) (by kernel_rfl) (by kernel_rfl) (fun _ _ _ h => h) (by rfl) (fun w hSw => by (try dsimp only at hSw); rfl) hHeld ?_
            simp only [Act.put, List.setIfInBounds_toArray, List.set_cons_zero, List.set_cons_succ]
            refine tkv 34 (some 4) (.bool true) rfl rfl (by kernel_rfl) (by kernel_rfl) (by kernel_rfl) (fun _ _ _ h => h) (by rfl) (fun w hSw => by (try dsimp only at hSw); rfl) hHeld ?_
            simp only [Act.put, List.setIfInBounds_toArray, List.set_cons_zero, List.set_cons_succ]
            refine wpAnyH_done (by kernel_rfl) ?_ _
            go_wp2_with fail
            go_ret
            exact ⟨rfl, zbh⟩
          · rw [h2]
            go_enter Tryz.func96, Tryz.ntmps96
            go_wp2_with fail
            refine wp_region_held_drew (S := fun w' => w'.cell? ⟨w.heap.size, 0, none⟩ = some (.int .u64 p) ∧ w'.cell? ⟨w.heap.size, 1, none⟩ = some (.int .u64 q) ∧ w'.cell? ⟨w.heap.size + 1, 0, none⟩ = some (.int .u64 r) ∧ w'.cell? ⟨w.heap.size + 1, 1, none⟩ = some (.int .u64 s)) (by kernel_rfl) (by go_simp) (fun hHeld => ?_)
            simp only [List.size_toArray, List.length_cons, List.length_nil, Nat.reduceAdd, Array.replicate_succ, Array.replicate_zero, List.push_toArray, List.append_toArray, List.nil_append, List.cons_append]
            refine tkv 0 (some 5) (.agg #[.int .u64 p, .int .u64 q]) rfl rfl (by kernel_rfl) (by kernel_rfl) (by kernel_rfl) (fun _ _ _ h => h) (by rfl) (fun w hSw => by (try dsimp only at hSw); go_simp) hHeld ?_
            simp only [Act.put, List.setIfInBounds_toArray, List.set_cons_zero, List.set_cons_succ]
            refine wpAnyH_ready (rs := [1]) (by kernel_rfl) (by simp) ?_
            refine AllReadyH.cons rfl (fun K hK => ?_) AllReadyH.nil
            go_simp
            go_wp2_with (go_at_call 106; refine (H1 _).out.mono ?_; rintro o w1 ⟨rfl, b1⟩)
            refine hK.out _ _ (by first | (go_simp; done) | (dsimp only; go_simp)) (fun hHeld => ?_)
            clear hK K
            simp only [Act.put, List.setIfInBounds_toArray, List.set_cons_zero, List.set_cons_succ]
            refine tkv 2 (some 7) (.bool true) rfl rfl (by kernel_rfl) (by kernel_rfl) (by kernel_rfl) (fun _ _ _ h => h) (by rfl) (fun w hSw => by (try dsimp only at hSw); rfl) hHeld ?_
            simp only [Act.put, List.setIfInBounds_toArray, List.set_cons_zero, List.set_cons_succ]
            refine tkv 3 (some 8) (.agg #[.int .u64 r, .int .u64 s]) rfl rfl (by kernel_rfl) (by kernel_rfl) (by kernel_rfl) (fun _ _ _ h => h) (by rfl) (fun w hSw => by (try dsimp only at hSw); go_simp) hHeld ?_
            simp only [Act.put, List.setIfInBounds_toArray, List.set_cons_zero, List.set_cons_succ]
            refine wpAnyH_ready (rs := [4]) (by kernel_rfl) (by simp) ?_
            refine AllReadyH.cons rfl (fun K hK => ?_) AllReadyH.nil
            go_simp
            go_wp2_with (go_at_call 106; refine (H2 _).out.mono ?_; rintro o w2 ⟨rfl, b2⟩)
            refine hK.out _ _ (by first | (go_simp; done) | (dsimp only; go_simp)) (fun hHeld => ?_)
            clear hK K
            simp only [Act.put, List.setIfInBounds_toArray, List.set_cons_zero, List.set_cons_succ]
            refine tkv 5 (some 10) (.bool true) rfl rfl (by kernel_rfl) (by kernel_rfl) (by kernel_rfl) (fun _ _ _ h => h) (by rfl) (fun w hSw => by (try dsimp only at hSw); rfl) hHeld ?_
            simp only [Act.put, List.setIfInBounds_toArray, List.set_cons_zero, List.set_cons_succ]
            refine tkv 6 (some 11) (.bool true) rfl rfl (by kernel_rfl) (by kernel_rfl) (by kernel_rfl) (fun _ _ _ h => h) (by rfl) (fun w hSw => by (try dsimp only at hSw); rfl) hHeld ?_
            simp only [Act.put, List.setIfInBounds_toArray, List.set_cons_zero, List.set_cons_succ]
            refine tkv 7 (some 12) (.pointer (some ⟨w.heap.size + 1, 0, none⟩)) rfl rfl (by kernel_rfl) (by kernel_rfl) (by kernel_rfl) (fun _ _ _ h => h) (by rfl) (fun w hSw => by (try dsimp only at hSw); go_simp) hHeld ?_
            simp only [Act.put, List.setIfInBounds_toArray, List.set_cons_zero, List.set_cons_succ]
            refine tkv 8 (some 13) (.int .u64 r) rfl rfl (by kernel_rfl) (by kernel_rfl) (by kernel_rfl) (fun _ _ _ h => h) (by rfl) (fun w hSw => by (try dsimp only at hSw); go_simp) hHeld ?_
            simp only [Act.put, List.setIfInBounds_toArray, List.set_cons_zero, List.set_cons_succ]
            refine tkv 9 (some 14) (.bool false) rfl rfl (by kernel_rfl) (by kernel_rfl) (by kernel_rfl) (fun _ _ _ h => h) (by rfl) (fun w hSw => by (try dsimp only at hSw); go_simp) hHeld ?_
            simp only [Act.put, List.setIfInBounds_toArray, List.set_cons_zero, List.set_cons_succ]
            refine tkv 10 (some 15) (.bool false) rfl rfl (by kernel_rfl) (by kernel_rfl) (by kernel_rfl) (fun _ _ _ h => h) (by rfl) (fun w hSw => by (try dsimp only at hSw); go_simp) hHeld ?_
            simp only [Act.put, List.setIfInBounds_toArray, List.set_cons_zero, List.set_cons_succ]
            refine tkv 11 (some 16) (.pointer (some ⟨w.heap.size + 1, 0, none⟩)) rfl rfl (by kernel_rfl) (by kernel_rfl) (by kernel_rfl) (fun _ _ _ h => h) (by rfl) (fun w hSw => by (try dsimp only at hSw); go_simp) hHeld ?_
            simp only [Act.put, List.setIfInBounds_toArray, List.set_cons_zero, List.set_cons_succ]
            refine tkv 12 (some 17) (.int .u64 r) rfl rfl (by kernel_rfl) (by kernel_rfl) (by kernel_rfl) (fun _ _ _ h => h) (by rfl) (fun w hSw => by (try dsimp only at hSw); go_simp) hHeld ?_
            simp only [Act.put, List.setIfInBounds_toArray, List.set_cons_zero, List.set_cons_succ]
            refine tkv 14 (some 19) (.pointer (some ⟨w.heap.size, 0, none⟩)) rfl rfl (by kernel_rfl) (by kernel_rfl) (by kernel_rfl) (fun _ _ _ h => h) (by rfl) (fun w hSw => by (try dsimp only at hSw); go_simp) hHeld ?_
            simp only [Act.put, List.setIfInBounds_toArray, List.set_cons_zero, List.set_cons_succ]
            refine tkv 15 (some 20) (.int .u64 p) rfl rfl (by kernel_rfl) (by kernel_rfl) (by kernel_rfl) (fun _ _ _ h => h) (by rfl) (fun w hSw => by (try dsimp only at hSw); go_simp) hHeld ?_
            simp only [Act.put, List.setIfInBounds_toArray, List.set_cons_zero, List.set_cons_succ]
            refine wpAnyH_ready (rs := [13]) (by kernel_rfl) (by simp) ?_
            refine AllReadyH.cons rfl (fun K hK => ?_) AllReadyH.nil
            go_simp
            go_wp2_with (go_at_call 193; refine (HC _).out.mono ?_; rintro o w3 ⟨A3, C3, rfl, i3, b3⟩)
            refine hK.out _ _ (by first | (go_simp; done) | (dsimp only; go_simp)) (fun hHeld => ?_)
            clear hK K
            simp only [Act.put, List.setIfInBounds_toArray, List.set_cons_zero, List.set_cons_succ]
            refine wpAnyH_ready (rs := [16]) (by kernel_rfl) (by simp) ?_
            refine AllReadyH.cons rfl (fun K hK => ?_) AllReadyH.nil
            go_simp
            go_wp2_with (go_at_call 193; refine (HA _).out.mono ?_; rintro o w4 ⟨A4, C4, rfl, i4, b4⟩)
            refine hK.out _ _ (by first | (go_simp; done) | (dsimp only; go_simp)) (fun hHeld => ?_)
            clear hK K
            simp only [Act.put, List.setIfInBounds_toArray, List.set_cons_zero, List.set_cons_succ]
            refine wpAnyH_ready (rs := [17]) (by kernel_rfl) (by simp) ?_
            refine AllReadyH.cons rfl (fun K hK => ?_) AllReadyH.nil
            go_simp
            go_wp2_with (go_at_call 194; refine (HL _ _ _ _ _).out.mono ?_; rintro o w5 ⟨rfl, b5⟩)
            refine hK.out _ _ (by first | (go_simp; done) | (dsimp only; go_simp)) (fun hHeld => ?_)
            clear hK K
            simp only [Act.put, List.setIfInBounds_toArray, List.set_cons_zero, List.set_cons_succ]
            refine tkv 18 (some 23) (.bool true) rfl rfl (by kernel_rfl) (by kernel_rfl) (by kernel_rfl) (fun _ _ _ h => h) (by rfl) (fun w hSw => by (try dsimp only at hSw); go_simp) hHeld ?_
            simp only [Act.put, List.setIfInBounds_toArray, List.set_cons_zero, List.set_cons_succ]
            refine tkv 19 (some 24) (.bool true) rfl rfl (by kernel_rfl) (by kernel_rfl) (by kernel_rfl) (fun _ _ _ h => h) (by rfl) (fun w hSw => by (try dsimp only at hSw); go_simp) hHeld ?_
            simp only [Act.put, List.setIfInBounds_toArray, List.set_cons_zero, List.set_cons_succ]
            refine tkv 20 (some 25) (.bool true) rfl rfl (by kernel_rfl) (by kernel_rfl) (by kernel_rfl) (fun _ _ _ h => h) (by rfl) (fun w hSw => by (try dsimp only at hSw); go_simp) hHeld ?_
            simp only [Act.put, List.setIfInBounds_toArray, List.set_cons_zero, List.set_cons_succ]
            refine tkv 21 (some 26) (.pointer (some ⟨w.heap.size + 1, 1, none⟩)) rfl rfl (by kernel_rfl) (by kernel_rfl) (by kernel_rfl) (fun _ _ _ h => h) (by rfl) (fun w hSw => by (try dsimp only at hSw); go_simp) hHeld ?_
            simp only [Act.put, List.setIfInBounds_toArray, List.set_cons_zero, List.set_cons_succ]
            refine tkv 22 (some 27) (.int .u64 s) rfl rfl (by kernel_rfl) (by kernel_rfl) (by kernel_rfl) (fun _ _ _ h => h) (by rfl) (fun w hSw => by (try dsimp only at hSw); go_simp) hHeld ?_
            simp only [Act.put, List.setIfInBounds_toArray, List.set_cons_zero, List.set_cons_succ]
            refine tkv 23 (some 28) (.bool false) rfl rfl (by kernel_rfl) (by kernel_rfl) (by kernel_rfl) (fun _ _ _ h => h) (by rfl) (fun w hSw => by (try dsimp only at hSw); go_simp) hHeld ?_
            simp only [Act.put, List.setIfInBounds_toArray, List.set_cons_zero, List.set_cons_succ]
            refine tkv 24 (some 29) (.bool false) rfl rfl (by kernel_rfl) (by kernel_rfl) (by kernel_rfl) (fun _ _ _ h => h) (by rfl) (fun w hSw => by (try dsimp only at hSw); go_simp) hHeld ?_
            simp only [Act.put, List.setIfInBounds_toArray, List.set_cons_zero, List.set_cons_succ]
            refine tkv 25 (some 30) (.pointer (some ⟨w.heap.size, 1, none⟩)) rfl rfl (by kernel_rfl) (by kernel_rfl) (by kernel_rfl) (fun _ _ _ h => h) (by rfl) (fun w hSw => by (try dsimp only at hSw); go_simp) hHeld ?_
            simp only [Act.put, List.setIfInBounds_toArray, List.set_cons_zero, List.set_cons_succ]
            refine tkv 26 (some 31) (.int .u64 q) rfl rfl (by kernel_rfl) (by kernel_rfl) (by kernel_rfl) (fun _ _ _ h => h) (by rfl) (fun w hSw => by (try dsimp only at hSw); go_simp) hHeld ?_
            simp only [Act.put, List.setIfInBounds_toArray, List.set_cons_zero, List.set_cons_succ]
            refine tkv 28 (some 33) (.pointer (some ⟨w.heap.size + 1, 1, none⟩)) rfl rfl (by kernel_rfl) (by kernel_rfl) (by kernel_rfl) (fun _ _ _ h => h) (by rfl) (fun w hSw => by (try dsimp only at hSw); go_simp) hHeld ?_
            simp only [Act.put, List.setIfInBounds_toArray, List.set_cons_zero, List.set_cons_succ]
            refine tkv 29 (some 34) (.int .u64 s) rfl rfl (by kernel_rfl) (by kernel_rfl) (by kernel_rfl) (fun _ _ _ h => h) (by rfl) (fun w hSw => by (try dsimp only at hSw); go_simp) hHeld ?_
            simp only [Act.put, List.setIfInBounds_toArray, List.set_cons_zero, List.set_cons_succ]
            refine wpAnyH_ready (rs := [27]) (by kernel_rfl) (by simp) ?_
            refine AllReadyH.cons rfl (fun K hK => ?_) AllReadyH.nil
            go_simp
            go_wp2_with (go_at_call 193; refine (HB _).out.mono ?_; rintro o w6 ⟨A6, C6, rfl, i6, b6⟩)
            refine hK.out _ _ (by first | (go_simp; done) | (dsimp only; go_simp)) (fun hHeld => ?_)
            clear hK K
            simp only [Act.put, List.setIfInBounds_toArray, List.set_cons_zero, List.set_cons_succ]
            refine wpAnyH_ready (rs := [30]) (by kernel_rfl) (by simp) ?_
            refine AllReadyH.cons rfl (fun K hK => ?_) AllReadyH.nil
            go_simp
            go_wp2_with (go_at_call 193; refine (HD _).out.mono ?_; rintro o w7 ⟨A7, C7, rfl, i7, b7⟩)
            refine hK.out _ _ (by first | (go_simp; done) | (dsimp only; go_simp)) (fun hHeld => ?_)
            clear hK K
            simp only [Act.put, List.setIfInBounds_toArray, List.set_cons_zero, List.set_cons_succ]
            refine wpAnyH_ready (rs := [31]) (by kernel_rfl) (by simp) ?_
            refine AllReadyH.cons rfl (fun K hK => ?_) AllReadyH.nil
            go_simp
            go_wp2_with (go_at_call 194; refine (HM _ _ _ _ _).out.mono ?_; rintro o w8 ⟨rfl, b8⟩)
            refine hK.out _ _ (by first | (go_simp; done) | (dsimp only; go_simp)) (fun hHeld => ?_)
            clear hK K
            simp only [Act.put, List.setIfInBounds_toArray, List.set_cons_zero, List.set_cons_succ]
            refine tkv 32 (some 37) (.bool k4) rfl rfl (by kernel_rfl) (by kernel_rfl) (by kernel_rfl) (fun _ _ _ h => h) (by rfl) (fun w hSw => by (try dsimp only at hSw); go_simp) hHeld ?_
            simp only [Act.put, List.setIfInBounds_toArray, List.set_cons_zero, List.set_cons_succ]
            refine tkv 33 (some 38) (.bool k4) rfl rfl (by kernel_rfl) (by kernel_rfl) (by kernel_rfl) (fun _ _ _ h => h) (by rfl) (fun w hSw => by (try dsimp only at hSw); go_simp) hHeld ?_
            simp only [Act.put, List.setIfInBounds_toArray, List.set_cons_zero, List.set_cons_succ]
            refine tkv 34 (some 4) (.bool k4) rfl rfl (by kernel_rfl) (by kernel_rfl) (by kernel_rfl) (fun _ _ _ h => h) (by rfl) (fun w hSw => by (try dsimp only at hSw); go_simp) hHeld ?_
            simp only [Act.put, List.setIfInBounds_toArray, List.set_cons_zero, List.set_cons_succ]
            refine wpAnyH_done (by kernel_rfl) ?_ _
            go_wp2_with fail
            go_ret
            exact ⟨rfl, zbh⟩
set_option maxRecDepth 100000 in
set_option maxHeartbeats 20000000 in
theorem nrad_fin (w : World) (hT : Tab w) (a : Nat) (b : Nat) (ha : a < 18446744073709551616) (hb : b < 18446744073709551616) (hk : iok (a, b) = true) (h1 : ¬ a = fNInf) (h2 : ¬ b = fInf) :
    Calls Tryz.prog 100 #[.agg #[.int .u64 (a : Nat), .int .u64 (b : Nat)]] w fun o w' => o = .returned (.int .u64 (fclean (fround (if dcmp (dsub (fof (imid (a, b))) (fof a)) (dsub (fof b) (fof (imid (a, b)))) < 0 then dsub (fof b) (fof (imid (a, b))) else dsub (fof (imid (a, b))) (fof a)) 2) : Nat)) ∧ Below w.heap.size w w' := by
  have HT : Tb w := ⟨hT⟩
  have H1 := fun W => Lib.hid (frm (r5valid_any W a b ha hb))
  rw [hk] at H1
  have n1 : ¬ ((a : Nat) : Int) = 18442240474082181120 := fun h => h1 (by unfold fNInf; omega)
  have n2 : ¬ ((b : Nat) : Int) = 9218868437227405312 := fun h => h2 (by unfold fInf; omega)
  have m1 : (((a : Nat) : Int) == 18442240474082181120) = false := by simpa using n1
  have m2 : (((b : Nat) : Int) == 9218868437227405312) = false := by simpa using n2
  clear n1 n2
  have hm : imid (a, b) < 18446744073709551616 := imid_lt (x := (a, b))
  have HM := fun W [Tb W] => Lib.hid (frm (nmid_any W tb a b ha hb))
  have H3 := fun W [Tb W] => Lib.hid (frsF (isN_fof (imid (a, b))) (r3of_any W (imid (a, b)) hm tb))
  have HA := fun W [Tb W] => Lib.hid (frsF (isN_fof a) (r3of_any W a ha tb))
  have HB := fun W [Tb W] => Lib.hid (frsF (isN_fof b) (r3of_any W b hb tb))
  have HC := fun W a1 c1 a2 c2 [i1 : DSv W (fof (imid (a, b))) a1 c1] [i2 : DSv W (fof a) a2 c2] [Tb W] => Lib.hid (frsF (show IsN (dsub (fof (imid (a, b))) (fof a)) from isN_add _ _) (rdsub_any W _ _ _ _ _ _ _ _ _ _ _ _ (fof (imid (a, b))) (fof a) i1.out i2.out tb))
  have HD := fun W a1 c1 a2 c2 [i1 : DSv W (fof b) a1 c1] [i2 : DSv W (fof (imid (a, b))) a2 c2] [Tb W] => Lib.hid (frsF (show IsN (dsub (fof b) (fof (imid (a, b)))) from isN_add _ _) (rdsub_any W _ _ _ _ _ _ _ _ _ _ _ _ (fof b) (fof (imid (a, b))) i1.out i2.out tb))
  have HCm := fun W a1 c1 a2 c2 [i1 : DSv W (dsub (fof (imid (a, b))) (fof a)) a1 c1] [i2 : DSv W (dsub (fof b) (fof (imid (a, b)))) a2 c2] [Tb W] => Lib.hid (frm (rdcmp_any W _ _ _ _ _ _ _ _ _ _ _ _ (dsub (fof (imid (a, b))) (fof a)) (dsub (fof b) (fof (imid (a, b)))) i1.out i2.out tb))
  obtain ⟨z, hz⟩ : ∃ z, z = if dcmp (dsub (fof (imid (a, b))) (fof a)) (dsub (fof b) (fof (imid (a, b)))) < 0 then dsub (fof b) (fof (imid (a, b))) else dsub (fof (imid (a, b))) (fof a) := ⟨_, rfl⟩
  rw [← hz]
  have HR := fun W a1 c1 [i1 : DSv W z a1 c1] [Tb W] => Lib.hid (frm (r3round_any W _ _ _ _ _ _ 2 z i1.out tb))
  have HP := fun W => Lib.hid (frw (nplus_any W (fround z 2) (fround_lt' _ _)))
  have Na := isN_fof a
  have Nb := isN_fof b
  have Ns1 : IsN (dsub (fof (imid (a, b))) (fof a)) := isN_add _ _
  have Ns2 : IsN (dsub (fof b) (fof (imid (a, b)))) := isN_add _ _
  generalize dcmp (dsub (fof (imid (a, b))) (fof a)) (dsub (fof b) (fof (imid (a, b)))) = y at *
  generalize (!dbad (dsub (fof (imid (a, b))) (fof a)) && !dbad (dsub (fof b) (fof (imid (a, b))))) = y' at *
  generalize hs1 : dsub (fof (imid (a, b))) (fof a) = s1 at *
  generalize hs2 : dsub (fof b) (fof (imid (a, b))) = s2 at *
  clear hs1 hs2
  generalize fof (imid (a, b)) = d0 at *
  generalize fof a = d1 at *
  generalize fof b = d2 at *
  generalize ((imid (a, b) : Nat) : Int) = mm at *
  generalize ((fclean (fround z 2) : Nat) : Int) = u1 at *
  generalize ((fround z 2 : Nat) : Int) = u2 at *
  generalize ((a : Nat) : Int) = p at *
  generalize ((b : Nat) : Int) = q at *
  clear h1 h2 hm hk ha hb
  replace hz := Lib.hid hz
  go_enter Tryz.func100, Tryz.ntmps100
  go_wp2_with fail
  refine (H1 _).out.mono ?_; rintro o w1 ⟨rfl, b1⟩; go_wp2_with fail
  refine (HM _).out.mono ?_; rintro o w2 ⟨rfl, b2⟩; go_wp2_with fail
  refine (H3 _).out.mono ?_; rintro o w3 ⟨a3, c3, rfl, i3, b3, m3, f3⟩; go_wp2_with fail
  go_cut [4, 5] (fun p4 p5 wx => ∃ z0 z1 A0 C0 A1 C1, p4 = .pointer (some ⟨z0, 0, none⟩) ∧ p5 = .pointer (some ⟨z1, 0, none⟩) ∧ DB wx z0 (dbad s1) (decide (dman s1 < 0)) (.slice A0 (nl (dman s1).natAbs) C0) (dexp s1) ∧ DB wx z1 (dbad s2) (decide (dman s2 < 0)) (.slice A1 (nl (dman s2).natAbs) C1) (dexp s2) ∧ BI wx A0 (nl (dman s1).natAbs) C0 (dman s1).natAbs ∧ BI wx A1 (nl (dman s2).natAbs) C1 (dman s2).natAbs ∧ (0 < nl (dman s2).natAbs → ab A1 ≠ z0) ∧ From w3 wx ∧ w3.heap.size ≤ z0)
  case first =>
    refine wp_region_from (by kernel_rfl) (fun w0 b0 => ?_)
    refine tkv 0 (some 24) (.agg #[.bool (dbad d0), .bool (decide (dman d0 < 0)), .slice a3 (nl (dman d0).natAbs) c3, .int .i64 (dexp d0)]) rfl rfl (by kernel_rfl) (by kernel_rfl) (by kernel_rfl) (fun _ _ _ h => h) (by rfl) (fun w hSw => by haveI : From w0 w := ⟨hSw⟩; go_simp) (Below.refl _ _) ?_
    simp only [Act.put, List.setIfInBounds_toArray, List.set_cons_zero, List.set_cons_succ]
    refine tkv 1 (some 25) (.pointer (some ⟨w.heap.size, 0, none⟩)) rfl rfl (by kernel_rfl) (by kernel_rfl) (by kernel_rfl) (fun _ _ _ h => h) (by rfl) (fun w hSw => by haveI : From w0 w := ⟨hSw⟩; go_simp) (Below.refl _ _) ?_
    simp only [Act.put, List.setIfInBounds_toArray, List.set_cons_zero, List.set_cons_succ]
    refine tkv 2 (some 26) (.int .u64 p) rfl rfl (by kernel_rfl) (by kernel_rfl) (by kernel_rfl) (fun _ _ _ h => h) (by rfl) (fun w hSw => by haveI : From w0 w := ⟨hSw⟩; go_simp) (Below.refl _ _) ?_
    simp only [Act.put, List.setIfInBounds_toArray, List.set_cons_zero, List.set_cons_succ]
    refine tkv 5 (some 29) (.pointer (some ⟨w.heap.size, 1, none⟩)) rfl rfl (by kernel_rfl) (by kernel_rfl) (by kernel_rfl) (fun _ _ _ h => h) (by rfl) (fun w hSw => by haveI : From w0 w := ⟨hSw⟩; go_simp) (Below.refl _ _) ?_
    simp only [Act.put, List.setIfInBounds_toArray, List.set_cons_zero, List.set_cons_succ]
    refine tkv 6 (some 30) (.int .u64 q) rfl rfl (by kernel_rfl) (by kernel_rfl) (by kernel_rfl) (fun _ _ _ h => h) (by rfl) (fun w hSw => by haveI : From w0 w := ⟨hSw⟩; go_simp) (Below.refl _ _) ?_
    simp only [Act.put, List.setIfInBounds_toArray, List.set_cons_zero, List.set_cons_succ]
    refine tkv 8 (some 32) (.agg #[.bool (dbad d0), .bool (decide (dman d0 < 0)), .slice a3 (nl (dman d0).natAbs) c3, .int .i64 (dexp d0)]) rfl rfl (by kernel_rfl) (by kernel_rfl) (by kernel_rfl) (fun _ _ _ h => h) (by rfl) (fun w hSw => by haveI : From w0 w := ⟨hSw⟩; go_simp) (Below.refl _ _) ?_
    simp only [Act.put, List.setIfInBounds_toArray, List.set_cons_zero, List.set_cons_succ]
    have hN0 := ND.start w0 (pick4 s1 s2 d1 d2) (fun _ => 0) (fun _ => none) (fun _ => 0)
    refine wpAnyH_nd w0 (pick4 s1 s2 d1 d2) (fun al ca st ex => #[true, true, true, ca 2, ca 0, true, true, ca 3, true, ca 1, al 0, al 1, st 0, st 1]) (fun al ca ex bf af cf => [(27, DT (ca 2) ((pick4 s1 s2 d1 d2) 2) (af 2) (cf 2)), (28, DT (ca 0) ((pick4 s1 s2 d1 d2) 0) (af 0) (cf 0)), (31, DT (ca 3) ((pick4 s1 s2 d1 d2) 3) (af 3) (cf 3)), (33, DT (ca 1) ((pick4 s1 s2 d1 d2) 1) (af 1) (cf 1)), (4, PT (al 0) (bf 0)), (5, PT (al 1) (bf 1))]) (fun al ca st ex af cf => True) rfl hN0 (ex := fun _ => false) trivial rfl rfl (by decide) (by kernel_rfl) (fun _ _ _ _ => rfl) ?_ ?_
    · intro al ca st ex bf af cf vw hN hX hw0 i o ho hl haf K hK
      have hi : i < 14 := (Array.getElem?_eq_some_iff.1 ho).1
      rcases (show i = 0 ∨ i = 1 ∨ i = 2 ∨ i = 3 ∨ i = 4 ∨ i = 5 ∨ i = 6 ∨ i = 7 ∨ i = 8 ∨ i = 9 ∨ i = 10 ∨ i = 11 ∨ i = 12 ∨ i = 13 by omega) with rfl | rfl | rfl | rfl | rfl | rfl | rfl | rfl | rfl | rfl | rfl | rfl | rfl | rfl
      · exact absurd hl (by intro h; cases h)
      · exact absurd hl (by intro h; cases h)
      · exact absurd hl (by intro h; cases h)
      · simp only [List.getElem?_toArray, List.getElem?_cons_succ, List.getElem?_cons_zero, Option.some.injEq] at ho
        subst ho
        have hl' : ca 2 = false := hl
        clear haf hl
        simp only [fillA, List.setIfInBounds_toArray, List.set_cons_zero, List.set_cons_succ]
        go_simp
        refine (HA _).out.mono ?_; rintro o w1 ⟨a1, c1, rfl, i1, b1, m1, f1⟩
        go_simp
        exact hK.out al (up1 ca 2 true) st ex bf (up1 af 2 a1) (up1 cf 2 c1) _ _ rfl (by simp only [fillA, List.setIfInBounds_toArray, List.set_cons_zero, List.set_cons_succ] <;> rfl) hX (hN.call 2 hl' b1 a1 c1 m1.out f1)
      · simp only [List.getElem?_toArray, List.getElem?_cons_succ, List.getElem?_cons_zero, Option.some.injEq] at ho
        subst ho
        have hd2 : ca 2 = true := haf ⟨3, .data⟩ (by simp) rfl
        haveI y2 : DS vw (dbad d1) (decide (dman d1 < 0)) (af 2) (nl (dman d1).natAbs) (cf 2) (dexp d1) d1 := ⟨dys_of Na (hN.nu 2 hd2)⟩
        have hl' : ca 0 = false := hl
        clear haf hl
        simp only [fillA, hd2, DT_true, List.setIfInBounds_toArray, List.set_cons_zero, List.set_cons_succ]
        go_simp
        refine (HC _ _ _ _ _).out.mono ?_; rintro o w1 ⟨a1, c1, rfl, i1, b1, m1, f1⟩
        go_simp
        exact hK.out al (up1 ca 0 true) st ex bf (up1 af 0 a1) (up1 cf 0 c1) _ _ rfl (by have hu2 : up1 ca 0 true 2 = true := hd2; simp only [fillA, hu2, DT_true, List.setIfInBounds_toArray, List.set_cons_zero, List.set_cons_succ] <;> rfl) hX (hN.call 0 hl' b1 a1 c1 m1.out f1)
      · exact absurd hl (by intro h; cases h)
      · exact absurd hl (by intro h; cases h)
      · simp only [List.getElem?_toArray, List.getElem?_cons_succ, List.getElem?_cons_zero, Option.some.injEq] at ho
        subst ho
        have hl' : ca 3 = false := hl
        clear haf hl
        simp only [fillA, List.setIfInBounds_toArray, List.set_cons_zero, List.set_cons_succ]
        go_simp
        refine (HB _).out.mono ?_; rintro o w1 ⟨a1, c1, rfl, i1, b1, m1, f1⟩
        go_simp
        exact hK.out al (up1 ca 3 true) st ex bf (up1 af 3 a1) (up1 cf 3 c1) _ _ rfl (by simp only [fillA, List.setIfInBounds_toArray, List.set_cons_zero, List.set_cons_succ] <;> rfl) hX (hN.call 3 hl' b1 a1 c1 m1.out f1)
      · exact absurd hl (by intro h; cases h)
      · simp only [List.getElem?_toArray, List.getElem?_cons_succ, List.getElem?_cons_zero, Option.some.injEq] at ho
        subst ho
        have hd3 : ca 3 = true := haf ⟨7, .data⟩ (by simp) rfl
        haveI y3 : DS vw (dbad d2) (decide (dman d2 < 0)) (af 3) (nl (dman d2).natAbs) (cf 3) (dexp d2) d2 := ⟨dys_of Nb (hN.nu 3 hd3)⟩
        have hl' : ca 1 = false := hl
        clear haf hl
        simp only [fillA, hd3, DT_true, List.setIfInBounds_toArray, List.set_cons_zero, List.set_cons_succ]
        go_simp
        refine (HD _ _ _ _ _).out.mono ?_; rintro o w1 ⟨a1, c1, rfl, i1, b1, m1, f1⟩
        go_simp
        exact hK.out al (up1 ca 1 true) st ex bf (up1 af 1 a1) (up1 cf 1 c1) _ _ rfl (by have hu3 : up1 ca 1 true 3 = true := hd3; simp only [fillA, hu3, DT_true, List.setIfInBounds_toArray, List.set_cons_zero, List.set_cons_succ] <;> rfl) hX (hN.call 1 hl' b1 a1 c1 m1.out f1)
      · simp only [List.getElem?_toArray, List.getElem?_cons_succ, List.getElem?_cons_zero, Option.some.injEq] at ho
        subst ho
        have hl' : al 0 = false := hl
        clear haf hl
        simp [go_sem]
        exact hK.out (up1 al 0 true) ca st ex (up1 bf 0 vw.heap.size) af cf _ _ rfl (by simp only [fillA, List.setIfInBounds_toArray, List.set_cons_zero, List.set_cons_succ] <;> rfl) hX (hN.alloc 0 hl' _ _ _ _ _)
      · simp only [List.getElem?_toArray, List.getElem?_cons_succ, List.getElem?_cons_zero, Option.some.injEq] at ho
        subst ho
        have hl' : al 1 = false := hl
        clear haf hl
        simp [go_sem]
        exact hK.out (up1 al 1 true) ca st ex (up1 bf 1 vw.heap.size) af cf _ _ rfl (by simp only [fillA, List.setIfInBounds_toArray, List.set_cons_zero, List.set_cons_succ] <;> rfl) hX (hN.alloc 1 hl' _ _ _ _ _)
      · simp only [List.getElem?_toArray, List.getElem?_cons_succ, List.getElem?_cons_zero, Option.some.injEq] at ho
        subst ho
        have h1 : al 0 = true := haf ⟨10, .data⟩ (by simp) rfl
        have h2 : ca 0 = true := haf ⟨4, .data⟩ (by simp) rfl
        clear haf
        haveI hz := (hN.bx 0 h1).2.spec
        simp only [fillA, h1, h2, PT_true, DT_true, List.setIfInBounds_toArray, List.set_cons_zero, List.set_cons_succ]
        simp [go_sem]
        have hS := hN.store 0 h1 h2
        exact hK.out al ca (up1 st 0 true) ex bf af cf _ _ rfl (by simp only [fillA, h1, h2, PT_true, DT_true, List.setIfInBounds_toArray, List.set_cons_zero, List.set_cons_succ] <;> rfl) hX hS
      · simp only [List.getElem?_toArray, List.getElem?_cons_succ, List.getElem?_cons_zero, Option.some.injEq] at ho
        subst ho
        have h1 : al 1 = true := haf ⟨11, .data⟩ (by simp) rfl
        have h2 : ca 1 = true := haf ⟨9, .data⟩ (by simp) rfl
        clear haf
        haveI hz := (hN.bx 1 h1).2.spec
        simp only [fillA, h1, h2, PT_true, DT_true, List.setIfInBounds_toArray, List.set_cons_zero, List.set_cons_succ]
        simp [go_sem]
        have hS := hN.store 1 h1 h2
        exact hK.out al ca (up1 st 1 true) ex bf af cf _ _ rfl (by simp only [fillA, h1, h2, PT_true, DT_true, List.setIfInBounds_toArray, List.set_cons_zero, List.set_cons_succ] <;> rfl) hX hS
    · intro al ca st ex bf af cf vw hN hX hw0 hall
      have q3 : ca 2 = true := hall 3 (by decide)
      have q4 : ca 0 = true := hall 4 (by decide)
      have q7 : ca 3 = true := hall 7 (by decide)
      have q9 : ca 1 = true := hall 9 (by decide)
      have q10 : al 0 = true := hall 10 (by decide)
      have q11 : al 1 = true := hall 11 (by decide)
      have q12 : st 0 = true := hall 12 (by decide)
      have q13 : st 1 = true := hall 13 (by decide)
      clear hall
      simp only [fillA, q3, q4, q7, q9, q10, q11, PT_true, DT_true, List.setIfInBounds_toArray, List.set_cons_zero, List.set_cons_succ]
      have n0 := hN.se 0 q12
      have n1 := hN.se 1 q13
      go_wp2_with fail
      go_meet
      exact ⟨_, _, _, _, _, _, rfl, rfl, n0.2.2, n1.2.2, ⟨hN.nu 0 q4⟩, ⟨hN.nu 1 q9⟩, fun h => hN.fr 0 1 q10 q9 h, ⟨zbh⟩, (by have h1 := b0.out.size; have h2 := (hN.bx 0 q10).1; rw [World.size_alloc] at h1; omega)⟩
  case rest =>
    obtain ⟨z0, z1, A0, C0, A1, C1, rfl, rfl, r1, r2, r3, r4, r5, r6, r7⟩ := hcut
    generalize wc = v at *
    haveI t1 : DSv v s1 A0 C0 := ⟨dys_of Ns1 r3.out⟩
    haveI t2 : DSv v s2 A1 C1 := ⟨dys_of Ns2 r4.out⟩
    by_cases hy : y < 0
    · have hz' := Lib.hid (show z = s2 from by rw [hz.out, if_pos hy])
      clear hz
      go_wp2_with fail
      refine (HCm _ _ _ _ _).out.mono ?_; rintro o w6 ⟨rfl, b6⟩; go_wp2_with fail
      have q0 : Mag w6 A1 (nl (dman s2).natAbs) C1 (dman s2).natAbs := (inferInstance : BI w6 _ _ _ _).out
      haveI q1 := (⟨dys_of Ns2 (Mag.st4 q0 r5 (.bool (dbad s2)) (.bool (decide (dman s2 < 0))) (.slice A1 (nl (dman s2).natAbs) C1) (.int .i64 (dexp s2)))⟩ : DSv _ s2 A1 C1)
      have hz2 := hz'.out
      clear hz'
      have rz := Nat.le_trans (zbh : Below w.heap.size w w3).size r7
      haveI bz : Beh w ((((w6.setCell ⟨z0, 0, none⟩ (.bool (dbad s2))).setCell ⟨z0, 1, none⟩ (.bool (decide (dman s2 < 0)))).setCell ⟨z0, 2, none⟩ (.slice A1 (nl (dman s2).natAbs) C1)).setCell ⟨z0, 3, none⟩ (.int .i64 (dexp s2))) := ⟨((((zbh : Below w.heap.size w w6).setCell rz _).setCell rz _).setCell rz _).setCell rz _⟩
      haveI tz : Tb ((((w6.setCell ⟨z0, 0, none⟩ (.bool (dbad s2))).setCell ⟨z0, 1, none⟩ (.bool (decide (dman s2 < 0)))).setCell ⟨z0, 2, none⟩ (.slice A1 (nl (dman s2).natAbs) C1)).setCell ⟨z0, 3, none⟩ (.int .i64 (dexp s2))) := ⟨(tb : Tab w3).below (((((zbh : Below w3.heap.size w3 w6).setCell r7 _).setCell r7 _).setCell r7 _).setCell r7 _)⟩
      subst hz2
      refine (HR _ _ _).out.mono ?_; rintro o w7 ⟨rfl, b7⟩; go_wp2_with fail
      refine (HP _).out.mono ?_; rintro o w8 ⟨rfl, b8⟩; go_wp2_with fail
      go_ret
      exact ⟨rfl, zbh⟩
    · have hz' := Lib.hid (show z = s1 from by rw [hz.out, if_neg hy])
      clear hz
      go_wp2_with fail
      refine (HCm _ _ _ _ _).out.mono ?_; rintro o w6 ⟨rfl, b6⟩; go_wp2_with fail
      have hz2 := hz'.out
      clear hz'
      subst hz2
      refine (HR _ _ _).out.mono ?_; rintro o w7 ⟨rfl, b7⟩; go_wp2_with fail
      refine (HP _).out.mono ?_; rintro o w8 ⟨rfl, b8⟩; go_wp2_with fail
      go_ret
      exact ⟨rfl, zbh⟩
set_option maxRecDepth 100000 in
set_option maxHeartbeats 8000000 in
theorem nrad_any (w : World) (hT : Tab w) (a : Nat) (b : Nat) (ha : a < 18446744073709551616) (hb : b < 18446744073709551616) : Calls Tryz.prog 100 #[.agg #[.int .u64 (a : Nat), .int .u64 (b : Nat)]] w fun e w' => e = .returned (.int .u64 (irad (a, b) : Nat)) ∧ Below w.heap.size w w' := by
  have HT : Tb w := ⟨hT⟩
  have H1 := fun W => Lib.hid (frm (r5valid_any W a b ha hb))
  by_cases hk : iok (a, b) = true
  · by_cases h1 : a = fNInf
    · have hv : irad (a, b) = fInf := by unfold irad; rw [hk]; simp [h1]
      rw [hk] at H1
      rw [hv]
      subst h1
      have H1 := fun W => Lib.hid (show Calls Tryz.prog 106 #[.agg #[.int .u64 18442240474082181120, .int .u64 (b : Nat)]] W fun e w' => e = .returned (.bool true) ∧ From W w' from (H1 W).out)
      show Calls Tryz.prog 100 #[.agg #[.int .u64 18442240474082181120, .int .u64 (b : Nat)]] w fun e w' => e = .returned (.int .u64 9218868437227405312) ∧ Below w.heap.size w w'
      clear hv hk
      generalize ((b : Nat) : Int) = q at *
      go_enter Tryz.func100, Tryz.ntmps100
      go_wp2_with fail
      refine (H1 _).out.mono ?_
      rintro e w1 ⟨rfl, b1⟩
      go_wp2_with fail
      go_ret
      exact ⟨rfl, zbh⟩
    · by_cases h2 : b = fInf
      · have hv : irad (a, b) = fInf := by unfold irad; rw [hk]; simp [h1, h2]
        rw [hk] at H1
        rw [hv]
        subst h2
        have n1 : ¬ ((a : Nat) : Int) = 18442240474082181120 := fun h => h1 (by unfold fNInf; omega)
        have H1 := fun W => Lib.hid (show Calls Tryz.prog 106 #[.agg #[.int .u64 (a : Nat), .int .u64 9218868437227405312]] W fun e w' => e = .returned (.bool true) ∧ From W w' from (H1 W).out)
        show Calls Tryz.prog 100 #[.agg #[.int .u64 (a : Nat), .int .u64 9218868437227405312]] w fun e w' => e = .returned (.int .u64 9218868437227405312) ∧ Below w.heap.size w w'
        clear hv h1 hk
        generalize ((a : Nat) : Int) = p at *
        go_enter Tryz.func100, Tryz.ntmps100
        go_wp2_with fail
        refine (H1 _).out.mono ?_
        rintro e w1 ⟨rfl, b1⟩
        go_wp2_with fail
        go_ret
        exact ⟨rfl, zbh⟩
      · rw [irad_ref (x := (a, b)) ⟨ha, hb⟩ hk h1 h2]
        exact nrad_fin w hT a b ha hb hk h1 h2
  · have hk : iok (a, b) = false := by simpa using hk
    have hv : irad (a, b) = fNaN := by unfold irad; rw [hk]; rfl
    rw [hk] at H1
    rw [hv]
    show Calls _ _ _ _ fun e w' => e = .returned (.int .u64 9221120237041090560) ∧ Below w.heap.size w w'
    clear hv
    generalize ((a : Nat) : Int) = p at *
    generalize ((b : Nat) : Int) = q at *
    go_enter Tryz.func100, Tryz.ntmps100
    go_wp2_with fail
    refine (H1 _).out.mono ?_
    rintro e w1 ⟨rfl, b1⟩
    go_wp2_with fail
    go_ret
    exact ⟨rfl, zbh⟩

end Go.Proofs.YtakbappmkdaioaaGreatDoor


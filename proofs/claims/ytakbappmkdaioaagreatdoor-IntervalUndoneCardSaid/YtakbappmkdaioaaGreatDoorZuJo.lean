/-
  Walks: the law IntervalUndone.
-/
import Derived.Test.YtakbappmkdaioaaGreatDoorZuJg
import Derived.Test.YtakbappmkdaioaaGreatDoorZuJD
import Derived.Test.YtakbappmkdaioaaGreatDoorZuJe
import Derived.Test.YtakbappmkdaioaaGreatDoorZuJf
namespace Go.Proofs.YtakbappmkdaioaaGreatDoor
open Go.RowKit Sp
set_option linter.unusedSimpArgs false

attribute [local irreducible] Calls
set_option maxRecDepth 100000 in
set_option maxHeartbeats 40000000 in
theorem undone_t1 (w : World) (hT : Tab w) (a : Nat) (b : Nat) (c : Nat) (d : Nat) (ha : a < 18446744073709551616) (hb : b < 18446744073709551616) (hc : c < 18446744073709551616) (hd : d < 18446744073709551616) (hk1 : iok (a, b) = true) (hk2 : iok (c, d) = true) (hz : izero (c, d) = true) (hc0 : 0 ≤ fcmpv a 0) : Calls Tryz.prog 13 #[.agg #[.int .u64 (a : Nat), .int .u64 (b : Nat)], .agg #[.int .u64 (c : Nat), .int .u64 (d : Nat)]] w fun o w' => o = .returned (.bool true) ∧ Below w.heap.size w w' := by
  have HT : Tb w := ⟨hT⟩
  have HV := fun W => Lib.hid (frm (r5valid_any W a b ha hb))
  have HU := fun W => Lib.hid (frm (r5valid_any W c d hc hd))
  have HW := fun W [Tb W] => Lib.hid (frm (awakeI_any W))
  have HA := fun W [Tb W] => Lib.hid (frm (iadd_any W tb (a, b).1 (a, b).2 (c, d).1 (c, d).2 (show Lt64 (a, b) from ⟨ha, hb⟩).1 (show Lt64 (a, b) from ⟨ha, hb⟩).2 (show Lt64 (c, d) from ⟨hc, hd⟩).1 (show Lt64 (c, d) from ⟨hc, hd⟩).2))
  have HB := fun W [Tb W] => Lib.hid (frm (isub_any W tb (iadd (a, b) (c, d)).1 (iadd (a, b) (c, d)).2 (c, d).1 (c, d).2 (iadd_lt (show Lt64 (a, b) from ⟨ha, hb⟩) (show Lt64 (c, d) from ⟨hc, hd⟩)).1 (iadd_lt (show Lt64 (a, b) from ⟨ha, hb⟩) (show Lt64 (c, d) from ⟨hc, hd⟩)).2 (show Lt64 (c, d) from ⟨hc, hd⟩).1 (show Lt64 (c, d) from ⟨hc, hd⟩).2))
  have HC := fun W => Lib.hid (show Calls Tryz.prog 93 #[.agg #[.int .u64 ((a, b).1 : Nat), .int .u64 ((a, b).2 : Nat)], .agg #[.int .u64 ((isub (iadd (a, b) (c, d)) (c, d)).1 : Nat), .int .u64 ((isub (iadd (a, b) (c, d)) (c, d)).2 : Nat)]] W fun e w' => e = .returned (.bool true) ∧ From W w' from by
    have := frm (isubset_any W (a, b).1 (a, b).2 (isub (iadd (a, b) (c, d)) (c, d)).1 (isub (iadd (a, b) (c, d)) (c, d)).2 (show Lt64 (a, b) from ⟨ha, hb⟩).1 (show Lt64 (a, b) from ⟨ha, hb⟩).2 (isub_lt (iadd_lt (show Lt64 (a, b) from ⟨ha, hb⟩) (show Lt64 (c, d) from ⟨hc, hd⟩)) (show Lt64 (c, d) from ⟨hc, hd⟩)).1 (isub_lt (iadd_lt (show Lt64 (a, b) from ⟨ha, hb⟩) (show Lt64 (c, d) from ⟨hc, hd⟩)) (show Lt64 (c, d) from ⟨hc, hd⟩)).2)
    rwa [show isubset ((a, b).1, (a, b).2) ((isub (iadd (a, b) (c, d)) (c, d)).1, (isub (iadd (a, b) (c, d)) (c, d)).2) = true from undo_add (show Lt64 (a, b) from ⟨ha, hb⟩) (show Lt64 (c, d) from ⟨hc, hd⟩) hk1 hk2] at this)
  have HD := fun W [Tb W] => Lib.hid (frm (isqr_any W tb a b ha hb))
  have HE := fun W [Tb W] => Lib.hid (frm (imul_any W tb (a, b).1 (a, b).2 (a, b).1 (a, b).2 (show Lt64 (a, b) from ⟨ha, hb⟩).1 (show Lt64 (a, b) from ⟨ha, hb⟩).2 (show Lt64 (a, b) from ⟨ha, hb⟩).1 (show Lt64 (a, b) from ⟨ha, hb⟩).2))
  have HF := fun W => Lib.hid (show Calls Tryz.prog 93 #[.agg #[.int .u64 ((isqr (a, b)).1 : Nat), .int .u64 ((isqr (a, b)).2 : Nat)], .agg #[.int .u64 ((imul (a, b) (a, b)).1 : Nat), .int .u64 ((imul (a, b) (a, b)).2 : Nat)]] W fun e w' => e = .returned (.bool true) ∧ From W w' from by
    have := frm (isubset_any W (isqr (a, b)).1 (isqr (a, b)).2 (imul (a, b) (a, b)).1 (imul (a, b) (a, b)).2 (isqr_lt (a, b)).1 (isqr_lt (a, b)).2 (imul_lt (a, b) (a, b)).1 (imul_lt (a, b) (a, b)).2)
    rwa [show isubset ((isqr (a, b)).1, (isqr (a, b)).2) ((imul (a, b) (a, b)).1, (imul (a, b) (a, b)).2) = true from isqr_imul (show Lt64 (a, b) from ⟨ha, hb⟩) hk1] at this)
  have HG := fun W [Tb W] => Lib.hid (frd isN_00 (show Calls Tryz.prog 125 #[.int .i64 0] W (RetDy W (some (0, 0))) from by
    have := dfromInt_any W 0 tb (by decide) (by decide)
    rwa [show nrm 0 0 = some (0, 0) by decide] at this))
  have HH := fun W A1 C1 [i1 : DI W (dbad (some (0, 0))) (decide (dman (some (0, 0)) < 0)) A1 (nl (dman (some (0, 0))).natAbs) C1 (dexp (some (0, 0))) (some (0, 0))] [Tb W] => Lib.hid (frm (icont_any W tb c d hc hd _ _ A1 _ C1 _ (some (0, 0)) i1.out))
  rw [icont_zero (show Lt64 (c, d) from ⟨hc, hd⟩) hk2] at HH
  have HP := fun W => Lib.hid (show Calls Tryz.prog 48 #[.int .u64 (a : Nat), .int .u64 0] W fun e w' => e = .returned (.tuple #[.int .i64 (fcmpv a 0), .bool (fcmpok a 0)]) ∧ From W w' from frm (fcmp_any W a 0 ha (by decide)))
  have HQ := fun W [Tb W] => Lib.hid (frm (isqrt_any W tb (isqr (a, b)).1 (isqr (a, b)).2 (isqr_lt (a, b)).1 (isqr_lt (a, b)).2))
  have hpl : 0 ≤ fcmpv a 0 → 0 ≤ fplace a := fun h => by
    have n1 := ((iok_iff (show Lt64 (a, b) from ⟨ha, hb⟩)).1 hk1).1
    unfold fcmpv at h
    rw [n1] at h
    have h' := cmpI_ge.1 (show 0 ≤ cmpI (fplace a) (fplace 0) from h)
    have e0 : fplace 0 = 0 := by decide
    omega
  have HL := fun W => Lib.hid (show Calls Tryz.prog 93 #[.agg #[.int .u64 ((a, b).1 : Nat), .int .u64 ((a, b).2 : Nat)], .agg #[.int .u64 ((isqrt (isqr (a, b))).1 : Nat), .int .u64 ((isqrt (isqr (a, b))).2 : Nat)]] W fun e w' => e = .returned (.bool true) ∧ From W w' from by
    have := frm (isubset_any W (a, b).1 (a, b).2 (isqrt (isqr (a, b))).1 (isqrt (isqr (a, b))).2 (show Lt64 (a, b) from ⟨ha, hb⟩).1 (show Lt64 (a, b) from ⟨ha, hb⟩).2 (isqrt_lt (isqr_lt (a, b))).1 (isqrt_lt (isqr_lt (a, b))).2)
    rwa [show isubset ((a, b).1, (a, b).2) ((isqrt (isqr (a, b))).1, (isqrt (isqr (a, b))).2) = true from undo_sqrt (show Lt64 (a, b) from ⟨ha, hb⟩) hk1 (hpl hc0)] at this)
  rw [hz] at HH
  rw [hk1] at HV
  rw [hk2] at HU
  clear hz hpl hk1 hk2
  generalize (some (0, 0) : Option (Int × Int)) = z at *
  generalize hfv : fcmpv a 0 = u at *
  clear hfv
  generalize fcmpok a 0 = u' at *
  generalize (((isub (iadd (a, b) (c, d)) (c, d)).1 : Nat) : Int) = t20 at *
  generalize (((isub (iadd (a, b) (c, d)) (c, d)).2 : Nat) : Int) = t21 at *
  generalize (((imul (idiv (a, b) (c, d)) (c, d)).1 : Nat) : Int) = t60 at *
  generalize (((imul (idiv (a, b) (c, d)) (c, d)).2 : Nat) : Int) = t61 at *
  generalize (((isqrt (isqr (a, b))).1 : Nat) : Int) = t70 at *
  generalize (((isqrt (isqr (a, b))).2 : Nat) : Int) = t71 at *
  generalize (((iadd (a, b) (c, d)).1 : Nat) : Int) = t10 at *
  generalize (((iadd (a, b) (c, d)).2 : Nat) : Int) = t11 at *
  generalize (((idiv (a, b) (c, d)).1 : Nat) : Int) = t50 at *
  generalize (((idiv (a, b) (c, d)).2 : Nat) : Int) = t51 at *
  generalize (((isqr (a, b)).1 : Nat) : Int) = t30 at *
  generalize (((isqr (a, b)).2 : Nat) : Int) = t31 at *
  generalize (((imul (a, b) (a, b)).1 : Nat) : Int) = t40 at *
  generalize (((imul (a, b) (a, b)).2 : Nat) : Int) = t41 at *
  generalize ((a : Nat) : Int) = p at *
  generalize ((b : Nat) : Int) = q at *
  generalize ((c : Nat) : Int) = r at *
  generalize ((d : Nat) : Int) = s at *
  go_enter Tryz.func13, Tryz.ntmps13
  go_wp2_with fail
  refine (HV _).out.mono ?_
  rintro o w1 ⟨rfl, b1⟩
  go_wp2_with fail
  refine (HU _).out.mono ?_
  rintro o w2 ⟨rfl, b2⟩
  go_wp2_with fail
  first
  | go_region_held3 (fun w' => w'.cell? ⟨w.heap.size, 0, none⟩ = some (.int .u64 p) ∧ w'.cell? ⟨w.heap.size, 1, none⟩ = some (.int .u64 q) ∧ w'.cell? ⟨w.heap.size + 1, 0, none⟩ = some (.int .u64 r) ∧ w'.cell? ⟨w.heap.size + 1, 1, none⟩ = some (.int .u64 s)) (first | (go_simp; done))
      (first
        | (go_at_call 111; refine (HA _ ).out.mono ?_; rintro o w3 ⟨rfl, b3⟩)
        | (go_at_call 113; refine (HB _ ).out.mono ?_; rintro o w4 ⟨rfl, b4⟩)
        | (go_at_call 93; refine (HC _ ).out.mono ?_; rintro o w5 ⟨rfl, b5⟩)
        | (go_at_call 119; refine (HD _ ).out.mono ?_; rintro o w6 ⟨rfl, b6⟩)
        | (go_at_call 115; refine (HE _ ).out.mono ?_; rintro o w7 ⟨rfl, b7⟩)
        | (go_at_call 93; refine (HF _ ).out.mono ?_; rintro o w8 ⟨rfl, b8⟩)
        | fail)
  | fail "region"
  all_goals (
    go_wp2_with fail
    refine wp_region_held_drew (S := fun w' => w'.cell? ⟨w.heap.size, 0, none⟩ = some (.int .u64 p) ∧ w'.cell? ⟨w.heap.size, 1, none⟩ = some (.int .u64 q) ∧ w'.cell? ⟨w.heap.size + 1, 0, none⟩ = some (.int .u64 r) ∧ w'.cell? ⟨w.heap.size + 1, 1, none⟩ = some (.int .u64 s)) (by kernel_rfl) (by go_simp) (fun hHeld => ?_)
    simp only [List.size_toArray, List.length_cons, List.length_nil, Nat.reduceAdd, Array.replicate_succ, Array.replicate_zero, List.push_toArray, List.append_toArray, List.nil_append, List.cons_append]
    refine tkv 0 (some 33) (.agg #[.int .u64 r, .int .u64 s]) rfl rfl (by kernel_rfl) (by kernel_rfl) (by kernel_rfl) (fun _ _ _ h => h) (by rfl) (fun w hSw => by (try dsimp only at hSw); go_simp) hHeld ?_
    simp only [Act.put, List.setIfInBounds_toArray, List.set_cons_zero, List.set_cons_succ]
    refine wpAnyH_ready (rs := [1]) (by kernel_rfl) (by simp) ?_
    refine AllReadyH.cons rfl (fun K hK => ?_) AllReadyH.nil
    go_simp
    go_wp2_with (go_at_call 125; refine (HG _).out.mono ?_; rintro o w9 ⟨A9, C9, rfl, i9, b9⟩)
    refine hK.out _ _ (by first | (go_simp; done) | (dsimp only; go_simp)) (fun hHeld => ?_)
    clear hK K
    simp only [Act.put, List.setIfInBounds_toArray, List.set_cons_zero, List.set_cons_succ]
    refine wpAnyH_ready (rs := [2]) (by kernel_rfl) (by simp) ?_
    refine AllReadyH.cons rfl (fun K hK => ?_) AllReadyH.nil
    go_simp
    go_wp2_with (go_at_call 91; refine (HH _ _ _ ).out.mono ?_; rintro o w10 ⟨rfl, b10⟩)
    refine hK.out _ _ (by first | (go_simp; done) | (dsimp only; go_simp)) (fun hHeld => ?_)
    clear hK K
    simp only [Act.put, List.setIfInBounds_toArray, List.set_cons_zero, List.set_cons_succ]
    refine tkv 3 (some 36) (.bool false) rfl rfl (by kernel_rfl) (by kernel_rfl) (by kernel_rfl) (fun _ _ _ h => h) (by rfl) (fun w hSw => by (try dsimp only at hSw); go_simp) hHeld ?_
    simp only [Act.put, List.setIfInBounds_toArray, List.set_cons_zero, List.set_cons_succ]
    refine tkv 4 (some 37) (.bool false) rfl rfl (by kernel_rfl) (by kernel_rfl) (by kernel_rfl) (fun _ _ _ h => h) (by rfl) (fun w hSw => by (try dsimp only at hSw); rfl) hHeld ?_
    simp only [Act.put, List.setIfInBounds_toArray, List.set_cons_zero, List.set_cons_succ]
    refine tku 5 (some 38) rfl rfl (by kernel_rfl) (by kernel_rfl) (by kernel_rfl) (fun _ _ _ h => h) (by rfl) hHeld ?_
    simp only [Act.put, List.setIfInBounds_toArray, List.set_cons_zero, List.set_cons_succ]
    refine tku 6 (some 39) rfl rfl (by kernel_rfl) (by kernel_rfl) (by kernel_rfl) (fun _ _ _ h => h) (by rfl) hHeld ?_
    simp only [Act.put, List.setIfInBounds_toArray, List.set_cons_zero, List.set_cons_succ]
    refine tku 7 (some 40) rfl rfl (by kernel_rfl) (by kernel_rfl) (by kernel_rfl) (fun _ _ _ h => h) (by rfl) hHeld ?_
    simp only [Act.put, List.setIfInBounds_toArray, List.set_cons_zero, List.set_cons_succ]
    refine tku 8 (some 41) rfl rfl (by kernel_rfl) (by kernel_rfl) (by kernel_rfl) (fun _ _ _ h => h) (by rfl) hHeld ?_
    simp only [Act.put, List.setIfInBounds_toArray, List.set_cons_zero, List.set_cons_succ]
    refine tku 9 (some 42) rfl rfl (by kernel_rfl) (by kernel_rfl) (by kernel_rfl) (fun _ _ _ h => h) (by rfl) hHeld ?_
    simp only [Act.put, List.setIfInBounds_toArray, List.set_cons_zero, List.set_cons_succ]
    refine tku 10 (some 43) rfl rfl (by kernel_rfl) (by kernel_rfl) (by kernel_rfl) (fun _ _ _ h => h) (by rfl) hHeld ?_
    simp only [Act.put, List.setIfInBounds_toArray, List.set_cons_zero, List.set_cons_succ]
    refine tku 11 (some 44) rfl rfl (by kernel_rfl) (by kernel_rfl) (by kernel_rfl) (fun _ _ _ h => h) (by rfl) hHeld ?_
    simp only [Act.put, List.setIfInBounds_toArray, List.set_cons_zero, List.set_cons_succ]
    refine tku 12 (some 45) rfl rfl (by kernel_rfl) (by kernel_rfl) (by kernel_rfl) (fun _ _ _ h => h) (by rfl) hHeld ?_
    simp only [Act.put, List.setIfInBounds_toArray, List.set_cons_zero, List.set_cons_succ]
    refine tkv 13 (some 46) (.bool false) rfl rfl (by kernel_rfl) (by kernel_rfl) (by kernel_rfl) (fun _ _ _ h => h) (by rfl) (fun w hSw => by (try dsimp only at hSw); rfl) hHeld ?_
    simp only [Act.put, List.setIfInBounds_toArray, List.set_cons_zero, List.set_cons_succ]
    refine wpAnyH_done (by kernel_rfl) ?_ _
    go_wp2_with fail
    refine (HP _).out.mono ?_
    rintro o w14 ⟨rfl, b14⟩
    go_wp2_with fail
    first
    | go_region_held3 (fun w' => w'.cell? ⟨w.heap.size, 0, none⟩ = some (.int .u64 p) ∧ w'.cell? ⟨w.heap.size, 1, none⟩ = some (.int .u64 q) ∧ w'.cell? ⟨w.heap.size + 1, 0, none⟩ = some (.int .u64 r) ∧ w'.cell? ⟨w.heap.size + 1, 1, none⟩ = some (.int .u64 s)) (first | (go_simp; done))
        (first
          | (go_at_call 119; refine (HD _ ).out.mono ?_; rintro o w15 ⟨rfl, b15⟩)
          | (go_at_call 121; refine (HQ _ ).out.mono ?_; rintro o w16 ⟨rfl, b16⟩)
          | (go_at_call 93; refine (HL _ ).out.mono ?_; rintro o w17 ⟨rfl, b17⟩)
          | fail)
    | fail "region"
    all_goals (
      go_wp2_with fail
      refine (HW _).out.mono ?_
      rintro o w18 ⟨rfl, b18⟩
      go_wp2_with fail
      go_ret
      exact ⟨rfl, zbh⟩))

set_option maxRecDepth 100000 in
set_option maxHeartbeats 40000000 in
theorem undone_t0 (w : World) (hT : Tab w) (a : Nat) (b : Nat) (c : Nat) (d : Nat) (ha : a < 18446744073709551616) (hb : b < 18446744073709551616) (hc : c < 18446744073709551616) (hd : d < 18446744073709551616) (hk1 : iok (a, b) = true) (hk2 : iok (c, d) = true) (hz : izero (c, d) = true) (hc0 : fcmpv a 0 < 0) : Calls Tryz.prog 13 #[.agg #[.int .u64 (a : Nat), .int .u64 (b : Nat)], .agg #[.int .u64 (c : Nat), .int .u64 (d : Nat)]] w fun o w' => o = .returned (.bool true) ∧ Below w.heap.size w w' := by
  have HT : Tb w := ⟨hT⟩
  have HV := fun W => Lib.hid (frm (r5valid_any W a b ha hb))
  have HU := fun W => Lib.hid (frm (r5valid_any W c d hc hd))
  have HW := fun W [Tb W] => Lib.hid (frm (awakeI_any W))
  have HA := fun W [Tb W] => Lib.hid (frm (iadd_any W tb (a, b).1 (a, b).2 (c, d).1 (c, d).2 (show Lt64 (a, b) from ⟨ha, hb⟩).1 (show Lt64 (a, b) from ⟨ha, hb⟩).2 (show Lt64 (c, d) from ⟨hc, hd⟩).1 (show Lt64 (c, d) from ⟨hc, hd⟩).2))
  have HB := fun W [Tb W] => Lib.hid (frm (isub_any W tb (iadd (a, b) (c, d)).1 (iadd (a, b) (c, d)).2 (c, d).1 (c, d).2 (iadd_lt (show Lt64 (a, b) from ⟨ha, hb⟩) (show Lt64 (c, d) from ⟨hc, hd⟩)).1 (iadd_lt (show Lt64 (a, b) from ⟨ha, hb⟩) (show Lt64 (c, d) from ⟨hc, hd⟩)).2 (show Lt64 (c, d) from ⟨hc, hd⟩).1 (show Lt64 (c, d) from ⟨hc, hd⟩).2))
  have HC := fun W => Lib.hid (show Calls Tryz.prog 93 #[.agg #[.int .u64 ((a, b).1 : Nat), .int .u64 ((a, b).2 : Nat)], .agg #[.int .u64 ((isub (iadd (a, b) (c, d)) (c, d)).1 : Nat), .int .u64 ((isub (iadd (a, b) (c, d)) (c, d)).2 : Nat)]] W fun e w' => e = .returned (.bool true) ∧ From W w' from by
    have := frm (isubset_any W (a, b).1 (a, b).2 (isub (iadd (a, b) (c, d)) (c, d)).1 (isub (iadd (a, b) (c, d)) (c, d)).2 (show Lt64 (a, b) from ⟨ha, hb⟩).1 (show Lt64 (a, b) from ⟨ha, hb⟩).2 (isub_lt (iadd_lt (show Lt64 (a, b) from ⟨ha, hb⟩) (show Lt64 (c, d) from ⟨hc, hd⟩)) (show Lt64 (c, d) from ⟨hc, hd⟩)).1 (isub_lt (iadd_lt (show Lt64 (a, b) from ⟨ha, hb⟩) (show Lt64 (c, d) from ⟨hc, hd⟩)) (show Lt64 (c, d) from ⟨hc, hd⟩)).2)
    rwa [show isubset ((a, b).1, (a, b).2) ((isub (iadd (a, b) (c, d)) (c, d)).1, (isub (iadd (a, b) (c, d)) (c, d)).2) = true from undo_add (show Lt64 (a, b) from ⟨ha, hb⟩) (show Lt64 (c, d) from ⟨hc, hd⟩) hk1 hk2] at this)
  have HD := fun W [Tb W] => Lib.hid (frm (isqr_any W tb a b ha hb))
  have HE := fun W [Tb W] => Lib.hid (frm (imul_any W tb (a, b).1 (a, b).2 (a, b).1 (a, b).2 (show Lt64 (a, b) from ⟨ha, hb⟩).1 (show Lt64 (a, b) from ⟨ha, hb⟩).2 (show Lt64 (a, b) from ⟨ha, hb⟩).1 (show Lt64 (a, b) from ⟨ha, hb⟩).2))
  have HF := fun W => Lib.hid (show Calls Tryz.prog 93 #[.agg #[.int .u64 ((isqr (a, b)).1 : Nat), .int .u64 ((isqr (a, b)).2 : Nat)], .agg #[.int .u64 ((imul (a, b) (a, b)).1 : Nat), .int .u64 ((imul (a, b) (a, b)).2 : Nat)]] W fun e w' => e = .returned (.bool true) ∧ From W w' from by
    have := frm (isubset_any W (isqr (a, b)).1 (isqr (a, b)).2 (imul (a, b) (a, b)).1 (imul (a, b) (a, b)).2 (isqr_lt (a, b)).1 (isqr_lt (a, b)).2 (imul_lt (a, b) (a, b)).1 (imul_lt (a, b) (a, b)).2)
    rwa [show isubset ((isqr (a, b)).1, (isqr (a, b)).2) ((imul (a, b) (a, b)).1, (imul (a, b) (a, b)).2) = true from isqr_imul (show Lt64 (a, b) from ⟨ha, hb⟩) hk1] at this)
  have HG := fun W [Tb W] => Lib.hid (frd isN_00 (show Calls Tryz.prog 125 #[.int .i64 0] W (RetDy W (some (0, 0))) from by
    have := dfromInt_any W 0 tb (by decide) (by decide)
    rwa [show nrm 0 0 = some (0, 0) by decide] at this))
  have HH := fun W A1 C1 [i1 : DI W (dbad (some (0, 0))) (decide (dman (some (0, 0)) < 0)) A1 (nl (dman (some (0, 0))).natAbs) C1 (dexp (some (0, 0))) (some (0, 0))] [Tb W] => Lib.hid (frm (icont_any W tb c d hc hd _ _ A1 _ C1 _ (some (0, 0)) i1.out))
  rw [icont_zero (show Lt64 (c, d) from ⟨hc, hd⟩) hk2] at HH
  have HP := fun W => Lib.hid (show Calls Tryz.prog 48 #[.int .u64 (a : Nat), .int .u64 0] W fun e w' => e = .returned (.tuple #[.int .i64 (fcmpv a 0), .bool (fcmpok a 0)]) ∧ From W w' from frm (fcmp_any W a 0 ha (by decide)))
  have HQ := fun W [Tb W] => Lib.hid (frm (isqrt_any W tb (isqr (a, b)).1 (isqr (a, b)).2 (isqr_lt (a, b)).1 (isqr_lt (a, b)).2))
  have hpl : 0 ≤ fcmpv a 0 → 0 ≤ fplace a := fun h => by
    have n1 := ((iok_iff (show Lt64 (a, b) from ⟨ha, hb⟩)).1 hk1).1
    unfold fcmpv at h
    rw [n1] at h
    have h' := cmpI_ge.1 (show 0 ≤ cmpI (fplace a) (fplace 0) from h)
    have e0 : fplace 0 = 0 := by decide
    omega
  rw [hz] at HH
  rw [hk1] at HV
  rw [hk2] at HU
  clear hz hpl hk1 hk2
  generalize (some (0, 0) : Option (Int × Int)) = z at *
  generalize hfv : fcmpv a 0 = u at *
  clear hfv
  generalize fcmpok a 0 = u' at *
  generalize (((isub (iadd (a, b) (c, d)) (c, d)).1 : Nat) : Int) = t20 at *
  generalize (((isub (iadd (a, b) (c, d)) (c, d)).2 : Nat) : Int) = t21 at *
  generalize (((imul (idiv (a, b) (c, d)) (c, d)).1 : Nat) : Int) = t60 at *
  generalize (((imul (idiv (a, b) (c, d)) (c, d)).2 : Nat) : Int) = t61 at *
  generalize (((isqrt (isqr (a, b))).1 : Nat) : Int) = t70 at *
  generalize (((isqrt (isqr (a, b))).2 : Nat) : Int) = t71 at *
  generalize (((iadd (a, b) (c, d)).1 : Nat) : Int) = t10 at *
  generalize (((iadd (a, b) (c, d)).2 : Nat) : Int) = t11 at *
  generalize (((idiv (a, b) (c, d)).1 : Nat) : Int) = t50 at *
  generalize (((idiv (a, b) (c, d)).2 : Nat) : Int) = t51 at *
  generalize (((isqr (a, b)).1 : Nat) : Int) = t30 at *
  generalize (((isqr (a, b)).2 : Nat) : Int) = t31 at *
  generalize (((imul (a, b) (a, b)).1 : Nat) : Int) = t40 at *
  generalize (((imul (a, b) (a, b)).2 : Nat) : Int) = t41 at *
  generalize ((a : Nat) : Int) = p at *
  generalize ((b : Nat) : Int) = q at *
  generalize ((c : Nat) : Int) = r at *
  generalize ((d : Nat) : Int) = s at *
  go_enter Tryz.func13, Tryz.ntmps13
  go_wp2_with fail
  refine (HV _).out.mono ?_
  rintro o w1 ⟨rfl, b1⟩
  go_wp2_with fail
  refine (HU _).out.mono ?_
  rintro o w2 ⟨rfl, b2⟩
  go_wp2_with fail
  first
  | go_region_held3 (fun w' => w'.cell? ⟨w.heap.size, 0, none⟩ = some (.int .u64 p) ∧ w'.cell? ⟨w.heap.size, 1, none⟩ = some (.int .u64 q) ∧ w'.cell? ⟨w.heap.size + 1, 0, none⟩ = some (.int .u64 r) ∧ w'.cell? ⟨w.heap.size + 1, 1, none⟩ = some (.int .u64 s)) (first | (go_simp; done))
      (first
        | (go_at_call 111; refine (HA _ ).out.mono ?_; rintro o w3 ⟨rfl, b3⟩)
        | (go_at_call 113; refine (HB _ ).out.mono ?_; rintro o w4 ⟨rfl, b4⟩)
        | (go_at_call 93; refine (HC _ ).out.mono ?_; rintro o w5 ⟨rfl, b5⟩)
        | (go_at_call 119; refine (HD _ ).out.mono ?_; rintro o w6 ⟨rfl, b6⟩)
        | (go_at_call 115; refine (HE _ ).out.mono ?_; rintro o w7 ⟨rfl, b7⟩)
        | (go_at_call 93; refine (HF _ ).out.mono ?_; rintro o w8 ⟨rfl, b8⟩)
        | fail)
  | fail "region"
  all_goals (
    go_wp2_with fail
    refine wp_region_held_drew (S := fun w' => w'.cell? ⟨w.heap.size, 0, none⟩ = some (.int .u64 p) ∧ w'.cell? ⟨w.heap.size, 1, none⟩ = some (.int .u64 q) ∧ w'.cell? ⟨w.heap.size + 1, 0, none⟩ = some (.int .u64 r) ∧ w'.cell? ⟨w.heap.size + 1, 1, none⟩ = some (.int .u64 s)) (by kernel_rfl) (by go_simp) (fun hHeld => ?_)
    simp only [List.size_toArray, List.length_cons, List.length_nil, Nat.reduceAdd, Array.replicate_succ, Array.replicate_zero, List.push_toArray, List.append_toArray, List.nil_append, List.cons_append]
    refine tkv 0 (some 33) (.agg #[.int .u64 r, .int .u64 s]) rfl rfl (by kernel_rfl) (by kernel_rfl) (by kernel_rfl) (fun _ _ _ h => h) (by rfl) (fun w hSw => by (try dsimp only at hSw); go_simp) hHeld ?_
    simp only [Act.put, List.setIfInBounds_toArray, List.set_cons_zero, List.set_cons_succ]
    refine wpAnyH_ready (rs := [1]) (by kernel_rfl) (by simp) ?_
    refine AllReadyH.cons rfl (fun K hK => ?_) AllReadyH.nil
    go_simp
    go_wp2_with (go_at_call 125; refine (HG _).out.mono ?_; rintro o w9 ⟨A9, C9, rfl, i9, b9⟩)
    refine hK.out _ _ (by first | (go_simp; done) | (dsimp only; go_simp)) (fun hHeld => ?_)
    clear hK K
    simp only [Act.put, List.setIfInBounds_toArray, List.set_cons_zero, List.set_cons_succ]
    refine wpAnyH_ready (rs := [2]) (by kernel_rfl) (by simp) ?_
    refine AllReadyH.cons rfl (fun K hK => ?_) AllReadyH.nil
    go_simp
    go_wp2_with (go_at_call 91; refine (HH _ _ _ ).out.mono ?_; rintro o w10 ⟨rfl, b10⟩)
    refine hK.out _ _ (by first | (go_simp; done) | (dsimp only; go_simp)) (fun hHeld => ?_)
    clear hK K
    simp only [Act.put, List.setIfInBounds_toArray, List.set_cons_zero, List.set_cons_succ]
    refine tkv 3 (some 36) (.bool false) rfl rfl (by kernel_rfl) (by kernel_rfl) (by kernel_rfl) (fun _ _ _ h => h) (by rfl) (fun w hSw => by (try dsimp only at hSw); go_simp) hHeld ?_
    simp only [Act.put, List.setIfInBounds_toArray, List.set_cons_zero, List.set_cons_succ]
    refine tkv 4 (some 37) (.bool false) rfl rfl (by kernel_rfl) (by kernel_rfl) (by kernel_rfl) (fun _ _ _ h => h) (by rfl) (fun w hSw => by (try dsimp only at hSw); rfl) hHeld ?_
    simp only [Act.put, List.setIfInBounds_toArray, List.set_cons_zero, List.set_cons_succ]
    refine tku 5 (some 38) rfl rfl (by kernel_rfl) (by kernel_rfl) (by kernel_rfl) (fun _ _ _ h => h) (by rfl) hHeld ?_
    simp only [Act.put, List.setIfInBounds_toArray, List.set_cons_zero, List.set_cons_succ]
    refine tku 6 (some 39) rfl rfl (by kernel_rfl) (by kernel_rfl) (by kernel_rfl) (fun _ _ _ h => h) (by rfl) hHeld ?_
    simp only [Act.put, List.setIfInBounds_toArray, List.set_cons_zero, List.set_cons_succ]
    refine tku 7 (some 40) rfl rfl (by kernel_rfl) (by kernel_rfl) (by kernel_rfl) (fun _ _ _ h => h) (by rfl) hHeld ?_
    simp only [Act.put, List.setIfInBounds_toArray, List.set_cons_zero, List.set_cons_succ]
    refine tku 8 (some 41) rfl rfl (by kernel_rfl) (by kernel_rfl) (by kernel_rfl) (fun _ _ _ h => h) (by rfl) hHeld ?_
    simp only [Act.put, List.setIfInBounds_toArray, List.set_cons_zero, List.set_cons_succ]
    refine tku 9 (some 42) rfl rfl (by kernel_rfl) (by kernel_rfl) (by kernel_rfl) (fun _ _ _ h => h) (by rfl) hHeld ?_
    simp only [Act.put, List.setIfInBounds_toArray, List.set_cons_zero, List.set_cons_succ]
    refine tku 10 (some 43) rfl rfl (by kernel_rfl) (by kernel_rfl) (by kernel_rfl) (fun _ _ _ h => h) (by rfl) hHeld ?_
    simp only [Act.put, List.setIfInBounds_toArray, List.set_cons_zero, List.set_cons_succ]
    refine tku 11 (some 44) rfl rfl (by kernel_rfl) (by kernel_rfl) (by kernel_rfl) (fun _ _ _ h => h) (by rfl) hHeld ?_
    simp only [Act.put, List.setIfInBounds_toArray, List.set_cons_zero, List.set_cons_succ]
    refine tku 12 (some 45) rfl rfl (by kernel_rfl) (by kernel_rfl) (by kernel_rfl) (fun _ _ _ h => h) (by rfl) hHeld ?_
    simp only [Act.put, List.setIfInBounds_toArray, List.set_cons_zero, List.set_cons_succ]
    refine tkv 13 (some 46) (.bool false) rfl rfl (by kernel_rfl) (by kernel_rfl) (by kernel_rfl) (fun _ _ _ h => h) (by rfl) (fun w hSw => by (try dsimp only at hSw); rfl) hHeld ?_
    simp only [Act.put, List.setIfInBounds_toArray, List.set_cons_zero, List.set_cons_succ]
    refine wpAnyH_done (by kernel_rfl) ?_ _
    go_wp2_with fail
    refine (HP _).out.mono ?_
    rintro o w14 ⟨rfl, b14⟩
    go_wp2_with fail
    have hge : ¬ 0 ≤ u := by omega
    refine wp_region_held_drew (S := fun w' => w'.cell? ⟨w.heap.size, 0, none⟩ = some (.int .u64 p) ∧ w'.cell? ⟨w.heap.size, 1, none⟩ = some (.int .u64 q) ∧ w'.cell? ⟨w.heap.size + 1, 0, none⟩ = some (.int .u64 r) ∧ w'.cell? ⟨w.heap.size + 1, 1, none⟩ = some (.int .u64 s)) (by kernel_rfl) (by go_simp) (fun hHeld => ?_)
    simp only [List.size_toArray, List.length_cons, List.length_nil, Nat.reduceAdd, Array.replicate_succ, Array.replicate_zero, List.push_toArray, List.append_toArray, List.nil_append, List.cons_append]
    refine tkv 0 (some 53) (.int .i64 u) rfl rfl (by kernel_rfl) (by kernel_rfl) (by kernel_rfl) (fun _ _ _ h => h) (by rfl) (fun w hSw => by (try dsimp only at hSw); rfl) hHeld ?_
    simp only [Act.put, List.setIfInBounds_toArray, List.set_cons_zero, List.set_cons_succ]
    refine tkv 1 (some 54) (.bool false) rfl rfl (by kernel_rfl) (by kernel_rfl) (by kernel_rfl) (fun _ _ _ h => h) (by rfl) (fun w hSw => by (try dsimp only at hSw); go_simp) hHeld ?_
    simp only [Act.put, List.setIfInBounds_toArray, List.set_cons_zero, List.set_cons_succ]
    refine tkv 2 (some 55) (.bool false) rfl rfl (by kernel_rfl) (by kernel_rfl) (by kernel_rfl) (fun _ _ _ h => h) (by rfl) (fun w hSw => by (try dsimp only at hSw); rfl) hHeld ?_
    simp only [Act.put, List.setIfInBounds_toArray, List.set_cons_zero, List.set_cons_succ]
    refine tku 3 (some 56) rfl rfl (by kernel_rfl) (by kernel_rfl) (by kernel_rfl) (fun _ _ _ h => h) (by rfl) hHeld ?_
    simp only [Act.put, List.setIfInBounds_toArray, List.set_cons_zero, List.set_cons_succ]
    refine tku 4 (some 57) rfl rfl (by kernel_rfl) (by kernel_rfl) (by kernel_rfl) (fun _ _ _ h => h) (by rfl) hHeld ?_
    simp only [Act.put, List.setIfInBounds_toArray, List.set_cons_zero, List.set_cons_succ]
    refine tku 5 (some 58) rfl rfl (by kernel_rfl) (by kernel_rfl) (by kernel_rfl) (fun _ _ _ h => h) (by rfl) hHeld ?_
    simp only [Act.put, List.setIfInBounds_toArray, List.set_cons_zero, List.set_cons_succ]
    refine tku 6 (some 59) rfl rfl (by kernel_rfl) (by kernel_rfl) (by kernel_rfl) (fun _ _ _ h => h) (by rfl) hHeld ?_
    simp only [Act.put, List.setIfInBounds_toArray, List.set_cons_zero, List.set_cons_succ]
    refine tku 7 (some 60) rfl rfl (by kernel_rfl) (by kernel_rfl) (by kernel_rfl) (fun _ _ _ h => h) (by rfl) hHeld ?_
    simp only [Act.put, List.setIfInBounds_toArray, List.set_cons_zero, List.set_cons_succ]
    refine tku 8 (some 61) rfl rfl (by kernel_rfl) (by kernel_rfl) (by kernel_rfl) (fun _ _ _ h => h) (by rfl) hHeld ?_
    simp only [Act.put, List.setIfInBounds_toArray, List.set_cons_zero, List.set_cons_succ]
    refine tkv 9 (some 62) (.bool false) rfl rfl (by kernel_rfl) (by kernel_rfl) (by kernel_rfl) (fun _ _ _ h => h) (by rfl) (fun w hSw => by (try dsimp only at hSw); rfl) hHeld ?_
    simp only [Act.put, List.setIfInBounds_toArray, List.set_cons_zero, List.set_cons_succ]
    refine wpAnyH_done (by kernel_rfl) ?_ _
    go_wp2_with fail
    refine (HW _).out.mono ?_
    rintro o w18 ⟨rfl, b18⟩
    go_wp2_with fail
    go_ret
    exact ⟨rfl, zbh⟩)

set_option maxRecDepth 100000 in
set_option maxHeartbeats 40000000 in
theorem undone_f1 (w : World) (hT : Tab w) (a : Nat) (b : Nat) (c : Nat) (d : Nat) (ha : a < 18446744073709551616) (hb : b < 18446744073709551616) (hc : c < 18446744073709551616) (hd : d < 18446744073709551616) (hk1 : iok (a, b) = true) (hk2 : iok (c, d) = true) (hz : izero (c, d) = false) (hc0 : 0 ≤ fcmpv a 0) : Calls Tryz.prog 13 #[.agg #[.int .u64 (a : Nat), .int .u64 (b : Nat)], .agg #[.int .u64 (c : Nat), .int .u64 (d : Nat)]] w fun o w' => o = .returned (.bool true) ∧ Below w.heap.size w w' := by
  have HT : Tb w := ⟨hT⟩
  have HV := fun W => Lib.hid (frm (r5valid_any W a b ha hb))
  have HU := fun W => Lib.hid (frm (r5valid_any W c d hc hd))
  have HW := fun W [Tb W] => Lib.hid (frm (awakeI_any W))
  have HA := fun W [Tb W] => Lib.hid (frm (iadd_any W tb (a, b).1 (a, b).2 (c, d).1 (c, d).2 (show Lt64 (a, b) from ⟨ha, hb⟩).1 (show Lt64 (a, b) from ⟨ha, hb⟩).2 (show Lt64 (c, d) from ⟨hc, hd⟩).1 (show Lt64 (c, d) from ⟨hc, hd⟩).2))
  have HB := fun W [Tb W] => Lib.hid (frm (isub_any W tb (iadd (a, b) (c, d)).1 (iadd (a, b) (c, d)).2 (c, d).1 (c, d).2 (iadd_lt (show Lt64 (a, b) from ⟨ha, hb⟩) (show Lt64 (c, d) from ⟨hc, hd⟩)).1 (iadd_lt (show Lt64 (a, b) from ⟨ha, hb⟩) (show Lt64 (c, d) from ⟨hc, hd⟩)).2 (show Lt64 (c, d) from ⟨hc, hd⟩).1 (show Lt64 (c, d) from ⟨hc, hd⟩).2))
  have HC := fun W => Lib.hid (show Calls Tryz.prog 93 #[.agg #[.int .u64 ((a, b).1 : Nat), .int .u64 ((a, b).2 : Nat)], .agg #[.int .u64 ((isub (iadd (a, b) (c, d)) (c, d)).1 : Nat), .int .u64 ((isub (iadd (a, b) (c, d)) (c, d)).2 : Nat)]] W fun e w' => e = .returned (.bool true) ∧ From W w' from by
    have := frm (isubset_any W (a, b).1 (a, b).2 (isub (iadd (a, b) (c, d)) (c, d)).1 (isub (iadd (a, b) (c, d)) (c, d)).2 (show Lt64 (a, b) from ⟨ha, hb⟩).1 (show Lt64 (a, b) from ⟨ha, hb⟩).2 (isub_lt (iadd_lt (show Lt64 (a, b) from ⟨ha, hb⟩) (show Lt64 (c, d) from ⟨hc, hd⟩)) (show Lt64 (c, d) from ⟨hc, hd⟩)).1 (isub_lt (iadd_lt (show Lt64 (a, b) from ⟨ha, hb⟩) (show Lt64 (c, d) from ⟨hc, hd⟩)) (show Lt64 (c, d) from ⟨hc, hd⟩)).2)
    rwa [show isubset ((a, b).1, (a, b).2) ((isub (iadd (a, b) (c, d)) (c, d)).1, (isub (iadd (a, b) (c, d)) (c, d)).2) = true from undo_add (show Lt64 (a, b) from ⟨ha, hb⟩) (show Lt64 (c, d) from ⟨hc, hd⟩) hk1 hk2] at this)
  have HD := fun W [Tb W] => Lib.hid (frm (isqr_any W tb a b ha hb))
  have HE := fun W [Tb W] => Lib.hid (frm (imul_any W tb (a, b).1 (a, b).2 (a, b).1 (a, b).2 (show Lt64 (a, b) from ⟨ha, hb⟩).1 (show Lt64 (a, b) from ⟨ha, hb⟩).2 (show Lt64 (a, b) from ⟨ha, hb⟩).1 (show Lt64 (a, b) from ⟨ha, hb⟩).2))
  have HF := fun W => Lib.hid (show Calls Tryz.prog 93 #[.agg #[.int .u64 ((isqr (a, b)).1 : Nat), .int .u64 ((isqr (a, b)).2 : Nat)], .agg #[.int .u64 ((imul (a, b) (a, b)).1 : Nat), .int .u64 ((imul (a, b) (a, b)).2 : Nat)]] W fun e w' => e = .returned (.bool true) ∧ From W w' from by
    have := frm (isubset_any W (isqr (a, b)).1 (isqr (a, b)).2 (imul (a, b) (a, b)).1 (imul (a, b) (a, b)).2 (isqr_lt (a, b)).1 (isqr_lt (a, b)).2 (imul_lt (a, b) (a, b)).1 (imul_lt (a, b) (a, b)).2)
    rwa [show isubset ((isqr (a, b)).1, (isqr (a, b)).2) ((imul (a, b) (a, b)).1, (imul (a, b) (a, b)).2) = true from isqr_imul (show Lt64 (a, b) from ⟨ha, hb⟩) hk1] at this)
  have HG := fun W [Tb W] => Lib.hid (frd isN_00 (show Calls Tryz.prog 125 #[.int .i64 0] W (RetDy W (some (0, 0))) from by
    have := dfromInt_any W 0 tb (by decide) (by decide)
    rwa [show nrm 0 0 = some (0, 0) by decide] at this))
  have HH := fun W A1 C1 [i1 : DI W (dbad (some (0, 0))) (decide (dman (some (0, 0)) < 0)) A1 (nl (dman (some (0, 0))).natAbs) C1 (dexp (some (0, 0))) (some (0, 0))] [Tb W] => Lib.hid (frm (icont_any W tb c d hc hd _ _ A1 _ C1 _ (some (0, 0)) i1.out))
  rw [icont_zero (show Lt64 (c, d) from ⟨hc, hd⟩) hk2] at HH
  have HP := fun W => Lib.hid (show Calls Tryz.prog 48 #[.int .u64 (a : Nat), .int .u64 0] W fun e w' => e = .returned (.tuple #[.int .i64 (fcmpv a 0), .bool (fcmpok a 0)]) ∧ From W w' from frm (fcmp_any W a 0 ha (by decide)))
  have HQ := fun W [Tb W] => Lib.hid (frm (isqrt_any W tb (isqr (a, b)).1 (isqr (a, b)).2 (isqr_lt (a, b)).1 (isqr_lt (a, b)).2))
  have hpl : 0 ≤ fcmpv a 0 → 0 ≤ fplace a := fun h => by
    have n1 := ((iok_iff (show Lt64 (a, b) from ⟨ha, hb⟩)).1 hk1).1
    unfold fcmpv at h
    rw [n1] at h
    have h' := cmpI_ge.1 (show 0 ≤ cmpI (fplace a) (fplace 0) from h)
    have e0 : fplace 0 = 0 := by decide
    omega
  have HI := fun W [Tb W] => Lib.hid (frm (idiv_any W tb (a, b).1 (a, b).2 (c, d).1 (c, d).2 (show Lt64 (a, b) from ⟨ha, hb⟩).1 (show Lt64 (a, b) from ⟨ha, hb⟩).2 (show Lt64 (c, d) from ⟨hc, hd⟩).1 (show Lt64 (c, d) from ⟨hc, hd⟩).2))
  have HJ := fun W [Tb W] => Lib.hid (frm (imul_any W tb (idiv (a, b) (c, d)).1 (idiv (a, b) (c, d)).2 (c, d).1 (c, d).2 (idiv_lt (a, b) (c, d)).1 (idiv_lt (a, b) (c, d)).2 (show Lt64 (c, d) from ⟨hc, hd⟩).1 (show Lt64 (c, d) from ⟨hc, hd⟩).2))
  have HK := fun W => Lib.hid (show Calls Tryz.prog 93 #[.agg #[.int .u64 ((a, b).1 : Nat), .int .u64 ((a, b).2 : Nat)], .agg #[.int .u64 ((imul (idiv (a, b) (c, d)) (c, d)).1 : Nat), .int .u64 ((imul (idiv (a, b) (c, d)) (c, d)).2 : Nat)]] W fun e w' => e = .returned (.bool true) ∧ From W w' from by
    have := frm (isubset_any W (a, b).1 (a, b).2 (imul (idiv (a, b) (c, d)) (c, d)).1 (imul (idiv (a, b) (c, d)) (c, d)).2 (show Lt64 (a, b) from ⟨ha, hb⟩).1 (show Lt64 (a, b) from ⟨ha, hb⟩).2 (imul_lt (idiv (a, b) (c, d)) (c, d)).1 (imul_lt (idiv (a, b) (c, d)) (c, d)).2)
    rwa [show isubset ((a, b).1, (a, b).2) ((imul (idiv (a, b) (c, d)) (c, d)).1, (imul (idiv (a, b) (c, d)) (c, d)).2) = true from undo_div (show Lt64 (a, b) from ⟨ha, hb⟩) (show Lt64 (c, d) from ⟨hc, hd⟩) hk1 hk2 hz] at this)
  have HL := fun W => Lib.hid (show Calls Tryz.prog 93 #[.agg #[.int .u64 ((a, b).1 : Nat), .int .u64 ((a, b).2 : Nat)], .agg #[.int .u64 ((isqrt (isqr (a, b))).1 : Nat), .int .u64 ((isqrt (isqr (a, b))).2 : Nat)]] W fun e w' => e = .returned (.bool true) ∧ From W w' from by
    have := frm (isubset_any W (a, b).1 (a, b).2 (isqrt (isqr (a, b))).1 (isqrt (isqr (a, b))).2 (show Lt64 (a, b) from ⟨ha, hb⟩).1 (show Lt64 (a, b) from ⟨ha, hb⟩).2 (isqrt_lt (isqr_lt (a, b))).1 (isqrt_lt (isqr_lt (a, b))).2)
    rwa [show isubset ((a, b).1, (a, b).2) ((isqrt (isqr (a, b))).1, (isqrt (isqr (a, b))).2) = true from undo_sqrt (show Lt64 (a, b) from ⟨ha, hb⟩) hk1 (hpl hc0)] at this)
  rw [hz] at HH
  rw [hk1] at HV
  rw [hk2] at HU
  clear hz hpl hk1 hk2
  generalize (some (0, 0) : Option (Int × Int)) = z at *
  generalize hfv : fcmpv a 0 = u at *
  clear hfv
  generalize fcmpok a 0 = u' at *
  generalize (((isub (iadd (a, b) (c, d)) (c, d)).1 : Nat) : Int) = t20 at *
  generalize (((isub (iadd (a, b) (c, d)) (c, d)).2 : Nat) : Int) = t21 at *
  generalize (((imul (idiv (a, b) (c, d)) (c, d)).1 : Nat) : Int) = t60 at *
  generalize (((imul (idiv (a, b) (c, d)) (c, d)).2 : Nat) : Int) = t61 at *
  generalize (((isqrt (isqr (a, b))).1 : Nat) : Int) = t70 at *
  generalize (((isqrt (isqr (a, b))).2 : Nat) : Int) = t71 at *
  generalize (((iadd (a, b) (c, d)).1 : Nat) : Int) = t10 at *
  generalize (((iadd (a, b) (c, d)).2 : Nat) : Int) = t11 at *
  generalize (((idiv (a, b) (c, d)).1 : Nat) : Int) = t50 at *
  generalize (((idiv (a, b) (c, d)).2 : Nat) : Int) = t51 at *
  generalize (((isqr (a, b)).1 : Nat) : Int) = t30 at *
  generalize (((isqr (a, b)).2 : Nat) : Int) = t31 at *
  generalize (((imul (a, b) (a, b)).1 : Nat) : Int) = t40 at *
  generalize (((imul (a, b) (a, b)).2 : Nat) : Int) = t41 at *
  generalize ((a : Nat) : Int) = p at *
  generalize ((b : Nat) : Int) = q at *
  generalize ((c : Nat) : Int) = r at *
  generalize ((d : Nat) : Int) = s at *
  go_enter Tryz.func13, Tryz.ntmps13
  go_wp2_with fail
  refine (HV _).out.mono ?_
  rintro o w1 ⟨rfl, b1⟩
  go_wp2_with fail
  refine (HU _).out.mono ?_
  rintro o w2 ⟨rfl, b2⟩
  go_wp2_with fail
  first
  | go_region_held3 (fun w' => w'.cell? ⟨w.heap.size, 0, none⟩ = some (.int .u64 p) ∧ w'.cell? ⟨w.heap.size, 1, none⟩ = some (.int .u64 q) ∧ w'.cell? ⟨w.heap.size + 1, 0, none⟩ = some (.int .u64 r) ∧ w'.cell? ⟨w.heap.size + 1, 1, none⟩ = some (.int .u64 s)) (first | (go_simp; done))
      (first
        | (go_at_call 111; refine (HA _ ).out.mono ?_; rintro o w3 ⟨rfl, b3⟩)
        | (go_at_call 113; refine (HB _ ).out.mono ?_; rintro o w4 ⟨rfl, b4⟩)
        | (go_at_call 93; refine (HC _ ).out.mono ?_; rintro o w5 ⟨rfl, b5⟩)
        | (go_at_call 119; refine (HD _ ).out.mono ?_; rintro o w6 ⟨rfl, b6⟩)
        | (go_at_call 115; refine (HE _ ).out.mono ?_; rintro o w7 ⟨rfl, b7⟩)
        | (go_at_call 93; refine (HF _ ).out.mono ?_; rintro o w8 ⟨rfl, b8⟩)
        | fail)
  | fail "region"
  all_goals (
    go_wp2_with fail
    first
    | go_region_held3 (fun w' => w'.cell? ⟨w.heap.size, 0, none⟩ = some (.int .u64 p) ∧ w'.cell? ⟨w.heap.size, 1, none⟩ = some (.int .u64 q) ∧ w'.cell? ⟨w.heap.size + 1, 0, none⟩ = some (.int .u64 r) ∧ w'.cell? ⟨w.heap.size + 1, 1, none⟩ = some (.int .u64 s)) (first | (go_simp; done))
        (first
          | (go_at_call 125; refine (HG _).out.mono ?_; rintro o w9 ⟨A9, C9, rfl, i9, b9⟩)
          | (go_at_call 91; refine (HH _ _ _ ).out.mono ?_; rintro o w10 ⟨rfl, b10⟩)
          | (go_at_call 117; refine (HI _ ).out.mono ?_; rintro o w11 ⟨rfl, b11⟩)
          | (go_at_call 115; refine (HJ _ ).out.mono ?_; rintro o w12 ⟨rfl, b12⟩)
          | (go_at_call 93; refine (HK _ ).out.mono ?_; rintro o w13 ⟨rfl, b13⟩)
          | fail)
    | fail "region"
    all_goals (
      go_wp2_with fail
      refine (HP _).out.mono ?_
      rintro o w14 ⟨rfl, b14⟩
      go_wp2_with fail
      first
      | go_region_held3 (fun w' => w'.cell? ⟨w.heap.size, 0, none⟩ = some (.int .u64 p) ∧ w'.cell? ⟨w.heap.size, 1, none⟩ = some (.int .u64 q) ∧ w'.cell? ⟨w.heap.size + 1, 0, none⟩ = some (.int .u64 r) ∧ w'.cell? ⟨w.heap.size + 1, 1, none⟩ = some (.int .u64 s)) (first | (go_simp; done))
          (first
            | (go_at_call 119; refine (HD _ ).out.mono ?_; rintro o w15 ⟨rfl, b15⟩)
            | (go_at_call 121; refine (HQ _ ).out.mono ?_; rintro o w16 ⟨rfl, b16⟩)
            | (go_at_call 93; refine (HL _ ).out.mono ?_; rintro o w17 ⟨rfl, b17⟩)
            | fail)
      | fail "region"
      all_goals (
        go_wp2_with fail
        refine (HW _).out.mono ?_
        rintro o w18 ⟨rfl, b18⟩
        go_wp2_with fail
        go_ret
        exact ⟨rfl, zbh⟩)))

set_option maxRecDepth 100000 in
set_option maxHeartbeats 40000000 in
theorem undone_f0 (w : World) (hT : Tab w) (a : Nat) (b : Nat) (c : Nat) (d : Nat) (ha : a < 18446744073709551616) (hb : b < 18446744073709551616) (hc : c < 18446744073709551616) (hd : d < 18446744073709551616) (hk1 : iok (a, b) = true) (hk2 : iok (c, d) = true) (hz : izero (c, d) = false) (hc0 : fcmpv a 0 < 0) : Calls Tryz.prog 13 #[.agg #[.int .u64 (a : Nat), .int .u64 (b : Nat)], .agg #[.int .u64 (c : Nat), .int .u64 (d : Nat)]] w fun o w' => o = .returned (.bool true) ∧ Below w.heap.size w w' := by
  have HT : Tb w := ⟨hT⟩
  have HV := fun W => Lib.hid (frm (r5valid_any W a b ha hb))
  have HU := fun W => Lib.hid (frm (r5valid_any W c d hc hd))
  have HW := fun W [Tb W] => Lib.hid (frm (awakeI_any W))
  have HA := fun W [Tb W] => Lib.hid (frm (iadd_any W tb (a, b).1 (a, b).2 (c, d).1 (c, d).2 (show Lt64 (a, b) from ⟨ha, hb⟩).1 (show Lt64 (a, b) from ⟨ha, hb⟩).2 (show Lt64 (c, d) from ⟨hc, hd⟩).1 (show Lt64 (c, d) from ⟨hc, hd⟩).2))
  have HB := fun W [Tb W] => Lib.hid (frm (isub_any W tb (iadd (a, b) (c, d)).1 (iadd (a, b) (c, d)).2 (c, d).1 (c, d).2 (iadd_lt (show Lt64 (a, b) from ⟨ha, hb⟩) (show Lt64 (c, d) from ⟨hc, hd⟩)).1 (iadd_lt (show Lt64 (a, b) from ⟨ha, hb⟩) (show Lt64 (c, d) from ⟨hc, hd⟩)).2 (show Lt64 (c, d) from ⟨hc, hd⟩).1 (show Lt64 (c, d) from ⟨hc, hd⟩).2))
  have HC := fun W => Lib.hid (show Calls Tryz.prog 93 #[.agg #[.int .u64 ((a, b).1 : Nat), .int .u64 ((a, b).2 : Nat)], .agg #[.int .u64 ((isub (iadd (a, b) (c, d)) (c, d)).1 : Nat), .int .u64 ((isub (iadd (a, b) (c, d)) (c, d)).2 : Nat)]] W fun e w' => e = .returned (.bool true) ∧ From W w' from by
    have := frm (isubset_any W (a, b).1 (a, b).2 (isub (iadd (a, b) (c, d)) (c, d)).1 (isub (iadd (a, b) (c, d)) (c, d)).2 (show Lt64 (a, b) from ⟨ha, hb⟩).1 (show Lt64 (a, b) from ⟨ha, hb⟩).2 (isub_lt (iadd_lt (show Lt64 (a, b) from ⟨ha, hb⟩) (show Lt64 (c, d) from ⟨hc, hd⟩)) (show Lt64 (c, d) from ⟨hc, hd⟩)).1 (isub_lt (iadd_lt (show Lt64 (a, b) from ⟨ha, hb⟩) (show Lt64 (c, d) from ⟨hc, hd⟩)) (show Lt64 (c, d) from ⟨hc, hd⟩)).2)
    rwa [show isubset ((a, b).1, (a, b).2) ((isub (iadd (a, b) (c, d)) (c, d)).1, (isub (iadd (a, b) (c, d)) (c, d)).2) = true from undo_add (show Lt64 (a, b) from ⟨ha, hb⟩) (show Lt64 (c, d) from ⟨hc, hd⟩) hk1 hk2] at this)
  have HD := fun W [Tb W] => Lib.hid (frm (isqr_any W tb a b ha hb))
  have HE := fun W [Tb W] => Lib.hid (frm (imul_any W tb (a, b).1 (a, b).2 (a, b).1 (a, b).2 (show Lt64 (a, b) from ⟨ha, hb⟩).1 (show Lt64 (a, b) from ⟨ha, hb⟩).2 (show Lt64 (a, b) from ⟨ha, hb⟩).1 (show Lt64 (a, b) from ⟨ha, hb⟩).2))
  have HF := fun W => Lib.hid (show Calls Tryz.prog 93 #[.agg #[.int .u64 ((isqr (a, b)).1 : Nat), .int .u64 ((isqr (a, b)).2 : Nat)], .agg #[.int .u64 ((imul (a, b) (a, b)).1 : Nat), .int .u64 ((imul (a, b) (a, b)).2 : Nat)]] W fun e w' => e = .returned (.bool true) ∧ From W w' from by
    have := frm (isubset_any W (isqr (a, b)).1 (isqr (a, b)).2 (imul (a, b) (a, b)).1 (imul (a, b) (a, b)).2 (isqr_lt (a, b)).1 (isqr_lt (a, b)).2 (imul_lt (a, b) (a, b)).1 (imul_lt (a, b) (a, b)).2)
    rwa [show isubset ((isqr (a, b)).1, (isqr (a, b)).2) ((imul (a, b) (a, b)).1, (imul (a, b) (a, b)).2) = true from isqr_imul (show Lt64 (a, b) from ⟨ha, hb⟩) hk1] at this)
  have HG := fun W [Tb W] => Lib.hid (frd isN_00 (show Calls Tryz.prog 125 #[.int .i64 0] W (RetDy W (some (0, 0))) from by
    have := dfromInt_any W 0 tb (by decide) (by decide)
    rwa [show nrm 0 0 = some (0, 0) by decide] at this))
  have HH := fun W A1 C1 [i1 : DI W (dbad (some (0, 0))) (decide (dman (some (0, 0)) < 0)) A1 (nl (dman (some (0, 0))).natAbs) C1 (dexp (some (0, 0))) (some (0, 0))] [Tb W] => Lib.hid (frm (icont_any W tb c d hc hd _ _ A1 _ C1 _ (some (0, 0)) i1.out))
  rw [icont_zero (show Lt64 (c, d) from ⟨hc, hd⟩) hk2] at HH
  have HP := fun W => Lib.hid (show Calls Tryz.prog 48 #[.int .u64 (a : Nat), .int .u64 0] W fun e w' => e = .returned (.tuple #[.int .i64 (fcmpv a 0), .bool (fcmpok a 0)]) ∧ From W w' from frm (fcmp_any W a 0 ha (by decide)))
  have HQ := fun W [Tb W] => Lib.hid (frm (isqrt_any W tb (isqr (a, b)).1 (isqr (a, b)).2 (isqr_lt (a, b)).1 (isqr_lt (a, b)).2))
  have hpl : 0 ≤ fcmpv a 0 → 0 ≤ fplace a := fun h => by
    have n1 := ((iok_iff (show Lt64 (a, b) from ⟨ha, hb⟩)).1 hk1).1
    unfold fcmpv at h
    rw [n1] at h
    have h' := cmpI_ge.1 (show 0 ≤ cmpI (fplace a) (fplace 0) from h)
    have e0 : fplace 0 = 0 := by decide
    omega
  have HI := fun W [Tb W] => Lib.hid (frm (idiv_any W tb (a, b).1 (a, b).2 (c, d).1 (c, d).2 (show Lt64 (a, b) from ⟨ha, hb⟩).1 (show Lt64 (a, b) from ⟨ha, hb⟩).2 (show Lt64 (c, d) from ⟨hc, hd⟩).1 (show Lt64 (c, d) from ⟨hc, hd⟩).2))
  have HJ := fun W [Tb W] => Lib.hid (frm (imul_any W tb (idiv (a, b) (c, d)).1 (idiv (a, b) (c, d)).2 (c, d).1 (c, d).2 (idiv_lt (a, b) (c, d)).1 (idiv_lt (a, b) (c, d)).2 (show Lt64 (c, d) from ⟨hc, hd⟩).1 (show Lt64 (c, d) from ⟨hc, hd⟩).2))
  have HK := fun W => Lib.hid (show Calls Tryz.prog 93 #[.agg #[.int .u64 ((a, b).1 : Nat), .int .u64 ((a, b).2 : Nat)], .agg #[.int .u64 ((imul (idiv (a, b) (c, d)) (c, d)).1 : Nat), .int .u64 ((imul (idiv (a, b) (c, d)) (c, d)).2 : Nat)]] W fun e w' => e = .returned (.bool true) ∧ From W w' from by
    have := frm (isubset_any W (a, b).1 (a, b).2 (imul (idiv (a, b) (c, d)) (c, d)).1 (imul (idiv (a, b) (c, d)) (c, d)).2 (show Lt64 (a, b) from ⟨ha, hb⟩).1 (show Lt64 (a, b) from ⟨ha, hb⟩).2 (imul_lt (idiv (a, b) (c, d)) (c, d)).1 (imul_lt (idiv (a, b) (c, d)) (c, d)).2)
    rwa [show isubset ((a, b).1, (a, b).2) ((imul (idiv (a, b) (c, d)) (c, d)).1, (imul (idiv (a, b) (c, d)) (c, d)).2) = true from undo_div (show Lt64 (a, b) from ⟨ha, hb⟩) (show Lt64 (c, d) from ⟨hc, hd⟩) hk1 hk2 hz] at this)
  rw [hz] at HH
  rw [hk1] at HV
  rw [hk2] at HU
  clear hz hpl hk1 hk2
  generalize (some (0, 0) : Option (Int × Int)) = z at *
  generalize hfv : fcmpv a 0 = u at *
  clear hfv
  generalize fcmpok a 0 = u' at *
  generalize (((isub (iadd (a, b) (c, d)) (c, d)).1 : Nat) : Int) = t20 at *
  generalize (((isub (iadd (a, b) (c, d)) (c, d)).2 : Nat) : Int) = t21 at *
  generalize (((imul (idiv (a, b) (c, d)) (c, d)).1 : Nat) : Int) = t60 at *
  generalize (((imul (idiv (a, b) (c, d)) (c, d)).2 : Nat) : Int) = t61 at *
  generalize (((isqrt (isqr (a, b))).1 : Nat) : Int) = t70 at *
  generalize (((isqrt (isqr (a, b))).2 : Nat) : Int) = t71 at *
  generalize (((iadd (a, b) (c, d)).1 : Nat) : Int) = t10 at *
  generalize (((iadd (a, b) (c, d)).2 : Nat) : Int) = t11 at *
  generalize (((idiv (a, b) (c, d)).1 : Nat) : Int) = t50 at *
  generalize (((idiv (a, b) (c, d)).2 : Nat) : Int) = t51 at *
  generalize (((isqr (a, b)).1 : Nat) : Int) = t30 at *
  generalize (((isqr (a, b)).2 : Nat) : Int) = t31 at *
  generalize (((imul (a, b) (a, b)).1 : Nat) : Int) = t40 at *
  generalize (((imul (a, b) (a, b)).2 : Nat) : Int) = t41 at *
  generalize ((a : Nat) : Int) = p at *
  generalize ((b : Nat) : Int) = q at *
  generalize ((c : Nat) : Int) = r at *
  generalize ((d : Nat) : Int) = s at *
  go_enter Tryz.func13, Tryz.ntmps13
  go_wp2_with fail
  refine (HV _).out.mono ?_
  rintro o w1 ⟨rfl, b1⟩
  go_wp2_with fail
  refine (HU _).out.mono ?_
  rintro o w2 ⟨rfl, b2⟩
  go_wp2_with fail
  first
  | go_region_held3 (fun w' => w'.cell? ⟨w.heap.size, 0, none⟩ = some (.int .u64 p) ∧ w'.cell? ⟨w.heap.size, 1, none⟩ = some (.int .u64 q) ∧ w'.cell? ⟨w.heap.size + 1, 0, none⟩ = some (.int .u64 r) ∧ w'.cell? ⟨w.heap.size + 1, 1, none⟩ = some (.int .u64 s)) (first | (go_simp; done))
      (first
        | (go_at_call 111; refine (HA _ ).out.mono ?_; rintro o w3 ⟨rfl, b3⟩)
        | (go_at_call 113; refine (HB _ ).out.mono ?_; rintro o w4 ⟨rfl, b4⟩)
        | (go_at_call 93; refine (HC _ ).out.mono ?_; rintro o w5 ⟨rfl, b5⟩)
        | (go_at_call 119; refine (HD _ ).out.mono ?_; rintro o w6 ⟨rfl, b6⟩)
        | (go_at_call 115; refine (HE _ ).out.mono ?_; rintro o w7 ⟨rfl, b7⟩)
        | (go_at_call 93; refine (HF _ ).out.mono ?_; rintro o w8 ⟨rfl, b8⟩)
        | fail)
  | fail "region"
  all_goals (
    go_wp2_with fail
    first
    | go_region_held3 (fun w' => w'.cell? ⟨w.heap.size, 0, none⟩ = some (.int .u64 p) ∧ w'.cell? ⟨w.heap.size, 1, none⟩ = some (.int .u64 q) ∧ w'.cell? ⟨w.heap.size + 1, 0, none⟩ = some (.int .u64 r) ∧ w'.cell? ⟨w.heap.size + 1, 1, none⟩ = some (.int .u64 s)) (first | (go_simp; done))
        (first
          | (go_at_call 125; refine (HG _).out.mono ?_; rintro o w9 ⟨A9, C9, rfl, i9, b9⟩)
          | (go_at_call 91; refine (HH _ _ _ ).out.mono ?_; rintro o w10 ⟨rfl, b10⟩)
          | (go_at_call 117; refine (HI _ ).out.mono ?_; rintro o w11 ⟨rfl, b11⟩)
          | (go_at_call 115; refine (HJ _ ).out.mono ?_; rintro o w12 ⟨rfl, b12⟩)
          | (go_at_call 93; refine (HK _ ).out.mono ?_; rintro o w13 ⟨rfl, b13⟩)
          | fail)
    | fail "region"
    all_goals (
      go_wp2_with fail
      refine (HP _).out.mono ?_
      rintro o w14 ⟨rfl, b14⟩
      go_wp2_with fail
      have hge : ¬ 0 ≤ u := by omega
      refine wp_region_held_drew (S := fun w' => w'.cell? ⟨w.heap.size, 0, none⟩ = some (.int .u64 p) ∧ w'.cell? ⟨w.heap.size, 1, none⟩ = some (.int .u64 q) ∧ w'.cell? ⟨w.heap.size + 1, 0, none⟩ = some (.int .u64 r) ∧ w'.cell? ⟨w.heap.size + 1, 1, none⟩ = some (.int .u64 s)) (by kernel_rfl) (by go_simp) (fun hHeld => ?_)
      simp only [List.size_toArray, List.length_cons, List.length_nil, Nat.reduceAdd, Array.replicate_succ, Array.replicate_zero, List.push_toArray, List.append_toArray, List.nil_append, List.cons_append]
      refine tkv 0 (some 53) (.int .i64 u) rfl rfl (by kernel_rfl) (by kernel_rfl) (by kernel_rfl) (fun _ _ _ h => h) (by rfl) (fun w hSw => by (try dsimp only at hSw); rfl) hHeld ?_
      simp only [Act.put, List.setIfInBounds_toArray, List.set_cons_zero, List.set_cons_succ]
      refine tkv 1 (some 54) (.bool false) rfl rfl (by kernel_rfl) (by kernel_rfl) (by kernel_rfl) (fun _ _ _ h => h) (by rfl) (fun w hSw => by (try dsimp only at hSw); go_simp) hHeld ?_
      simp only [Act.put, List.setIfInBounds_toArray, List.set_cons_zero, List.set_cons_succ]
      refine tkv 2 (some 55) (.bool false) rfl rfl (by kernel_rfl) (by kernel_rfl) (by kernel_rfl) (fun _ _ _ h => h) (by rfl) (fun w hSw => by (try dsimp only at hSw); rfl) hHeld ?_
      simp only [Act.put, List.setIfInBounds_toArray, List.set_cons_zero, List.set_cons_succ]
      refine tku 3 (some 56) rfl rfl (by kernel_rfl) (by kernel_rfl) (by kernel_rfl) (fun _ _ _ h => h) (by rfl) hHeld ?_
      simp only [Act.put, List.setIfInBounds_toArray, List.set_cons_zero, List.set_cons_succ]
      refine tku 4 (some 57) rfl rfl (by kernel_rfl) (by kernel_rfl) (by kernel_rfl) (fun _ _ _ h => h) (by rfl) hHeld ?_
      simp only [Act.put, List.setIfInBounds_toArray, List.set_cons_zero, List.set_cons_succ]
      refine tku 5 (some 58) rfl rfl (by kernel_rfl) (by kernel_rfl) (by kernel_rfl) (fun _ _ _ h => h) (by rfl) hHeld ?_
      simp only [Act.put, List.setIfInBounds_toArray, List.set_cons_zero, List.set_cons_succ]
      refine tku 6 (some 59) rfl rfl (by kernel_rfl) (by kernel_rfl) (by kernel_rfl) (fun _ _ _ h => h) (by rfl) hHeld ?_
      simp only [Act.put, List.setIfInBounds_toArray, List.set_cons_zero, List.set_cons_succ]
      refine tku 7 (some 60) rfl rfl (by kernel_rfl) (by kernel_rfl) (by kernel_rfl) (fun _ _ _ h => h) (by rfl) hHeld ?_
      simp only [Act.put, List.setIfInBounds_toArray, List.set_cons_zero, List.set_cons_succ]
      refine tku 8 (some 61) rfl rfl (by kernel_rfl) (by kernel_rfl) (by kernel_rfl) (fun _ _ _ h => h) (by rfl) hHeld ?_
      simp only [Act.put, List.setIfInBounds_toArray, List.set_cons_zero, List.set_cons_succ]
      refine tkv 9 (some 62) (.bool false) rfl rfl (by kernel_rfl) (by kernel_rfl) (by kernel_rfl) (fun _ _ _ h => h) (by rfl) (fun w hSw => by (try dsimp only at hSw); rfl) hHeld ?_
      simp only [Act.put, List.setIfInBounds_toArray, List.set_cons_zero, List.set_cons_succ]
      refine wpAnyH_done (by kernel_rfl) ?_ _
      go_wp2_with fail
      refine (HW _).out.mono ?_
      rintro o w18 ⟨rfl, b18⟩
      go_wp2_with fail
      go_ret
      exact ⟨rfl, zbh⟩))

set_option maxRecDepth 100000 in
set_option maxHeartbeats 40000000 in
theorem undone_skip (w : World) (hT : Tab w) (a : Nat) (b : Nat) (c : Nat) (d : Nat) (ha : a < 18446744073709551616) (hb : b < 18446744073709551616) (hc : c < 18446744073709551616) (hd : d < 18446744073709551616) (h : (iok (a, b) && iok (c, d)) = false) : Calls Tryz.prog 13 #[.agg #[.int .u64 (a : Nat), .int .u64 (b : Nat)], .agg #[.int .u64 (c : Nat), .int .u64 (d : Nat)]] w fun o w' => o = .returned (.bool true) ∧ Below w.heap.size w w' := by
  have HT : Tb w := ⟨hT⟩
  have HV := fun W => Lib.hid (frm (r5valid_any W a b ha hb))
  have HU := fun W => Lib.hid (frm (r5valid_any W c d hc hd))
  have HW := fun W [Tb W] => Lib.hid (frm (awakeI_any W))
  generalize iok (a, b) = k1 at *
  generalize iok (c, d) = k2 at *
  generalize ((a : Nat) : Int) = p at *
  generalize ((b : Nat) : Int) = q at *
  generalize ((c : Nat) : Int) = r at *
  generalize ((d : Nat) : Int) = s at *
  cases k1
  · clear h
    go_enter Tryz.func13, Tryz.ntmps13
    go_wp2_with fail
    refine (HV _).out.mono ?_
    rintro e w1 ⟨rfl, b1⟩
    go_wp2_with fail
    refine (HW _).out.mono ?_
    rintro e w2 ⟨rfl, b2⟩
    go_wp2_with fail
    go_ret
    exact ⟨rfl, zbh⟩
  · obtain rfl : k2 = false := by simpa using h
    clear h
    go_enter Tryz.func13, Tryz.ntmps13
    go_wp2_with fail
    refine (HV _).out.mono ?_
    rintro e w1 ⟨rfl, b1⟩
    go_wp2_with fail
    refine (HU _).out.mono ?_
    rintro e w2 ⟨rfl, b2⟩
    go_wp2_with fail
    refine (HW _).out.mono ?_
    rintro e w3 ⟨rfl, b3⟩
    go_wp2_with fail
    go_ret
    exact ⟨rfl, zbh⟩

theorem undone5_any (w : World) (hT : Tab w) (a : Nat) (b : Nat) (c : Nat) (d : Nat) (ha : a < 18446744073709551616) (hb : b < 18446744073709551616) (hc : c < 18446744073709551616) (hd : d < 18446744073709551616) : Calls Tryz.prog 13 #[.agg #[.int .u64 (a : Nat), .int .u64 (b : Nat)], .agg #[.int .u64 (c : Nat), .int .u64 (d : Nat)]] w fun o w' => o = .returned (.bool true) ∧ Below w.heap.size w w' := by
  rcases two_ways (iok (a, b)) with h | h
  · rcases two_ways (iok (c, d)) with k | k
    · rcases two_ways (izero (c, d)) with z | z <;> rcases (show fcmpv a 0 < 0 ∨ 0 ≤ fcmpv a 0 by omega) with u | u
      · exact undone_t0 w hT a b c d ha hb hc hd h k z u
      · exact undone_t1 w hT a b c d ha hb hc hd h k z u
      · exact undone_f0 w hT a b c d ha hb hc hd h k z u
      · exact undone_f1 w hT a b c d ha hb hc hd h k z u
    · exact undone_skip w hT a b c d ha hb hc hd (by rw [k, Bool.and_false])
  · exact undone_skip w hT a b c d ha hb hc hd (by rw [h, Bool.false_and])

end Go.Proofs.YtakbappmkdaioaaGreatDoor


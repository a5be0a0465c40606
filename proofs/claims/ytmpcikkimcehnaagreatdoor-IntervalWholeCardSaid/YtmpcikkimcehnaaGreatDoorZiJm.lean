/-
  Walks: the law IntervalWhole.
-/
import Derived.Test.YtmpcikkimcehnaaGreatDoorZiJg
import Derived.Test.YtmpcikkimcehnaaGreatDoorZiJD
import Derived.Test.YtmpcikkimcehnaaGreatDoorZiJe
namespace Go.Proofs.YtmpcikkimcehnaaGreatDoor
open Go.RowKit Sp
set_option linter.unusedSimpArgs false

attribute [local irreducible] Calls
set_option maxRecDepth 100000 in
set_option maxHeartbeats 40000000 in
theorem whole_true (w : World) (hT : Tab w) (a : Nat) (b : Nat) (c : Nat) (d : Nat) (ha : a < 18446744073709551616) (hb : b < 18446744073709551616) (hc : c < 18446744073709551616) (hd : d < 18446744073709551616) (h : rcont (c, d) (some (0, 0)) = true) : Calls Tryz.prog 19 #[.agg #[.int .u64 (a : Nat), .int .u64 (b : Nat)], .agg #[.int .u64 (c : Nat), .int .u64 (d : Nat)]] w fun o w' => o = .returned (.bool true) ∧ Below w.heap.size w w' := by
  have HT : Tb w := ⟨hT⟩
  obtain ⟨L1, L2, L3, L4, L5, L6, L7⟩ := whole_law (x := (a, b)) (y := (c, d)) ⟨hc, hd⟩
  have HA := fun W [Tb W] => Lib.hid (show Calls Tryz.prog 122 #[.agg #[.int .u64 (a : Nat), .int .u64 (b : Nat)], .agg #[.int .u64 9218868437227405312, .int .u64 9218868437227405312]] W fun o w' => o = .returned (.agg #[.int .u64 18442240474082181120, .int .u64 9218868437227405312]) ∧ From W w' from by
    have := frm (iadd_any W tb a b fInf fInf ha hb (by decide) (by decide))
    rw [L1] at this; exact this)
  have HB := fun W [Tb W] => Lib.hid (show Calls Tryz.prog 124 #[.agg #[.int .u64 9218868437227405312, .int .u64 9218868437227405312], .agg #[.int .u64 (c : Nat), .int .u64 (d : Nat)]] W fun o w' => o = .returned (.agg #[.int .u64 18442240474082181120, .int .u64 9218868437227405312]) ∧ From W w' from by
    have := frm (imul_any W tb fInf fInf c d (by decide) (by decide) hc hd)
    rw [L2] at this; exact this)
  have HC := fun W [Tb W] => Lib.hid (show Calls Tryz.prog 125 #[.agg #[.int .u64 (a : Nat), .int .u64 (b : Nat)], .agg #[.int .u64 9218868437227405312, .int .u64 9218868437227405312]] W fun o w' => o = .returned (.agg #[.int .u64 18442240474082181120, .int .u64 9218868437227405312]) ∧ From W w' from by
    have := frm (idiv_any W tb a b fInf fInf ha hb (by decide) (by decide))
    rw [L3] at this; exact this)
  have HD := fun W [Tb W] => Lib.hid (show Calls Tryz.prog 127 #[.agg #[.int .u64 9218868437227405312, .int .u64 9218868437227405312]] W fun o w' => o = .returned (.agg #[.int .u64 18442240474082181120, .int .u64 9218868437227405312]) ∧ From W w' from by
    have := frm (isqrt_any W tb fInf fInf (by decide) (by decide))
    rw [L4] at this; exact this)
  have HE := fun W [Tb W] => Lib.hid (show Calls Tryz.prog 67 #[.agg #[.int .u64 (a : Nat), .int .u64 (b : Nat)], .agg #[.int .u64 9218868437227405312, .int .u64 9218868437227405312]] W fun o w' => o = .returned (.agg #[.int .u64 18442240474082181120, .int .u64 9218868437227405312]) ∧ From W w' from by
    have := frm (ihull_any W a b fInf fInf ha hb (by decide) (by decide))
    rw [L5] at this; exact this)
  have HF := fun W [Tb W] => Lib.hid (show Calls Tryz.prog 128 #[.int .u64 9221120237041090560] W fun o w' => o = .returned (.agg #[.int .u64 18442240474082181120, .int .u64 9218868437227405312]) ∧ From W w' from by
    have := frm (ipoint_any W fNaN (by decide))
    rw [L6] at this; exact this)
  have HG := fun W [Tb W] => Lib.hid (show Calls Tryz.prog 125 #[.agg #[.int .u64 (a : Nat), .int .u64 (b : Nat)], .agg #[.int .u64 (c : Nat), .int .u64 (d : Nat)]] W fun o w' => o = .returned (.agg #[.int .u64 18442240474082181120, .int .u64 9218868437227405312]) ∧ From W w' from by
    have := frm (idiv_any W tb a b c d ha hb hc hd)
    rw [L7 (rcont_zero ⟨hc, hd⟩ h)] at this; exact this)
  have HI := fun W [Tb W] => Lib.hid (frs isN_00 (show Calls Tryz.prog 129 #[.int .i64 0] W (RetDy W (some (0, 0))) from by
    have := rdfromInt_any W 0 tb (by decide) (by decide)
    rwa [show nrm 0 0 = some (0, 0) by decide] at this))
  have HJ := fun W A1 C1 [i1 : DS W (dbad (some (0, 0))) (decide (dman (some (0, 0)) < 0)) A1 (nl (dman (some (0, 0))).natAbs) C1 (dexp (some (0, 0))) (some (0, 0))] [Tb W] => Lib.hid (frm (rcontains_any W c d hc hd _ _ A1 _ C1 _ (some (0, 0)) (hx := i1)))
  have HW := fun W [Tb W] => Lib.hid (frm (awakeI_any W))
  rw [h] at HJ
  clear L1 L2 L3 L4 L5 L6 L7 h
  generalize (some (0, 0) : Option (Int × Int)) = z at *
  generalize ((a : Nat) : Int) = p at *
  generalize ((b : Nat) : Int) = q at *
  generalize ((c : Nat) : Int) = r at *
  generalize ((d : Nat) : Int) = s at *
  go_enter Tryz.func19, Tryz.ntmps19
  go_wp2_with fail
  first
  | go_region_held3 (fun w' => w'.cell? ⟨w.heap.size, 0, none⟩ = some (.int .u64 p) ∧ w'.cell? ⟨w.heap.size, 1, none⟩ = some (.int .u64 q) ∧ w'.cell? ⟨w.heap.size + 1, 0, none⟩ = some (.int .u64 r) ∧ w'.cell? ⟨w.heap.size + 1, 1, none⟩ = some (.int .u64 s) ∧ w'.cell? ⟨w.heap.size + 1 + 1, 0, none⟩ = some (.int .u64 18442240474082181120) ∧ w'.cell? ⟨w.heap.size + 1 + 1, 1, none⟩ = some (.int .u64 9218868437227405312) ∧ w'.cell? ⟨w.heap.size + 1 + 1 + 1, 0, none⟩ = some (.int .u64 9218868437227405312) ∧ w'.cell? ⟨w.heap.size + 1 + 1 + 1, 1, none⟩ = some (.int .u64 9218868437227405312)) (first | (go_simp; done))
      (first
        | (go_at_call 122; refine (HA _).out.mono ?_; rintro o w1 ⟨rfl, b1⟩)
        | (go_at_call 124; refine (HB _).out.mono ?_; rintro o w2 ⟨rfl, b2⟩)
        | (go_at_call 125; refine (HC _).out.mono ?_; rintro o w3 ⟨rfl, b3⟩)
        | (go_at_call 127; refine (HD _).out.mono ?_; rintro o w4 ⟨rfl, b4⟩)
        | (go_at_call 67; refine (HE _).out.mono ?_; rintro o w5 ⟨rfl, b5⟩)
        | (go_at_call 128; refine (HF _).out.mono ?_; rintro o w6 ⟨rfl, b6⟩)
        | fail)
  | fail "region"
  all_goals (
    go_wp2_with fail
    first
    | go_region_held3 (fun w' => w'.cell? ⟨w.heap.size, 0, none⟩ = some (.int .u64 p) ∧ w'.cell? ⟨w.heap.size, 1, none⟩ = some (.int .u64 q) ∧ w'.cell? ⟨w.heap.size + 1, 0, none⟩ = some (.int .u64 r) ∧ w'.cell? ⟨w.heap.size + 1, 1, none⟩ = some (.int .u64 s) ∧ w'.cell? ⟨w.heap.size + 1 + 1, 0, none⟩ = some (.int .u64 18442240474082181120) ∧ w'.cell? ⟨w.heap.size + 1 + 1, 1, none⟩ = some (.int .u64 9218868437227405312) ∧ w'.cell? ⟨w.heap.size + 1 + 1 + 1, 0, none⟩ = some (.int .u64 9218868437227405312) ∧ w'.cell? ⟨w.heap.size + 1 + 1 + 1, 1, none⟩ = some (.int .u64 9218868437227405312)) (first | (go_simp; done))
        (first
          | (go_at_call 129; refine (HI _).out.mono ?_; rintro o w7 ⟨A7, C7, rfl, i7, b7⟩)
          | (go_at_call 115; refine (HJ _ _ _).out.mono ?_; rintro o w8 ⟨rfl, b8⟩)
          | (go_at_call 125; refine (HG _).out.mono ?_; rintro o w9 ⟨rfl, b9⟩)
          | fail)
    | fail "region"
    all_goals (
      go_wp2_with fail
      refine (HW _).out.mono ?_
      rintro o w10 ⟨rfl, b10⟩
      go_wp2_with fail
      go_ret
      exact ⟨rfl, zbh⟩))

set_option maxRecDepth 100000 in
set_option maxHeartbeats 40000000 in
theorem whole_false (w : World) (hT : Tab w) (a : Nat) (b : Nat) (c : Nat) (d : Nat) (ha : a < 18446744073709551616) (hb : b < 18446744073709551616) (hc : c < 18446744073709551616) (hd : d < 18446744073709551616) (h : rcont (c, d) (some (0, 0)) = false) : Calls Tryz.prog 19 #[.agg #[.int .u64 (a : Nat), .int .u64 (b : Nat)], .agg #[.int .u64 (c : Nat), .int .u64 (d : Nat)]] w fun o w' => o = .returned (.bool true) ∧ Below w.heap.size w w' := by
  have HT : Tb w := ⟨hT⟩
  obtain ⟨L1, L2, L3, L4, L5, L6, L7⟩ := whole_law (x := (a, b)) (y := (c, d)) ⟨hc, hd⟩
  have HA := fun W [Tb W] => Lib.hid (show Calls Tryz.prog 122 #[.agg #[.int .u64 (a : Nat), .int .u64 (b : Nat)], .agg #[.int .u64 9218868437227405312, .int .u64 9218868437227405312]] W fun o w' => o = .returned (.agg #[.int .u64 18442240474082181120, .int .u64 9218868437227405312]) ∧ From W w' from by
    have := frm (iadd_any W tb a b fInf fInf ha hb (by decide) (by decide))
    rw [L1] at this; exact this)
  have HB := fun W [Tb W] => Lib.hid (show Calls Tryz.prog 124 #[.agg #[.int .u64 9218868437227405312, .int .u64 9218868437227405312], .agg #[.int .u64 (c : Nat), .int .u64 (d : Nat)]] W fun o w' => o = .returned (.agg #[.int .u64 18442240474082181120, .int .u64 9218868437227405312]) ∧ From W w' from by
    have := frm (imul_any W tb fInf fInf c d (by decide) (by decide) hc hd)
    rw [L2] at this; exact this)
  have HC := fun W [Tb W] => Lib.hid (show Calls Tryz.prog 125 #[.agg #[.int .u64 (a : Nat), .int .u64 (b : Nat)], .agg #[.int .u64 9218868437227405312, .int .u64 9218868437227405312]] W fun o w' => o = .returned (.agg #[.int .u64 18442240474082181120, .int .u64 9218868437227405312]) ∧ From W w' from by
    have := frm (idiv_any W tb a b fInf fInf ha hb (by decide) (by decide))
    rw [L3] at this; exact this)
  have HD := fun W [Tb W] => Lib.hid (show Calls Tryz.prog 127 #[.agg #[.int .u64 9218868437227405312, .int .u64 9218868437227405312]] W fun o w' => o = .returned (.agg #[.int .u64 18442240474082181120, .int .u64 9218868437227405312]) ∧ From W w' from by
    have := frm (isqrt_any W tb fInf fInf (by decide) (by decide))
    rw [L4] at this; exact this)
  have HE := fun W [Tb W] => Lib.hid (show Calls Tryz.prog 67 #[.agg #[.int .u64 (a : Nat), .int .u64 (b : Nat)], .agg #[.int .u64 9218868437227405312, .int .u64 9218868437227405312]] W fun o w' => o = .returned (.agg #[.int .u64 18442240474082181120, .int .u64 9218868437227405312]) ∧ From W w' from by
    have := frm (ihull_any W a b fInf fInf ha hb (by decide) (by decide))
    rw [L5] at this; exact this)
  have HF := fun W [Tb W] => Lib.hid (show Calls Tryz.prog 128 #[.int .u64 9221120237041090560] W fun o w' => o = .returned (.agg #[.int .u64 18442240474082181120, .int .u64 9218868437227405312]) ∧ From W w' from by
    have := frm (ipoint_any W fNaN (by decide))
    rw [L6] at this; exact this)
  have HI := fun W [Tb W] => Lib.hid (frs isN_00 (show Calls Tryz.prog 129 #[.int .i64 0] W (RetDy W (some (0, 0))) from by
    have := rdfromInt_any W 0 tb (by decide) (by decide)
    rwa [show nrm 0 0 = some (0, 0) by decide] at this))
  have HJ := fun W A1 C1 [i1 : DS W (dbad (some (0, 0))) (decide (dman (some (0, 0)) < 0)) A1 (nl (dman (some (0, 0))).natAbs) C1 (dexp (some (0, 0))) (some (0, 0))] [Tb W] => Lib.hid (frm (rcontains_any W c d hc hd _ _ A1 _ C1 _ (some (0, 0)) (hx := i1)))
  have HW := fun W [Tb W] => Lib.hid (frm (awakeI_any W))
  rw [h] at HJ
  clear L1 L2 L3 L4 L5 L6 L7 h
  generalize (some (0, 0) : Option (Int × Int)) = z at *
  generalize ((a : Nat) : Int) = p at *
  generalize ((b : Nat) : Int) = q at *
  generalize ((c : Nat) : Int) = r at *
  generalize ((d : Nat) : Int) = s at *
  go_enter Tryz.func19, Tryz.ntmps19
  go_wp2_with fail
  first
  | go_region_held3 (fun w' => w'.cell? ⟨w.heap.size, 0, none⟩ = some (.int .u64 p) ∧ w'.cell? ⟨w.heap.size, 1, none⟩ = some (.int .u64 q) ∧ w'.cell? ⟨w.heap.size + 1, 0, none⟩ = some (.int .u64 r) ∧ w'.cell? ⟨w.heap.size + 1, 1, none⟩ = some (.int .u64 s) ∧ w'.cell? ⟨w.heap.size + 1 + 1, 0, none⟩ = some (.int .u64 18442240474082181120) ∧ w'.cell? ⟨w.heap.size + 1 + 1, 1, none⟩ = some (.int .u64 9218868437227405312) ∧ w'.cell? ⟨w.heap.size + 1 + 1 + 1, 0, none⟩ = some (.int .u64 9218868437227405312) ∧ w'.cell? ⟨w.heap.size + 1 + 1 + 1, 1, none⟩ = some (.int .u64 9218868437227405312)) (first | (go_simp; done))
      (first
        | (go_at_call 122; refine (HA _).out.mono ?_; rintro o w1 ⟨rfl, b1⟩)
        | (go_at_call 124; refine (HB _).out.mono ?_; rintro o w2 ⟨rfl, b2⟩)
        | (go_at_call 125; refine (HC _).out.mono ?_; rintro o w3 ⟨rfl, b3⟩)
        | (go_at_call 127; refine (HD _).out.mono ?_; rintro o w4 ⟨rfl, b4⟩)
        | (go_at_call 67; refine (HE _).out.mono ?_; rintro o w5 ⟨rfl, b5⟩)
        | (go_at_call 128; refine (HF _).out.mono ?_; rintro o w6 ⟨rfl, b6⟩)
        | fail)
  | fail "region"
  all_goals (
    go_wp2_with fail
    refine wp_region_held_drew (S := fun w' => w'.cell? ⟨w.heap.size, 0, none⟩ = some (.int .u64 p) ∧ w'.cell? ⟨w.heap.size, 1, none⟩ = some (.int .u64 q) ∧ w'.cell? ⟨w.heap.size + 1, 0, none⟩ = some (.int .u64 r) ∧ w'.cell? ⟨w.heap.size + 1, 1, none⟩ = some (.int .u64 s) ∧ w'.cell? ⟨w.heap.size + 1 + 1, 0, none⟩ = some (.int .u64 18442240474082181120) ∧ w'.cell? ⟨w.heap.size + 1 + 1, 1, none⟩ = some (.int .u64 9218868437227405312) ∧ w'.cell? ⟨w.heap.size + 1 + 1 + 1, 0, none⟩ = some (.int .u64 9218868437227405312) ∧ w'.cell? ⟨w.heap.size + 1 + 1 + 1, 1, none⟩ = some (.int .u64 9218868437227405312)) (by kernel_rfl) (by go_simp) (fun hHeld => ?_)
    simp only [List.size_toArray, List.length_cons, List.length_nil, Nat.reduceAdd, Array.replicate_succ, Array.replicate_zero, List.push_toArray, List.append_toArray, List.nil_append, List.cons_append]
    refine tkv 0 (some 46) (.agg #[.int .u64 r, .int .u64 s]) rfl rfl (by kernel_rfl) (by kernel_rfl) (by kernel_rfl) (fun _ _ _ h => h) (by rfl) (fun w hSw => by (try dsimp only at hSw); go_simp) hHeld ?_
    simp only [Act.put, List.setIfInBounds_toArray, List.set_cons_zero, List.set_cons_succ]
    refine wpAnyH_ready (rs := [1]) (by kernel_rfl) (by simp) ?_
    refine AllReadyH.cons rfl (fun K hK => ?_) AllReadyH.nil
    go_simp
    go_wp2_with (go_at_call 129; refine (HI _).out.mono ?_; rintro o w7 ⟨A7, C7, rfl, i7, b7⟩)
    refine hK.out _ _ (by first | (go_simp; done) | (dsimp only; go_simp)) (fun hHeld => ?_)
    clear hK K
    simp only [Act.put, List.setIfInBounds_toArray, List.set_cons_zero, List.set_cons_succ]
    refine wpAnyH_ready (rs := [2]) (by kernel_rfl) (by simp) ?_
    refine AllReadyH.cons rfl (fun K hK => ?_) AllReadyH.nil
    go_simp
    go_wp2_with (go_at_call 115; refine (HJ _ _ _).out.mono ?_; rintro o w8 ⟨rfl, b8⟩)
    refine hK.out _ _ (by first | (go_simp; done) | (dsimp only; go_simp)) (fun hHeld => ?_)
    clear hK K
    simp only [Act.put, List.setIfInBounds_toArray, List.set_cons_zero, List.set_cons_succ]
    refine tkv 3 (some 49) (.bool false) rfl rfl (by kernel_rfl) (by kernel_rfl) (by kernel_rfl) (fun _ _ _ h => h) (by rfl) (fun w hSw => by (try dsimp only at hSw); rfl) hHeld ?_
    simp only [Act.put, List.setIfInBounds_toArray, List.set_cons_zero, List.set_cons_succ]
    refine tku 4 (some 50) rfl rfl (by kernel_rfl) (by kernel_rfl) (by kernel_rfl) (fun _ _ _ h => h) (by rfl) hHeld ?_
    simp only [Act.put, List.setIfInBounds_toArray, List.set_cons_zero, List.set_cons_succ]
    refine tku 5 (some 51) rfl rfl (by kernel_rfl) (by kernel_rfl) (by kernel_rfl) (fun _ _ _ h => h) (by rfl) hHeld ?_
    simp only [Act.put, List.setIfInBounds_toArray, List.set_cons_zero, List.set_cons_succ]
    refine tku 6 (some 52) rfl rfl (by kernel_rfl) (by kernel_rfl) (by kernel_rfl) (fun _ _ _ h => h) (by rfl) hHeld ?_
    simp only [Act.put, List.setIfInBounds_toArray, List.set_cons_zero, List.set_cons_succ]
    refine tku 7 (some 53) rfl rfl (by kernel_rfl) (by kernel_rfl) (by kernel_rfl) (fun _ _ _ h => h) (by rfl) hHeld ?_
    simp only [Act.put, List.setIfInBounds_toArray, List.set_cons_zero, List.set_cons_succ]
    refine tku 8 (some 54) rfl rfl (by kernel_rfl) (by kernel_rfl) (by kernel_rfl) (fun _ _ _ h => h) (by rfl) hHeld ?_
    simp only [Act.put, List.setIfInBounds_toArray, List.set_cons_zero, List.set_cons_succ]
    refine tkv 9 (some 55) (.bool false) rfl rfl (by kernel_rfl) (by kernel_rfl) (by kernel_rfl) (fun _ _ _ h => h) (by rfl) (fun w hSw => by (try dsimp only at hSw); rfl) hHeld ?_
    simp only [Act.put, List.setIfInBounds_toArray, List.set_cons_zero, List.set_cons_succ]
    refine wpAnyH_done (by kernel_rfl) ?_ _
    go_wp2_with fail
    refine (HW _).out.mono ?_
    rintro o w10 ⟨rfl, b10⟩
    go_wp2_with fail
    go_ret
    exact ⟨rfl, zbh⟩)

theorem whole5_any (w : World) (hT : Tab w) (a : Nat) (b : Nat) (c : Nat) (d : Nat) (ha : a < 18446744073709551616) (hb : b < 18446744073709551616) (hc : c < 18446744073709551616) (hd : d < 18446744073709551616) : Calls Tryz.prog 19 #[.agg #[.int .u64 (a : Nat), .int .u64 (b : Nat)], .agg #[.int .u64 (c : Nat), .int .u64 (d : Nat)]] w fun o w' => o = .returned (.bool true) ∧ Below w.heap.size w w' := by
  rcases two_ways (rcont (c, d) (some (0, 0))) with h | h
  · exact whole_true w hT a b c d ha hb hc hd h
  · exact whole_false w hT a b c d ha hb hc hd h

end Go.Proofs.YtmpcikkimcehnaaGreatDoor


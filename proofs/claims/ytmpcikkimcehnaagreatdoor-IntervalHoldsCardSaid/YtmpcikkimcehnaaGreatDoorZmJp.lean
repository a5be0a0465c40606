/-
  Walks: the law IntervalHolds.
-/
import Derived.Test.YtmpcikkimcehnaaGreatDoorZmD
namespace Go.Proofs.YtmpcikkimcehnaaGreatDoor
open Go.RowKit Sp
set_option linter.unusedSimpArgs false

attribute [local irreducible] Calls
set_option maxRecDepth 100000 in
set_option maxHeartbeats 40000000 in
theorem holds_z (w : World) (hT : Tab w) (a : Nat) (b : Nat) (c : Nat) (d : Nat) (f : Nat) (g : Nat) (ha : a < 18446744073709551616) (hb : b < 18446744073709551616) (hc : c < 18446744073709551616) (hd : d < 18446744073709551616) (hf : f < 18446744073709551616) (hg : g < 18446744073709551616) (k1 : imem f (a, b)) (k2 : imem g (c, d)) (hz : dman (fof g) = 0) : Calls Tryz.prog 20 #[.agg #[.int .u64 (a : Nat), .int .u64 (b : Nat)], .agg #[.int .u64 (c : Nat), .int .u64 (d : Nat)], .int .u64 (f : Nat), .int .u64 (g : Nat)] w fun o w' => o = .returned (.bool true) ∧ Below w.heap.size w w' := by
  have HT : Tb w := ⟨hT⟩
  obtain ⟨L1, L2, L3, L4, L5⟩ := holds_law (x := (a, b)) (y := (c, d)) (show Lt64 (a, b) from ⟨ha, hb⟩) (show Lt64 (c, d) from ⟨hc, hd⟩) hf hg k1 k2
  have H1 := fun W [Tb W] => Lib.hid (frm (within_any W f a b hf ha hb))
  have H2 := fun W [Tb W] => Lib.hid (frm (within_any W g c d hg hc hd))
  have HW := fun W [Tb W] => Lib.hid (frm (awakeI_any W))
  have HO := fun W [Tb W] => Lib.hid (frd (isN_fof f) (fof_any W f hf tb))
  have HP := fun W [Tb W] => Lib.hid (frd (isN_fof g) (fof_any W g hg tb))
  have HA := fun W [Tb W] => Lib.hid (frm (iadd_any W tb a b c d ha hb hc hd))
  have HB := fun W [Tb W] => Lib.hid (frm (isub_any W tb a b c d ha hb hc hd))
  have HC := fun W [Tb W] => Lib.hid (frm (imul_any W tb a b c d ha hb hc hd))
  have HD := fun W [Tb W] => Lib.hid (frm (isqr_any W tb a b ha hb))
  have HE := fun W [Tb W] => Lib.hid (frm (idiv_any W tb a b c d ha hb hc hd))
  have HF := fun W a1 c1 a2 c2 [i1 : DI W (dbad (fof f)) (decide (dman (fof f) < 0)) a1 (nl (dman (fof f)).natAbs) c1 (dexp (fof f)) (fof f)] [i2 : DI W (dbad (fof g)) (decide (dman (fof g) < 0)) a2 (nl (dman (fof g)).natAbs) c2 (dexp (fof g)) (fof g)] [Tb W] => Lib.hid (frd (show IsN (dadd (fof f) (fof g)) from isN_add _ _) (dadd_any W _ _ _ _ _ _ _ _ _ _ _ _ (fof f) (fof g) i1.out i2.out tb))
  have HG := fun W a1 c1 a2 c2 [i1 : DI W (dbad (fof f)) (decide (dman (fof f) < 0)) a1 (nl (dman (fof f)).natAbs) c1 (dexp (fof f)) (fof f)] [i2 : DI W (dbad (fof g)) (decide (dman (fof g) < 0)) a2 (nl (dman (fof g)).natAbs) c2 (dexp (fof g)) (fof g)] [Tb W] => Lib.hid (frd (show IsN (dsub (fof f) (fof g)) from isN_add _ _) (dsub_any W _ _ _ _ _ _ _ _ _ _ _ _ (fof f) (fof g) i1.out i2.out tb))
  have HH := fun W a1 c1 a2 c2 [i1 : DI W (dbad (fof f)) (decide (dman (fof f) < 0)) a1 (nl (dman (fof f)).natAbs) c1 (dexp (fof f)) (fof f)] [i2 : DI W (dbad (fof g)) (decide (dman (fof g) < 0)) a2 (nl (dman (fof g)).natAbs) c2 (dexp (fof g)) (fof g)] [Tb W] => Lib.hid (frd (show IsN (dmul (fof f) (fof g)) from isN_mul _ _) (dmul_any W _ _ _ _ _ _ _ _ _ _ _ _ (fof f) (fof g) i1.out i2.out tb))
  have HH2 := fun W a1 c1 a2 c2 [i1 : DI W (dbad (fof f)) (decide (dman (fof f) < 0)) a1 (nl (dman (fof f)).natAbs) c1 (dexp (fof f)) (fof f)] [i2 : DI W (dbad (fof f)) (decide (dman (fof f) < 0)) a2 (nl (dman (fof f)).natAbs) c2 (dexp (fof f)) (fof f)] [Tb W] => Lib.hid (frd (show IsN (dmul (fof f) (fof f)) from isN_mul _ _) (dmul_any W _ _ _ _ _ _ _ _ _ _ _ _ (fof f) (fof f) i1.out i2.out tb))
  have HI := fun W a1 c1 [i1 : DI W (dbad (dadd (fof f) (fof g))) (decide (dman (dadd (fof f) (fof g)) < 0)) a1 (nl (dman (dadd (fof f) (fof g))).natAbs) c1 (dexp (dadd (fof f) (fof g))) (dadd (fof f) (fof g))] [Tb W] => Lib.hid (show Calls Tryz.prog 107 #[.agg #[.int .u64 ((iadd (a, b) (c, d)).1 : Nat), .int .u64 ((iadd (a, b) (c, d)).2 : Nat)], .agg #[.bool (dbad (dadd (fof f) (fof g))), .bool (decide (dman (dadd (fof f) (fof g)) < 0)), .slice a1 (nl (dman (dadd (fof f) (fof g))).natAbs) c1, .int .i64 (dexp (dadd (fof f) (fof g)))]] W fun e w' => e = .returned (.bool true) ∧ From W w' from by
    have := frm (icont_any W tb (iadd (a, b) (c, d)).1 (iadd (a, b) (c, d)).2 (iadd_lt (show Lt64 (a, b) from ⟨ha, hb⟩) (show Lt64 (c, d) from ⟨hc, hd⟩)).1 (iadd_lt (show Lt64 (a, b) from ⟨ha, hb⟩) (show Lt64 (c, d) from ⟨hc, hd⟩)).2 _ _ a1 _ c1 _ (dadd (fof f) (fof g)) i1.out)
    rwa [show icont ((iadd (a, b) (c, d)).1, (iadd (a, b) (c, d)).2) (dadd (fof f) (fof g)) = true from L1] at this)
  have HJ := fun W a1 c1 [i1 : DI W (dbad (dsub (fof f) (fof g))) (decide (dman (dsub (fof f) (fof g)) < 0)) a1 (nl (dman (dsub (fof f) (fof g))).natAbs) c1 (dexp (dsub (fof f) (fof g))) (dsub (fof f) (fof g))] [Tb W] => Lib.hid (show Calls Tryz.prog 107 #[.agg #[.int .u64 ((isub (a, b) (c, d)).1 : Nat), .int .u64 ((isub (a, b) (c, d)).2 : Nat)], .agg #[.bool (dbad (dsub (fof f) (fof g))), .bool (decide (dman (dsub (fof f) (fof g)) < 0)), .slice a1 (nl (dman (dsub (fof f) (fof g))).natAbs) c1, .int .i64 (dexp (dsub (fof f) (fof g)))]] W fun e w' => e = .returned (.bool true) ∧ From W w' from by
    have := frm (icont_any W tb (isub (a, b) (c, d)).1 (isub (a, b) (c, d)).2 (isub_lt (show Lt64 (a, b) from ⟨ha, hb⟩) (show Lt64 (c, d) from ⟨hc, hd⟩)).1 (isub_lt (show Lt64 (a, b) from ⟨ha, hb⟩) (show Lt64 (c, d) from ⟨hc, hd⟩)).2 _ _ a1 _ c1 _ (dsub (fof f) (fof g)) i1.out)
    rwa [show icont ((isub (a, b) (c, d)).1, (isub (a, b) (c, d)).2) (dsub (fof f) (fof g)) = true from L2] at this)
  have HK := fun W a1 c1 [i1 : DI W (dbad (dmul (fof f) (fof g))) (decide (dman (dmul (fof f) (fof g)) < 0)) a1 (nl (dman (dmul (fof f) (fof g))).natAbs) c1 (dexp (dmul (fof f) (fof g))) (dmul (fof f) (fof g))] [Tb W] => Lib.hid (show Calls Tryz.prog 107 #[.agg #[.int .u64 ((imul (a, b) (c, d)).1 : Nat), .int .u64 ((imul (a, b) (c, d)).2 : Nat)], .agg #[.bool (dbad (dmul (fof f) (fof g))), .bool (decide (dman (dmul (fof f) (fof g)) < 0)), .slice a1 (nl (dman (dmul (fof f) (fof g))).natAbs) c1, .int .i64 (dexp (dmul (fof f) (fof g)))]] W fun e w' => e = .returned (.bool true) ∧ From W w' from by
    have := frm (icont_any W tb (imul (a, b) (c, d)).1 (imul (a, b) (c, d)).2 (imul_lt (a, b) (c, d)).1 (imul_lt (a, b) (c, d)).2 _ _ a1 _ c1 _ (dmul (fof f) (fof g)) i1.out)
    rwa [show icont ((imul (a, b) (c, d)).1, (imul (a, b) (c, d)).2) (dmul (fof f) (fof g)) = true from L3] at this)
  have HL := fun W a1 c1 [i1 : DI W (dbad (dmul (fof f) (fof f))) (decide (dman (dmul (fof f) (fof f)) < 0)) a1 (nl (dman (dmul (fof f) (fof f))).natAbs) c1 (dexp (dmul (fof f) (fof f))) (dmul (fof f) (fof f))] [Tb W] => Lib.hid (show Calls Tryz.prog 107 #[.agg #[.int .u64 ((isqr (a, b)).1 : Nat), .int .u64 ((isqr (a, b)).2 : Nat)], .agg #[.bool (dbad (dmul (fof f) (fof f))), .bool (decide (dman (dmul (fof f) (fof f)) < 0)), .slice a1 (nl (dman (dmul (fof f) (fof f))).natAbs) c1, .int .i64 (dexp (dmul (fof f) (fof f)))]] W fun e w' => e = .returned (.bool true) ∧ From W w' from by
    have := frm (icont_any W tb (isqr (a, b)).1 (isqr (a, b)).2 (isqr_lt (a, b)).1 (isqr_lt (a, b)).2 _ _ a1 _ c1 _ (dmul (fof f) (fof f)) i1.out)
    rwa [show icont ((isqr (a, b)).1, (isqr (a, b)).2) (dmul (fof f) (fof f)) = true from L4] at this)
  have HS := fun W a1 c1 [i1 : DI W (dbad (fof g)) (decide (dman (fof g) < 0)) a1 (nl (dman (fof g)).natAbs) c1 (dexp (fof g)) (fof g)] [Tb W] => Lib.hid (frm (dsign_any W _ _ _ _ _ _ (fof g) i1.out tb))
  have HM := fun W [Tb W] => Lib.hid (frm (wdiv_any W f g hf hg 1 tb))
  have HN := fun W [Tb W] => Lib.hid (frm (wdiv_any W f g hf hg 2 tb))
  have hsg : cmpI (dman (fof g)) 0 = 0 := by rw [hz]; decide
  rw [hsg] at HS
  rw [iwithin_iff.2 k1] at H1
  rw [iwithin_iff.2 k2] at H2
  clear L1 L2 L3 L4 L5 hz k1 k2 hsg
  generalize hd0 : dadd (fof f) (fof g) = e0 at *
  clear hd0
  generalize hd1 : dsub (fof f) (fof g) = e1 at *
  clear hd1
  generalize hd2 : dmul (fof f) (fof g) = e2 at *
  clear hd2
  generalize hd3 : dmul (fof f) (fof f) = e3 at *
  clear hd3
  generalize fof f = d1 at *
  generalize fof g = d2 at *
  generalize (((iadd (a, b) (c, d)).1 : Nat) : Int) = t10 at *
  generalize (((iadd (a, b) (c, d)).2 : Nat) : Int) = t11 at *
  generalize (((isub (a, b) (c, d)).1 : Nat) : Int) = t20 at *
  generalize (((isub (a, b) (c, d)).2 : Nat) : Int) = t21 at *
  generalize (((imul (a, b) (c, d)).1 : Nat) : Int) = t30 at *
  generalize (((imul (a, b) (c, d)).2 : Nat) : Int) = t31 at *
  generalize (((isqr (a, b)).1 : Nat) : Int) = t40 at *
  generalize (((isqr (a, b)).2 : Nat) : Int) = t41 at *
  generalize (((idiv (a, b) (c, d)).1 : Nat) : Int) = t50 at *
  generalize (((idiv (a, b) (c, d)).2 : Nat) : Int) = t51 at *
  generalize ((fdiv f g 1 : Nat) : Int) = z1 at *
  generalize ((fdiv f g 2 : Nat) : Int) = z2 at *
  generalize ((a : Nat) : Int) = p at *
  generalize ((b : Nat) : Int) = q at *
  generalize ((c : Nat) : Int) = r at *
  generalize ((d : Nat) : Int) = s at *
  generalize ((f : Nat) : Int) = u at *
  generalize ((g : Nat) : Int) = v at *
  go_enter Tryz.func20, Tryz.ntmps20
  go_wp2_with fail
  refine (H1 _ ).out.mono ?_
  rintro o w1 ⟨rfl, b1⟩
  go_wp2_with fail
  refine (H2 _ ).out.mono ?_
  rintro o w2 ⟨rfl, b2⟩
  go_wp2_with fail
  refine (HO _ ).out.mono ?_
  rintro o w3 ⟨a3, c3, rfl, i3, b3⟩
  go_wp2_with fail
  refine (HP _ ).out.mono ?_
  rintro o w4 ⟨a4, c4, rfl, i4, b4⟩
  go_wp2_with fail
  first
  | go_region_held3 (fun w' => w'.cell? ⟨w.heap.size, 0, none⟩ = some (.int .u64 p) ∧ w'.cell? ⟨w.heap.size, 1, none⟩ = some (.int .u64 q) ∧ w'.cell? ⟨w.heap.size + 1, 0, none⟩ = some (.int .u64 r) ∧ w'.cell? ⟨w.heap.size + 1, 1, none⟩ = some (.int .u64 s) ∧ w'.cell? ⟨w4.heap.size, 0, none⟩ = some (.bool (dbad d1)) ∧ w'.cell? ⟨w4.heap.size, 1, none⟩ = some (.bool (decide (dman d1 < 0))) ∧ w'.cell? ⟨w4.heap.size, 2, none⟩ = some (.slice a3 (nl (dman d1).natAbs) c3) ∧ w'.cell? ⟨w4.heap.size, 3, none⟩ = some (.int .i64 (dexp d1)) ∧ w'.cell? ⟨w4.heap.size + 1, 0, none⟩ = some (.bool (dbad d2)) ∧ w'.cell? ⟨w4.heap.size + 1, 1, none⟩ = some (.bool (decide (dman d2 < 0))) ∧ w'.cell? ⟨w4.heap.size + 1, 2, none⟩ = some (.slice a4 (nl (dman d2).natAbs) c4) ∧ w'.cell? ⟨w4.heap.size + 1, 3, none⟩ = some (.int .i64 (dexp d2))) (first | (go_simp; done))
      (first
        | (go_at_call 122; refine (HA _ ).out.mono ?_; rintro o w5 ⟨rfl, b5⟩)
        | (go_at_call 40; refine (HF _ _ _ _ _).out.mono ?_; rintro o w6 ⟨a6, c6, rfl, i6, b6⟩)
        | (go_at_call 107; refine (HI _ _ _ ).out.mono ?_; rintro o w7 ⟨rfl, b7⟩)
        | (go_at_call 123; refine (HB _ ).out.mono ?_; rintro o w8 ⟨rfl, b8⟩)
        | (go_at_call 108; refine (HG _ _ _ _ _).out.mono ?_; rintro o w9 ⟨a9, c9, rfl, i9, b9⟩)
        | (go_at_call 107; refine (HJ _ _ _ ).out.mono ?_; rintro o w10 ⟨rfl, b10⟩)
        | (go_at_call 124; refine (HC _ ).out.mono ?_; rintro o w11 ⟨rfl, b11⟩)
        | (go_at_call 43; refine (HH _ _ _ _ _).out.mono ?_; rintro o w12 ⟨a12, c12, rfl, i12, b12⟩)
        | (go_at_call 107; refine (HK _ _ _ ).out.mono ?_; rintro o w13 ⟨rfl, b13⟩)
        | (go_at_call 126; refine (HD _ ).out.mono ?_; rintro o w14 ⟨rfl, b14⟩)
        | (go_at_call 43; refine (HH2 _ _ _ _ _).out.mono ?_; rintro o w15 ⟨a15, c15, rfl, i15, b15⟩)
        | (go_at_call 107; refine (HL _ _ _ ).out.mono ?_; rintro o w16 ⟨rfl, b16⟩)
        | fail)
  | fail "region"
  all_goals (
    go_wp2_with fail
    refine (HS _ _ _ ).out.mono ?_
    rintro o w17 ⟨rfl, b17⟩
    go_wp2_with fail
    refine (HW _ ).out.mono ?_
    rintro o w18 ⟨rfl, b18⟩
    go_wp2_with fail
    go_ret
    exact ⟨rfl, zbh⟩)

set_option maxRecDepth 100000 in
set_option maxHeartbeats 40000000 in
theorem holds_n (w : World) (hT : Tab w) (a : Nat) (b : Nat) (c : Nat) (d : Nat) (f : Nat) (g : Nat) (ha : a < 18446744073709551616) (hb : b < 18446744073709551616) (hc : c < 18446744073709551616) (hd : d < 18446744073709551616) (hf : f < 18446744073709551616) (hg : g < 18446744073709551616) (k1 : imem f (a, b)) (k2 : imem g (c, d)) (hz : dman (fof g) ≠ 0) : Calls Tryz.prog 20 #[.agg #[.int .u64 (a : Nat), .int .u64 (b : Nat)], .agg #[.int .u64 (c : Nat), .int .u64 (d : Nat)], .int .u64 (f : Nat), .int .u64 (g : Nat)] w fun o w' => o = .returned (.bool true) ∧ Below w.heap.size w w' := by
  have HT : Tb w := ⟨hT⟩
  obtain ⟨L1, L2, L3, L4, L5⟩ := holds_law (x := (a, b)) (y := (c, d)) (show Lt64 (a, b) from ⟨ha, hb⟩) (show Lt64 (c, d) from ⟨hc, hd⟩) hf hg k1 k2
  have H1 := fun W [Tb W] => Lib.hid (frm (within_any W f a b hf ha hb))
  have H2 := fun W [Tb W] => Lib.hid (frm (within_any W g c d hg hc hd))
  have HW := fun W [Tb W] => Lib.hid (frm (awakeI_any W))
  have HO := fun W [Tb W] => Lib.hid (frd (isN_fof f) (fof_any W f hf tb))
  have HP := fun W [Tb W] => Lib.hid (frd (isN_fof g) (fof_any W g hg tb))
  have HA := fun W [Tb W] => Lib.hid (frm (iadd_any W tb a b c d ha hb hc hd))
  have HB := fun W [Tb W] => Lib.hid (frm (isub_any W tb a b c d ha hb hc hd))
  have HC := fun W [Tb W] => Lib.hid (frm (imul_any W tb a b c d ha hb hc hd))
  have HD := fun W [Tb W] => Lib.hid (frm (isqr_any W tb a b ha hb))
  have HE := fun W [Tb W] => Lib.hid (frm (idiv_any W tb a b c d ha hb hc hd))
  have HF := fun W a1 c1 a2 c2 [i1 : DI W (dbad (fof f)) (decide (dman (fof f) < 0)) a1 (nl (dman (fof f)).natAbs) c1 (dexp (fof f)) (fof f)] [i2 : DI W (dbad (fof g)) (decide (dman (fof g) < 0)) a2 (nl (dman (fof g)).natAbs) c2 (dexp (fof g)) (fof g)] [Tb W] => Lib.hid (frd (show IsN (dadd (fof f) (fof g)) from isN_add _ _) (dadd_any W _ _ _ _ _ _ _ _ _ _ _ _ (fof f) (fof g) i1.out i2.out tb))
  have HG := fun W a1 c1 a2 c2 [i1 : DI W (dbad (fof f)) (decide (dman (fof f) < 0)) a1 (nl (dman (fof f)).natAbs) c1 (dexp (fof f)) (fof f)] [i2 : DI W (dbad (fof g)) (decide (dman (fof g) < 0)) a2 (nl (dman (fof g)).natAbs) c2 (dexp (fof g)) (fof g)] [Tb W] => Lib.hid (frd (show IsN (dsub (fof f) (fof g)) from isN_add _ _) (dsub_any W _ _ _ _ _ _ _ _ _ _ _ _ (fof f) (fof g) i1.out i2.out tb))
  have HH := fun W a1 c1 a2 c2 [i1 : DI W (dbad (fof f)) (decide (dman (fof f) < 0)) a1 (nl (dman (fof f)).natAbs) c1 (dexp (fof f)) (fof f)] [i2 : DI W (dbad (fof g)) (decide (dman (fof g) < 0)) a2 (nl (dman (fof g)).natAbs) c2 (dexp (fof g)) (fof g)] [Tb W] => Lib.hid (frd (show IsN (dmul (fof f) (fof g)) from isN_mul _ _) (dmul_any W _ _ _ _ _ _ _ _ _ _ _ _ (fof f) (fof g) i1.out i2.out tb))
  have HH2 := fun W a1 c1 a2 c2 [i1 : DI W (dbad (fof f)) (decide (dman (fof f) < 0)) a1 (nl (dman (fof f)).natAbs) c1 (dexp (fof f)) (fof f)] [i2 : DI W (dbad (fof f)) (decide (dman (fof f) < 0)) a2 (nl (dman (fof f)).natAbs) c2 (dexp (fof f)) (fof f)] [Tb W] => Lib.hid (frd (show IsN (dmul (fof f) (fof f)) from isN_mul _ _) (dmul_any W _ _ _ _ _ _ _ _ _ _ _ _ (fof f) (fof f) i1.out i2.out tb))
  have HI := fun W a1 c1 [i1 : DI W (dbad (dadd (fof f) (fof g))) (decide (dman (dadd (fof f) (fof g)) < 0)) a1 (nl (dman (dadd (fof f) (fof g))).natAbs) c1 (dexp (dadd (fof f) (fof g))) (dadd (fof f) (fof g))] [Tb W] => Lib.hid (show Calls Tryz.prog 107 #[.agg #[.int .u64 ((iadd (a, b) (c, d)).1 : Nat), .int .u64 ((iadd (a, b) (c, d)).2 : Nat)], .agg #[.bool (dbad (dadd (fof f) (fof g))), .bool (decide (dman (dadd (fof f) (fof g)) < 0)), .slice a1 (nl (dman (dadd (fof f) (fof g))).natAbs) c1, .int .i64 (dexp (dadd (fof f) (fof g)))]] W fun e w' => e = .returned (.bool true) ∧ From W w' from by
    have := frm (icont_any W tb (iadd (a, b) (c, d)).1 (iadd (a, b) (c, d)).2 (iadd_lt (show Lt64 (a, b) from ⟨ha, hb⟩) (show Lt64 (c, d) from ⟨hc, hd⟩)).1 (iadd_lt (show Lt64 (a, b) from ⟨ha, hb⟩) (show Lt64 (c, d) from ⟨hc, hd⟩)).2 _ _ a1 _ c1 _ (dadd (fof f) (fof g)) i1.out)
    rwa [show icont ((iadd (a, b) (c, d)).1, (iadd (a, b) (c, d)).2) (dadd (fof f) (fof g)) = true from L1] at this)
  have HJ := fun W a1 c1 [i1 : DI W (dbad (dsub (fof f) (fof g))) (decide (dman (dsub (fof f) (fof g)) < 0)) a1 (nl (dman (dsub (fof f) (fof g))).natAbs) c1 (dexp (dsub (fof f) (fof g))) (dsub (fof f) (fof g))] [Tb W] => Lib.hid (show Calls Tryz.prog 107 #[.agg #[.int .u64 ((isub (a, b) (c, d)).1 : Nat), .int .u64 ((isub (a, b) (c, d)).2 : Nat)], .agg #[.bool (dbad (dsub (fof f) (fof g))), .bool (decide (dman (dsub (fof f) (fof g)) < 0)), .slice a1 (nl (dman (dsub (fof f) (fof g))).natAbs) c1, .int .i64 (dexp (dsub (fof f) (fof g)))]] W fun e w' => e = .returned (.bool true) ∧ From W w' from by
    have := frm (icont_any W tb (isub (a, b) (c, d)).1 (isub (a, b) (c, d)).2 (isub_lt (show Lt64 (a, b) from ⟨ha, hb⟩) (show Lt64 (c, d) from ⟨hc, hd⟩)).1 (isub_lt (show Lt64 (a, b) from ⟨ha, hb⟩) (show Lt64 (c, d) from ⟨hc, hd⟩)).2 _ _ a1 _ c1 _ (dsub (fof f) (fof g)) i1.out)
    rwa [show icont ((isub (a, b) (c, d)).1, (isub (a, b) (c, d)).2) (dsub (fof f) (fof g)) = true from L2] at this)
  have HK := fun W a1 c1 [i1 : DI W (dbad (dmul (fof f) (fof g))) (decide (dman (dmul (fof f) (fof g)) < 0)) a1 (nl (dman (dmul (fof f) (fof g))).natAbs) c1 (dexp (dmul (fof f) (fof g))) (dmul (fof f) (fof g))] [Tb W] => Lib.hid (show Calls Tryz.prog 107 #[.agg #[.int .u64 ((imul (a, b) (c, d)).1 : Nat), .int .u64 ((imul (a, b) (c, d)).2 : Nat)], .agg #[.bool (dbad (dmul (fof f) (fof g))), .bool (decide (dman (dmul (fof f) (fof g)) < 0)), .slice a1 (nl (dman (dmul (fof f) (fof g))).natAbs) c1, .int .i64 (dexp (dmul (fof f) (fof g)))]] W fun e w' => e = .returned (.bool true) ∧ From W w' from by
    have := frm (icont_any W tb (imul (a, b) (c, d)).1 (imul (a, b) (c, d)).2 (imul_lt (a, b) (c, d)).1 (imul_lt (a, b) (c, d)).2 _ _ a1 _ c1 _ (dmul (fof f) (fof g)) i1.out)
    rwa [show icont ((imul (a, b) (c, d)).1, (imul (a, b) (c, d)).2) (dmul (fof f) (fof g)) = true from L3] at this)
  have HL := fun W a1 c1 [i1 : DI W (dbad (dmul (fof f) (fof f))) (decide (dman (dmul (fof f) (fof f)) < 0)) a1 (nl (dman (dmul (fof f) (fof f))).natAbs) c1 (dexp (dmul (fof f) (fof f))) (dmul (fof f) (fof f))] [Tb W] => Lib.hid (show Calls Tryz.prog 107 #[.agg #[.int .u64 ((isqr (a, b)).1 : Nat), .int .u64 ((isqr (a, b)).2 : Nat)], .agg #[.bool (dbad (dmul (fof f) (fof f))), .bool (decide (dman (dmul (fof f) (fof f)) < 0)), .slice a1 (nl (dman (dmul (fof f) (fof f))).natAbs) c1, .int .i64 (dexp (dmul (fof f) (fof f)))]] W fun e w' => e = .returned (.bool true) ∧ From W w' from by
    have := frm (icont_any W tb (isqr (a, b)).1 (isqr (a, b)).2 (isqr_lt (a, b)).1 (isqr_lt (a, b)).2 _ _ a1 _ c1 _ (dmul (fof f) (fof f)) i1.out)
    rwa [show icont ((isqr (a, b)).1, (isqr (a, b)).2) (dmul (fof f) (fof f)) = true from L4] at this)
  have HS := fun W a1 c1 [i1 : DI W (dbad (fof g)) (decide (dman (fof g) < 0)) a1 (nl (dman (fof g)).natAbs) c1 (dexp (fof g)) (fof g)] [Tb W] => Lib.hid (frm (dsign_any W _ _ _ _ _ _ (fof g) i1.out tb))
  have HM := fun W [Tb W] => Lib.hid (frm (wdiv_any W f g hf hg 1 tb))
  have HN := fun W [Tb W] => Lib.hid (frm (wdiv_any W f g hf hg 2 tb))
  obtain ⟨⟨o1, o2⟩, o3, o4⟩ := L5 hz
  have HQ := fun W => Lib.hid (frm (fcmp_any W (idiv (a, b) (c, d)).1 (fdiv f g 1) (idiv_lt (a, b) (c, d)).1 (fdiv_lt' _ _ _)))
  have HR := fun W => Lib.hid (frm (fcmp_any W (fdiv f g 2) (idiv (a, b) (c, d)).2 (fdiv_lt' _ _ _) (idiv_lt (a, b) (c, d)).2))
  rw [o1] at HQ
  rw [o3] at HR
  generalize fcmpv (idiv (a, b) (c, d)).1 (fdiv f g 1) = y1 at *
  generalize fcmpv (fdiv f g 2) (idiv (a, b) (c, d)).2 = y2 at *
  have hsg : ¬ cmpI (dman (fof g)) 0 = 0 := by
    intro h
    exact hz (by have := cmpI_eq0.1 h; omega)
  have hsg2 : (cmpI (dman (fof g)) 0 == 0) = false := by simpa using hsg
  rw [iwithin_iff.2 k1] at H1
  rw [iwithin_iff.2 k2] at H2
  clear L1 L2 L3 L4 L5 hz k1 k2 hsg o1 o3
  generalize hd0 : dadd (fof f) (fof g) = e0 at *
  clear hd0
  generalize hd1 : dsub (fof f) (fof g) = e1 at *
  clear hd1
  generalize hd2 : dmul (fof f) (fof g) = e2 at *
  clear hd2
  generalize hd3 : dmul (fof f) (fof f) = e3 at *
  clear hd3
  generalize cmpI (dman (fof g)) 0 = y3 at *
  generalize fof f = d1 at *
  generalize fof g = d2 at *
  generalize (((iadd (a, b) (c, d)).1 : Nat) : Int) = t10 at *
  generalize (((iadd (a, b) (c, d)).2 : Nat) : Int) = t11 at *
  generalize (((isub (a, b) (c, d)).1 : Nat) : Int) = t20 at *
  generalize (((isub (a, b) (c, d)).2 : Nat) : Int) = t21 at *
  generalize (((imul (a, b) (c, d)).1 : Nat) : Int) = t30 at *
  generalize (((imul (a, b) (c, d)).2 : Nat) : Int) = t31 at *
  generalize (((isqr (a, b)).1 : Nat) : Int) = t40 at *
  generalize (((isqr (a, b)).2 : Nat) : Int) = t41 at *
  generalize (((idiv (a, b) (c, d)).1 : Nat) : Int) = t50 at *
  generalize (((idiv (a, b) (c, d)).2 : Nat) : Int) = t51 at *
  generalize ((fdiv f g 1 : Nat) : Int) = z1 at *
  generalize ((fdiv f g 2 : Nat) : Int) = z2 at *
  generalize ((a : Nat) : Int) = p at *
  generalize ((b : Nat) : Int) = q at *
  generalize ((c : Nat) : Int) = r at *
  generalize ((d : Nat) : Int) = s at *
  generalize ((f : Nat) : Int) = u at *
  generalize ((g : Nat) : Int) = v at *
  go_enter Tryz.func20, Tryz.ntmps20
  go_wp2_with fail
  refine (H1 _ ).out.mono ?_
  rintro o w1 ⟨rfl, b1⟩
  go_wp2_with fail
  refine (H2 _ ).out.mono ?_
  rintro o w2 ⟨rfl, b2⟩
  go_wp2_with fail
  refine (HO _ ).out.mono ?_
  rintro o w3 ⟨a3, c3, rfl, i3, b3⟩
  go_wp2_with fail
  refine (HP _ ).out.mono ?_
  rintro o w4 ⟨a4, c4, rfl, i4, b4⟩
  go_wp2_with fail
  first
  | go_region_held3 (fun w' => w'.cell? ⟨w.heap.size, 0, none⟩ = some (.int .u64 p) ∧ w'.cell? ⟨w.heap.size, 1, none⟩ = some (.int .u64 q) ∧ w'.cell? ⟨w.heap.size + 1, 0, none⟩ = some (.int .u64 r) ∧ w'.cell? ⟨w.heap.size + 1, 1, none⟩ = some (.int .u64 s) ∧ w'.cell? ⟨w4.heap.size, 0, none⟩ = some (.bool (dbad d1)) ∧ w'.cell? ⟨w4.heap.size, 1, none⟩ = some (.bool (decide (dman d1 < 0))) ∧ w'.cell? ⟨w4.heap.size, 2, none⟩ = some (.slice a3 (nl (dman d1).natAbs) c3) ∧ w'.cell? ⟨w4.heap.size, 3, none⟩ = some (.int .i64 (dexp d1)) ∧ w'.cell? ⟨w4.heap.size + 1, 0, none⟩ = some (.bool (dbad d2)) ∧ w'.cell? ⟨w4.heap.size + 1, 1, none⟩ = some (.bool (decide (dman d2 < 0))) ∧ w'.cell? ⟨w4.heap.size + 1, 2, none⟩ = some (.slice a4 (nl (dman d2).natAbs) c4) ∧ w'.cell? ⟨w4.heap.size + 1, 3, none⟩ = some (.int .i64 (dexp d2))) (first | (go_simp; done))
      (first
        | (go_at_call 122; refine (HA _ ).out.mono ?_; rintro o w5 ⟨rfl, b5⟩)
        | (go_at_call 40; refine (HF _ _ _ _ _).out.mono ?_; rintro o w6 ⟨a6, c6, rfl, i6, b6⟩)
        | (go_at_call 107; refine (HI _ _ _ ).out.mono ?_; rintro o w7 ⟨rfl, b7⟩)
        | (go_at_call 123; refine (HB _ ).out.mono ?_; rintro o w8 ⟨rfl, b8⟩)
        | (go_at_call 108; refine (HG _ _ _ _ _).out.mono ?_; rintro o w9 ⟨a9, c9, rfl, i9, b9⟩)
        | (go_at_call 107; refine (HJ _ _ _ ).out.mono ?_; rintro o w10 ⟨rfl, b10⟩)
        | (go_at_call 124; refine (HC _ ).out.mono ?_; rintro o w11 ⟨rfl, b11⟩)
        | (go_at_call 43; refine (HH _ _ _ _ _).out.mono ?_; rintro o w12 ⟨a12, c12, rfl, i12, b12⟩)
        | (go_at_call 107; refine (HK _ _ _ ).out.mono ?_; rintro o w13 ⟨rfl, b13⟩)
        | (go_at_call 126; refine (HD _ ).out.mono ?_; rintro o w14 ⟨rfl, b14⟩)
        | (go_at_call 43; refine (HH2 _ _ _ _ _).out.mono ?_; rintro o w15 ⟨a15, c15, rfl, i15, b15⟩)
        | (go_at_call 107; refine (HL _ _ _ ).out.mono ?_; rintro o w16 ⟨rfl, b16⟩)
        | fail)
  | fail "region"
  all_goals (
    go_wp2_with fail
    refine (HS _ _ _ ).out.mono ?_
    rintro o w17 ⟨rfl, b17⟩
    go_wp2_with fail
    refine (HE _ ).out.mono ?_
    rintro o w18 ⟨rfl, b18⟩
    go_wp2_with fail
    refine (HM _ ).out.mono ?_
    rintro o w19 ⟨rfl, b19⟩
    go_wp2_with fail
    refine (HN _ ).out.mono ?_
    rintro o w20 ⟨rfl, b20⟩
    go_wp2_with fail
    refine (HQ _ ).out.mono ?_
    rintro o w21 ⟨rfl, b21⟩
    go_wp2_with fail
    refine (HR _ ).out.mono ?_
    rintro o w22 ⟨rfl, b22⟩
    go_wp2_with fail
    refine (HW _ ).out.mono ?_
    rintro o w23 ⟨rfl, b23⟩
    go_wp2_with fail
    go_ret
    first | exact ⟨rfl, zbh⟩ | (refine ⟨?_, zbh⟩; simp [o2, o4]))

set_option maxRecDepth 100000 in
set_option maxHeartbeats 40000000 in
theorem holds_skip (w : World) (hT : Tab w) (a : Nat) (b : Nat) (c : Nat) (d : Nat) (f : Nat) (g : Nat) (ha : a < 18446744073709551616) (hb : b < 18446744073709551616) (hc : c < 18446744073709551616) (hd : d < 18446744073709551616) (hf : f < 18446744073709551616) (hg : g < 18446744073709551616) (h : (iwithin f (a, b) && iwithin g (c, d)) = false) : Calls Tryz.prog 20 #[.agg #[.int .u64 (a : Nat), .int .u64 (b : Nat)], .agg #[.int .u64 (c : Nat), .int .u64 (d : Nat)], .int .u64 (f : Nat), .int .u64 (g : Nat)] w fun o w' => o = .returned (.bool true) ∧ Below w.heap.size w w' := by
  have HT : Tb w := ⟨hT⟩
  have H1 := fun W [Tb W] => Lib.hid (frm (within_any W f a b hf ha hb))
  have H2 := fun W [Tb W] => Lib.hid (frm (within_any W g c d hg hc hd))
  have HW := fun W [Tb W] => Lib.hid (frm (awakeI_any W))
  generalize iwithin f (a, b) = k1 at *
  generalize iwithin g (c, d) = k2 at *
  generalize ((a : Nat) : Int) = p at *
  generalize ((b : Nat) : Int) = q at *
  generalize ((c : Nat) : Int) = r at *
  generalize ((d : Nat) : Int) = s at *
  generalize ((f : Nat) : Int) = u at *
  generalize ((g : Nat) : Int) = v at *
  cases k1
  · clear h
    go_enter Tryz.func20, Tryz.ntmps20
    go_wp2_with fail
    refine (H1 _).out.mono ?_
    rintro e w1 ⟨rfl, b1⟩
    go_wp2_with fail
    refine (HW _).out.mono ?_
    rintro e w2 ⟨rfl, b2⟩
    go_wp2_with fail
    go_ret
    exact ⟨rfl, zbh⟩
  · obtain rfl : k2 = false := by simpa using h
    clear h
    go_enter Tryz.func20, Tryz.ntmps20
    go_wp2_with fail
    refine (H1 _).out.mono ?_
    rintro e w1 ⟨rfl, b1⟩
    go_wp2_with fail
    refine (H2 _).out.mono ?_
    rintro e w2 ⟨rfl, b2⟩
    go_wp2_with fail
    refine (HW _).out.mono ?_
    rintro e w3 ⟨rfl, b3⟩
    go_wp2_with fail
    go_ret
    exact ⟨rfl, zbh⟩

theorem holds5_any (w : World) (hT : Tab w) (a : Nat) (b : Nat) (c : Nat) (d : Nat) (f : Nat) (g : Nat) (ha : a < 18446744073709551616) (hb : b < 18446744073709551616) (hc : c < 18446744073709551616) (hd : d < 18446744073709551616) (hf : f < 18446744073709551616) (hg : g < 18446744073709551616) : Calls Tryz.prog 20 #[.agg #[.int .u64 (a : Nat), .int .u64 (b : Nat)], .agg #[.int .u64 (c : Nat), .int .u64 (d : Nat)], .int .u64 (f : Nat), .int .u64 (g : Nat)] w fun o w' => o = .returned (.bool true) ∧ Below w.heap.size w w' := by
  rcases two_ways (iwithin f (a, b)) with h | h
  · rcases two_ways (iwithin g (c, d)) with k | k
    · by_cases z : dman (fof g) = 0
      · exact holds_z w hT a b c d f g ha hb hc hd hf hg (iwithin_iff.1 h) (iwithin_iff.1 k) z
      · exact holds_n w hT a b c d f g ha hb hc hd hf hg (iwithin_iff.1 h) (iwithin_iff.1 k) z
    · exact holds_skip w hT a b c d f g ha hb hc hd hf hg (by rw [k, Bool.and_false])
  · exact holds_skip w hT a b c d f g ha hb hc hd hf hg (by rw [h, Bool.false_and])

end Go.Proofs.YtmpcikkimcehnaaGreatDoor


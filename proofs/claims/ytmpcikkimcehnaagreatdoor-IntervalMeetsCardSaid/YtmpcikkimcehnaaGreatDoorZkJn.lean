/-
  Walks: the law IntervalMeets.
-/
import Derived.Test.YtmpcikkimcehnaaGreatDoorZkD
namespace Go.Proofs.YtmpcikkimcehnaaGreatDoor
open Go.RowKit Sp
set_option linter.unusedSimpArgs false

attribute [local irreducible] Calls
set_option maxRecDepth 100000 in
set_option maxHeartbeats 40000000 in
theorem meets_inv (w : World) (hT : Tab w) (a : Nat) (b : Nat) (c : Nat) (d : Nat) (f : Nat) (ha : a < 18446744073709551616) (hb : b < 18446744073709551616) (hc : c < 18446744073709551616) (hd : d < 18446744073709551616) (hf : f < 18446744073709551616) (hk : (iok (a, b) && iok (c, d)) = false) : Calls Tryz.prog 10 #[.agg #[.int .u64 (a : Nat), .int .u64 (b : Nat)], .agg #[.int .u64 (c : Nat), .int .u64 (d : Nat)], .int .u64 (f : Nat)] w fun o w' => o = .returned (.bool true) ∧ Below w.heap.size w w' := by
  have HT : Tb w := ⟨hT⟩
  have HM := fun W => Lib.hid (frm (imeet_any W a b c d ha hb hc hd))
  have H1 := fun W [Tb W] => Lib.hid (frm (within_any W f a b hf ha hb))
  have H2 := fun W [Tb W] => Lib.hid (frm (within_any W f c d hf hc hd))
  have H3 := fun W [Tb W] => Lib.hid (frm (within_any W f (imeet (a, b) (c, d)).1 (imeet (a, b) (c, d)).2 hf (imeet_lt (show Lt64 (a, b) from ⟨ha, hb⟩) (show Lt64 (c, d) from ⟨hc, hd⟩)).1 (imeet_lt (show Lt64 (a, b) from ⟨ha, hb⟩) (show Lt64 (c, d) from ⟨hc, hd⟩)).2))
  have HV := fun W => Lib.hid (frm (r5valid_any W a b ha hb))
  have HU := fun W => Lib.hid (frm (r5valid_any W c d hc hd))
  have HS := fun W => Lib.hid (frm (isubset_any W a b c d ha hb hc hd))
  have HI := fun W => Lib.hid (frm (iinside_any W a b c d ha hb hc hd))
  have HH := fun W => Lib.hid (frm (ihull_any W a b c d ha hb hc hd))
  have HA := fun W => Lib.hid (frm (isubset_any W (a, b).1 (a, b).2 (ihull (a, b) (c, d)).1 (ihull (a, b) (c, d)).2 (show Lt64 (a, b) from ⟨ha, hb⟩).1 (show Lt64 (a, b) from ⟨ha, hb⟩).2 (ihull_lt (show Lt64 (a, b) from ⟨ha, hb⟩) (show Lt64 (c, d) from ⟨hc, hd⟩)).1 (ihull_lt (show Lt64 (a, b) from ⟨ha, hb⟩) (show Lt64 (c, d) from ⟨hc, hd⟩)).2))
  have HB := fun W => Lib.hid (frm (isubset_any W (c, d).1 (c, d).2 (ihull (a, b) (c, d)).1 (ihull (a, b) (c, d)).2 (show Lt64 (c, d) from ⟨hc, hd⟩).1 (show Lt64 (c, d) from ⟨hc, hd⟩).2 (ihull_lt (show Lt64 (a, b) from ⟨ha, hb⟩) (show Lt64 (c, d) from ⟨hc, hd⟩)).1 (ihull_lt (show Lt64 (a, b) from ⟨ha, hb⟩) (show Lt64 (c, d) from ⟨hc, hd⟩)).2))
  have HC := fun W => Lib.hid (frm (isubset_any W (a, b).1 (a, b).2 (imeet (a, b) (c, d)).1 (imeet (a, b) (c, d)).2 (show Lt64 (a, b) from ⟨ha, hb⟩).1 (show Lt64 (a, b) from ⟨ha, hb⟩).2 (imeet_lt (show Lt64 (a, b) from ⟨ha, hb⟩) (show Lt64 (c, d) from ⟨hc, hd⟩)).1 (imeet_lt (show Lt64 (a, b) from ⟨ha, hb⟩) (show Lt64 (c, d) from ⟨hc, hd⟩)).2))
  have HW := fun W [Tb W] => Lib.hid (frm (awakeI_any W))
  have L5 : iwithin f (a, b) = true → iok (a, b) = true := fun h => (iwithin_iff.1 h).1
  have L6 : iwithin f (c, d) = true → iok (c, d) = true := fun h => (iwithin_iff.1 h).1
  obtain ⟨L1, L2, L3, L4⟩ := meets_law (x := (a, b)) (y := (c, d)) ⟨ha, hb⟩ ⟨hc, hd⟩ f
  generalize imeetok (a, b) (c, d) = K at *
  generalize iwithin f (a, b) = x1 at *
  generalize iwithin f (c, d) = x2 at *
  generalize iwithin f (imeet (a, b) (c, d)) = x3 at *
  generalize iok (a, b) = v1 at *
  generalize iok (c, d) = v2 at *
  generalize isubset (a, b) (c, d) = s1 at *
  generalize iinside (a, b) (c, d) = i1 at *
  generalize isubset (a, b) (ihull (a, b) (c, d)) = g1 at *
  generalize isubset (c, d) (ihull (a, b) (c, d)) = g2 at *
  generalize isubset (a, b) (imeet (a, b) (c, d)) = s2 at *
  generalize (((imeet (a, b) (c, d)).1 : Nat) : Int) = m0 at *
  generalize (((imeet (a, b) (c, d)).2 : Nat) : Int) = m1 at *
  generalize (((ihull (a, b) (c, d)).1 : Nat) : Int) = h0 at *
  generalize (((ihull (a, b) (c, d)).2 : Nat) : Int) = h1 at *
  generalize ((a : Nat) : Int) = p at *
  generalize ((b : Nat) : Int) = q at *
  generalize ((c : Nat) : Int) = r at *
  generalize ((d : Nat) : Int) = s at *
  generalize ((f : Nat) : Int) = z at *
  obtain ⟨e1, e2, e3⟩ := L3 hk
  subst e1 e2 e3
  clear L3 L4
  have L3 : True := trivial
  have L4 : True := trivial
  clear L2
  have L2 : True := trivial
  cases v1 <;> cases v2 <;> cases x1 <;> cases x2
  all_goals first
  | (exfalso; revert L1 L2 L3 L4 L5 L6; revert hk; decide)
  | skip
  all_goals (
    clear L1 L2 L3 L4 L5 L6 hk
    go_enter Tryz.func10, Tryz.ntmps10
    go_wp2_with fail
    repeat (first
      | (refine (HM _).out.mono ?_; rintro o w1 ⟨rfl, b1⟩; go_wp2_with fail)
      | (refine (H1 _).out.mono ?_; rintro o w1 ⟨rfl, b1⟩; go_wp2_with fail)
      | (refine (H2 _).out.mono ?_; rintro o w1 ⟨rfl, b1⟩; go_wp2_with fail)
      | (refine (H3 _).out.mono ?_; rintro o w1 ⟨rfl, b1⟩; go_wp2_with fail)
      | (refine (HV _).out.mono ?_; rintro o w1 ⟨rfl, b1⟩; go_wp2_with fail)
      | (refine (HU _).out.mono ?_; rintro o w1 ⟨rfl, b1⟩; go_wp2_with fail)
      | (refine (HS _).out.mono ?_; rintro o w1 ⟨rfl, b1⟩; go_wp2_with fail)
      | (refine (HI _).out.mono ?_; rintro o w1 ⟨rfl, b1⟩; go_wp2_with fail)
      | (refine (HH _).out.mono ?_; rintro o w1 ⟨rfl, b1⟩; go_wp2_with fail)
      | (refine (HA _).out.mono ?_; rintro o w1 ⟨rfl, b1⟩; go_wp2_with fail)
      | (refine (HB _).out.mono ?_; rintro o w1 ⟨rfl, b1⟩; go_wp2_with fail)
      | (refine (HC _).out.mono ?_; rintro o w1 ⟨rfl, b1⟩; go_wp2_with fail)
      | (refine (HW _).out.mono ?_; rintro o w1 ⟨rfl, b1⟩; go_wp2_with fail))
    go_ret
    exact ⟨rfl, zbh⟩)

set_option maxRecDepth 100000 in
set_option maxHeartbeats 40000000 in
theorem meets_ok (w : World) (hT : Tab w) (a : Nat) (b : Nat) (c : Nat) (d : Nat) (f : Nat) (ha : a < 18446744073709551616) (hb : b < 18446744073709551616) (hc : c < 18446744073709551616) (hd : d < 18446744073709551616) (hf : f < 18446744073709551616) (hk : (iok (a, b) && iok (c, d)) = true) (hm : imeetok (a, b) (c, d) = true) : Calls Tryz.prog 10 #[.agg #[.int .u64 (a : Nat), .int .u64 (b : Nat)], .agg #[.int .u64 (c : Nat), .int .u64 (d : Nat)], .int .u64 (f : Nat)] w fun o w' => o = .returned (.bool true) ∧ Below w.heap.size w w' := by
  have HT : Tb w := ⟨hT⟩
  have HM := fun W => Lib.hid (frm (imeet_any W a b c d ha hb hc hd))
  have H1 := fun W [Tb W] => Lib.hid (frm (within_any W f a b hf ha hb))
  have H2 := fun W [Tb W] => Lib.hid (frm (within_any W f c d hf hc hd))
  have H3 := fun W [Tb W] => Lib.hid (frm (within_any W f (imeet (a, b) (c, d)).1 (imeet (a, b) (c, d)).2 hf (imeet_lt (show Lt64 (a, b) from ⟨ha, hb⟩) (show Lt64 (c, d) from ⟨hc, hd⟩)).1 (imeet_lt (show Lt64 (a, b) from ⟨ha, hb⟩) (show Lt64 (c, d) from ⟨hc, hd⟩)).2))
  have HV := fun W => Lib.hid (frm (r5valid_any W a b ha hb))
  have HU := fun W => Lib.hid (frm (r5valid_any W c d hc hd))
  have HS := fun W => Lib.hid (frm (isubset_any W a b c d ha hb hc hd))
  have HI := fun W => Lib.hid (frm (iinside_any W a b c d ha hb hc hd))
  have HH := fun W => Lib.hid (frm (ihull_any W a b c d ha hb hc hd))
  have HA := fun W => Lib.hid (frm (isubset_any W (a, b).1 (a, b).2 (ihull (a, b) (c, d)).1 (ihull (a, b) (c, d)).2 (show Lt64 (a, b) from ⟨ha, hb⟩).1 (show Lt64 (a, b) from ⟨ha, hb⟩).2 (ihull_lt (show Lt64 (a, b) from ⟨ha, hb⟩) (show Lt64 (c, d) from ⟨hc, hd⟩)).1 (ihull_lt (show Lt64 (a, b) from ⟨ha, hb⟩) (show Lt64 (c, d) from ⟨hc, hd⟩)).2))
  have HB := fun W => Lib.hid (frm (isubset_any W (c, d).1 (c, d).2 (ihull (a, b) (c, d)).1 (ihull (a, b) (c, d)).2 (show Lt64 (c, d) from ⟨hc, hd⟩).1 (show Lt64 (c, d) from ⟨hc, hd⟩).2 (ihull_lt (show Lt64 (a, b) from ⟨ha, hb⟩) (show Lt64 (c, d) from ⟨hc, hd⟩)).1 (ihull_lt (show Lt64 (a, b) from ⟨ha, hb⟩) (show Lt64 (c, d) from ⟨hc, hd⟩)).2))
  have HC := fun W => Lib.hid (frm (isubset_any W (a, b).1 (a, b).2 (imeet (a, b) (c, d)).1 (imeet (a, b) (c, d)).2 (show Lt64 (a, b) from ⟨ha, hb⟩).1 (show Lt64 (a, b) from ⟨ha, hb⟩).2 (imeet_lt (show Lt64 (a, b) from ⟨ha, hb⟩) (show Lt64 (c, d) from ⟨hc, hd⟩)).1 (imeet_lt (show Lt64 (a, b) from ⟨ha, hb⟩) (show Lt64 (c, d) from ⟨hc, hd⟩)).2))
  have HW := fun W [Tb W] => Lib.hid (frm (awakeI_any W))
  have L5 : iwithin f (a, b) = true → iok (a, b) = true := fun h => (iwithin_iff.1 h).1
  have L6 : iwithin f (c, d) = true → iok (c, d) = true := fun h => (iwithin_iff.1 h).1
  obtain ⟨L1, L2, L3, L4⟩ := meets_law (x := (a, b)) (y := (c, d)) ⟨ha, hb⟩ ⟨hc, hd⟩ f
  generalize imeetok (a, b) (c, d) = K at *
  generalize iwithin f (a, b) = x1 at *
  generalize iwithin f (c, d) = x2 at *
  generalize iwithin f (imeet (a, b) (c, d)) = x3 at *
  generalize iok (a, b) = v1 at *
  generalize iok (c, d) = v2 at *
  generalize isubset (a, b) (c, d) = s1 at *
  generalize iinside (a, b) (c, d) = i1 at *
  generalize isubset (a, b) (ihull (a, b) (c, d)) = g1 at *
  generalize isubset (c, d) (ihull (a, b) (c, d)) = g2 at *
  generalize isubset (a, b) (imeet (a, b) (c, d)) = s2 at *
  generalize (((imeet (a, b) (c, d)).1 : Nat) : Int) = m0 at *
  generalize (((imeet (a, b) (c, d)).2 : Nat) : Int) = m1 at *
  generalize (((ihull (a, b) (c, d)).1 : Nat) : Int) = h0 at *
  generalize (((ihull (a, b) (c, d)).2 : Nat) : Int) = h1 at *
  generalize ((a : Nat) : Int) = p at *
  generalize ((b : Nat) : Int) = q at *
  generalize ((c : Nat) : Int) = r at *
  generalize ((d : Nat) : Int) = s at *
  generalize ((f : Nat) : Int) = z at *
  subst hm
  obtain ⟨e1, e2, e3, e4⟩ := L4 hk
  have e5 := L2 rfl
  subst e1 e2 e5
  have e6 : s1 = s2 := by simpa using e4
  subst e6
  clear L2 L4 e4
  have L2 : True := trivial
  have L4 := e3
  clear e3
  cases v1 <;> cases v2 <;> cases x1 <;> cases x2 <;> cases i1 <;> cases s1
  all_goals first
  | (exfalso; revert L1 L2 L3 L4 L5 L6; revert hk; decide)
  | skip
  all_goals (
    clear L1 L2 L3 L4 L5 L6 hk
    go_enter Tryz.func10, Tryz.ntmps10
    go_wp2_with fail
    repeat (first
      | (refine (HM _).out.mono ?_; rintro o w1 ⟨rfl, b1⟩; go_wp2_with fail)
      | (refine (H1 _).out.mono ?_; rintro o w1 ⟨rfl, b1⟩; go_wp2_with fail)
      | (refine (H2 _).out.mono ?_; rintro o w1 ⟨rfl, b1⟩; go_wp2_with fail)
      | (refine (H3 _).out.mono ?_; rintro o w1 ⟨rfl, b1⟩; go_wp2_with fail)
      | (refine (HV _).out.mono ?_; rintro o w1 ⟨rfl, b1⟩; go_wp2_with fail)
      | (refine (HU _).out.mono ?_; rintro o w1 ⟨rfl, b1⟩; go_wp2_with fail)
      | (refine (HS _).out.mono ?_; rintro o w1 ⟨rfl, b1⟩; go_wp2_with fail)
      | (refine (HI _).out.mono ?_; rintro o w1 ⟨rfl, b1⟩; go_wp2_with fail)
      | (refine (HH _).out.mono ?_; rintro o w1 ⟨rfl, b1⟩; go_wp2_with fail)
      | (refine (HA _).out.mono ?_; rintro o w1 ⟨rfl, b1⟩; go_wp2_with fail)
      | (refine (HB _).out.mono ?_; rintro o w1 ⟨rfl, b1⟩; go_wp2_with fail)
      | (refine (HC _).out.mono ?_; rintro o w1 ⟨rfl, b1⟩; go_wp2_with fail)
      | (refine (HW _).out.mono ?_; rintro o w1 ⟨rfl, b1⟩; go_wp2_with fail))
    go_ret
    exact ⟨rfl, zbh⟩)

set_option maxRecDepth 100000 in
set_option maxHeartbeats 40000000 in
theorem meets_no (w : World) (hT : Tab w) (a : Nat) (b : Nat) (c : Nat) (d : Nat) (f : Nat) (ha : a < 18446744073709551616) (hb : b < 18446744073709551616) (hc : c < 18446744073709551616) (hd : d < 18446744073709551616) (hf : f < 18446744073709551616) (hk : (iok (a, b) && iok (c, d)) = true) (hm : imeetok (a, b) (c, d) = false) : Calls Tryz.prog 10 #[.agg #[.int .u64 (a : Nat), .int .u64 (b : Nat)], .agg #[.int .u64 (c : Nat), .int .u64 (d : Nat)], .int .u64 (f : Nat)] w fun o w' => o = .returned (.bool true) ∧ Below w.heap.size w w' := by
  have HT : Tb w := ⟨hT⟩
  have HM := fun W => Lib.hid (frm (imeet_any W a b c d ha hb hc hd))
  have H1 := fun W [Tb W] => Lib.hid (frm (within_any W f a b hf ha hb))
  have H2 := fun W [Tb W] => Lib.hid (frm (within_any W f c d hf hc hd))
  have H3 := fun W [Tb W] => Lib.hid (frm (within_any W f (imeet (a, b) (c, d)).1 (imeet (a, b) (c, d)).2 hf (imeet_lt (show Lt64 (a, b) from ⟨ha, hb⟩) (show Lt64 (c, d) from ⟨hc, hd⟩)).1 (imeet_lt (show Lt64 (a, b) from ⟨ha, hb⟩) (show Lt64 (c, d) from ⟨hc, hd⟩)).2))
  have HV := fun W => Lib.hid (frm (r5valid_any W a b ha hb))
  have HU := fun W => Lib.hid (frm (r5valid_any W c d hc hd))
  have HS := fun W => Lib.hid (frm (isubset_any W a b c d ha hb hc hd))
  have HI := fun W => Lib.hid (frm (iinside_any W a b c d ha hb hc hd))
  have HH := fun W => Lib.hid (frm (ihull_any W a b c d ha hb hc hd))
  have HA := fun W => Lib.hid (frm (isubset_any W (a, b).1 (a, b).2 (ihull (a, b) (c, d)).1 (ihull (a, b) (c, d)).2 (show Lt64 (a, b) from ⟨ha, hb⟩).1 (show Lt64 (a, b) from ⟨ha, hb⟩).2 (ihull_lt (show Lt64 (a, b) from ⟨ha, hb⟩) (show Lt64 (c, d) from ⟨hc, hd⟩)).1 (ihull_lt (show Lt64 (a, b) from ⟨ha, hb⟩) (show Lt64 (c, d) from ⟨hc, hd⟩)).2))
  have HB := fun W => Lib.hid (frm (isubset_any W (c, d).1 (c, d).2 (ihull (a, b) (c, d)).1 (ihull (a, b) (c, d)).2 (show Lt64 (c, d) from ⟨hc, hd⟩).1 (show Lt64 (c, d) from ⟨hc, hd⟩).2 (ihull_lt (show Lt64 (a, b) from ⟨ha, hb⟩) (show Lt64 (c, d) from ⟨hc, hd⟩)).1 (ihull_lt (show Lt64 (a, b) from ⟨ha, hb⟩) (show Lt64 (c, d) from ⟨hc, hd⟩)).2))
  have HC := fun W => Lib.hid (frm (isubset_any W (a, b).1 (a, b).2 (imeet (a, b) (c, d)).1 (imeet (a, b) (c, d)).2 (show Lt64 (a, b) from ⟨ha, hb⟩).1 (show Lt64 (a, b) from ⟨ha, hb⟩).2 (imeet_lt (show Lt64 (a, b) from ⟨ha, hb⟩) (show Lt64 (c, d) from ⟨hc, hd⟩)).1 (imeet_lt (show Lt64 (a, b) from ⟨ha, hb⟩) (show Lt64 (c, d) from ⟨hc, hd⟩)).2))
  have HW := fun W [Tb W] => Lib.hid (frm (awakeI_any W))
  have L5 : iwithin f (a, b) = true → iok (a, b) = true := fun h => (iwithin_iff.1 h).1
  have L6 : iwithin f (c, d) = true → iok (c, d) = true := fun h => (iwithin_iff.1 h).1
  obtain ⟨L1, L2, L3, L4⟩ := meets_law (x := (a, b)) (y := (c, d)) ⟨ha, hb⟩ ⟨hc, hd⟩ f
  generalize imeetok (a, b) (c, d) = K at *
  generalize iwithin f (a, b) = x1 at *
  generalize iwithin f (c, d) = x2 at *
  generalize iwithin f (imeet (a, b) (c, d)) = x3 at *
  generalize iok (a, b) = v1 at *
  generalize iok (c, d) = v2 at *
  generalize isubset (a, b) (c, d) = s1 at *
  generalize iinside (a, b) (c, d) = i1 at *
  generalize isubset (a, b) (ihull (a, b) (c, d)) = g1 at *
  generalize isubset (c, d) (ihull (a, b) (c, d)) = g2 at *
  generalize isubset (a, b) (imeet (a, b) (c, d)) = s2 at *
  generalize (((imeet (a, b) (c, d)).1 : Nat) : Int) = m0 at *
  generalize (((imeet (a, b) (c, d)).2 : Nat) : Int) = m1 at *
  generalize (((ihull (a, b) (c, d)).1 : Nat) : Int) = h0 at *
  generalize (((ihull (a, b) (c, d)).2 : Nat) : Int) = h1 at *
  generalize ((a : Nat) : Int) = p at *
  generalize ((b : Nat) : Int) = q at *
  generalize ((c : Nat) : Int) = r at *
  generalize ((d : Nat) : Int) = s at *
  generalize ((f : Nat) : Int) = z at *
  subst hm
  obtain ⟨e1, e2, e3, e4⟩ := L4 hk
  subst e1 e2
  have e6 : s1 = false := by simpa using e4
  subst e6
  have e7 : i1 = false := Bool.eq_false_iff.2 (fun h => absurd (e3 h) (by decide))
  subst e7
  clear L2 L3 L4 e3 e4
  have L2 : True := trivial
  have L3 : True := trivial
  have L4 : True := trivial
  cases v1 <;> cases v2 <;> cases x1 <;> cases x2
  all_goals first
  | (exfalso; revert L1 L2 L3 L4 L5 L6; revert hk; decide)
  | skip
  all_goals (
    clear L1 L2 L3 L4 L5 L6 hk
    go_enter Tryz.func10, Tryz.ntmps10
    go_wp2_with fail
    repeat (first
      | (refine (HM _).out.mono ?_; rintro o w1 ⟨rfl, b1⟩; go_wp2_with fail)
      | (refine (H1 _).out.mono ?_; rintro o w1 ⟨rfl, b1⟩; go_wp2_with fail)
      | (refine (H2 _).out.mono ?_; rintro o w1 ⟨rfl, b1⟩; go_wp2_with fail)
      | (refine (H3 _).out.mono ?_; rintro o w1 ⟨rfl, b1⟩; go_wp2_with fail)
      | (refine (HV _).out.mono ?_; rintro o w1 ⟨rfl, b1⟩; go_wp2_with fail)
      | (refine (HU _).out.mono ?_; rintro o w1 ⟨rfl, b1⟩; go_wp2_with fail)
      | (refine (HS _).out.mono ?_; rintro o w1 ⟨rfl, b1⟩; go_wp2_with fail)
      | (refine (HI _).out.mono ?_; rintro o w1 ⟨rfl, b1⟩; go_wp2_with fail)
      | (refine (HH _).out.mono ?_; rintro o w1 ⟨rfl, b1⟩; go_wp2_with fail)
      | (refine (HA _).out.mono ?_; rintro o w1 ⟨rfl, b1⟩; go_wp2_with fail)
      | (refine (HB _).out.mono ?_; rintro o w1 ⟨rfl, b1⟩; go_wp2_with fail)
      | (refine (HC _).out.mono ?_; rintro o w1 ⟨rfl, b1⟩; go_wp2_with fail)
      | (refine (HW _).out.mono ?_; rintro o w1 ⟨rfl, b1⟩; go_wp2_with fail))
    go_ret
    exact ⟨rfl, zbh⟩)

theorem meets5_any (w : World) (hT : Tab w) (a : Nat) (b : Nat) (c : Nat) (d : Nat) (f : Nat) (ha : a < 18446744073709551616) (hb : b < 18446744073709551616) (hc : c < 18446744073709551616) (hd : d < 18446744073709551616) (hf : f < 18446744073709551616) : Calls Tryz.prog 10 #[.agg #[.int .u64 (a : Nat), .int .u64 (b : Nat)], .agg #[.int .u64 (c : Nat), .int .u64 (d : Nat)], .int .u64 (f : Nat)] w fun o w' => o = .returned (.bool true) ∧ Below w.heap.size w w' := by
  rcases two_ways (iok (a, b) && iok (c, d)) with h | h
  · rcases two_ways (imeetok (a, b) (c, d)) with k | k
    · exact meets_ok w hT a b c d f ha hb hc hd hf h k
    · exact meets_no w hT a b c d f ha hb hc hd hf h k
  · exact meets_inv w hT a b c d f ha hb hc hd hf h

end Go.Proofs.YtmpcikkimcehnaaGreatDoor


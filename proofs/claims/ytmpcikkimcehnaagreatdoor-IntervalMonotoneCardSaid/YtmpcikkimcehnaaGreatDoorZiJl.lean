/-
  Walks: the law IntervalMonotone.
-/
import Derived.Test.YtmpcikkimcehnaaGreatDoorZiJg
import Derived.Test.YtmpcikkimcehnaaGreatDoorZiJD
import Derived.Test.YtmpcikkimcehnaaGreatDoorZiJe
namespace Go.Proofs.YtmpcikkimcehnaaGreatDoor
open Go.RowKit Sp
set_option linter.unusedSimpArgs false

attribute [local irreducible] Calls
set_option maxRecDepth 100000 in
set_option maxHeartbeats 40000000 in
theorem mono_main (w : World) (hT : Tab w) (a : Nat) (b : Nat) (c : Nat) (d : Nat) (e : Nat) (f : Nat) (ha : a < 18446744073709551616) (hb : b < 18446744073709551616) (hc : c < 18446744073709551616) (hd : d < 18446744073709551616) (he : e < 18446744073709551616) (hf : f < 18446744073709551616) (h : isubset (a, b) (c, d) = true) (k : iok (e, f) = true) : Calls Tryz.prog 18 #[.agg #[.int .u64 (a : Nat), .int .u64 (b : Nat)], .agg #[.int .u64 (c : Nat), .int .u64 (d : Nat)], .agg #[.int .u64 (e : Nat), .int .u64 (f : Nat)]] w fun o w' => o = .returned (.bool true) ∧ Below w.heap.size w w' := by
  have HT : Tb w := ⟨hT⟩
  have HW := fun W [Tb W] => Lib.hid (frm (awakeI_any W))
  have HR := fun W [Tb W] => Lib.hid (frm (rsubset_any W a b c d ha hb hc hd))
  have HV := fun W => Lib.hid (frm (r5valid_any W e f he hf))
  rw [rsub_eq ⟨ha, hb⟩ ⟨hc, hd⟩] at HR
  rw [h] at HR
  rw [k] at HV
  obtain ⟨L0, L1, L2, L3, L4, L5⟩ := monotone_law (x := (a, b)) (y := (c, d)) (z := (e, f)) ⟨ha, hb⟩ ⟨hc, hd⟩ ⟨he, hf⟩ h k
  have HA0 := fun W [Tb W] => Lib.hid (frm (iadd_any W tb a b e f ha hb he hf))
  have HB0 := fun W [Tb W] => Lib.hid (frm (iadd_any W tb c d e f hc hd he hf))
  have HS0 := fun W => Lib.hid (show Calls Tryz.prog 64 #[.agg #[.int .u64 ((iadd (a, b) (e, f)).1 : Nat), .int .u64 ((iadd (a, b) (e, f)).2 : Nat)], .agg #[.int .u64 ((iadd (c, d) (e, f)).1 : Nat), .int .u64 ((iadd (c, d) (e, f)).2 : Nat)]] W fun o w' => o = .returned (.bool true) ∧ From W w' from by
    have := frm (isubset_any W (iadd (a, b) (e, f)).1 (iadd (a, b) (e, f)).2 (iadd (c, d) (e, f)).1 (iadd (c, d) (e, f)).2 (iadd_lt ⟨ha, hb⟩ ⟨he, hf⟩).1 (iadd_lt ⟨ha, hb⟩ ⟨he, hf⟩).2 (iadd_lt ⟨hc, hd⟩ ⟨he, hf⟩).1 (iadd_lt ⟨hc, hd⟩ ⟨he, hf⟩).2)
    rwa [show isubset ((iadd (a, b) (e, f)).1, (iadd (a, b) (e, f)).2) ((iadd (c, d) (e, f)).1, (iadd (c, d) (e, f)).2) = true from L0] at this)
  have HA1 := fun W [Tb W] => Lib.hid (frm (isub_any W tb e f a b he hf ha hb))
  have HB1 := fun W [Tb W] => Lib.hid (frm (isub_any W tb e f c d he hf hc hd))
  have HS1 := fun W => Lib.hid (show Calls Tryz.prog 64 #[.agg #[.int .u64 ((isub (e, f) (a, b)).1 : Nat), .int .u64 ((isub (e, f) (a, b)).2 : Nat)], .agg #[.int .u64 ((isub (e, f) (c, d)).1 : Nat), .int .u64 ((isub (e, f) (c, d)).2 : Nat)]] W fun o w' => o = .returned (.bool true) ∧ From W w' from by
    have := frm (isubset_any W (isub (e, f) (a, b)).1 (isub (e, f) (a, b)).2 (isub (e, f) (c, d)).1 (isub (e, f) (c, d)).2 (isub_lt ⟨he, hf⟩ ⟨ha, hb⟩).1 (isub_lt ⟨he, hf⟩ ⟨ha, hb⟩).2 (isub_lt ⟨he, hf⟩ ⟨hc, hd⟩).1 (isub_lt ⟨he, hf⟩ ⟨hc, hd⟩).2)
    rwa [show isubset ((isub (e, f) (a, b)).1, (isub (e, f) (a, b)).2) ((isub (e, f) (c, d)).1, (isub (e, f) (c, d)).2) = true from L1] at this)
  have HA2 := fun W [Tb W] => Lib.hid (frm (imul_any W tb a b e f ha hb he hf))
  have HB2 := fun W [Tb W] => Lib.hid (frm (imul_any W tb c d e f hc hd he hf))
  have HS2 := fun W => Lib.hid (show Calls Tryz.prog 64 #[.agg #[.int .u64 ((imul (a, b) (e, f)).1 : Nat), .int .u64 ((imul (a, b) (e, f)).2 : Nat)], .agg #[.int .u64 ((imul (c, d) (e, f)).1 : Nat), .int .u64 ((imul (c, d) (e, f)).2 : Nat)]] W fun o w' => o = .returned (.bool true) ∧ From W w' from by
    have := frm (isubset_any W (imul (a, b) (e, f)).1 (imul (a, b) (e, f)).2 (imul (c, d) (e, f)).1 (imul (c, d) (e, f)).2 (imul_lt _ _).1 (imul_lt _ _).2 (imul_lt _ _).1 (imul_lt _ _).2)
    rwa [show isubset ((imul (a, b) (e, f)).1, (imul (a, b) (e, f)).2) ((imul (c, d) (e, f)).1, (imul (c, d) (e, f)).2) = true from L2] at this)
  have HA3 := fun W [Tb W] => Lib.hid (frm (idiv_any W tb e f a b he hf ha hb))
  have HB3 := fun W [Tb W] => Lib.hid (frm (idiv_any W tb e f c d he hf hc hd))
  have HS3 := fun W => Lib.hid (show Calls Tryz.prog 64 #[.agg #[.int .u64 ((idiv (e, f) (a, b)).1 : Nat), .int .u64 ((idiv (e, f) (a, b)).2 : Nat)], .agg #[.int .u64 ((idiv (e, f) (c, d)).1 : Nat), .int .u64 ((idiv (e, f) (c, d)).2 : Nat)]] W fun o w' => o = .returned (.bool true) ∧ From W w' from by
    have := frm (isubset_any W (idiv (e, f) (a, b)).1 (idiv (e, f) (a, b)).2 (idiv (e, f) (c, d)).1 (idiv (e, f) (c, d)).2 (idiv_lt _ _).1 (idiv_lt _ _).2 (idiv_lt _ _).1 (idiv_lt _ _).2)
    rwa [show isubset ((idiv (e, f) (a, b)).1, (idiv (e, f) (a, b)).2) ((idiv (e, f) (c, d)).1, (idiv (e, f) (c, d)).2) = true from L3] at this)
  have HA4 := fun W [Tb W] => Lib.hid (frm (isqr_any W tb a b ha hb))
  have HB4 := fun W [Tb W] => Lib.hid (frm (isqr_any W tb c d hc hd))
  have HS4 := fun W => Lib.hid (show Calls Tryz.prog 64 #[.agg #[.int .u64 ((isqr (a, b)).1 : Nat), .int .u64 ((isqr (a, b)).2 : Nat)], .agg #[.int .u64 ((isqr (c, d)).1 : Nat), .int .u64 ((isqr (c, d)).2 : Nat)]] W fun o w' => o = .returned (.bool true) ∧ From W w' from by
    have := frm (isubset_any W (isqr (a, b)).1 (isqr (a, b)).2 (isqr (c, d)).1 (isqr (c, d)).2 (isqr_lt _).1 (isqr_lt _).2 (isqr_lt _).1 (isqr_lt _).2)
    rwa [show isubset ((isqr (a, b)).1, (isqr (a, b)).2) ((isqr (c, d)).1, (isqr (c, d)).2) = true from L4] at this)
  have HA5 := fun W [Tb W] => Lib.hid (frm (ihull_any W a b e f ha hb he hf))
  have HB5 := fun W [Tb W] => Lib.hid (frm (ihull_any W c d e f hc hd he hf))
  have HS5 := fun W => Lib.hid (show Calls Tryz.prog 64 #[.agg #[.int .u64 ((ihull (a, b) (e, f)).1 : Nat), .int .u64 ((ihull (a, b) (e, f)).2 : Nat)], .agg #[.int .u64 ((ihull (c, d) (e, f)).1 : Nat), .int .u64 ((ihull (c, d) (e, f)).2 : Nat)]] W fun o w' => o = .returned (.bool true) ∧ From W w' from by
    have := frm (isubset_any W (ihull (a, b) (e, f)).1 (ihull (a, b) (e, f)).2 (ihull (c, d) (e, f)).1 (ihull (c, d) (e, f)).2 (ihull_lt ⟨ha, hb⟩ ⟨he, hf⟩).1 (ihull_lt ⟨ha, hb⟩ ⟨he, hf⟩).2 (ihull_lt ⟨hc, hd⟩ ⟨he, hf⟩).1 (ihull_lt ⟨hc, hd⟩ ⟨he, hf⟩).2)
    rwa [show isubset ((ihull (a, b) (e, f)).1, (ihull (a, b) (e, f)).2) ((ihull (c, d) (e, f)).1, (ihull (c, d) (e, f)).2) = true from L5] at this)
  clear L0 L1 L2 L3 L4 L5 h k
  generalize (((iadd (a, b) (e, f)).1 : Nat) : Int) = m00 at *
  generalize (((iadd (a, b) (e, f)).2 : Nat) : Int) = m01 at *
  generalize (((iadd (c, d) (e, f)).1 : Nat) : Int) = n00 at *
  generalize (((iadd (c, d) (e, f)).2 : Nat) : Int) = n01 at *
  generalize (((isub (e, f) (a, b)).1 : Nat) : Int) = m10 at *
  generalize (((isub (e, f) (a, b)).2 : Nat) : Int) = m11 at *
  generalize (((isub (e, f) (c, d)).1 : Nat) : Int) = n10 at *
  generalize (((isub (e, f) (c, d)).2 : Nat) : Int) = n11 at *
  generalize (((imul (a, b) (e, f)).1 : Nat) : Int) = m20 at *
  generalize (((imul (a, b) (e, f)).2 : Nat) : Int) = m21 at *
  generalize (((imul (c, d) (e, f)).1 : Nat) : Int) = n20 at *
  generalize (((imul (c, d) (e, f)).2 : Nat) : Int) = n21 at *
  generalize (((idiv (e, f) (a, b)).1 : Nat) : Int) = m30 at *
  generalize (((idiv (e, f) (a, b)).2 : Nat) : Int) = m31 at *
  generalize (((idiv (e, f) (c, d)).1 : Nat) : Int) = n30 at *
  generalize (((idiv (e, f) (c, d)).2 : Nat) : Int) = n31 at *
  generalize (((isqr (a, b)).1 : Nat) : Int) = m40 at *
  generalize (((isqr (a, b)).2 : Nat) : Int) = m41 at *
  generalize (((isqr (c, d)).1 : Nat) : Int) = n40 at *
  generalize (((isqr (c, d)).2 : Nat) : Int) = n41 at *
  generalize (((ihull (a, b) (e, f)).1 : Nat) : Int) = m50 at *
  generalize (((ihull (a, b) (e, f)).2 : Nat) : Int) = m51 at *
  generalize (((ihull (c, d) (e, f)).1 : Nat) : Int) = n50 at *
  generalize (((ihull (c, d) (e, f)).2 : Nat) : Int) = n51 at *
  generalize ((a : Nat) : Int) = p at *
  generalize ((b : Nat) : Int) = q at *
  generalize ((c : Nat) : Int) = r at *
  generalize ((d : Nat) : Int) = s at *
  generalize ((e : Nat) : Int) = u at *
  generalize ((f : Nat) : Int) = v at *
  go_enter Tryz.func18, Tryz.ntmps18
  go_wp2_with fail
  refine (HR _).out.mono ?_
  rintro o w1 ⟨rfl, b1⟩
  go_wp2_with fail
  refine (HV _).out.mono ?_
  rintro o w2 ⟨rfl, b2⟩
  go_wp2_with fail
  first
  | go_region_held3 (fun w' => w'.cell? ⟨w.heap.size, 0, none⟩ = some (.int .u64 p) ∧ w'.cell? ⟨w.heap.size, 1, none⟩ = some (.int .u64 q) ∧ w'.cell? ⟨w.heap.size + 1, 0, none⟩ = some (.int .u64 r) ∧ w'.cell? ⟨w.heap.size + 1, 1, none⟩ = some (.int .u64 s) ∧ w'.cell? ⟨w.heap.size + 1 + 1, 0, none⟩ = some (.int .u64 u) ∧ w'.cell? ⟨w.heap.size + 1 + 1, 1, none⟩ = some (.int .u64 v)) (first | (go_simp; done))
      (first
        | (go_at_call 122; refine (HA0 _).out.mono ?_; rintro o w10 ⟨rfl, b10⟩)
        | (go_at_call 122; refine (HB0 _).out.mono ?_; rintro o w11 ⟨rfl, b11⟩)
        | (go_at_call 64; refine (HS0 _).out.mono ?_; rintro o w12 ⟨rfl, b12⟩)
        | (go_at_call 123; refine (HA1 _).out.mono ?_; rintro o w13 ⟨rfl, b13⟩)
        | (go_at_call 123; refine (HB1 _).out.mono ?_; rintro o w14 ⟨rfl, b14⟩)
        | (go_at_call 64; refine (HS1 _).out.mono ?_; rintro o w15 ⟨rfl, b15⟩)
        | (go_at_call 124; refine (HA2 _).out.mono ?_; rintro o w16 ⟨rfl, b16⟩)
        | (go_at_call 124; refine (HB2 _).out.mono ?_; rintro o w17 ⟨rfl, b17⟩)
        | (go_at_call 64; refine (HS2 _).out.mono ?_; rintro o w18 ⟨rfl, b18⟩)
        | (go_at_call 125; refine (HA3 _).out.mono ?_; rintro o w19 ⟨rfl, b19⟩)
        | (go_at_call 125; refine (HB3 _).out.mono ?_; rintro o w20 ⟨rfl, b20⟩)
        | (go_at_call 64; refine (HS3 _).out.mono ?_; rintro o w21 ⟨rfl, b21⟩)
        | (go_at_call 126; refine (HA4 _).out.mono ?_; rintro o w22 ⟨rfl, b22⟩)
        | (go_at_call 126; refine (HB4 _).out.mono ?_; rintro o w23 ⟨rfl, b23⟩)
        | (go_at_call 64; refine (HS4 _).out.mono ?_; rintro o w24 ⟨rfl, b24⟩)
        | (go_at_call 67; refine (HA5 _).out.mono ?_; rintro o w25 ⟨rfl, b25⟩)
        | (go_at_call 67; refine (HB5 _).out.mono ?_; rintro o w26 ⟨rfl, b26⟩)
        | (go_at_call 64; refine (HS5 _).out.mono ?_; rintro o w27 ⟨rfl, b27⟩)
        | (go_at_call 66; refine (HW _).out.mono ?_; rintro o w28 ⟨rfl, b28⟩)
        | fail)
  | fail "region"
  all_goals (
    go_wp2_with fail
    go_ret
    exact ⟨rfl, zbh⟩)

set_option maxRecDepth 100000 in
set_option maxHeartbeats 40000000 in
theorem mono_skip (w : World) (hT : Tab w) (a : Nat) (b : Nat) (c : Nat) (d : Nat) (e : Nat) (f : Nat) (ha : a < 18446744073709551616) (hb : b < 18446744073709551616) (hc : c < 18446744073709551616) (hd : d < 18446744073709551616) (he : e < 18446744073709551616) (hf : f < 18446744073709551616) (h : (isubset (a, b) (c, d) && iok (e, f)) = false) : Calls Tryz.prog 18 #[.agg #[.int .u64 (a : Nat), .int .u64 (b : Nat)], .agg #[.int .u64 (c : Nat), .int .u64 (d : Nat)], .agg #[.int .u64 (e : Nat), .int .u64 (f : Nat)]] w fun o w' => o = .returned (.bool true) ∧ Below w.heap.size w w' := by
  have HT : Tb w := ⟨hT⟩
  have HW := fun W [Tb W] => Lib.hid (frm (awakeI_any W))
  have HR := fun W [Tb W] => Lib.hid (frm (rsubset_any W a b c d ha hb hc hd))
  have HV := fun W => Lib.hid (frm (r5valid_any W e f he hf))
  rw [rsub_eq ⟨ha, hb⟩ ⟨hc, hd⟩] at HR
  generalize isubset (a, b) (c, d) = k1 at *
  generalize iok (e, f) = k2 at *
  generalize ((a : Nat) : Int) = p at *
  generalize ((b : Nat) : Int) = q at *
  generalize ((c : Nat) : Int) = r at *
  generalize ((d : Nat) : Int) = s at *
  generalize ((e : Nat) : Int) = u at *
  generalize ((f : Nat) : Int) = v at *
  cases k1
  · clear h
    go_enter Tryz.func18, Tryz.ntmps18
    go_wp2_with fail
    refine (HR _).out.mono ?_
    rintro e w1 ⟨rfl, b1⟩
    go_wp2_with fail
    refine (HW _).out.mono ?_
    rintro e w2 ⟨rfl, b2⟩
    go_wp2_with fail
    go_ret
    exact ⟨rfl, zbh⟩
  · obtain rfl : k2 = false := by simpa using h
    clear h
    go_enter Tryz.func18, Tryz.ntmps18
    go_wp2_with fail
    refine (HR _).out.mono ?_
    rintro e w1 ⟨rfl, b1⟩
    go_wp2_with fail
    refine (HV _).out.mono ?_
    rintro e w2 ⟨rfl, b2⟩
    go_wp2_with fail
    refine (HW _).out.mono ?_
    rintro e w3 ⟨rfl, b3⟩
    go_wp2_with fail
    go_ret
    exact ⟨rfl, zbh⟩

theorem mono5_any (w : World) (hT : Tab w) (a : Nat) (b : Nat) (c : Nat) (d : Nat) (e : Nat) (f : Nat) (ha : a < 18446744073709551616) (hb : b < 18446744073709551616) (hc : c < 18446744073709551616) (hd : d < 18446744073709551616) (he : e < 18446744073709551616) (hf : f < 18446744073709551616) : Calls Tryz.prog 18 #[.agg #[.int .u64 (a : Nat), .int .u64 (b : Nat)], .agg #[.int .u64 (c : Nat), .int .u64 (d : Nat)], .agg #[.int .u64 (e : Nat), .int .u64 (f : Nat)]] w fun o w' => o = .returned (.bool true) ∧ Below w.heap.size w w' := by
  by_cases h : isubset (a, b) (c, d) = true
  · by_cases k : iok (e, f) = true
    · exact mono_main w hT a b c d e f ha hb hc hd he hf h k
    · exact mono_skip w hT a b c d e f ha hb hc hd he hf (by simp [Bool.eq_false_iff.2 k])
  · exact mono_skip w hT a b c d e f ha hb hc hd he hf (by simp [Bool.eq_false_iff.2 h])

end Go.Proofs.YtmpcikkimcehnaaGreatDoor


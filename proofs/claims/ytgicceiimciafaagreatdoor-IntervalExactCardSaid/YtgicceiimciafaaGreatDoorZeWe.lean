/-
  Walks: the law IntervalExact.
-/
import Derived.Test.YtgicceiimciafaaGreatDoorZeVH
import Derived.Test.YtgicceiimciafaaGreatDoorZeJD
import Derived.Test.YtgicceiimciafaaGreatDoorZeGJ
set_option maxRecDepth 100000
set_option maxHeartbeats 20000000
namespace Go.Proofs.YtgicceiimciafaaGreatDoor
open Go.RowKit Sp
set_option linter.unusedSimpArgs false
attribute [local irreducible] Calls
theorem exact5_any (w : World) (hT : Tab w) (a : Nat) (b : Nat) (c : Nat) (d : Nat) (ha : a < 18446744073709551616) (hb : b < 18446744073709551616) (hc : c < 18446744073709551616) (hd : d < 18446744073709551616) : Calls Tryz.prog 4 #[.agg #[.int .u64 (a : Nat), .int .u64 (b : Nat)], .agg #[.int .u64 (c : Nat), .int .u64 (d : Nat)]] w fun o w' => o = .returned (.bool true) ∧ Below w.heap.size w w' := by
 have HT : Tb w := ⟨hT⟩
 have HA := fun W [Tb W] => Lib.hid (frm (ivalid_any W a b ha hb))
 have HB := fun W [Tb W] => Lib.hid (frm (r5valid_any W a b ha hb))
 have HC := fun W [Tb W] => Lib.hid (frm (ipoint_any W a ha))
 have HD := fun W [Tb W] => Lib.hid (frm (npoint_any W a ha))
 have HE := fun W [Tb W] => Lib.hid (frm (ineg_any W a b ha hb))
 have HF := fun W [Tb W] => Lib.hid (frm (nneg_any W a b ha hb))
 have HG := fun W [Tb W] => Lib.hid (frm (iadd_any W tb a b c d ha hb hc hd))
 have HH := fun W [Tb W] => Lib.hid (frm (nadd_any W a b c d ha hb hc hd))
 rw [raddI_eq (x := (a, b)) (y := (c, d)) ⟨ha, hb⟩ ⟨hc, hd⟩] at HH
 have HI := fun W [Tb W] => Lib.hid (frm (isub_any W tb a b c d ha hb hc hd))
 have HJ := fun W [Tb W] => Lib.hid (frm (nsub_any W a b c d ha hb hc hd))
 rw [rsubI_eq (x := (a, b)) (y := (c, d)) ⟨ha, hb⟩ ⟨hc, hd⟩] at HJ
 have HK := fun W [Tb W] => Lib.hid (frm (imul_any W tb a b c d ha hb hc hd))
 have HL := fun W [Tb W] => Lib.hid (frm (nmul_any W a b c d ha hb hc hd))
 rw [rmulI_eq (x := (a, b)) (y := (c, d)) ⟨ha, hb⟩ ⟨hc, hd⟩] at HL
 have HM := fun W [Tb W] => Lib.hid (frm (idiv_any W tb a b c d ha hb hc hd))
 have HN := fun W [Tb W] => Lib.hid (frm (ndiv_any W a b c d ha hb hc hd))
 rw [rdivI_eq (x := (a, b)) (y := (c, d)) ⟨ha, hb⟩ ⟨hc, hd⟩] at HN
 have HO := fun W [Tb W] => Lib.hid (frm (isqr_any W tb a b ha hb))
 have HP := fun W [Tb W] => Lib.hid (frm (nsqr_any W a b ha hb))
 rw [rsqrI_eq (x := (a, b)) ⟨ha, hb⟩] at HP
 have HQ := fun W [Tb W] => Lib.hid (frm (isqrt_any W tb a b ha hb))
 have HR := fun W [Tb W] => Lib.hid (frm (nsqrt_any W a b ha hb))
 rw [rsqrtI_eq (x := (a, b)) ⟨ha, hb⟩] at HR
 have HS := fun W [Tb W] => Lib.hid (frm (ihull_any W a b c d ha hb hc hd))
 have HT2 := fun W [Tb W] => Lib.hid (frm (nhull_any W a b c d ha hb hc hd))
 rw [rhullI_eq (x := (a, b)) (y := (c, d)) ⟨ha, hb⟩ ⟨hc, hd⟩] at HT2
 have HW := fun W [Tb W] => Lib.hid (frm (awakeI_any W))
 generalize iok (a, b) = k1 at *
 generalize ipoint a = V0 at *
 generalize ((V0.1 : Nat) : Int) = m0 at *
 generalize ((V0.2 : Nat) : Int) = n0 at *
 generalize ineg (a, b) = V1 at *
 generalize ((V1.1 : Nat) : Int) = m1 at *
 generalize ((V1.2 : Nat) : Int) = n1 at *
 generalize iadd (a, b) (c, d) = V2 at *
 generalize ((V2.1 : Nat) : Int) = m2 at *
 generalize ((V2.2 : Nat) : Int) = n2 at *
 generalize isub (a, b) (c, d) = V3 at *
 generalize ((V3.1 : Nat) : Int) = m3 at *
 generalize ((V3.2 : Nat) : Int) = n3 at *
 generalize imul (a, b) (c, d) = V4 at *
 generalize ((V4.1 : Nat) : Int) = m4 at *
 generalize ((V4.2 : Nat) : Int) = n4 at *
 generalize idiv (a, b) (c, d) = V5 at *
 generalize ((V5.1 : Nat) : Int) = m5 at *
 generalize ((V5.2 : Nat) : Int) = n5 at *
 generalize isqr (a, b) = V6 at *
 generalize ((V6.1 : Nat) : Int) = m6 at *
 generalize ((V6.2 : Nat) : Int) = n6 at *
 generalize isqrt (a, b) = V7 at *
 generalize ((V7.1 : Nat) : Int) = m7 at *
 generalize ((V7.2 : Nat) : Int) = n7 at *
 generalize ihull (a, b) (c, d) = V8 at *
 generalize ((V8.1 : Nat) : Int) = m8 at *
 generalize ((V8.2 : Nat) : Int) = n8 at *
 generalize ((a : Nat) : Int) = p at *
 generalize ((b : Nat) : Int) = q at *
 generalize ((c : Nat) : Int) = r at *
 generalize ((d : Nat) : Int) = s at *
 go_enter Tryz.func4, Tryz.ntmps4
 go_wp2_with fail
 first
 | go_region_held3 (fun w' => w'.cell? ⟨w.heap.size, 0, none⟩ = some (.int .u64 p) ∧ w'.cell? ⟨w.heap.size, 1, none⟩ = some (.int .u64 q) ∧ w'.cell? ⟨w.heap.size + 1, 0, none⟩ = some (.int .u64 r) ∧ w'.cell? ⟨w.heap.size + 1, 1, none⟩ = some (.int .u64 s)) (first | (go_simp; done))
  (first
   | (go_at_call 13; refine (HA _).out.mono ?_; rintro o w1 ⟨rfl, b1⟩)
   | (go_at_call 14; refine (HB _).out.mono ?_; rintro o w2 ⟨rfl, b2⟩)
   | (go_at_call 15; refine (HC _).out.mono ?_; rintro o w3 ⟨rfl, b3⟩)
   | (go_at_call 16; refine (HD _).out.mono ?_; rintro o w4 ⟨rfl, b4⟩)
   | (go_at_call 17; refine (HE _).out.mono ?_; rintro o w5 ⟨rfl, b5⟩)
   | (go_at_call 18; refine (HF _).out.mono ?_; rintro o w6 ⟨rfl, b6⟩)
   | (go_at_call 19; refine (HG _).out.mono ?_; rintro o w7 ⟨rfl, b7⟩)
   | (go_at_call 20; refine (HH _).out.mono ?_; rintro o w8 ⟨rfl, b8⟩)
   | (go_at_call 21; refine (HI _).out.mono ?_; rintro o w9 ⟨rfl, b9⟩)
   | (go_at_call 22; refine (HJ _).out.mono ?_; rintro o w10 ⟨rfl, b10⟩)
   | fail)
 | fail "region"
 all_goals (
  go_wp2_with fail
  first
  | go_region_held3 (fun w' => w'.cell? ⟨w.heap.size, 0, none⟩ = some (.int .u64 p) ∧ w'.cell? ⟨w.heap.size, 1, none⟩ = some (.int .u64 q) ∧ w'.cell? ⟨w.heap.size + 1, 0, none⟩ = some (.int .u64 r) ∧ w'.cell? ⟨w.heap.size + 1, 1, none⟩ = some (.int .u64 s)) (first | (go_simp; done))
   (first
    | (go_at_call 23; refine (HK _).out.mono ?_; rintro o w11 ⟨rfl, b11⟩)
    | (go_at_call 24; refine (HL _).out.mono ?_; rintro o w12 ⟨rfl, b12⟩)
    | (go_at_call 25; refine (HM _).out.mono ?_; rintro o w13 ⟨rfl, b13⟩)
    | (go_at_call 26; refine (HN _).out.mono ?_; rintro o w14 ⟨rfl, b14⟩)
    | (go_at_call 27; refine (HO _).out.mono ?_; rintro o w15 ⟨rfl, b15⟩)
    | (go_at_call 28; refine (HP _).out.mono ?_; rintro o w16 ⟨rfl, b16⟩)
    | (go_at_call 29; refine (HQ _).out.mono ?_; rintro o w17 ⟨rfl, b17⟩)
    | (go_at_call 30; refine (HR _).out.mono ?_; rintro o w18 ⟨rfl, b18⟩)
    | (go_at_call 31; refine (HS _).out.mono ?_; rintro o w19 ⟨rfl, b19⟩)
    | (go_at_call 32; refine (HT2 _).out.mono ?_; rintro o w20 ⟨rfl, b20⟩)
    | (go_at_call 33; refine (HW _).out.mono ?_; rintro o w21 ⟨rfl, b21⟩)
    | fail)
  | fail "region"
  all_goals (
   go_wp2_with fail
   go_ret
   exact ⟨rfl, zbh⟩))
end Go.Proofs.YtgicceiimciafaaGreatDoor

/-
  Walks: the law FloatForms.
-/
import Derived.Test.YtakbappmkdaioaaGreatDoorZgD
import Derived.Test.YtakbappmkdaioaaGreatDoorZfGw
import Derived.Test.YtakbappmkdaioaaGreatDoorZfGc
import Derived.Test.YtakbappmkdaioaaGreatDoorZfS3
namespace Go.Proofs.YtakbappmkdaioaaGreatDoor
open Go.RowKit Sp

attribute [local irreducible] Calls
set_option maxRecDepth 100000 in
set_option maxHeartbeats 40000000 in
theorem forms_any (w : World) (hT : Tab w) (a b : Nat) (ha : a < 18446744073709551616) (hb : b < 18446744073709551616) (n mode : Int) (h0 : -9223372036854775808 ≤ n) (h1 : n ≤ 9223372036854775807) :
    Calls Tryz.prog 8 #[.int .u64 (a : Nat), .int .u64 (b : Nat), .int .i64 n, .int .i64 mode] w fun o w' => o = .returned (.bool true) ∧ Below w.heap.size w w' := by
  have HT : Tb w := ⟨hT⟩
  have H1 := fun W => Lib.hid (frm (fcmp_any W a b ha hb))
  have H2 := fun W => Lib.hid (frw (r3cmp_any W a b ha hb))
  have H3 := fun W [Tb W] => Lib.hid (frm (wexp_any W a ha tb))
  have H4 := fun W [Tb W] => Lib.hid (frm (rexp_any W a ha tb))
  have H5 := fun W => Lib.hid (frw (fkind_any W a))
  have H6 := fun W => Lib.hid (frw (rkind_any W a))
  have H7 := fun W => Lib.hid (frw (ffin_any W a))
  have H8 := fun W => Lib.hid (frw (rfin_any W a))
  have H9 := fun W => Lib.hid (frm (fneg_any W a ha))
  have H10 := fun W => Lib.hid (frw (r3neg_any W a ha))
  have H11 := fun W => Lib.hid (frm (fabs_any W a ha))
  have H12 := fun W => Lib.hid (frw (r3abs_any W a ha))
  have H13 := fun W [Tb W] => Lib.hid (frI (fof_any W a ha tb))
  have H14 := fun W [Tb W] => Lib.hid (frI (r3of_any W a ha tb))
  have H15 := fun W x c y c' [i : BI W x (nl (dman (fof a)).natAbs) c (dman (fof a)).natAbs] [j : BI W y (nl (dman (fof a)).natAbs) c' (dman (fof a)).natAbs] => Lib.hid (frm (kdyad_same W (dbad (fof a)) (decide (dman (fof a) < 0)) x y _ c c' _ (dexp (fof a)) i.out j.out))
  have H16 := fun W => Lib.hid (frm (fup_any W a ha))
  have H17 := fun W => Lib.hid (frw (r3up_any W a ha))
  have H18 := fun W => Lib.hid (frm (fdown_any W a ha))
  have H19 := fun W => Lib.hid (frw (r3down_any W a ha))
  have H20 := fun W [Tb W] => Lib.hid (frm (wfromInt_any W n mode h0 h1 tb))
  have H21 := fun W [Tb W] => Lib.hid (frm (r3fromInt_any W n mode h0 h1 tb))
  have H22 := fun W [Tb W] => Lib.hid (frm (wfscale_any W a ha n mode h0 h1 tb))
  have H23 := fun W [Tb W] => Lib.hid (frm (rfscale_any W a ha n mode h0 h1 tb))
  have H24 := fun W [Tb W] => Lib.hid (frm (awakeF_any W tb))
  generalize fcmpv a b = u1 at *
  generalize fcmpok a b = u2 at *
  generalize dlog (fof a) = u3 at *
  generalize dnz (fof a) = u4 at *
  generalize fkind a = u5 at *
  generalize ffin a = u6 at *
  generalize ((fneg a : Nat) : Int) = u7 at *
  generalize ((fabs a : Nat) : Int) = u8 at *
  generalize ((fup a : Nat) : Int) = u9 at *
  generalize ((fdown a : Nat) : Int) = u10 at *
  generalize ((fround (nrm n 0) mode : Nat) : Int) = u11 at *
  generalize ((fscale a n mode : Nat) : Int) = u12 at *
  generalize fof a = d at *
  generalize ((a : Nat) : Int) = p at *
  generalize ((b : Nat) : Int) = q at *
  clear ha hb h0 h1
  go_enter Tryz.func8, Tryz.ntmps8
  go_wp2_with fail
  repeat (first
    | (refine (H1 _ ).out.mono ?_; rintro o w1 ⟨rfl, b1⟩; go_wp2_with fail)
    | (refine (H2 _ ).out.mono ?_; rintro o w1 ⟨rfl, b1⟩; go_wp2_with fail)
    | (refine (H3 _ ).out.mono ?_; rintro o w1 ⟨rfl, b1⟩; go_wp2_with fail)
    | (refine (H4 _ ).out.mono ?_; rintro o w1 ⟨rfl, b1⟩; go_wp2_with fail)
    | (refine (H5 _ ).out.mono ?_; rintro o w1 ⟨rfl, b1⟩; go_wp2_with fail)
    | (refine (H6 _ ).out.mono ?_; rintro o w1 ⟨rfl, b1⟩; go_wp2_with fail)
    | (refine (H7 _ ).out.mono ?_; rintro o w1 ⟨rfl, b1⟩; go_wp2_with fail)
    | (refine (H8 _ ).out.mono ?_; rintro o w1 ⟨rfl, b1⟩; go_wp2_with fail)
    | (refine (H9 _ ).out.mono ?_; rintro o w1 ⟨rfl, b1⟩; go_wp2_with fail)
    | (refine (H10 _ ).out.mono ?_; rintro o w1 ⟨rfl, b1⟩; go_wp2_with fail)
    | (refine (H11 _ ).out.mono ?_; rintro o w1 ⟨rfl, b1⟩; go_wp2_with fail)
    | (refine (H12 _ ).out.mono ?_; rintro o w1 ⟨rfl, b1⟩; go_wp2_with fail)
    | (refine (H13 _ ).out.mono ?_; rintro o w1 ⟨a1, c1, rfl, i1, b1⟩; go_wp2_with fail)
    | (refine (H14 _ ).out.mono ?_; rintro o w1 ⟨a2, c2, rfl, i2, b1⟩; go_wp2_with fail)
    | (refine (H15 _ _ _ _ _ ).out.mono ?_; rintro o w1 ⟨rfl, b1⟩; go_wp2_with fail)
    | (refine (H16 _ ).out.mono ?_; rintro o w1 ⟨rfl, b1⟩; go_wp2_with fail)
    | (refine (H17 _ ).out.mono ?_; rintro o w1 ⟨rfl, b1⟩; go_wp2_with fail)
    | (refine (H18 _ ).out.mono ?_; rintro o w1 ⟨rfl, b1⟩; go_wp2_with fail)
    | (refine (H19 _ ).out.mono ?_; rintro o w1 ⟨rfl, b1⟩; go_wp2_with fail)
    | (refine (H20 _ ).out.mono ?_; rintro o w1 ⟨rfl, b1⟩; go_wp2_with fail)
    | (refine (H21 _ ).out.mono ?_; rintro o w1 ⟨rfl, b1⟩; go_wp2_with fail)
    | (refine (H22 _ ).out.mono ?_; rintro o w1 ⟨rfl, b1⟩; go_wp2_with fail)
    | (refine (H23 _ ).out.mono ?_; rintro o w1 ⟨rfl, b1⟩; go_wp2_with fail)
    | (refine (H24 _ ).out.mono ?_; rintro o w1 ⟨rfl, b1⟩; go_wp2_with fail))
  go_ret
  exact ⟨rfl, zbh⟩

end Go.Proofs.YtakbappmkdaioaaGreatDoor


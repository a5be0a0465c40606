/-
  Walks: the law AccumNorms.
-/
import Derived.Test.YtakbappmkdaioaaGreatDoorZkSN
import Derived.Test.YtakbappmkdaioaaGreatDoorZkKA
import Derived.Test.YtakbappmkdaioaaGreatDoorZkKV
import Derived.Test.YtakbappmkdaioaaGreatDoorZkCm
namespace Go.Proofs.YtakbappmkdaioaaGreatDoor
open Go.RowKit Sp

attribute [local irreducible] Calls
/-- floats in memory -/
class FZ (W : World) (a : Option Addr) (n c : Nat) (X : outParam (Nat → Nat)) : Prop where out : Fls W a n c X
section
variable {W : World} {a : Option Addr} {n c : Nat} {X : Nat → Nat}
instance FZ.dr [h : FZ W a n c X] : FZ W.drew a n c X := ⟨h.out.below (Below.refl _ _).drew⟩
instance FZ.dn (q : Nat) [h : FZ W a n c X] : FZ (W.drewN q) a n c X := ⟨h.out.below (below_drewN (Below.refl _ _) _)⟩
instance FZ.al (o : Obj) [h : FZ W a n c X] : FZ (W.alloc o) a n c X := ⟨h.out.below ((Below.refl _ _).alloc (Nat.le_refl _) _)⟩
instance FZ.fr (L : World) [k : From L W] [h : FZ L a n c X] : FZ W a n c X := ⟨h.out.below k.out⟩
end
set_option maxRecDepth 100000 in
set_option maxHeartbeats 40000000 in
theorem norms_any (w : World) (hT : Tab w) (a : Option Addr) (n cap : Nat) (X : Nat → Nat) (hX : Fls w a n cap X) (mode : Int) :
    Calls Tryz.prog 10 #[.slice a n cap, .int .i64 mode] w fun o w' => o = .returned (.bool true) ∧ Below w.heap.size w w' := by
  have HT : Tb w := ⟨hT⟩
  have l1 := hX.lim
  have l2 := hX.fits
  haveI zX : FZ w a n cap X := ⟨hX⟩
  clear hX
  by_cases hn : 10 < n
  · have HW := fun W [Tb W] => Lib.hid (frm (awakeA_any W tb))
    go_enter Tryz.func10, Tryz.ntmps10
    go_wp2_with fail
    refine (HW _).out.mono ?_; rintro o w1 ⟨rfl, b1⟩; go_wp2_with fail
    go_ret
    exact ⟨rfl, zbh⟩
  obtain ⟨d0, h0⟩ : ∃ d0, d0 = if allfin X n then dinf (fun i => dabs (fof (X i))) n else none := ⟨_, rfl⟩
  obtain ⟨d1, h1⟩ : ∃ d1, d1 = dsum (fun i => dabs (fof (X i))) n := ⟨_, rfl⟩
  have hI1 : ∀ W, Fls W a n cap X → Tab W → Calls Tryz.prog 82 #[.slice a n cap] W (RetDy W d0) := fun W h ht => by
    rw [h0]
    cases hf : allfin X n with
    | true => exact ainf_any W ht a n cap X h (by omega) hf _ rfl
    | false => exact ainf_no W ht a n cap X h hf
  have hI2 : ∀ W, Fls W a n cap X → Tab W → Calls Tryz.prog 83 #[.slice a n cap] W (RetDy W d0) := fun W h ht => by
    rw [h0]
    cases hf : allfin X n with
    | true => exact rnorminf_ok W ht a n cap X h hf _ rfl
    | false => exact rnorminf_no W ht a n cap X h hf
  have hO2 : ∀ W, Fls W a n cap X → Tab W → Calls Tryz.prog 85 #[.slice a n cap] W (RetDy W d1) := fun W h ht => by
    rw [h1, ← rone_law X (by omega)]
    exact rnormone_any W ht a n cap X h _ rfl
  have H1 := fun W  [i : FZ W a n cap X] [Tb W] => Lib.hid (frI (hI1 W i.out tb))
  have H2 := fun W  [i : FZ W a n cap X] [Tb W] => Lib.hid (frI (hI2 W i.out tb))
  have H3 := fun W  [i : FZ W a n cap X] [Tb W] => Lib.hid (frI (aone_any W tb a n cap X i.out (by omega) d1 h1))
  have H4 := fun W  [i : FZ W a n cap X] [Tb W] => Lib.hid (frI (hO2 W i.out tb))
  have H5 := fun W  [i : FZ W a n cap X] [Tb W] => Lib.hid (frm (anormtwo_any W tb a n cap X i.out (by omega) mode))
  have H6 := fun W  [i : FZ W a n cap X] [Tb W] => Lib.hid (frm (rnormtwo_any W tb a n cap X i.out (by omega) mode))
  have HW := fun W  [Tb W] => Lib.hid (frm (awakeA_any W tb))
  have HK1 := fun W x c y c' [i : BI W x (nl (dman d0).natAbs) c (dman d0).natAbs] [j : BI W y (nl (dman d0).natAbs) c' (dman d0).natAbs] => Lib.hid (frm (kdyad_eq W d0 x y c c' i.out j.out))
  have HK2 := fun W x c y c' [i : BI W x (nl (dman d1).natAbs) c (dman d1).natAbs] [j : BI W y (nl (dman d1).natAbs) c' (dman d1).natAbs] => Lib.hid (frm (kdyad_eq W d1 x y c c' i.out j.out))
  clear hI1 hI2 hO2 h0 h1
  generalize ((froot (ddot X X n) mode : Nat) : Int) = u at *
  go_enter Tryz.func10, Tryz.ntmps10
  go_wp2_with fail
  repeat (first
    | (refine (H1 _).out.mono ?_; rintro o w1 ⟨e1, f1, rfl, i1, b1⟩; go_wp2_with fail)
    | (refine (H2 _).out.mono ?_; rintro o w1 ⟨e2, f2, rfl, i2, b1⟩; go_wp2_with fail)
    | (refine (H3 _).out.mono ?_; rintro o w1 ⟨e3, f3, rfl, i3, b1⟩; go_wp2_with fail)
    | (refine (H4 _).out.mono ?_; rintro o w1 ⟨e4, f4, rfl, i4, b1⟩; go_wp2_with fail)
    | (refine (H5 _).out.mono ?_; rintro o w1 ⟨rfl, b1⟩; go_wp2_with fail)
    | (refine (H6 _).out.mono ?_; rintro o w1 ⟨rfl, b1⟩; go_wp2_with fail)
    | (refine (HW _).out.mono ?_; rintro o w1 ⟨rfl, b1⟩; go_wp2_with fail)
    | (refine (HK1 _ _ _ _ _).out.mono ?_; rintro o w1 ⟨rfl, b1⟩; go_wp2_with fail)
    | (refine (HK2 _ _ _ _ _).out.mono ?_; rintro o w1 ⟨rfl, b1⟩; go_wp2_with fail))
  go_ret
  exact ⟨rfl, zbh⟩

end Go.Proofs.YtakbappmkdaioaaGreatDoor


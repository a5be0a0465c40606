/-
  Walks: the law AccumExact.
-/
import Derived.Test.YtakbappmkdaioaaGreatDoorZjKV
import Derived.Test.YtakbappmkdaioaaGreatDoorZjKA
import Derived.Test.YtakbappmkdaioaaGreatDoorZjS6c
import Derived.Test.YtakbappmkdaioaaGreatDoorZjCm
namespace Go.Proofs.YtakbappmkdaioaaGreatDoor
open Go.RowKit Sp

attribute [local irreducible] Calls
/-- floats in memory -/
class FZ (W : World) (a : Option Addr) (n c : Nat) (X : outParam (Nat → Nat)) : Prop where out : Fls W a n c X
section
variable {W : World} {a : Option Addr} {n c : Nat} {X : Nat → Nat}
instance FZ.dr [h : FZ W a n c X] : FZ W.drew a n c X := ⟨h.out.below (Below.refl _ _).drew⟩
instance FZ.dn (q : Nat) [h : FZ W a n c X] : FZ (W.drewN q) a n c X := ⟨h.out.below (below_drewN (Below.refl _ _) _)⟩
instance FZ.al (o : Obj) [h : FZ W a n c X] : FZ (W.alloc o) a n c X := ⟨h.out.below ((Below.refl _ _).alloc (Nat.le_refl _) _)⟩
instance FZ.fr (L : World) [k : From L W] [h : FZ L a n c X] : FZ W a n c X := ⟨h.out.below k.out⟩
end
theorem frE {P : Program} {f : FuncId} {args : Array Value} {W : World} {d : Option (Int × Int)} {er : Int} (h : Calls P f args W (RetDyE W d er)) :
    Calls P f args W fun e w' => ∃ a c, e = .returned (.tuple #[.agg #[.bool (dbad d), .bool (decide (dman d < 0)), .slice a (nl (dman d).natAbs) c, .int .i64 (dexp d)], .int .i64 er]) ∧ BI w' a (nl (dman d).natAbs) c (dman d).natAbs ∧ From W w' :=
  h.mono fun _ _ ⟨a, c, he, hm, hb, _⟩ => ⟨a, c, he, ⟨hm⟩, ⟨hb⟩⟩
theorem frT {P : Program} {f : FuncId} {args : Array Value} {W : World} {n : Nat} {X : Nat → Nat} (h : Calls P f args W fun e w' => ∃ oa ocap, e = .returned (.slice oa n ocap) ∧ Fls w' oa n ocap X ∧ Below W.heap.size W w') :
    Calls P f args W fun e w' => ∃ oa ocap, e = .returned (.slice oa n ocap) ∧ FZ w' oa n ocap X ∧ From W w' :=
  h.mono fun _ _ ⟨a, c, he, hm, hb⟩ => ⟨a, c, he, ⟨hm⟩, ⟨hb⟩⟩
set_option maxRecDepth 100000 in
set_option maxHeartbeats 40000000 in
theorem aexact_any (w : World) (hT : Tab w) (a : Option Addr) (n cap : Nat) (X : Nat → Nat) (hX : Fls w a n cap X) (a' : Option Addr) (m cap' : Nat) (Y : Nat → Nat) (hY : Fls w a' m cap' Y) (b : Nat) (hb : b < 18446744073709551616) :
    Calls Tryz.prog 6 #[.slice a n cap, .slice a' m cap', .int .u64 b] w fun o w' => o = .returned (.bool true) ∧ Below w.heap.size w w' := by
  have HT : Tb w := ⟨hT⟩
  have l1 := hX.lim
  have l2 := hX.fits
  have l3 := hY.lim
  have l4 := hY.fits
  haveI zX : FZ w a n cap X := ⟨hX⟩
  haveI zY : FZ w a' m cap' Y := ⟨hY⟩
  clear hX hY
  by_cases hn : 10 < n
  · have HW := fun W [Tb W] => Lib.hid (frm (awakeA_any W tb))
    go_enter Tryz.func6, Tryz.ntmps6
    go_wp2_with fail
    refine (HW _).out.mono ?_; rintro o w1 ⟨rfl, b1⟩; go_wp2_with fail
    go_ret
    exact ⟨rfl, zbh⟩
  by_cases hm : 10 < m
  · have HW := fun W [Tb W] => Lib.hid (frm (awakeA_any W tb))
    go_enter Tryz.func6, Tryz.ntmps6
    go_wp2_with fail
    refine (HW _).out.mono ?_; rintro o w1 ⟨rfl, b1⟩; go_wp2_with fail
    go_ret
    exact ⟨rfl, zbh⟩
  have HTx := fun W  [i : FZ W a n cap X] => Lib.hid (frT (twin_any W a n cap X i.out (by omega)))
  have HTy := fun W  [i : FZ W a' m cap' Y] => Lib.hid (frT (twin_any W a' m cap' Y i.out (by omega)))
  have H1 := fun W x x' y y' [i : FZ W x n x' X] [j : FZ W y m y' Y] [Tb W] => Lib.hid (frE (adot_any W tb x y n m x' y' X Y i.out j.out (by omega)))
  have H2 := fun W x x' y y' [i : FZ W x n x' X] [j : FZ W y m y' Y] [Tb W] => Lib.hid (frE (rdot6_any W tb x y n m x' y' X Y i.out j.out (by omega)))
  have H3 := fun W x x' y y' [i : FZ W x n x' X] [j : FZ W y m y' Y] [Tb W] => Lib.hid (frE (ares_any W b hb tb x y n m x' y' X Y i.out j.out (by omega)))
  have H4 := fun W x x' y y' [i : FZ W x n x' X] [j : FZ W y m y' Y] [Tb W] => Lib.hid (frE (rres6_any W b hb tb x y n m x' y' X Y i.out j.out (by omega)))
  have H5 := fun W x x' [i : FZ W x n x' X] [Tb W] => Lib.hid (frI (asum_any W tb x n x' X i.out (by omega)))
  have H6 := fun W x x' [i : FZ W x n x' X] [Tb W] => Lib.hid (frI (rsum6 W tb x n x' X i.out (by omega)))
  have HKx := fun W x x' y y' [i : FZ W x n x' X] [j : FZ W y n y' X] => Lib.hid (frm (kfloats_any W x y n x' y' X i.out j.out))
  have HKy := fun W x x' y y' [i : FZ W x m x' Y] [j : FZ W y m y' Y] => Lib.hid (frm (kfloats_any W x y m x' y' Y i.out j.out))
  have HW := fun W  [Tb W] => Lib.hid (frm (awakeA_any W tb))
  generalize dotD X Y n m = dd at *
  generalize resD b X Y n m = dr at *
  generalize dsum (fun i => fof (X i)) n = ds at *
  generalize dotE X Y n m = er1 at *
  generalize resE b X Y n m = er2 at *
  have HK1 := fun W x c y c' [i : BI W x (nl (dman ds).natAbs) c (dman ds).natAbs] [j : BI W y (nl (dman ds).natAbs) c' (dman ds).natAbs] => Lib.hid (frm (kdyad_eq W ds x y c c' i.out j.out))
  have HK2 := fun W x c y c' [i : BI W x (nl (dman dd).natAbs) c (dman dd).natAbs] [j : BI W y (nl (dman dd).natAbs) c' (dman dd).natAbs] => Lib.hid (frm (kdyad_eq W dd x y c c' i.out j.out))
  have HK3 := fun W x c y c' [i : BI W x (nl (dman dr).natAbs) c (dman dr).natAbs] [j : BI W y (nl (dman dr).natAbs) c' (dman dr).natAbs] => Lib.hid (frm (kdyad_eq W dr x y c c' i.out j.out))
  generalize ((b : Nat) : Int) = pb at *
  clear hb
  go_enter Tryz.func6, Tryz.ntmps6
  go_wp2_with fail
  repeat (first
    | (refine (HTx _).out.mono ?_; rintro o w1 ⟨o1, q1, rfl, z1, b1⟩; go_wp2_with fail)
    | (refine (HTy _).out.mono ?_; rintro o w1 ⟨o2, q2, rfl, z2, b1⟩; go_wp2_with fail)
    | (refine (H1 _ _ _ _ _).out.mono ?_; rintro o w1 ⟨e1, f1, rfl, i1, b1⟩; go_wp2_with fail)
    | (refine (H2 _ _ _ _ _).out.mono ?_; rintro o w1 ⟨e2, f2, rfl, i2, b1⟩; go_wp2_with fail)
    | (refine (H3 _ _ _ _ _).out.mono ?_; rintro o w1 ⟨e3, f3, rfl, i3, b1⟩; go_wp2_with fail)
    | (refine (H4 _ _ _ _ _).out.mono ?_; rintro o w1 ⟨e4, f4, rfl, i4, b1⟩; go_wp2_with fail)
    | (refine (H5 _ _ _).out.mono ?_; rintro o w1 ⟨e5, f5, rfl, i5, b1⟩; go_wp2_with fail)
    | (refine (H6 _ _ _).out.mono ?_; rintro o w1 ⟨e6, f6, rfl, i6, b1⟩; go_wp2_with fail)
    | (refine (HKx _ _ _ _ _).out.mono ?_; rintro o w1 ⟨rfl, b1⟩; go_wp2_with fail)
    | (refine (HKy _ _ _ _ _).out.mono ?_; rintro o w1 ⟨rfl, b1⟩; go_wp2_with fail)
    | (refine (HW _).out.mono ?_; rintro o w1 ⟨rfl, b1⟩; go_wp2_with fail)
    | (refine (HK1 _ _ _ _ _).out.mono ?_; rintro o w1 ⟨rfl, b1⟩; go_wp2_with fail)
    | (refine (HK2 _ _ _ _ _).out.mono ?_; rintro o w1 ⟨rfl, b1⟩; go_wp2_with fail)
    | (refine (HK3 _ _ _ _ _).out.mono ?_; rintro o w1 ⟨rfl, b1⟩; go_wp2_with fail))
  go_ret
  exact ⟨rfl, zbh⟩

end Go.Proofs.YtakbappmkdaioaaGreatDoor


/-
  Walks: the reference's dyads: Neg, Abs, FromInt, FromBig, Scale, Log2, Floor, align, Cmp, Add, Sub, Mul.
-/
import Derived.Test.YtakbappmkdaioaaGreatDoorZiRq
import Derived.Test.YtakbappmkdaioaaGreatDoorZiRm
import Derived.Test.YtakbappmkdaioaaGreatDoorZiBg
namespace Go.Proofs.YtakbappmkdaioaaGreatDoor
open Go.RowKit Sp

theorem rabs_z (w : World) (a : Option Addr) (cap : Nat) (z y : Int) (hy : y = (z.natAbs : Int)) (hm : Mag w a (nl z.natAbs) cap z.natAbs) (hl : nl z.natAbs ≤ 549755813888) :
    Calls Tryz.prog 139 #[.agg #[.bool (decide (z < 0)), .slice a (nl z.natAbs) cap]] w (RetBig w y) := by
  have h := rabs_any w (decide (z < 0)) a _ cap _ hm (by omega)
  rwa [show sgn false z.natAbs = y by rw [hy]; rfl] at h
theorem radd_zz (w : World) (a a' : Option Addr) (cap cap' : Nat) (x y v : Int) (hv : v = x + y) (hx : Mag w a (nl x.natAbs) cap x.natAbs) (hy : Mag w a' (nl y.natAbs) cap' y.natAbs) (hl : nl x.natAbs ≤ 549755813888) (hl' : nl y.natAbs ≤ 549755813888) :
    Calls Tryz.prog 234 #[.agg #[.bool (decide (x < 0)), .slice a (nl x.natAbs) cap], .agg #[.bool (decide (y < 0)), .slice a' (nl y.natAbs) cap']] w (RetBig w v) := by
  have h := radd_any w (decide (x < 0)) (decide (y < 0)) a a' _ _ cap cap' _ _ hx hy hl hl'
  rwa [sgn_self, sgn_self, ← hv] at h
theorem rsgn_z (w : World) (a : Option Addr) (cap : Nat) (z g : Int) (hg : g = sg z) (hx : Mag w a (nl z.natAbs) cap z.natAbs) (hl : nl z.natAbs ≤ 549755813888) :
    Calls Tryz.prog 142 #[.agg #[.bool (decide (z < 0)), .slice a (nl z.natAbs) cap]] w fun e w' => e = .returned (.int .i64 g) ∧ Below w.heap.size w w' := by
  have h := rsign_any w (decide (z < 0)) a _ cap _ hx (by omega)
  rwa [sgn_self, ← hg] at h
theorem nl_lim5 {x : Nat} (h : blen x ≤ 1048576) : nl x ≤ 549755813888 := Nat.le_trans (nl_le_blen x) (by omega)
theorem dbad_none {d : Option (Int × Int)} (hb : dbad d = true) : d = none := by cases d with | none => rfl | some p => cases hb

end Go.Proofs.YtakbappmkdaioaaGreatDoor


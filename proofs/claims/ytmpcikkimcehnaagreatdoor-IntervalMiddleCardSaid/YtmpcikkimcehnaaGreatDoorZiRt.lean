/-
  Walks: the reference's dyads: Neg, Abs, FromInt, FromBig, Scale, Log2, Floor, align, Cmp, Add, Sub, Mul.
-/
import Derived.Test.YtmpcikkimcehnaaGreatDoorZiRq
import Derived.Test.YtmpcikkimcehnaaGreatDoorZiRm
import Derived.Test.YtmpcikkimcehnaaGreatDoorZiBg
namespace Go.Proofs.YtmpcikkimcehnaaGreatDoor
open Go.RowKit Sp

theorem rcmp_z (w : World) (a a' : Option Addr) (cap cap' : Nat) (x y v : Int) (hv : v = cmpI x y) (hx : Mag w a (nl x.natAbs) cap x.natAbs) (hy : Mag w a' (nl y.natAbs) cap' y.natAbs) (hl : nl x.natAbs ≤ 549755813888) (hl' : nl y.natAbs ≤ 549755813888) :
    Calls Tryz.prog 243 #[.agg #[.bool (decide (x < 0)), .slice a (nl x.natAbs) cap], .agg #[.bool (decide (y < 0)), .slice a' (nl y.natAbs) cap']] w fun e w' => e = .returned (.int .i64 v) ∧ Below w.heap.size w w' := by
  have h := rcmp_any w (decide (x < 0)) (decide (y < 0)) a a' _ _ cap cap' _ _ hx hy hl hl'
  rwa [sgn_self, sgn_self, ← hv] at h
theorem rsgn_z (w : World) (a : Option Addr) (cap : Nat) (z g : Int) (hg : g = sg z) (hx : Mag w a (nl z.natAbs) cap z.natAbs) (hl : nl z.natAbs ≤ 549755813888) :
    Calls Tryz.prog 158 #[.agg #[.bool (decide (z < 0)), .slice a (nl z.natAbs) cap]] w fun e w' => e = .returned (.int .i64 g) ∧ Below w.heap.size w w' := by
  have h := rsign_any w (decide (z < 0)) a _ cap _ hx (by omega)
  rwa [sgn_self, ← hg] at h
theorem rshl_z (w : World) (a : Option Addr) (cap : Nat) (z k y : Int) (hy : y = z * 2 ^ k.toNat) (hx : Mag w a (nl z.natAbs) cap z.natAbs) (hl : nl z.natAbs ≤ 549755813888) (h0 : 0 ≤ k) (h1 : k ≤ 1048576) :
    Calls Tryz.prog 240 #[.agg #[.bool (decide (z < 0)), .slice a (nl z.natAbs) cap], .int .i64 k] w (RetBig w y) := by
  obtain ⟨q, rfl⟩ := Int.eq_ofNat_of_zero_le h0
  have h := rshift_up w (decide (z < 0)) a _ cap _ q hx hl (by omega)
  rw [sgn_self] at h
  rw [hy]
  exact h
theorem rmake_z (w : World) (a : Option Addr) (cap : Nat) (z e : Int) (d : Option (Int × Int)) (hd : d = nrm z e) (hm : Mag w a (nl z.natAbs) cap z.natAbs) (hT : Tab w) (hl : nl z.natAbs ≤ 549755813888) (hB : blen z.natAbs ≤ 1048576) (he0 : -9223372036854775808 ≤ e) :
    Calls Tryz.prog 199 #[.agg #[.bool (decide (z < 0)), .slice a (nl z.natAbs) cap], .int .i64 e] w (RetDy w d) := by
  have h := rmake_any w (decide (z < 0)) a _ cap _ e hm hl hT hB he0
  rwa [sgn_self, ← hd] at h
theorem nl_lim5 {x : Nat} (h : blen x ≤ 1048576) : nl x ≤ 549755813888 := Nat.le_trans (nl_le_blen x) (by omega)
theorem dbad_none {d : Option (Int × Int)} (hb : dbad d = true) : d = none := by cases d with | none => rfl | some p => cases hb

set_option maxRecDepth 100000 in
set_option maxHeartbeats 2000000 in
theorem rdfromInt_any (w : World) (n : Int) (hT : Tab w) (h0 : -9223372036854775808 ≤ n) (h1 : n ≤ 9223372036854775807) :
    Calls Tryz.prog 129 #[.int .i64 n] w (RetDy w (nrm n 0)) := by
  have hb : blen n.natAbs ≤ 64 := blen_le (by omega)
  have HI := fun W => Lib.hid (rfromInt_any W n h0 h1)
  have HM := fun W b c h ht => Lib.hid (rmake_z W b c n 0 _ rfl h ht (nl_lim5 (by omega)) (by omega) (by omega))
  generalize nrm n 0 = y at HM ⊢
  clear hb h0 h1
  go_enter Tryz.func129, Tryz.ntmps129
  go_wp2_with fail
  have Ir := (DyV.made' w 26 false false (.slice none 0 0) 0 (n := w.heap.size) (by rfl))
  have B0 : Below w.heap.size w (w.alloc (.cells #[.bool false, .bool false, (.slice none 0 0), .int .i64 0] 26)) := zbh
  generalize (w.alloc (.cells #[.bool false, .bool false, (.slice none 0 0), .int .i64 0] 26)) = w0 at Ir B0 ⊢
  generalize hb0 : w.heap.size = b0 at Ir ⊢
  obtain ⟨rc0, rc1, rc2, rc3, rc4, rc5⟩ := Ir
  have Vr0 := Lib.hid (DyV.mk rc0 rc1 rc2 rc3 rc4 rc5)
  refine (HI _).out.mono ?_
  rintro e w1 ⟨a1, c1, rfl, M11, hb1, hf1⟩
  have Vr1 : DyV w1 b0 false false (.slice none 0 0) 0 := (Vr0.out.on.below hb1)
  (try clear rc0 rc1 rc2 rc3 rc4)
  obtain ⟨rc0, rc1, rc2, rc3, rc4, rc5⟩ := Vr1
  have Vr1 := Lib.hid (DyV.mk rc0 rc1 rc2 rc3 rc4 rc5)
  have B1 := below_box (w := w) (have := Beh.mk B0; zbh) hb1
  have hF1 : 0 < (nl n.natAbs) → w0.heap.size ≤ ab a1 := (fun h => by have hq := hf1 h; (try simp at hq); omega)
  have fr1r : 0 < (nl n.natAbs) → ab a1 ≠ b0 := (fun h => by have := hF1 h; have := Vr0.out.lt; omega)
  have fo1 : 0 < (nl n.natAbs) → w.heap.size ≤ ab a1 := (fun h => by have := hF1 h; have := B0.size; omega)
  clear hF1
  clear hb1 hf1
  go_wp2_with fail
  refine (HM _ a1 c1 (by repeat (with_reducible first | refine Mag.set ?_ (fun h => by have := M11 h; omega) _ _ | refine Mag.drew ?_ | refine Mag.alloc ?_ _ | refine Mag.drewN ?_ _ | exact M11)) (hT.below (by have hszw := (B1).size; repeat (with_reducible first | refine Below.setCell ?_ (by first | omega | (simp <;> omega)) _ | refine Below.alloc ?_ (by first | omega | (simp <;> omega)) _ | refine Below.drew ?_ | refine below_drewN ?_ _ | exact B1)))).out.mono ?_
  rintro e w2 ⟨ay, cy, rfl, My2, hb2, hf2⟩
  have Vr2 : DyV w2 b0 false false (.slice none 0 0) 0 := (Vr1.out.on.below hb2)
  (try clear rc0 rc1 rc2 rc3 rc4)
  obtain ⟨rc0, rc1, rc2, rc3, rc4, rc5⟩ := Vr2
  have Vr2 := Lib.hid (DyV.mk rc0 rc1 rc2 rc3 rc4 rc5)
  have M12 : Mag w2 a1 (nl n.natAbs) c1 n.natAbs := Mag.below (by repeat (with_reducible first | refine Mag.set ?_ (fun h => by have := M11 h; omega) _ _ | refine Mag.drew ?_ | refine Mag.alloc ?_ _ | refine Mag.drewN ?_ _ | exact M11)) hb2
  have B2 := below_box (w := w) (have := Beh.mk B1; zbh) hb2
  have hF2 : 0 < (nl (dman y).natAbs) → w1.heap.size ≤ ab ay := (fun h => by have hq := hf2 h; (try simp at hq); omega)
  have fryr : 0 < (nl (dman y).natAbs) → ab ay ≠ b0 := (fun h => by have := hF2 h; have := Vr1.out.lt; omega)
  have foy : 0 < (nl (dman y).natAbs) → w.heap.size ≤ ab ay := (fun h => by have := hF2 h; have := B1.size; omega)
  clear hF2
  clear hb2 hf2
  go_wp2_with fail
  refine bodyPost_ret (v := .agg #[.bool (dbad y), .bool (decide (dman y < 0)), .slice ay (nl (dman y).natAbs) cy, .int .i64 (dexp y)]) (by simp only [results, Tryz.results129]; go_simp) rfl ?_
  exact ⟨ay, cy, rfl, (by repeat (with_reducible first | refine Mag.set ?_ fryr _ _ | refine Mag.drew ?_ | refine Mag.drewN ?_ _ | refine Mag.alloc ?_ _ | exact My2)), (by have hszw := (B2).size; repeat (with_reducible first | refine Below.setCell ?_ (by first | omega | (simp <;> omega)) _ | refine Below.alloc ?_ (by first | omega | (simp <;> omega)) _ | refine Below.drew ?_ | refine below_drewN ?_ _ | exact B2)), foy⟩

end Go.Proofs.YtmpcikkimcehnaaGreatDoor


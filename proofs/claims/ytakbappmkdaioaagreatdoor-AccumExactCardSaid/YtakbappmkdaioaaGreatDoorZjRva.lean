/-
  Walks: the reference's dyads: align.
-/
import Derived.Test.YtakbappmkdaioaaGreatDoorZjRu
namespace Go.Proofs.YtakbappmkdaioaaGreatDoor
open Go.RowKit Sp

/-- two integers and their common exponent; the memory may be the arguments' own -/
def RetAlp (w : World) (x y E : Int) (e : Ending) (w' : World) : Prop :=
  ∃ a c a' c', e = .returned (.tuple #[.agg #[.bool (decide (x < 0)), .slice a (nl x.natAbs) c], .agg #[.bool (decide (y < 0)), .slice a' (nl y.natAbs) c'], .int .i64 E]) ∧ Mag w' a (nl x.natAbs) c x.natAbs ∧ Mag w' a' (nl y.natAbs) c' y.natAbs ∧ Below w.heap.size w w'
def ale (z f z' f' : Int) : Int := if z = 0 then f' else if z' = 0 then f else min f f'

set_option maxRecDepth 100000 in
set_option maxHeartbeats 2000000 in
theorem ralign_zx (w : World) (bd bd' : Bool) (a a' : Option Addr) (c c' : Nat) (z z' f f' : Int) (hx : Mag w a (nl z.natAbs) c z.natAbs) (hy : Mag w a' (nl z'.natAbs) c' z'.natAbs) (hl : nl z.natAbs ≤ 549755813888) (_hl' : nl z'.natAbs ≤ 549755813888) (hz : z = 0) :
    Calls Tryz.prog 233 #[.agg #[.bool bd, .bool (decide (z < 0)), .slice a (nl z.natAbs) c, .int .i64 f], .agg #[.bool bd', .bool (decide (z' < 0)), .slice a' (nl z'.natAbs) c', .int .i64 f']] w (RetAlp w z z' f') := by
  have HS := fun W h => Lib.hid (rsgn_z W a c z _ rfl h hl)
  obtain ⟨g, hg⟩ : ∃ g, g = sg z := ⟨_, rfl⟩
  have hgz : (g == 0) = true := by rw [hg]; exact sg0 hz
  rw [← hg] at HS
  clear hg
  clear hz
  go_enter Tryz.func233, Tryz.ntmps233
  go_wp2_with fail
  have Ia := ((((DyV.made' w 26 bd (decide (z < 0)) (.slice a (nl z.natAbs) c) f (n := w.heap.size) (by rfl)).alloc (.cells #[.bool bd', .bool (decide (z' < 0)), (.slice a' (nl z'.natAbs) c'), .int .i64 f'] 26)).alloc (.cells #[.bool false, (.slice none 0 0)] 24)).alloc (.cells #[.bool false, (.slice none 0 0)] 24))
  have Ib := (((DyV.made' (w.alloc (.cells #[.bool bd, .bool (decide (z < 0)), (.slice a (nl z.natAbs) c), .int .i64 f] 26)) 26 bd' (decide (z' < 0)) (.slice a' (nl z'.natAbs) c') f' (n := w.heap.size + 1) (by rw [World.size_alloc])).alloc (.cells #[.bool false, (.slice none 0 0)] 24)).alloc (.cells #[.bool false, (.slice none 0 0)] 24))
  have Ir := ((BgV.made' ((w.alloc (.cells #[.bool bd, .bool (decide (z < 0)), (.slice a (nl z.natAbs) c), .int .i64 f] 26)).alloc (.cells #[.bool bd', .bool (decide (z' < 0)), (.slice a' (nl z'.natAbs) c'), .int .i64 f'] 26)) 24 false (.slice none 0 0) (n := w.heap.size + 1 + 1) (by rw [World.size_alloc, World.size_alloc])).alloc (.cells #[.bool false, (.slice none 0 0)] 24))
  have Iq := (BgV.made' (((w.alloc (.cells #[.bool bd, .bool (decide (z < 0)), (.slice a (nl z.natAbs) c), .int .i64 f] 26)).alloc (.cells #[.bool bd', .bool (decide (z' < 0)), (.slice a' (nl z'.natAbs) c'), .int .i64 f'] 26)).alloc (.cells #[.bool false, (.slice none 0 0)] 24)) 24 false (.slice none 0 0) (n := w.heap.size + 1 + 1 + 1) (by rw [World.size_alloc, World.size_alloc, World.size_alloc]))
  have B0 : Below w.heap.size w ((((w.alloc (.cells #[.bool bd, .bool (decide (z < 0)), (.slice a (nl z.natAbs) c), .int .i64 f] 26)).alloc (.cells #[.bool bd', .bool (decide (z' < 0)), (.slice a' (nl z'.natAbs) c'), .int .i64 f'] 26)).alloc (.cells #[.bool false, (.slice none 0 0)] 24)).alloc (.cells #[.bool false, (.slice none 0 0)] 24)) := (by repeat (with_reducible first | refine Below.setCell ?_ (by simp <;> omega) _ | refine Below.alloc ?_ (by simp <;> omega) _ | refine Below.drew ?_ | refine below_drewN ?_ _ | exact Below.refl _ _))
  have nab : ¬ w.heap.size = w.heap.size + 1 := by omega
  have nar : ¬ w.heap.size = w.heap.size + 1 + 1 := by omega
  have naq : ¬ w.heap.size = w.heap.size + 1 + 1 + 1 := by omega
  have nba : ¬ w.heap.size + 1 = w.heap.size := by omega
  have nbr : ¬ w.heap.size + 1 = w.heap.size + 1 + 1 := by omega
  have nbq : ¬ w.heap.size + 1 = w.heap.size + 1 + 1 + 1 := by omega
  have nra : ¬ w.heap.size + 1 + 1 = w.heap.size := by omega
  have nrb : ¬ w.heap.size + 1 + 1 = w.heap.size + 1 := by omega
  have nrq : ¬ w.heap.size + 1 + 1 = w.heap.size + 1 + 1 + 1 := by omega
  have nqa : ¬ w.heap.size + 1 + 1 + 1 = w.heap.size := by omega
  have nqb : ¬ w.heap.size + 1 + 1 + 1 = w.heap.size + 1 := by omega
  have nqr : ¬ w.heap.size + 1 + 1 + 1 = w.heap.size + 1 + 1 := by omega
  generalize ((((w.alloc (.cells #[.bool bd, .bool (decide (z < 0)), (.slice a (nl z.natAbs) c), .int .i64 f] 26)).alloc (.cells #[.bool bd', .bool (decide (z' < 0)), (.slice a' (nl z'.natAbs) c'), .int .i64 f'] 26)).alloc (.cells #[.bool false, (.slice none 0 0)] 24)).alloc (.cells #[.bool false, (.slice none 0 0)] 24)) = w0 at Ia Ib Ir Iq B0 ⊢
  generalize hb3 : w.heap.size + 1 + 1 + 1 = b3 at Iq nab nar naq nba nbr nbq nra nrb nrq nqa nqb nqr ⊢
  generalize hb2 : w.heap.size + 1 + 1 = b2 at Ir nab nar naq nba nbr nbq nra nrb nrq nqa nqb nqr hb3 ⊢
  generalize hb1 : w.heap.size + 1 = b1 at Ib nab nar naq nba nbr nbq nra nrb nrq nqa nqb nqr hb2 ⊢
  generalize hb0 : w.heap.size = b0 at Ia nab nar naq nba nbr nbq nra nrb nrq nqa nqb nqr hb1 ⊢
  obtain ⟨ac0, ac1, ac2, ac3, ac4, ac5⟩ := Ia
  have Va0 := Lib.hid (DyV.mk ac0 ac1 ac2 ac3 ac4 ac5)
  obtain ⟨bc0, bc1, bc2, bc3, bc4, bc5⟩ := Ib
  have Vb0 := Lib.hid (DyV.mk bc0 bc1 bc2 bc3 bc4 bc5)
  obtain ⟨rc0, rc1, rc2, rc3⟩ := Ir
  have Vr0 := Lib.hid (BgV.mk rc0 rc1 rc2 rc3)
  obtain ⟨qc0, qc1, qc2, qc3⟩ := Iq
  have Vq0 := Lib.hid (BgV.mk qc0 qc1 qc2 qc3)
  go_cut [7, 8] (fun px py wx => ∃ zx zy, px = .pointer (some ⟨zx, 0, none⟩) ∧ py = .pointer (some ⟨zy, 0, none⟩) ∧ ¬ zx = zy ∧ w0.heap.size ≤ zx ∧ w0.heap.size ≤ zy ∧ BgV wx zx (decide (z < 0)) (.slice a (nl z.natAbs) c) ∧ BgV wx zy (decide (z' < 0)) (.slice a' (nl z'.natAbs) c') ∧ Below w0.heap.size w0 wx)
  case first =>
    have e01 : ¬ w0.heap.size = w0.heap.size + 1 := by omega
    have e10 : ¬ w0.heap.size + 1 = w0.heap.size := by omega
    have hqz : Below w0.heap.size w0 w0 := Below.refl _ _
    first
    | go_big_region
    | fail "region"
    all_goals (
      go_wp2_with fail
      go_meet
      refine ⟨_, _, rfl, rfl, ?_, ?_, ?_, ⟨?_, ?_, ?_, ?_⟩, ⟨?_, ?_, ?_, ?_⟩, (by have hszw := (hqz).size; repeat (with_reducible first | refine Below.setCell ?_ (by first | omega | (simp <;> omega)) _ | refine Below.alloc ?_ (by first | omega | (simp <;> omega)) _ | refine Below.drew ?_ | refine below_drewN ?_ _ | exact hqz))⟩
      · first | omega | (simp; done) | (simp; omega)
      · first | omega | (simp; done) | (simp; omega)
      · first | omega | (simp; done) | (simp; omega)
      · go_simp
      · go_simp
      · intro i; go_simp
      · first | (simp; done) | (simp; omega)
      · go_simp
      · go_simp
      · intro i; go_simp
      · first | (simp; done) | (simp; omega))
  case rest =>
  obtain ⟨w1, hww⟩ : ∃ w1, w1 = wc := ⟨_, rfl⟩
  subst hww
  obtain ⟨zx, zy, rfl, rfl, nxy, lz1, lz2, Vx1, Vy1, hbz⟩ := hcut
  have nyx : ¬ zy = zx := fun h => nxy h.symm
  have nax : ¬ b0 = zx := by have := Va0.out.lt; omega
  have nxa : ¬ zx = b0 := by have := Va0.out.lt; omega
  have nbx : ¬ b1 = zx := by have := Vb0.out.lt; omega
  have nxb : ¬ zx = b1 := by have := Vb0.out.lt; omega
  have nrx : ¬ b2 = zx := by have := Vr0.out.lt; omega
  have nxr : ¬ zx = b2 := by have := Vr0.out.lt; omega
  have nqx : ¬ b3 = zx := by have := Vq0.out.lt; omega
  have nxq : ¬ zx = b3 := by have := Vq0.out.lt; omega
  have nay : ¬ b0 = zy := by have := Va0.out.lt; omega
  have nya : ¬ zy = b0 := by have := Va0.out.lt; omega
  have nby : ¬ b1 = zy := by have := Vb0.out.lt; omega
  have nyb : ¬ zy = b1 := by have := Vb0.out.lt; omega
  have nry : ¬ b2 = zy := by have := Vr0.out.lt; omega
  have nyr : ¬ zy = b2 := by have := Vr0.out.lt; omega
  have nqy : ¬ b3 = zy := by have := Vq0.out.lt; omega
  have nyq : ¬ zy = b3 := by have := Vq0.out.lt; omega
  have Va1 : DyV w1 b0 bd (decide (z < 0)) (.slice a (nl z.natAbs) c) f := Va0.out.below hbz
  have Vb1 : DyV w1 b1 bd' (decide (z' < 0)) (.slice a' (nl z'.natAbs) c') f' := Vb0.out.below hbz
  have Vr1 : BgV w1 b2 false (.slice none 0 0) := Vr0.out.below hbz
  have Vq1 : BgV w1 b3 false (.slice none 0 0) := Vq0.out.below hbz
  have B1 := below_box (w := w) B0 hbz
  clear hbz
  (try clear ac0 ac1 ac2 ac3 ac4)
  obtain ⟨ac0, ac1, ac2, ac3, ac4, ac5⟩ := Va1
  have Va1 := Lib.hid (DyV.mk ac0 ac1 ac2 ac3 ac4 ac5)
  (try clear bc0 bc1 bc2 bc3 bc4)
  obtain ⟨bc0, bc1, bc2, bc3, bc4, bc5⟩ := Vb1
  have Vb1 := Lib.hid (DyV.mk bc0 bc1 bc2 bc3 bc4 bc5)
  (try clear rc0 rc1 rc2)
  obtain ⟨rc0, rc1, rc2, rc3⟩ := Vr1
  have Vr1 := Lib.hid (BgV.mk rc0 rc1 rc2 rc3)
  (try clear qc0 qc1 qc2)
  obtain ⟨qc0, qc1, qc2, qc3⟩ := Vq1
  have Vq1 := Lib.hid (BgV.mk qc0 qc1 qc2 qc3)
  (try clear xc0 xc1 xc2)
  obtain ⟨xc0, xc1, xc2, xc3⟩ := Vx1
  have Vx1 := Lib.hid (BgV.mk xc0 xc1 xc2 xc3)
  (try clear yc0 yc1 yc2)
  obtain ⟨yc0, yc1, yc2, yc3⟩ := Vy1
  have Vy1 := Lib.hid (BgV.mk yc0 yc1 yc2 yc3)
  go_wp2_with fail
  refine (HS _ (hx.below (by have hszw := (B1).size; repeat (with_reducible first | refine Below.setCell ?_ (by first | omega | (simp <;> omega)) _ | refine Below.alloc ?_ (by first | omega | (simp <;> omega)) _ | refine Below.drew ?_ | refine below_drewN ?_ _ | exact B1)))).out.mono ?_
  rintro e w2 ⟨rfl, hb2⟩
  have Va2 : DyV w2 b0 bd (decide (z < 0)) (.slice a (nl z.natAbs) c) f := (by refine DyV.below ?_ hb2; (repeat (with_reducible first | refine DyV.drew ?_ | refine DyV.drewN ?_ _ | refine DyV.alloc ?_ _)); exact Va1.out)
  (try clear ac0 ac1 ac2 ac3 ac4)
  obtain ⟨ac0, ac1, ac2, ac3, ac4, ac5⟩ := Va2
  have Va2 := Lib.hid (DyV.mk ac0 ac1 ac2 ac3 ac4 ac5)
  have Vb2 : DyV w2 b1 bd' (decide (z' < 0)) (.slice a' (nl z'.natAbs) c') f' := (by refine DyV.below ?_ hb2; (repeat (with_reducible first | refine DyV.drew ?_ | refine DyV.drewN ?_ _ | refine DyV.alloc ?_ _)); exact Vb1.out)
  (try clear bc0 bc1 bc2 bc3 bc4)
  obtain ⟨bc0, bc1, bc2, bc3, bc4, bc5⟩ := Vb2
  have Vb2 := Lib.hid (DyV.mk bc0 bc1 bc2 bc3 bc4 bc5)
  have Vr2 : BgV w2 b2 false (.slice none 0 0) := (by refine BgV.below ?_ hb2; (repeat (with_reducible first | refine BgV.drew ?_ | refine BgV.drewN ?_ _ | refine BgV.alloc ?_ _)); exact Vr1.out)
  (try clear rc0 rc1 rc2)
  obtain ⟨rc0, rc1, rc2, rc3⟩ := Vr2
  have Vr2 := Lib.hid (BgV.mk rc0 rc1 rc2 rc3)
  have Vq2 : BgV w2 b3 false (.slice none 0 0) := (by refine BgV.below ?_ hb2; (repeat (with_reducible first | refine BgV.drew ?_ | refine BgV.drewN ?_ _ | refine BgV.alloc ?_ _)); exact Vq1.out)
  (try clear qc0 qc1 qc2)
  obtain ⟨qc0, qc1, qc2, qc3⟩ := Vq2
  have Vq2 := Lib.hid (BgV.mk qc0 qc1 qc2 qc3)
  have Vx2 : BgV w2 zx (decide (z < 0)) (.slice a (nl z.natAbs) c) := (by refine BgV.below ?_ hb2; (repeat (with_reducible first | refine BgV.drew ?_ | refine BgV.drewN ?_ _ | refine BgV.alloc ?_ _)); exact Vx1.out)
  (try clear xc0 xc1 xc2)
  obtain ⟨xc0, xc1, xc2, xc3⟩ := Vx2
  have Vx2 := Lib.hid (BgV.mk xc0 xc1 xc2 xc3)
  have Vy2 : BgV w2 zy (decide (z' < 0)) (.slice a' (nl z'.natAbs) c') := (by refine BgV.below ?_ hb2; (repeat (with_reducible first | refine BgV.drew ?_ | refine BgV.drewN ?_ _ | refine BgV.alloc ?_ _)); exact Vy1.out)
  (try clear yc0 yc1 yc2)
  obtain ⟨yc0, yc1, yc2, yc3⟩ := Vy2
  have Vy2 := Lib.hid (BgV.mk yc0 yc1 yc2 yc3)
  have B2 := below_box (w := w) (by have hszw := (B1).size; repeat (with_reducible first | refine Below.setCell ?_ (by first | omega | (simp <;> omega)) _ | refine Below.alloc ?_ (by first | omega | (simp <;> omega)) _ | refine Below.drew ?_ | refine below_drewN ?_ _ | exact B1)) hb2
  clear hb2
  go_wp2_with fail
  first
  | go_big_region
  | fail "region"
  all_goals (
    go_wp2_with fail
    refine bodyPost_ret2 (v := .tuple #[.agg #[.bool (decide (z < 0)), .slice a (nl z.natAbs) c], .agg #[.bool (decide (z' < 0)), .slice a' (nl z'.natAbs) c'], .int .i64 f']) (by simp only [results, Tryz.results233]; go_simp) rfl ?_
    exact ⟨a, c, a', c', rfl, hx.below (by have hszw := (B2).size; repeat (with_reducible first | refine Below.setCell ?_ (by first | omega | (simp <;> omega)) _ | refine Below.alloc ?_ (by first | omega | (simp <;> omega)) _ | refine Below.drew ?_ | refine below_drewN ?_ _ | exact B2)), hy.below (by have hszw := (B2).size; repeat (with_reducible first | refine Below.setCell ?_ (by first | omega | (simp <;> omega)) _ | refine Below.alloc ?_ (by first | omega | (simp <;> omega)) _ | refine Below.drew ?_ | refine below_drewN ?_ _ | exact B2)), (by have hszw := (B2).size; repeat (with_reducible first | refine Below.setCell ?_ (by first | omega | (simp <;> omega)) _ | refine Below.alloc ?_ (by first | omega | (simp <;> omega)) _ | refine Below.drew ?_ | refine below_drewN ?_ _ | exact B2))⟩)

set_option maxRecDepth 100000 in
set_option maxHeartbeats 2000000 in
theorem ralign_zy (w : World) (bd bd' : Bool) (a a' : Option Addr) (c c' : Nat) (z z' f f' : Int) (hx : Mag w a (nl z.natAbs) c z.natAbs) (hy : Mag w a' (nl z'.natAbs) c' z'.natAbs) (hl : nl z.natAbs ≤ 549755813888) (hl' : nl z'.natAbs ≤ 549755813888) (hz : z ≠ 0) (hz' : z' = 0) :
    Calls Tryz.prog 233 #[.agg #[.bool bd, .bool (decide (z < 0)), .slice a (nl z.natAbs) c, .int .i64 f], .agg #[.bool bd', .bool (decide (z' < 0)), .slice a' (nl z'.natAbs) c', .int .i64 f']] w (RetAlp w z z' f) := by
  have HS := fun W h => Lib.hid (rsgn_z W a c z _ rfl h hl)
  obtain ⟨g, hg⟩ : ∃ g, g = sg z := ⟨_, rfl⟩
  have hgz : (g == 0) = false := by rw [hg]; exact sg1 hz
  rw [← hg] at HS
  clear hg
  have HS' := fun W h => Lib.hid (rsgn_z W a' c' z' _ rfl h hl')
  obtain ⟨g', hg'⟩ : ∃ g', g' = sg z' := ⟨_, rfl⟩
  have hgz' : (g' == 0) = true := by rw [hg']; exact sg0 hz'
  rw [← hg'] at HS'
  clear hg'
  clear hz hz'
  go_enter Tryz.func233, Tryz.ntmps233
  go_wp2_with fail
  have Ia := ((((DyV.made' w 26 bd (decide (z < 0)) (.slice a (nl z.natAbs) c) f (n := w.heap.size) (by rfl)).alloc (.cells #[.bool bd', .bool (decide (z' < 0)), (.slice a' (nl z'.natAbs) c'), .int .i64 f'] 26)).alloc (.cells #[.bool false, (.slice none 0 0)] 24)).alloc (.cells #[.bool false, (.slice none 0 0)] 24))
  have Ib := (((DyV.made' (w.alloc (.cells #[.bool bd, .bool (decide (z < 0)), (.slice a (nl z.natAbs) c), .int .i64 f] 26)) 26 bd' (decide (z' < 0)) (.slice a' (nl z'.natAbs) c') f' (n := w.heap.size + 1) (by rw [World.size_alloc])).alloc (.cells #[.bool false, (.slice none 0 0)] 24)).alloc (.cells #[.bool false, (.slice none 0 0)] 24))
  have Ir := ((BgV.made' ((w.alloc (.cells #[.bool bd, .bool (decide (z < 0)), (.slice a (nl z.natAbs) c), .int .i64 f] 26)).alloc (.cells #[.bool bd', .bool (decide (z' < 0)), (.slice a' (nl z'.natAbs) c'), .int .i64 f'] 26)) 24 false (.slice none 0 0) (n := w.heap.size + 1 + 1) (by rw [World.size_alloc, World.size_alloc])).alloc (.cells #[.bool false, (.slice none 0 0)] 24))
  have Iq := (BgV.made' (((w.alloc (.cells #[.bool bd, .bool (decide (z < 0)), (.slice a (nl z.natAbs) c), .int .i64 f] 26)).alloc (.cells #[.bool bd', .bool (decide (z' < 0)), (.slice a' (nl z'.natAbs) c'), .int .i64 f'] 26)).alloc (.cells #[.bool false, (.slice none 0 0)] 24)) 24 false (.slice none 0 0) (n := w.heap.size + 1 + 1 + 1) (by rw [World.size_alloc, World.size_alloc, World.size_alloc]))
  have B0 : Below w.heap.size w ((((w.alloc (.cells #[.bool bd, .bool (decide (z < 0)), (.slice a (nl z.natAbs) c), .int .i64 f] 26)).alloc (.cells #[.bool bd', .bool (decide (z' < 0)), (.slice a' (nl z'.natAbs) c'), .int .i64 f'] 26)).alloc (.cells #[.bool false, (.slice none 0 0)] 24)).alloc (.cells #[.bool false, (.slice none 0 0)] 24)) := (by repeat (with_reducible first | refine Below.setCell ?_ (by simp <;> omega) _ | refine Below.alloc ?_ (by simp <;> omega) _ | refine Below.drew ?_ | refine below_drewN ?_ _ | exact Below.refl _ _))
  have nab : ¬ w.heap.size = w.heap.size + 1 := by omega
  have nar : ¬ w.heap.size = w.heap.size + 1 + 1 := by omega
  have naq : ¬ w.heap.size = w.heap.size + 1 + 1 + 1 := by omega
  have nba : ¬ w.heap.size + 1 = w.heap.size := by omega
  have nbr : ¬ w.heap.size + 1 = w.heap.size + 1 + 1 := by omega
  have nbq : ¬ w.heap.size + 1 = w.heap.size + 1 + 1 + 1 := by omega
  have nra : ¬ w.heap.size + 1 + 1 = w.heap.size := by omega
  have nrb : ¬ w.heap.size + 1 + 1 = w.heap.size + 1 := by omega
  have nrq : ¬ w.heap.size + 1 + 1 = w.heap.size + 1 + 1 + 1 := by omega
  have nqa : ¬ w.heap.size + 1 + 1 + 1 = w.heap.size := by omega
  have nqb : ¬ w.heap.size + 1 + 1 + 1 = w.heap.size + 1 := by omega
  have nqr : ¬ w.heap.size + 1 + 1 + 1 = w.heap.size + 1 + 1 := by omega
  generalize ((((w.alloc (.cells #[.bool bd, .bool (decide (z < 0)), (.slice a (nl z.natAbs) c), .int .i64 f] 26)).alloc (.cells #[.bool bd', .bool (decide (z' < 0)), (.slice a' (nl z'.natAbs) c'), .int .i64 f'] 26)).alloc (.cells #[.bool false, (.slice none 0 0)] 24)).alloc (.cells #[.bool false, (.slice none 0 0)] 24)) = w0 at Ia Ib Ir Iq B0 ⊢
  generalize hb3 : w.heap.size + 1 + 1 + 1 = b3 at Iq nab nar naq nba nbr nbq nra nrb nrq nqa nqb nqr ⊢
  generalize hb2 : w.heap.size + 1 + 1 = b2 at Ir nab nar naq nba nbr nbq nra nrb nrq nqa nqb nqr hb3 ⊢
  generalize hb1 : w.heap.size + 1 = b1 at Ib nab nar naq nba nbr nbq nra nrb nrq nqa nqb nqr hb2 ⊢
  generalize hb0 : w.heap.size = b0 at Ia nab nar naq nba nbr nbq nra nrb nrq nqa nqb nqr hb1 ⊢
  obtain ⟨ac0, ac1, ac2, ac3, ac4, ac5⟩ := Ia
  have Va0 := Lib.hid (DyV.mk ac0 ac1 ac2 ac3 ac4 ac5)
  obtain ⟨bc0, bc1, bc2, bc3, bc4, bc5⟩ := Ib
  have Vb0 := Lib.hid (DyV.mk bc0 bc1 bc2 bc3 bc4 bc5)
  obtain ⟨rc0, rc1, rc2, rc3⟩ := Ir
  have Vr0 := Lib.hid (BgV.mk rc0 rc1 rc2 rc3)
  obtain ⟨qc0, qc1, qc2, qc3⟩ := Iq
  have Vq0 := Lib.hid (BgV.mk qc0 qc1 qc2 qc3)
  go_cut [7, 8] (fun px py wx => ∃ zx zy, px = .pointer (some ⟨zx, 0, none⟩) ∧ py = .pointer (some ⟨zy, 0, none⟩) ∧ ¬ zx = zy ∧ w0.heap.size ≤ zx ∧ w0.heap.size ≤ zy ∧ BgV wx zx (decide (z < 0)) (.slice a (nl z.natAbs) c) ∧ BgV wx zy (decide (z' < 0)) (.slice a' (nl z'.natAbs) c') ∧ Below w0.heap.size w0 wx)
  case first =>
    have e01 : ¬ w0.heap.size = w0.heap.size + 1 := by omega
    have e10 : ¬ w0.heap.size + 1 = w0.heap.size := by omega
    have hqz : Below w0.heap.size w0 w0 := Below.refl _ _
    first
    | go_big_region
    | fail "region"
    all_goals (
      go_wp2_with fail
      go_meet
      refine ⟨_, _, rfl, rfl, ?_, ?_, ?_, ⟨?_, ?_, ?_, ?_⟩, ⟨?_, ?_, ?_, ?_⟩, (by have hszw := (hqz).size; repeat (with_reducible first | refine Below.setCell ?_ (by first | omega | (simp <;> omega)) _ | refine Below.alloc ?_ (by first | omega | (simp <;> omega)) _ | refine Below.drew ?_ | refine below_drewN ?_ _ | exact hqz))⟩
      · first | omega | (simp; done) | (simp; omega)
      · first | omega | (simp; done) | (simp; omega)
      · first | omega | (simp; done) | (simp; omega)
      · go_simp
      · go_simp
      · intro i; go_simp
      · first | (simp; done) | (simp; omega)
      · go_simp
      · go_simp
      · intro i; go_simp
      · first | (simp; done) | (simp; omega))
  case rest =>
  obtain ⟨w1, hww⟩ : ∃ w1, w1 = wc := ⟨_, rfl⟩
  subst hww
  obtain ⟨zx, zy, rfl, rfl, nxy, lz1, lz2, Vx1, Vy1, hbz⟩ := hcut
  have nyx : ¬ zy = zx := fun h => nxy h.symm
  have nax : ¬ b0 = zx := by have := Va0.out.lt; omega
  have nxa : ¬ zx = b0 := by have := Va0.out.lt; omega
  have nbx : ¬ b1 = zx := by have := Vb0.out.lt; omega
  have nxb : ¬ zx = b1 := by have := Vb0.out.lt; omega
  have nrx : ¬ b2 = zx := by have := Vr0.out.lt; omega
  have nxr : ¬ zx = b2 := by have := Vr0.out.lt; omega
  have nqx : ¬ b3 = zx := by have := Vq0.out.lt; omega
  have nxq : ¬ zx = b3 := by have := Vq0.out.lt; omega
  have nay : ¬ b0 = zy := by have := Va0.out.lt; omega
  have nya : ¬ zy = b0 := by have := Va0.out.lt; omega
  have nby : ¬ b1 = zy := by have := Vb0.out.lt; omega
  have nyb : ¬ zy = b1 := by have := Vb0.out.lt; omega
  have nry : ¬ b2 = zy := by have := Vr0.out.lt; omega
  have nyr : ¬ zy = b2 := by have := Vr0.out.lt; omega
  have nqy : ¬ b3 = zy := by have := Vq0.out.lt; omega
  have nyq : ¬ zy = b3 := by have := Vq0.out.lt; omega
  have Va1 : DyV w1 b0 bd (decide (z < 0)) (.slice a (nl z.natAbs) c) f := Va0.out.below hbz
  have Vb1 : DyV w1 b1 bd' (decide (z' < 0)) (.slice a' (nl z'.natAbs) c') f' := Vb0.out.below hbz
  have Vr1 : BgV w1 b2 false (.slice none 0 0) := Vr0.out.below hbz
  have Vq1 : BgV w1 b3 false (.slice none 0 0) := Vq0.out.below hbz
  have B1 := below_box (w := w) B0 hbz
  clear hbz
  (try clear ac0 ac1 ac2 ac3 ac4)
  obtain ⟨ac0, ac1, ac2, ac3, ac4, ac5⟩ := Va1
  have Va1 := Lib.hid (DyV.mk ac0 ac1 ac2 ac3 ac4 ac5)
  (try clear bc0 bc1 bc2 bc3 bc4)
  obtain ⟨bc0, bc1, bc2, bc3, bc4, bc5⟩ := Vb1
  have Vb1 := Lib.hid (DyV.mk bc0 bc1 bc2 bc3 bc4 bc5)
  (try clear rc0 rc1 rc2)
  obtain ⟨rc0, rc1, rc2, rc3⟩ := Vr1
  have Vr1 := Lib.hid (BgV.mk rc0 rc1 rc2 rc3)
  (try clear qc0 qc1 qc2)
  obtain ⟨qc0, qc1, qc2, qc3⟩ := Vq1
  have Vq1 := Lib.hid (BgV.mk qc0 qc1 qc2 qc3)
  (try clear xc0 xc1 xc2)
  obtain ⟨xc0, xc1, xc2, xc3⟩ := Vx1
  have Vx1 := Lib.hid (BgV.mk xc0 xc1 xc2 xc3)
  (try clear yc0 yc1 yc2)
  obtain ⟨yc0, yc1, yc2, yc3⟩ := Vy1
  have Vy1 := Lib.hid (BgV.mk yc0 yc1 yc2 yc3)
  go_wp2_with fail
  refine (HS _ (hx.below (by have hszw := (B1).size; repeat (with_reducible first | refine Below.setCell ?_ (by first | omega | (simp <;> omega)) _ | refine Below.alloc ?_ (by first | omega | (simp <;> omega)) _ | refine Below.drew ?_ | refine below_drewN ?_ _ | exact B1)))).out.mono ?_
  rintro e w2 ⟨rfl, hb2⟩
  have Va2 : DyV w2 b0 bd (decide (z < 0)) (.slice a (nl z.natAbs) c) f := (by refine DyV.below ?_ hb2; (repeat (with_reducible first | refine DyV.drew ?_ | refine DyV.drewN ?_ _ | refine DyV.alloc ?_ _)); exact Va1.out)
  (try clear ac0 ac1 ac2 ac3 ac4)
  obtain ⟨ac0, ac1, ac2, ac3, ac4, ac5⟩ := Va2
  have Va2 := Lib.hid (DyV.mk ac0 ac1 ac2 ac3 ac4 ac5)
  have Vb2 : DyV w2 b1 bd' (decide (z' < 0)) (.slice a' (nl z'.natAbs) c') f' := (by refine DyV.below ?_ hb2; (repeat (with_reducible first | refine DyV.drew ?_ | refine DyV.drewN ?_ _ | refine DyV.alloc ?_ _)); exact Vb1.out)
  (try clear bc0 bc1 bc2 bc3 bc4)
  obtain ⟨bc0, bc1, bc2, bc3, bc4, bc5⟩ := Vb2
  have Vb2 := Lib.hid (DyV.mk bc0 bc1 bc2 bc3 bc4 bc5)
  have Vr2 : BgV w2 b2 false (.slice none 0 0) := (by refine BgV.below ?_ hb2; (repeat (with_reducible first | refine BgV.drew ?_ | refine BgV.drewN ?_ _ | refine BgV.alloc ?_ _)); exact Vr1.out)
  (try clear rc0 rc1 rc2)
  obtain ⟨rc0, rc1, rc2, rc3⟩ := Vr2
  have Vr2 := Lib.hid (BgV.mk rc0 rc1 rc2 rc3)
  have Vq2 : BgV w2 b3 false (.slice none 0 0) := (by refine BgV.below ?_ hb2; (repeat (with_reducible first | refine BgV.drew ?_ | refine BgV.drewN ?_ _ | refine BgV.alloc ?_ _)); exact Vq1.out)
  (try clear qc0 qc1 qc2)
  obtain ⟨qc0, qc1, qc2, qc3⟩ := Vq2
  have Vq2 := Lib.hid (BgV.mk qc0 qc1 qc2 qc3)
  have Vx2 : BgV w2 zx (decide (z < 0)) (.slice a (nl z.natAbs) c) := (by refine BgV.below ?_ hb2; (repeat (with_reducible first | refine BgV.drew ?_ | refine BgV.drewN ?_ _ | refine BgV.alloc ?_ _)); exact Vx1.out)
  (try clear xc0 xc1 xc2)
  obtain ⟨xc0, xc1, xc2, xc3⟩ := Vx2
  have Vx2 := Lib.hid (BgV.mk xc0 xc1 xc2 xc3)
  have Vy2 : BgV w2 zy (decide (z' < 0)) (.slice a' (nl z'.natAbs) c') := (by refine BgV.below ?_ hb2; (repeat (with_reducible first | refine BgV.drew ?_ | refine BgV.drewN ?_ _ | refine BgV.alloc ?_ _)); exact Vy1.out)
  (try clear yc0 yc1 yc2)
  obtain ⟨yc0, yc1, yc2, yc3⟩ := Vy2
  have Vy2 := Lib.hid (BgV.mk yc0 yc1 yc2 yc3)
  have B2 := below_box (w := w) (by have hszw := (B1).size; repeat (with_reducible first | refine Below.setCell ?_ (by first | omega | (simp <;> omega)) _ | refine Below.alloc ?_ (by first | omega | (simp <;> omega)) _ | refine Below.drew ?_ | refine below_drewN ?_ _ | exact B1)) hb2
  clear hb2
  go_wp2_with fail
  refine (HS' _ (hy.below (by have hszw := (B2).size; repeat (with_reducible first | refine Below.setCell ?_ (by first | omega | (simp <;> omega)) _ | refine Below.alloc ?_ (by first | omega | (simp <;> omega)) _ | refine Below.drew ?_ | refine below_drewN ?_ _ | exact B2)))).out.mono ?_
  rintro e w3 ⟨rfl, hb3⟩
  have Va3 : DyV w3 b0 bd (decide (z < 0)) (.slice a (nl z.natAbs) c) f := (by refine DyV.below ?_ hb3; (repeat (with_reducible first | refine DyV.drew ?_ | refine DyV.drewN ?_ _ | refine DyV.alloc ?_ _)); exact Va2.out)
  (try clear ac0 ac1 ac2 ac3 ac4)
  obtain ⟨ac0, ac1, ac2, ac3, ac4, ac5⟩ := Va3
  have Va3 := Lib.hid (DyV.mk ac0 ac1 ac2 ac3 ac4 ac5)
  have Vb3 : DyV w3 b1 bd' (decide (z' < 0)) (.slice a' (nl z'.natAbs) c') f' := (by refine DyV.below ?_ hb3; (repeat (with_reducible first | refine DyV.drew ?_ | refine DyV.drewN ?_ _ | refine DyV.alloc ?_ _)); exact Vb2.out)
  (try clear bc0 bc1 bc2 bc3 bc4)
  obtain ⟨bc0, bc1, bc2, bc3, bc4, bc5⟩ := Vb3
  have Vb3 := Lib.hid (DyV.mk bc0 bc1 bc2 bc3 bc4 bc5)
  have Vr3 : BgV w3 b2 false (.slice none 0 0) := (by refine BgV.below ?_ hb3; (repeat (with_reducible first | refine BgV.drew ?_ | refine BgV.drewN ?_ _ | refine BgV.alloc ?_ _)); exact Vr2.out)
  (try clear rc0 rc1 rc2)
  obtain ⟨rc0, rc1, rc2, rc3⟩ := Vr3
  have Vr3 := Lib.hid (BgV.mk rc0 rc1 rc2 rc3)
  have Vq3 : BgV w3 b3 false (.slice none 0 0) := (by refine BgV.below ?_ hb3; (repeat (with_reducible first | refine BgV.drew ?_ | refine BgV.drewN ?_ _ | refine BgV.alloc ?_ _)); exact Vq2.out)
  (try clear qc0 qc1 qc2)
  obtain ⟨qc0, qc1, qc2, qc3⟩ := Vq3
  have Vq3 := Lib.hid (BgV.mk qc0 qc1 qc2 qc3)
  have Vx3 : BgV w3 zx (decide (z < 0)) (.slice a (nl z.natAbs) c) := (by refine BgV.below ?_ hb3; (repeat (with_reducible first | refine BgV.drew ?_ | refine BgV.drewN ?_ _ | refine BgV.alloc ?_ _)); exact Vx2.out)
  (try clear xc0 xc1 xc2)
  obtain ⟨xc0, xc1, xc2, xc3⟩ := Vx3
  have Vx3 := Lib.hid (BgV.mk xc0 xc1 xc2 xc3)
  have Vy3 : BgV w3 zy (decide (z' < 0)) (.slice a' (nl z'.natAbs) c') := (by refine BgV.below ?_ hb3; (repeat (with_reducible first | refine BgV.drew ?_ | refine BgV.drewN ?_ _ | refine BgV.alloc ?_ _)); exact Vy2.out)
  (try clear yc0 yc1 yc2)
  obtain ⟨yc0, yc1, yc2, yc3⟩ := Vy3
  have Vy3 := Lib.hid (BgV.mk yc0 yc1 yc2 yc3)
  have B3 := below_box (w := w) (by have hszw := (B2).size; repeat (with_reducible first | refine Below.setCell ?_ (by first | omega | (simp <;> omega)) _ | refine Below.alloc ?_ (by first | omega | (simp <;> omega)) _ | refine Below.drew ?_ | refine below_drewN ?_ _ | exact B2)) hb3
  clear hb3
  go_wp2_with fail
  first
  | go_big_region
  | fail "region"
  all_goals (
    go_wp2_with fail
    refine bodyPost_ret2 (v := .tuple #[.agg #[.bool (decide (z < 0)), .slice a (nl z.natAbs) c], .agg #[.bool (decide (z' < 0)), .slice a' (nl z'.natAbs) c'], .int .i64 f]) (by simp only [results, Tryz.results233]; go_simp) rfl ?_
    exact ⟨a, c, a', c', rfl, hx.below (by have hszw := (B3).size; repeat (with_reducible first | refine Below.setCell ?_ (by first | omega | (simp <;> omega)) _ | refine Below.alloc ?_ (by first | omega | (simp <;> omega)) _ | refine Below.drew ?_ | refine below_drewN ?_ _ | exact B3)), hy.below (by have hszw := (B3).size; repeat (with_reducible first | refine Below.setCell ?_ (by first | omega | (simp <;> omega)) _ | refine Below.alloc ?_ (by first | omega | (simp <;> omega)) _ | refine Below.drew ?_ | refine below_drewN ?_ _ | exact B3)), (by have hszw := (B3).size; repeat (with_reducible first | refine Below.setCell ?_ (by first | omega | (simp <;> omega)) _ | refine Below.alloc ?_ (by first | omega | (simp <;> omega)) _ | refine Below.drew ?_ | refine below_drewN ?_ _ | exact B3))⟩)

set_option maxRecDepth 100000 in
set_option maxHeartbeats 2000000 in
theorem ralign_gt (w : World) (bd bd' : Bool) (a a' : Option Addr) (c c' : Nat) (z z' f f' : Int) (hx : Mag w a (nl z.natAbs) c z.natAbs) (hy : Mag w a' (nl z'.natAbs) c' z'.natAbs) (hl : nl z.natAbs ≤ 549755813888) (hl' : nl z'.natAbs ≤ 549755813888) (hz : z ≠ 0) (hz' : z' ≠ 0) (hf : f' < f) (k y : Int) (hk : k = f - f') (hw : IntKind.i64.wrap (f - f') = k) (hk1 : k ≤ 1048576) (hy2 : y = z * 2 ^ k.toNat) :
    Calls Tryz.prog 233 #[.agg #[.bool bd, .bool (decide (z < 0)), .slice a (nl z.natAbs) c, .int .i64 f], .agg #[.bool bd', .bool (decide (z' < 0)), .slice a' (nl z'.natAbs) c', .int .i64 f']] w (RetAlp w y z' f') := by
  have HS := fun W h => Lib.hid (rsgn_z W a c z _ rfl h hl)
  obtain ⟨g, hg⟩ : ∃ g, g = sg z := ⟨_, rfl⟩
  have hgz : (g == 0) = false := by rw [hg]; exact sg1 hz
  rw [← hg] at HS
  clear hg
  have HS' := fun W h => Lib.hid (rsgn_z W a' c' z' _ rfl h hl')
  obtain ⟨g', hg'⟩ : ∃ g', g' = sg z' := ⟨_, rfl⟩
  have hgz' : (g' == 0) = false := by rw [hg']; exact sg1 hz'
  rw [← hg'] at HS'
  clear hg'
  have hc : decide (f' < f) = true := by simpa using hf
  have HG := fun W h => Lib.hid (rshl_z W a c z k y hy2 h hl (by omega) hk1)
  clear hz hz' hf hk hk1 hy2
  go_enter Tryz.func233, Tryz.ntmps233
  go_wp2_with fail
  have Ia := ((((DyV.made' w 26 bd (decide (z < 0)) (.slice a (nl z.natAbs) c) f (n := w.heap.size) (by rfl)).alloc (.cells #[.bool bd', .bool (decide (z' < 0)), (.slice a' (nl z'.natAbs) c'), .int .i64 f'] 26)).alloc (.cells #[.bool false, (.slice none 0 0)] 24)).alloc (.cells #[.bool false, (.slice none 0 0)] 24))
  have Ib := (((DyV.made' (w.alloc (.cells #[.bool bd, .bool (decide (z < 0)), (.slice a (nl z.natAbs) c), .int .i64 f] 26)) 26 bd' (decide (z' < 0)) (.slice a' (nl z'.natAbs) c') f' (n := w.heap.size + 1) (by rw [World.size_alloc])).alloc (.cells #[.bool false, (.slice none 0 0)] 24)).alloc (.cells #[.bool false, (.slice none 0 0)] 24))
  have Ir := ((BgV.made' ((w.alloc (.cells #[.bool bd, .bool (decide (z < 0)), (.slice a (nl z.natAbs) c), .int .i64 f] 26)).alloc (.cells #[.bool bd', .bool (decide (z' < 0)), (.slice a' (nl z'.natAbs) c'), .int .i64 f'] 26)) 24 false (.slice none 0 0) (n := w.heap.size + 1 + 1) (by rw [World.size_alloc, World.size_alloc])).alloc (.cells #[.bool false, (.slice none 0 0)] 24))
  have Iq := (BgV.made' (((w.alloc (.cells #[.bool bd, .bool (decide (z < 0)), (.slice a (nl z.natAbs) c), .int .i64 f] 26)).alloc (.cells #[.bool bd', .bool (decide (z' < 0)), (.slice a' (nl z'.natAbs) c'), .int .i64 f'] 26)).alloc (.cells #[.bool false, (.slice none 0 0)] 24)) 24 false (.slice none 0 0) (n := w.heap.size + 1 + 1 + 1) (by rw [World.size_alloc, World.size_alloc, World.size_alloc]))
  have B0 : Below w.heap.size w ((((w.alloc (.cells #[.bool bd, .bool (decide (z < 0)), (.slice a (nl z.natAbs) c), .int .i64 f] 26)).alloc (.cells #[.bool bd', .bool (decide (z' < 0)), (.slice a' (nl z'.natAbs) c'), .int .i64 f'] 26)).alloc (.cells #[.bool false, (.slice none 0 0)] 24)).alloc (.cells #[.bool false, (.slice none 0 0)] 24)) := (by repeat (with_reducible first | refine Below.setCell ?_ (by simp <;> omega) _ | refine Below.alloc ?_ (by simp <;> omega) _ | refine Below.drew ?_ | refine below_drewN ?_ _ | exact Below.refl _ _))
  have nab : ¬ w.heap.size = w.heap.size + 1 := by omega
  have nar : ¬ w.heap.size = w.heap.size + 1 + 1 := by omega
  have naq : ¬ w.heap.size = w.heap.size + 1 + 1 + 1 := by omega
  have nba : ¬ w.heap.size + 1 = w.heap.size := by omega
  have nbr : ¬ w.heap.size + 1 = w.heap.size + 1 + 1 := by omega
  have nbq : ¬ w.heap.size + 1 = w.heap.size + 1 + 1 + 1 := by omega
  have nra : ¬ w.heap.size + 1 + 1 = w.heap.size := by omega
  have nrb : ¬ w.heap.size + 1 + 1 = w.heap.size + 1 := by omega
  have nrq : ¬ w.heap.size + 1 + 1 = w.heap.size + 1 + 1 + 1 := by omega
  have nqa : ¬ w.heap.size + 1 + 1 + 1 = w.heap.size := by omega
  have nqb : ¬ w.heap.size + 1 + 1 + 1 = w.heap.size + 1 := by omega
  have nqr : ¬ w.heap.size + 1 + 1 + 1 = w.heap.size + 1 + 1 := by omega
  generalize ((((w.alloc (.cells #[.bool bd, .bool (decide (z < 0)), (.slice a (nl z.natAbs) c), .int .i64 f] 26)).alloc (.cells #[.bool bd', .bool (decide (z' < 0)), (.slice a' (nl z'.natAbs) c'), .int .i64 f'] 26)).alloc (.cells #[.bool false, (.slice none 0 0)] 24)).alloc (.cells #[.bool false, (.slice none 0 0)] 24)) = w0 at Ia Ib Ir Iq B0 ⊢
  generalize hb3 : w.heap.size + 1 + 1 + 1 = b3 at Iq nab nar naq nba nbr nbq nra nrb nrq nqa nqb nqr ⊢
  generalize hb2 : w.heap.size + 1 + 1 = b2 at Ir nab nar naq nba nbr nbq nra nrb nrq nqa nqb nqr hb3 ⊢
  generalize hb1 : w.heap.size + 1 = b1 at Ib nab nar naq nba nbr nbq nra nrb nrq nqa nqb nqr hb2 ⊢
  generalize hb0 : w.heap.size = b0 at Ia nab nar naq nba nbr nbq nra nrb nrq nqa nqb nqr hb1 ⊢
  obtain ⟨ac0, ac1, ac2, ac3, ac4, ac5⟩ := Ia
  have Va0 := Lib.hid (DyV.mk ac0 ac1 ac2 ac3 ac4 ac5)
  obtain ⟨bc0, bc1, bc2, bc3, bc4, bc5⟩ := Ib
  have Vb0 := Lib.hid (DyV.mk bc0 bc1 bc2 bc3 bc4 bc5)
  obtain ⟨rc0, rc1, rc2, rc3⟩ := Ir
  have Vr0 := Lib.hid (BgV.mk rc0 rc1 rc2 rc3)
  obtain ⟨qc0, qc1, qc2, qc3⟩ := Iq
  have Vq0 := Lib.hid (BgV.mk qc0 qc1 qc2 qc3)
  go_cut [7, 8] (fun px py wx => ∃ zx zy, px = .pointer (some ⟨zx, 0, none⟩) ∧ py = .pointer (some ⟨zy, 0, none⟩) ∧ ¬ zx = zy ∧ w0.heap.size ≤ zx ∧ w0.heap.size ≤ zy ∧ BgV wx zx (decide (z < 0)) (.slice a (nl z.natAbs) c) ∧ BgV wx zy (decide (z' < 0)) (.slice a' (nl z'.natAbs) c') ∧ Below w0.heap.size w0 wx)
  case first =>
    have e01 : ¬ w0.heap.size = w0.heap.size + 1 := by omega
    have e10 : ¬ w0.heap.size + 1 = w0.heap.size := by omega
    have hqz : Below w0.heap.size w0 w0 := Below.refl _ _
    first
    | go_big_region
    | fail "region"
    all_goals (
      go_wp2_with fail
      go_meet
      refine ⟨_, _, rfl, rfl, ?_, ?_, ?_, ⟨?_, ?_, ?_, ?_⟩, ⟨?_, ?_, ?_, ?_⟩, (by have hszw := (hqz).size; repeat (with_reducible first | refine Below.setCell ?_ (by first | omega | (simp <;> omega)) _ | refine Below.alloc ?_ (by first | omega | (simp <;> omega)) _ | refine Below.drew ?_ | refine below_drewN ?_ _ | exact hqz))⟩
      · first | omega | (simp; done) | (simp; omega)
      · first | omega | (simp; done) | (simp; omega)
      · first | omega | (simp; done) | (simp; omega)
      · go_simp
      · go_simp
      · intro i; go_simp
      · first | (simp; done) | (simp; omega)
      · go_simp
      · go_simp
      · intro i; go_simp
      · first | (simp; done) | (simp; omega))
  case rest =>
  obtain ⟨w1, hww⟩ : ∃ w1, w1 = wc := ⟨_, rfl⟩
  subst hww
  obtain ⟨zx, zy, rfl, rfl, nxy, lz1, lz2, Vx1, Vy1, hbz⟩ := hcut
  have nyx : ¬ zy = zx := fun h => nxy h.symm
  have nax : ¬ b0 = zx := by have := Va0.out.lt; omega
  have nxa : ¬ zx = b0 := by have := Va0.out.lt; omega
  have nbx : ¬ b1 = zx := by have := Vb0.out.lt; omega
  have nxb : ¬ zx = b1 := by have := Vb0.out.lt; omega
  have nrx : ¬ b2 = zx := by have := Vr0.out.lt; omega
  have nxr : ¬ zx = b2 := by have := Vr0.out.lt; omega
  have nqx : ¬ b3 = zx := by have := Vq0.out.lt; omega
  have nxq : ¬ zx = b3 := by have := Vq0.out.lt; omega
  have nay : ¬ b0 = zy := by have := Va0.out.lt; omega
  have nya : ¬ zy = b0 := by have := Va0.out.lt; omega
  have nby : ¬ b1 = zy := by have := Vb0.out.lt; omega
  have nyb : ¬ zy = b1 := by have := Vb0.out.lt; omega
  have nry : ¬ b2 = zy := by have := Vr0.out.lt; omega
  have nyr : ¬ zy = b2 := by have := Vr0.out.lt; omega
  have nqy : ¬ b3 = zy := by have := Vq0.out.lt; omega
  have nyq : ¬ zy = b3 := by have := Vq0.out.lt; omega
  have Va1 : DyV w1 b0 bd (decide (z < 0)) (.slice a (nl z.natAbs) c) f := Va0.out.below hbz
  have Vb1 : DyV w1 b1 bd' (decide (z' < 0)) (.slice a' (nl z'.natAbs) c') f' := Vb0.out.below hbz
  have Vr1 : BgV w1 b2 false (.slice none 0 0) := Vr0.out.below hbz
  have Vq1 : BgV w1 b3 false (.slice none 0 0) := Vq0.out.below hbz
  have B1 := below_box (w := w) B0 hbz
  clear hbz
  (try clear ac0 ac1 ac2 ac3 ac4)
  obtain ⟨ac0, ac1, ac2, ac3, ac4, ac5⟩ := Va1
  have Va1 := Lib.hid (DyV.mk ac0 ac1 ac2 ac3 ac4 ac5)
  (try clear bc0 bc1 bc2 bc3 bc4)
  obtain ⟨bc0, bc1, bc2, bc3, bc4, bc5⟩ := Vb1
  have Vb1 := Lib.hid (DyV.mk bc0 bc1 bc2 bc3 bc4 bc5)
  (try clear rc0 rc1 rc2)
  obtain ⟨rc0, rc1, rc2, rc3⟩ := Vr1
  have Vr1 := Lib.hid (BgV.mk rc0 rc1 rc2 rc3)
  (try clear qc0 qc1 qc2)
  obtain ⟨qc0, qc1, qc2, qc3⟩ := Vq1
  have Vq1 := Lib.hid (BgV.mk qc0 qc1 qc2 qc3)
  (try clear xc0 xc1 xc2)
  obtain ⟨xc0, xc1, xc2, xc3⟩ := Vx1
  have Vx1 := Lib.hid (BgV.mk xc0 xc1 xc2 xc3)
  (try clear yc0 yc1 yc2)
  obtain ⟨yc0, yc1, yc2, yc3⟩ := Vy1
  have Vy1 := Lib.hid (BgV.mk yc0 yc1 yc2 yc3)
  go_wp2_with fail
  refine (HS _ (hx.below (by have hszw := (B1).size; repeat (with_reducible first | refine Below.setCell ?_ (by first | omega | (simp <;> omega)) _ | refine Below.alloc ?_ (by first | omega | (simp <;> omega)) _ | refine Below.drew ?_ | refine below_drewN ?_ _ | exact B1)))).out.mono ?_
  rintro e w2 ⟨rfl, hb2⟩
  have Va2 : DyV w2 b0 bd (decide (z < 0)) (.slice a (nl z.natAbs) c) f := (by refine DyV.below ?_ hb2; (repeat (with_reducible first | refine DyV.drew ?_ | refine DyV.drewN ?_ _ | refine DyV.alloc ?_ _)); exact Va1.out)
  (try clear ac0 ac1 ac2 ac3 ac4)
  obtain ⟨ac0, ac1, ac2, ac3, ac4, ac5⟩ := Va2
  have Va2 := Lib.hid (DyV.mk ac0 ac1 ac2 ac3 ac4 ac5)
  have Vb2 : DyV w2 b1 bd' (decide (z' < 0)) (.slice a' (nl z'.natAbs) c') f' := (by refine DyV.below ?_ hb2; (repeat (with_reducible first | refine DyV.drew ?_ | refine DyV.drewN ?_ _ | refine DyV.alloc ?_ _)); exact Vb1.out)
  (try clear bc0 bc1 bc2 bc3 bc4)
  obtain ⟨bc0, bc1, bc2, bc3, bc4, bc5⟩ := Vb2
  have Vb2 := Lib.hid (DyV.mk bc0 bc1 bc2 bc3 bc4 bc5)
  have Vr2 : BgV w2 b2 false (.slice none 0 0) := (by refine BgV.below ?_ hb2; (repeat (with_reducible first | refine BgV.drew ?_ | refine BgV.drewN ?_ _ | refine BgV.alloc ?_ _)); exact Vr1.out)
  (try clear rc0 rc1 rc2)
  obtain ⟨rc0, rc1, rc2, rc3⟩ := Vr2
  have Vr2 := Lib.hid (BgV.mk rc0 rc1 rc2 rc3)
  have Vq2 : BgV w2 b3 false (.slice none 0 0) := (by refine BgV.below ?_ hb2; (repeat (with_reducible first | refine BgV.drew ?_ | refine BgV.drewN ?_ _ | refine BgV.alloc ?_ _)); exact Vq1.out)
  (try clear qc0 qc1 qc2)
  obtain ⟨qc0, qc1, qc2, qc3⟩ := Vq2
  have Vq2 := Lib.hid (BgV.mk qc0 qc1 qc2 qc3)
  have Vx2 : BgV w2 zx (decide (z < 0)) (.slice a (nl z.natAbs) c) := (by refine BgV.below ?_ hb2; (repeat (with_reducible first | refine BgV.drew ?_ | refine BgV.drewN ?_ _ | refine BgV.alloc ?_ _)); exact Vx1.out)
  (try clear xc0 xc1 xc2)
  obtain ⟨xc0, xc1, xc2, xc3⟩ := Vx2
  have Vx2 := Lib.hid (BgV.mk xc0 xc1 xc2 xc3)
  have Vy2 : BgV w2 zy (decide (z' < 0)) (.slice a' (nl z'.natAbs) c') := (by refine BgV.below ?_ hb2; (repeat (with_reducible first | refine BgV.drew ?_ | refine BgV.drewN ?_ _ | refine BgV.alloc ?_ _)); exact Vy1.out)
  (try clear yc0 yc1 yc2)
  obtain ⟨yc0, yc1, yc2, yc3⟩ := Vy2
  have Vy2 := Lib.hid (BgV.mk yc0 yc1 yc2 yc3)
  have B2 := below_box (w := w) (by have hszw := (B1).size; repeat (with_reducible first | refine Below.setCell ?_ (by first | omega | (simp <;> omega)) _ | refine Below.alloc ?_ (by first | omega | (simp <;> omega)) _ | refine Below.drew ?_ | refine below_drewN ?_ _ | exact B1)) hb2
  clear hb2
  go_wp2_with fail
  refine (HS' _ (hy.below (by have hszw := (B2).size; repeat (with_reducible first | refine Below.setCell ?_ (by first | omega | (simp <;> omega)) _ | refine Below.alloc ?_ (by first | omega | (simp <;> omega)) _ | refine Below.drew ?_ | refine below_drewN ?_ _ | exact B2)))).out.mono ?_
  rintro e w3 ⟨rfl, hb3⟩
  have Va3 : DyV w3 b0 bd (decide (z < 0)) (.slice a (nl z.natAbs) c) f := (by refine DyV.below ?_ hb3; (repeat (with_reducible first | refine DyV.drew ?_ | refine DyV.drewN ?_ _ | refine DyV.alloc ?_ _)); exact Va2.out)
  (try clear ac0 ac1 ac2 ac3 ac4)
  obtain ⟨ac0, ac1, ac2, ac3, ac4, ac5⟩ := Va3
  have Va3 := Lib.hid (DyV.mk ac0 ac1 ac2 ac3 ac4 ac5)
  have Vb3 : DyV w3 b1 bd' (decide (z' < 0)) (.slice a' (nl z'.natAbs) c') f' := (by refine DyV.below ?_ hb3; (repeat (with_reducible first | refine DyV.drew ?_ | refine DyV.drewN ?_ _ | refine DyV.alloc ?_ _)); exact Vb2.out)
  (try clear bc0 bc1 bc2 bc3 bc4)
  obtain ⟨bc0, bc1, bc2, bc3, bc4, bc5⟩ := Vb3
  have Vb3 := Lib.hid (DyV.mk bc0 bc1 bc2 bc3 bc4 bc5)
  have Vr3 : BgV w3 b2 false (.slice none 0 0) := (by refine BgV.below ?_ hb3; (repeat (with_reducible first | refine BgV.drew ?_ | refine BgV.drewN ?_ _ | refine BgV.alloc ?_ _)); exact Vr2.out)
  (try clear rc0 rc1 rc2)
  obtain ⟨rc0, rc1, rc2, rc3⟩ := Vr3
  have Vr3 := Lib.hid (BgV.mk rc0 rc1 rc2 rc3)
  have Vq3 : BgV w3 b3 false (.slice none 0 0) := (by refine BgV.below ?_ hb3; (repeat (with_reducible first | refine BgV.drew ?_ | refine BgV.drewN ?_ _ | refine BgV.alloc ?_ _)); exact Vq2.out)
  (try clear qc0 qc1 qc2)
  obtain ⟨qc0, qc1, qc2, qc3⟩ := Vq3
  have Vq3 := Lib.hid (BgV.mk qc0 qc1 qc2 qc3)
  have Vx3 : BgV w3 zx (decide (z < 0)) (.slice a (nl z.natAbs) c) := (by refine BgV.below ?_ hb3; (repeat (with_reducible first | refine BgV.drew ?_ | refine BgV.drewN ?_ _ | refine BgV.alloc ?_ _)); exact Vx2.out)
  (try clear xc0 xc1 xc2)
  obtain ⟨xc0, xc1, xc2, xc3⟩ := Vx3
  have Vx3 := Lib.hid (BgV.mk xc0 xc1 xc2 xc3)
  have Vy3 : BgV w3 zy (decide (z' < 0)) (.slice a' (nl z'.natAbs) c') := (by refine BgV.below ?_ hb3; (repeat (with_reducible first | refine BgV.drew ?_ | refine BgV.drewN ?_ _ | refine BgV.alloc ?_ _)); exact Vy2.out)
  (try clear yc0 yc1 yc2)
  obtain ⟨yc0, yc1, yc2, yc3⟩ := Vy3
  have Vy3 := Lib.hid (BgV.mk yc0 yc1 yc2 yc3)
  have B3 := below_box (w := w) (by have hszw := (B2).size; repeat (with_reducible first | refine Below.setCell ?_ (by first | omega | (simp <;> omega)) _ | refine Below.alloc ?_ (by first | omega | (simp <;> omega)) _ | refine Below.drew ?_ | refine below_drewN ?_ _ | exact B2)) hb3
  clear hb3
  go_wp2_with fail
  first
  | go_region_held3 (fun w' => w'.cell? ⟨b0, 0, none⟩ = some (.bool bd) ∧ w'.cell? ⟨b0, 1, none⟩ = some (.bool (decide (z < 0))) ∧ w'.cell? ⟨b0, 2, none⟩ = some ((.slice a (nl z.natAbs) c)) ∧ w'.cell? ⟨b0, 3, none⟩ = some (.int .i64 f) ∧ w'.cell? ⟨b1, 0, none⟩ = some (.bool bd') ∧ w'.cell? ⟨b1, 1, none⟩ = some (.bool (decide (z' < 0))) ∧ w'.cell? ⟨b1, 2, none⟩ = some ((.slice a' (nl z'.natAbs) c')) ∧ w'.cell? ⟨b1, 3, none⟩ = some (.int .i64 f') ∧ w'.cell? ⟨zx, 0, none⟩ = some (.bool (decide (z < 0))) ∧ w'.cell? ⟨zx, 1, none⟩ = some ((.slice a (nl z.natAbs) c)) ∧ w'.cell? ⟨zy, 0, none⟩ = some (.bool (decide (z' < 0))) ∧ w'.cell? ⟨zy, 1, none⟩ = some ((.slice a' (nl z'.natAbs) c'))) (first | (go_keep; done) | (go_simp; done))
      (first
        | (go_at_call 226; have xx := B3; refine (HG _ (hx.below (by have hszw := (B3).size; repeat (with_reducible first | refine Below.setCell ?_ (by first | omega | (simp <;> omega)) _ | refine Below.alloc ?_ (by first | omega | (simp <;> omega)) _ | refine Below.drew ?_ | refine below_drewN ?_ _ | exact B3)))).out.mono ?_; rintro e w4 ⟨av, cv, rfl, Mv4, hb4, hf4⟩; have Va4 : DyV w4 b0 bd (decide (z < 0)) (.slice a (nl z.natAbs) c) f := (by refine DyV.below ?_ hb4; (repeat (with_reducible first | refine DyV.drew ?_ | refine DyV.drewN ?_ _ | refine DyV.alloc ?_ _)); exact Va3.out); (try clear ac0 ac1 ac2 ac3 ac4); obtain ⟨ac0, ac1, ac2, ac3, ac4, ac5⟩ := Va4; have Va4 := Lib.hid (DyV.mk ac0 ac1 ac2 ac3 ac4 ac5); have Vb4 : DyV w4 b1 bd' (decide (z' < 0)) (.slice a' (nl z'.natAbs) c') f' := (by refine DyV.below ?_ hb4; (repeat (with_reducible first | refine DyV.drew ?_ | refine DyV.drewN ?_ _ | refine DyV.alloc ?_ _)); exact Vb3.out); (try clear bc0 bc1 bc2 bc3 bc4); obtain ⟨bc0, bc1, bc2, bc3, bc4, bc5⟩ := Vb4; have Vb4 := Lib.hid (DyV.mk bc0 bc1 bc2 bc3 bc4 bc5); have Vr4 : BgV w4 b2 false (.slice none 0 0) := (by refine BgV.below ?_ hb4; (repeat (with_reducible first | refine BgV.drew ?_ | refine BgV.drewN ?_ _ | refine BgV.alloc ?_ _)); exact Vr3.out); (try clear rc0 rc1 rc2); obtain ⟨rc0, rc1, rc2, rc3⟩ := Vr4; have Vr4 := Lib.hid (BgV.mk rc0 rc1 rc2 rc3); have Vq4 : BgV w4 b3 false (.slice none 0 0) := (by refine BgV.below ?_ hb4; (repeat (with_reducible first | refine BgV.drew ?_ | refine BgV.drewN ?_ _ | refine BgV.alloc ?_ _)); exact Vq3.out); (try clear qc0 qc1 qc2); obtain ⟨qc0, qc1, qc2, qc3⟩ := Vq4; have Vq4 := Lib.hid (BgV.mk qc0 qc1 qc2 qc3); have Vx4 : BgV w4 zx (decide (z < 0)) (.slice a (nl z.natAbs) c) := (by refine BgV.below ?_ hb4; (repeat (with_reducible first | refine BgV.drew ?_ | refine BgV.drewN ?_ _ | refine BgV.alloc ?_ _)); exact Vx3.out); (try clear xc0 xc1 xc2); obtain ⟨xc0, xc1, xc2, xc3⟩ := Vx4; have Vx4 := Lib.hid (BgV.mk xc0 xc1 xc2 xc3); have Vy4 : BgV w4 zy (decide (z' < 0)) (.slice a' (nl z'.natAbs) c') := (by refine BgV.below ?_ hb4; (repeat (with_reducible first | refine BgV.drew ?_ | refine BgV.drewN ?_ _ | refine BgV.alloc ?_ _)); exact Vy3.out); (try clear yc0 yc1 yc2); obtain ⟨yc0, yc1, yc2, yc3⟩ := Vy4; have Vy4 := Lib.hid (BgV.mk yc0 yc1 yc2 yc3); have B4 := below_box (w := w) (by have hszw := (B3).size; repeat (with_reducible first | refine Below.setCell ?_ (by first | omega | (simp <;> omega)) _ | refine Below.alloc ?_ (by first | omega | (simp <;> omega)) _ | refine Below.drew ?_ | refine below_drewN ?_ _ | exact B3)) hb4; have hF4 : 0 < (nl y.natAbs) → w3.heap.size ≤ ab av := (fun h => by have hq := hf4 h; (try simp at hq); omega); have frva : 0 < (nl y.natAbs) → ab av ≠ b0 := (fun h => by have := hF4 h; have := Va3.out.lt; omega); have frvb : 0 < (nl y.natAbs) → ab av ≠ b1 := (fun h => by have := hF4 h; have := Vb3.out.lt; omega); have frvr : 0 < (nl y.natAbs) → ab av ≠ b2 := (fun h => by have := hF4 h; have := Vr3.out.lt; omega); have frvq : 0 < (nl y.natAbs) → ab av ≠ b3 := (fun h => by have := hF4 h; have := Vq3.out.lt; omega); have frvx : 0 < (nl y.natAbs) → ab av ≠ zx := (fun h => by have := hF4 h; have := Vx3.out.lt; omega); have frvy : 0 < (nl y.natAbs) → ab av ≠ zy := (fun h => by have := hF4 h; have := Vy3.out.lt; omega); have fov : 0 < (nl y.natAbs) → w.heap.size ≤ ab av := (fun h => by have := hF4 h; have := B3.size; omega); clear hF4; clear hb4 hf4)
        | fail)
  | fail "region"
  go_wp2_with fail
  refine bodyPost_ret2 (v := .tuple #[.agg #[.bool (decide (y < 0)), .slice av (nl y.natAbs) cv], .agg #[.bool (decide (z' < 0)), .slice a' (nl z'.natAbs) c'], .int .i64 f']) (by simp only [results, Tryz.results233]; go_simp) rfl ?_
  exact ⟨av, cv, a', c', rfl, (by repeat (with_reducible first | refine Mag.set ?_ frva _ _ | refine Mag.set ?_ frvb _ _ | refine Mag.set ?_ frvr _ _ | refine Mag.set ?_ frvq _ _ | refine Mag.set ?_ frvx _ _ | refine Mag.set ?_ frvy _ _ | refine Mag.drew ?_ | refine Mag.drewN ?_ _ | refine Mag.alloc ?_ _ | exact Mv4)), hy.below (by have hszw := (B4).size; repeat (with_reducible first | refine Below.setCell ?_ (by first | omega | (simp <;> omega)) _ | refine Below.alloc ?_ (by first | omega | (simp <;> omega)) _ | refine Below.drew ?_ | refine below_drewN ?_ _ | exact B4)), (by have hszw := (B4).size; repeat (with_reducible first | refine Below.setCell ?_ (by first | omega | (simp <;> omega)) _ | refine Below.alloc ?_ (by first | omega | (simp <;> omega)) _ | refine Below.drew ?_ | refine below_drewN ?_ _ | exact B4))⟩

set_option maxRecDepth 100000 in
set_option maxHeartbeats 2000000 in
theorem ralign_le (w : World) (bd bd' : Bool) (a a' : Option Addr) (c c' : Nat) (z z' f f' : Int) (hx : Mag w a (nl z.natAbs) c z.natAbs) (hy : Mag w a' (nl z'.natAbs) c' z'.natAbs) (hl : nl z.natAbs ≤ 549755813888) (hl' : nl z'.natAbs ≤ 549755813888) (hz : z ≠ 0) (hz' : z' ≠ 0) (hf : f ≤ f') (k y : Int) (hk : k = f' - f) (hw : IntKind.i64.wrap (f' - f) = k) (hk1 : k ≤ 1048576) (hy2 : y = z' * 2 ^ k.toNat) :
    Calls Tryz.prog 233 #[.agg #[.bool bd, .bool (decide (z < 0)), .slice a (nl z.natAbs) c, .int .i64 f], .agg #[.bool bd', .bool (decide (z' < 0)), .slice a' (nl z'.natAbs) c', .int .i64 f']] w (RetAlp w z y f) := by
  have HS := fun W h => Lib.hid (rsgn_z W a c z _ rfl h hl)
  obtain ⟨g, hg⟩ : ∃ g, g = sg z := ⟨_, rfl⟩
  have hgz : (g == 0) = false := by rw [hg]; exact sg1 hz
  rw [← hg] at HS
  clear hg
  have HS' := fun W h => Lib.hid (rsgn_z W a' c' z' _ rfl h hl')
  obtain ⟨g', hg'⟩ : ∃ g', g' = sg z' := ⟨_, rfl⟩
  have hgz' : (g' == 0) = false := by rw [hg']; exact sg1 hz'
  rw [← hg'] at HS'
  clear hg'
  have hc : decide (f' < f) = false := by simpa using hf
  have HG := fun W h => Lib.hid (rshl_z W a' c' z' k y hy2 h hl' (by omega) hk1)
  clear hz hz' hf hk hk1 hy2
  go_enter Tryz.func233, Tryz.ntmps233
  go_wp2_with fail
  have Ia := ((((DyV.made' w 26 bd (decide (z < 0)) (.slice a (nl z.natAbs) c) f (n := w.heap.size) (by rfl)).alloc (.cells #[.bool bd', .bool (decide (z' < 0)), (.slice a' (nl z'.natAbs) c'), .int .i64 f'] 26)).alloc (.cells #[.bool false, (.slice none 0 0)] 24)).alloc (.cells #[.bool false, (.slice none 0 0)] 24))
  have Ib := (((DyV.made' (w.alloc (.cells #[.bool bd, .bool (decide (z < 0)), (.slice a (nl z.natAbs) c), .int .i64 f] 26)) 26 bd' (decide (z' < 0)) (.slice a' (nl z'.natAbs) c') f' (n := w.heap.size + 1) (by rw [World.size_alloc])).alloc (.cells #[.bool false, (.slice none 0 0)] 24)).alloc (.cells #[.bool false, (.slice none 0 0)] 24))
  have Ir := ((BgV.made' ((w.alloc (.cells #[.bool bd, .bool (decide (z < 0)), (.slice a (nl z.natAbs) c), .int .i64 f] 26)).alloc (.cells #[.bool bd', .bool (decide (z' < 0)), (.slice a' (nl z'.natAbs) c'), .int .i64 f'] 26)) 24 false (.slice none 0 0) (n := w.heap.size + 1 + 1) (by rw [World.size_alloc, World.size_alloc])).alloc (.cells #[.bool false, (.slice none 0 0)] 24))
  have Iq := (BgV.made' (((w.alloc (.cells #[.bool bd, .bool (decide (z < 0)), (.slice a (nl z.natAbs) c), .int .i64 f] 26)).alloc (.cells #[.bool bd', .bool (decide (z' < 0)), (.slice a' (nl z'.natAbs) c'), .int .i64 f'] 26)).alloc (.cells #[.bool false, (.slice none 0 0)] 24)) 24 false (.slice none 0 0) (n := w.heap.size + 1 + 1 + 1) (by rw [World.size_alloc, World.size_alloc, World.size_alloc]))
  have B0 : Below w.heap.size w ((((w.alloc (.cells #[.bool bd, .bool (decide (z < 0)), (.slice a (nl z.natAbs) c), .int .i64 f] 26)).alloc (.cells #[.bool bd', .bool (decide (z' < 0)), (.slice a' (nl z'.natAbs) c'), .int .i64 f'] 26)).alloc (.cells #[.bool false, (.slice none 0 0)] 24)).alloc (.cells #[.bool false, (.slice none 0 0)] 24)) := (by repeat (with_reducible first | refine Below.setCell ?_ (by simp <;> omega) _ | refine Below.alloc ?_ (by simp <;> omega) _ | refine Below.drew ?_ | refine below_drewN ?_ _ | exact Below.refl _ _))
  have nab : ¬ w.heap.size = w.heap.size + 1 := by omega
  have nar : ¬ w.heap.size = w.heap.size + 1 + 1 := by omega
  have naq : ¬ w.heap.size = w.heap.size + 1 + 1 + 1 := by omega
  have nba : ¬ w.heap.size + 1 = w.heap.size := by omega
  have nbr : ¬ w.heap.size + 1 = w.heap.size + 1 + 1 := by omega
  have nbq : ¬ w.heap.size + 1 = w.heap.size + 1 + 1 + 1 := by omega
  have nra : ¬ w.heap.size + 1 + 1 = w.heap.size := by omega
  have nrb : ¬ w.heap.size + 1 + 1 = w.heap.size + 1 := by omega
  have nrq : ¬ w.heap.size + 1 + 1 = w.heap.size + 1 + 1 + 1 := by omega
  have nqa : ¬ w.heap.size + 1 + 1 + 1 = w.heap.size := by omega
  have nqb : ¬ w.heap.size + 1 + 1 + 1 = w.heap.size + 1 := by omega
  have nqr : ¬ w.heap.size + 1 + 1 + 1 = w.heap.size + 1 + 1 := by omega
  generalize ((((w.alloc (.cells #[.bool bd, .bool (decide (z < 0)), (.slice a (nl z.natAbs) c), .int .i64 f] 26)).alloc (.cells #[.bool bd', .bool (decide (z' < 0)), (.slice a' (nl z'.natAbs) c'), .int .i64 f'] 26)).alloc (.cells #[.bool false, (.slice none 0 0)] 24)).alloc (.cells #[.bool false, (.slice none 0 0)] 24)) = w0 at Ia Ib Ir Iq B0 ⊢
  generalize hb3 : w.heap.size + 1 + 1 + 1 = b3 at Iq nab nar naq nba nbr nbq nra nrb nrq nqa nqb nqr ⊢
  generalize hb2 : w.heap.size + 1 + 1 = b2 at Ir nab nar naq nba nbr nbq nra nrb nrq nqa nqb nqr hb3 ⊢
  generalize hb1 : w.heap.size + 1 = b1 at Ib nab nar naq nba nbr nbq nra nrb nrq nqa nqb nqr hb2 ⊢
  generalize hb0 : w.heap.size = b0 at Ia nab nar naq nba nbr nbq nra nrb nrq nqa nqb nqr hb1 ⊢
  obtain ⟨ac0, ac1, ac2, ac3, ac4, ac5⟩ := Ia
  have Va0 := Lib.hid (DyV.mk ac0 ac1 ac2 ac3 ac4 ac5)
  obtain ⟨bc0, bc1, bc2, bc3, bc4, bc5⟩ := Ib
  have Vb0 := Lib.hid (DyV.mk bc0 bc1 bc2 bc3 bc4 bc5)
  obtain ⟨rc0, rc1, rc2, rc3⟩ := Ir
  have Vr0 := Lib.hid (BgV.mk rc0 rc1 rc2 rc3)
  obtain ⟨qc0, qc1, qc2, qc3⟩ := Iq
  have Vq0 := Lib.hid (BgV.mk qc0 qc1 qc2 qc3)
  go_cut [7, 8] (fun px py wx => ∃ zx zy, px = .pointer (some ⟨zx, 0, none⟩) ∧ py = .pointer (some ⟨zy, 0, none⟩) ∧ ¬ zx = zy ∧ w0.heap.size ≤ zx ∧ w0.heap.size ≤ zy ∧ BgV wx zx (decide (z < 0)) (.slice a (nl z.natAbs) c) ∧ BgV wx zy (decide (z' < 0)) (.slice a' (nl z'.natAbs) c') ∧ Below w0.heap.size w0 wx)
  case first =>
    have e01 : ¬ w0.heap.size = w0.heap.size + 1 := by omega
    have e10 : ¬ w0.heap.size + 1 = w0.heap.size := by omega
    have hqz : Below w0.heap.size w0 w0 := Below.refl _ _
    first
    | go_big_region
    | fail "region"
    all_goals (
      go_wp2_with fail
      go_meet
      refine ⟨_, _, rfl, rfl, ?_, ?_, ?_, ⟨?_, ?_, ?_, ?_⟩, ⟨?_, ?_, ?_, ?_⟩, (by have hszw := (hqz).size; repeat (with_reducible first | refine Below.setCell ?_ (by first | omega | (simp <;> omega)) _ | refine Below.alloc ?_ (by first | omega | (simp <;> omega)) _ | refine Below.drew ?_ | refine below_drewN ?_ _ | exact hqz))⟩
      · first | omega | (simp; done) | (simp; omega)
      · first | omega | (simp; done) | (simp; omega)
      · first | omega | (simp; done) | (simp; omega)
      · go_simp
      · go_simp
      · intro i; go_simp
      · first | (simp; done) | (simp; omega)
      · go_simp
      · go_simp
      · intro i; go_simp
      · first | (simp; done) | (simp; omega))
  case rest =>
  obtain ⟨w1, hww⟩ : ∃ w1, w1 = wc := ⟨_, rfl⟩
  subst hww
  obtain ⟨zx, zy, rfl, rfl, nxy, lz1, lz2, Vx1, Vy1, hbz⟩ := hcut
  have nyx : ¬ zy = zx := fun h => nxy h.symm
  have nax : ¬ b0 = zx := by have := Va0.out.lt; omega
  have nxa : ¬ zx = b0 := by have := Va0.out.lt; omega
  have nbx : ¬ b1 = zx := by have := Vb0.out.lt; omega
  have nxb : ¬ zx = b1 := by have := Vb0.out.lt; omega
  have nrx : ¬ b2 = zx := by have := Vr0.out.lt; omega
  have nxr : ¬ zx = b2 := by have := Vr0.out.lt; omega
  have nqx : ¬ b3 = zx := by have := Vq0.out.lt; omega
  have nxq : ¬ zx = b3 := by have := Vq0.out.lt; omega
  have nay : ¬ b0 = zy := by have := Va0.out.lt; omega
  have nya : ¬ zy = b0 := by have := Va0.out.lt; omega
  have nby : ¬ b1 = zy := by have := Vb0.out.lt; omega
  have nyb : ¬ zy = b1 := by have := Vb0.out.lt; omega
  have nry : ¬ b2 = zy := by have := Vr0.out.lt; omega
  have nyr : ¬ zy = b2 := by have := Vr0.out.lt; omega
  have nqy : ¬ b3 = zy := by have := Vq0.out.lt; omega
  have nyq : ¬ zy = b3 := by have := Vq0.out.lt; omega
  have Va1 : DyV w1 b0 bd (decide (z < 0)) (.slice a (nl z.natAbs) c) f := Va0.out.below hbz
  have Vb1 : DyV w1 b1 bd' (decide (z' < 0)) (.slice a' (nl z'.natAbs) c') f' := Vb0.out.below hbz
  have Vr1 : BgV w1 b2 false (.slice none 0 0) := Vr0.out.below hbz
  have Vq1 : BgV w1 b3 false (.slice none 0 0) := Vq0.out.below hbz
  have B1 := below_box (w := w) B0 hbz
  clear hbz
  (try clear ac0 ac1 ac2 ac3 ac4)
  obtain ⟨ac0, ac1, ac2, ac3, ac4, ac5⟩ := Va1
  have Va1 := Lib.hid (DyV.mk ac0 ac1 ac2 ac3 ac4 ac5)
  (try clear bc0 bc1 bc2 bc3 bc4)
  obtain ⟨bc0, bc1, bc2, bc3, bc4, bc5⟩ := Vb1
  have Vb1 := Lib.hid (DyV.mk bc0 bc1 bc2 bc3 bc4 bc5)
  (try clear rc0 rc1 rc2)
  obtain ⟨rc0, rc1, rc2, rc3⟩ := Vr1
  have Vr1 := Lib.hid (BgV.mk rc0 rc1 rc2 rc3)
  (try clear qc0 qc1 qc2)
  obtain ⟨qc0, qc1, qc2, qc3⟩ := Vq1
  have Vq1 := Lib.hid (BgV.mk qc0 qc1 qc2 qc3)
  (try clear xc0 xc1 xc2)
  obtain ⟨xc0, xc1, xc2, xc3⟩ := Vx1
  have Vx1 := Lib.hid (BgV.mk xc0 xc1 xc2 xc3)
  (try clear yc0 yc1 yc2)
  obtain ⟨yc0, yc1, yc2, yc3⟩ := Vy1
  have Vy1 := Lib.hid (BgV.mk yc0 yc1 yc2 yc3)
  go_wp2_with fail
  refine (HS _ (hx.below (by have hszw := (B1).size; repeat (with_reducible first | refine Below.setCell ?_ (by first | omega | (simp <;> omega)) _ | refine Below.alloc ?_ (by first | omega | (simp <;> omega)) _ | refine Below.drew ?_ | refine below_drewN ?_ _ | exact B1)))).out.mono ?_
  rintro e w2 ⟨rfl, hb2⟩
  have Va2 : DyV w2 b0 bd (decide (z < 0)) (.slice a (nl z.natAbs) c) f := (by refine DyV.below ?_ hb2; (repeat (with_reducible first | refine DyV.drew ?_ | refine DyV.drewN ?_ _ | refine DyV.alloc ?_ _)); exact Va1.out)
  (try clear ac0 ac1 ac2 ac3 ac4)
  obtain ⟨ac0, ac1, ac2, ac3, ac4, ac5⟩ := Va2
  have Va2 := Lib.hid (DyV.mk ac0 ac1 ac2 ac3 ac4 ac5)
  have Vb2 : DyV w2 b1 bd' (decide (z' < 0)) (.slice a' (nl z'.natAbs) c') f' := (by refine DyV.below ?_ hb2; (repeat (with_reducible first | refine DyV.drew ?_ | refine DyV.drewN ?_ _ | refine DyV.alloc ?_ _)); exact Vb1.out)
  (try clear bc0 bc1 bc2 bc3 bc4)
  obtain ⟨bc0, bc1, bc2, bc3, bc4, bc5⟩ := Vb2
  have Vb2 := Lib.hid (DyV.mk bc0 bc1 bc2 bc3 bc4 bc5)
  have Vr2 : BgV w2 b2 false (.slice none 0 0) := (by refine BgV.below ?_ hb2; (repeat (with_reducible first | refine BgV.drew ?_ | refine BgV.drewN ?_ _ | refine BgV.alloc ?_ _)); exact Vr1.out)
  (try clear rc0 rc1 rc2)
  obtain ⟨rc0, rc1, rc2, rc3⟩ := Vr2
  have Vr2 := Lib.hid (BgV.mk rc0 rc1 rc2 rc3)
  have Vq2 : BgV w2 b3 false (.slice none 0 0) := (by refine BgV.below ?_ hb2; (repeat (with_reducible first | refine BgV.drew ?_ | refine BgV.drewN ?_ _ | refine BgV.alloc ?_ _)); exact Vq1.out)
  (try clear qc0 qc1 qc2)
  obtain ⟨qc0, qc1, qc2, qc3⟩ := Vq2
  have Vq2 := Lib.hid (BgV.mk qc0 qc1 qc2 qc3)
  have Vx2 : BgV w2 zx (decide (z < 0)) (.slice a (nl z.natAbs) c) := (by refine BgV.below ?_ hb2; (repeat (with_reducible first | refine BgV.drew ?_ | refine BgV.drewN ?_ _ | refine BgV.alloc ?_ _)); exact Vx1.out)
  (try clear xc0 xc1 xc2)
  obtain ⟨xc0, xc1, xc2, xc3⟩ := Vx2
  have Vx2 := Lib.hid (BgV.mk xc0 xc1 xc2 xc3)
  have Vy2 : BgV w2 zy (decide (z' < 0)) (.slice a' (nl z'.natAbs) c') := (by refine BgV.below ?_ hb2; (repeat (with_reducible first | refine BgV.drew ?_ | refine BgV.drewN ?_ _ | refine BgV.alloc ?_ _)); exact Vy1.out)
  (try clear yc0 yc1 yc2)
  obtain ⟨yc0, yc1, yc2, yc3⟩ := Vy2
  have Vy2 := Lib.hid (BgV.mk yc0 yc1 yc2 yc3)
  have B2 := below_box (w := w) (by have hszw := (B1).size; repeat (with_reducible first | refine Below.setCell ?_ (by first | omega | (simp <;> omega)) _ | refine Below.alloc ?_ (by first | omega | (simp <;> omega)) _ | refine Below.drew ?_ | refine below_drewN ?_ _ | exact B1)) hb2
  clear hb2
  go_wp2_with fail
  refine (HS' _ (hy.below (by have hszw := (B2).size; repeat (with_reducible first | refine Below.setCell ?_ (by first | omega | (simp <;> omega)) _ | refine Below.alloc ?_ (by first | omega | (simp <;> omega)) _ | refine Below.drew ?_ | refine below_drewN ?_ _ | exact B2)))).out.mono ?_
  rintro e w3 ⟨rfl, hb3⟩
  have Va3 : DyV w3 b0 bd (decide (z < 0)) (.slice a (nl z.natAbs) c) f := (by refine DyV.below ?_ hb3; (repeat (with_reducible first | refine DyV.drew ?_ | refine DyV.drewN ?_ _ | refine DyV.alloc ?_ _)); exact Va2.out)
  (try clear ac0 ac1 ac2 ac3 ac4)
  obtain ⟨ac0, ac1, ac2, ac3, ac4, ac5⟩ := Va3
  have Va3 := Lib.hid (DyV.mk ac0 ac1 ac2 ac3 ac4 ac5)
  have Vb3 : DyV w3 b1 bd' (decide (z' < 0)) (.slice a' (nl z'.natAbs) c') f' := (by refine DyV.below ?_ hb3; (repeat (with_reducible first | refine DyV.drew ?_ | refine DyV.drewN ?_ _ | refine DyV.alloc ?_ _)); exact Vb2.out)
  (try clear bc0 bc1 bc2 bc3 bc4)
  obtain ⟨bc0, bc1, bc2, bc3, bc4, bc5⟩ := Vb3
  have Vb3 := Lib.hid (DyV.mk bc0 bc1 bc2 bc3 bc4 bc5)
  have Vr3 : BgV w3 b2 false (.slice none 0 0) := (by refine BgV.below ?_ hb3; (repeat (with_reducible first | refine BgV.drew ?_ | refine BgV.drewN ?_ _ | refine BgV.alloc ?_ _)); exact Vr2.out)
  (try clear rc0 rc1 rc2)
  obtain ⟨rc0, rc1, rc2, rc3⟩ := Vr3
  have Vr3 := Lib.hid (BgV.mk rc0 rc1 rc2 rc3)
  have Vq3 : BgV w3 b3 false (.slice none 0 0) := (by refine BgV.below ?_ hb3; (repeat (with_reducible first | refine BgV.drew ?_ | refine BgV.drewN ?_ _ | refine BgV.alloc ?_ _)); exact Vq2.out)
  (try clear qc0 qc1 qc2)
  obtain ⟨qc0, qc1, qc2, qc3⟩ := Vq3
  have Vq3 := Lib.hid (BgV.mk qc0 qc1 qc2 qc3)
  have Vx3 : BgV w3 zx (decide (z < 0)) (.slice a (nl z.natAbs) c) := (by refine BgV.below ?_ hb3; (repeat (with_reducible first | refine BgV.drew ?_ | refine BgV.drewN ?_ _ | refine BgV.alloc ?_ _)); exact Vx2.out)
  (try clear xc0 xc1 xc2)
  obtain ⟨xc0, xc1, xc2, xc3⟩ := Vx3
  have Vx3 := Lib.hid (BgV.mk xc0 xc1 xc2 xc3)
  have Vy3 : BgV w3 zy (decide (z' < 0)) (.slice a' (nl z'.natAbs) c') := (by refine BgV.below ?_ hb3; (repeat (with_reducible first | refine BgV.drew ?_ | refine BgV.drewN ?_ _ | refine BgV.alloc ?_ _)); exact Vy2.out)
  (try clear yc0 yc1 yc2)
  obtain ⟨yc0, yc1, yc2, yc3⟩ := Vy3
  have Vy3 := Lib.hid (BgV.mk yc0 yc1 yc2 yc3)
  have B3 := below_box (w := w) (by have hszw := (B2).size; repeat (with_reducible first | refine Below.setCell ?_ (by first | omega | (simp <;> omega)) _ | refine Below.alloc ?_ (by first | omega | (simp <;> omega)) _ | refine Below.drew ?_ | refine below_drewN ?_ _ | exact B2)) hb3
  clear hb3
  go_wp2_with fail
  first
  | go_region_held3 (fun w' => w'.cell? ⟨b0, 0, none⟩ = some (.bool bd) ∧ w'.cell? ⟨b0, 1, none⟩ = some (.bool (decide (z < 0))) ∧ w'.cell? ⟨b0, 2, none⟩ = some ((.slice a (nl z.natAbs) c)) ∧ w'.cell? ⟨b0, 3, none⟩ = some (.int .i64 f) ∧ w'.cell? ⟨b1, 0, none⟩ = some (.bool bd') ∧ w'.cell? ⟨b1, 1, none⟩ = some (.bool (decide (z' < 0))) ∧ w'.cell? ⟨b1, 2, none⟩ = some ((.slice a' (nl z'.natAbs) c')) ∧ w'.cell? ⟨b1, 3, none⟩ = some (.int .i64 f') ∧ w'.cell? ⟨zx, 0, none⟩ = some (.bool (decide (z < 0))) ∧ w'.cell? ⟨zx, 1, none⟩ = some ((.slice a (nl z.natAbs) c)) ∧ w'.cell? ⟨zy, 0, none⟩ = some (.bool (decide (z' < 0))) ∧ w'.cell? ⟨zy, 1, none⟩ = some ((.slice a' (nl z'.natAbs) c'))) (first | (go_keep; done) | (go_simp; done))
      (first
        | (go_at_call 226; have xx := B3; refine (HG _ (hy.below (by have hszw := (B3).size; repeat (with_reducible first | refine Below.setCell ?_ (by first | omega | (simp <;> omega)) _ | refine Below.alloc ?_ (by first | omega | (simp <;> omega)) _ | refine Below.drew ?_ | refine below_drewN ?_ _ | exact B3)))).out.mono ?_; rintro e w4 ⟨av, cv, rfl, Mv4, hb4, hf4⟩; have Va4 : DyV w4 b0 bd (decide (z < 0)) (.slice a (nl z.natAbs) c) f := (by refine DyV.below ?_ hb4; (repeat (with_reducible first | refine DyV.drew ?_ | refine DyV.drewN ?_ _ | refine DyV.alloc ?_ _)); exact Va3.out); (try clear ac0 ac1 ac2 ac3 ac4); obtain ⟨ac0, ac1, ac2, ac3, ac4, ac5⟩ := Va4; have Va4 := Lib.hid (DyV.mk ac0 ac1 ac2 ac3 ac4 ac5); have Vb4 : DyV w4 b1 bd' (decide (z' < 0)) (.slice a' (nl z'.natAbs) c') f' := (by refine DyV.below ?_ hb4; (repeat (with_reducible first | refine DyV.drew ?_ | refine DyV.drewN ?_ _ | refine DyV.alloc ?_ _)); exact Vb3.out); (try clear bc0 bc1 bc2 bc3 bc4); obtain ⟨bc0, bc1, bc2, bc3, bc4, bc5⟩ := Vb4; have Vb4 := Lib.hid (DyV.mk bc0 bc1 bc2 bc3 bc4 bc5); have Vr4 : BgV w4 b2 false (.slice none 0 0) := (by refine BgV.below ?_ hb4; (repeat (with_reducible first | refine BgV.drew ?_ | refine BgV.drewN ?_ _ | refine BgV.alloc ?_ _)); exact Vr3.out); (try clear rc0 rc1 rc2); obtain ⟨rc0, rc1, rc2, rc3⟩ := Vr4; have Vr4 := Lib.hid (BgV.mk rc0 rc1 rc2 rc3); have Vq4 : BgV w4 b3 false (.slice none 0 0) := (by refine BgV.below ?_ hb4; (repeat (with_reducible first | refine BgV.drew ?_ | refine BgV.drewN ?_ _ | refine BgV.alloc ?_ _)); exact Vq3.out); (try clear qc0 qc1 qc2); obtain ⟨qc0, qc1, qc2, qc3⟩ := Vq4; have Vq4 := Lib.hid (BgV.mk qc0 qc1 qc2 qc3); have Vx4 : BgV w4 zx (decide (z < 0)) (.slice a (nl z.natAbs) c) := (by refine BgV.below ?_ hb4; (repeat (with_reducible first | refine BgV.drew ?_ | refine BgV.drewN ?_ _ | refine BgV.alloc ?_ _)); exact Vx3.out); (try clear xc0 xc1 xc2); obtain ⟨xc0, xc1, xc2, xc3⟩ := Vx4; have Vx4 := Lib.hid (BgV.mk xc0 xc1 xc2 xc3); have Vy4 : BgV w4 zy (decide (z' < 0)) (.slice a' (nl z'.natAbs) c') := (by refine BgV.below ?_ hb4; (repeat (with_reducible first | refine BgV.drew ?_ | refine BgV.drewN ?_ _ | refine BgV.alloc ?_ _)); exact Vy3.out); (try clear yc0 yc1 yc2); obtain ⟨yc0, yc1, yc2, yc3⟩ := Vy4; have Vy4 := Lib.hid (BgV.mk yc0 yc1 yc2 yc3); have B4 := below_box (w := w) (by have hszw := (B3).size; repeat (with_reducible first | refine Below.setCell ?_ (by first | omega | (simp <;> omega)) _ | refine Below.alloc ?_ (by first | omega | (simp <;> omega)) _ | refine Below.drew ?_ | refine below_drewN ?_ _ | exact B3)) hb4; have hF4 : 0 < (nl y.natAbs) → w3.heap.size ≤ ab av := (fun h => by have hq := hf4 h; (try simp at hq); omega); have frva : 0 < (nl y.natAbs) → ab av ≠ b0 := (fun h => by have := hF4 h; have := Va3.out.lt; omega); have frvb : 0 < (nl y.natAbs) → ab av ≠ b1 := (fun h => by have := hF4 h; have := Vb3.out.lt; omega); have frvr : 0 < (nl y.natAbs) → ab av ≠ b2 := (fun h => by have := hF4 h; have := Vr3.out.lt; omega); have frvq : 0 < (nl y.natAbs) → ab av ≠ b3 := (fun h => by have := hF4 h; have := Vq3.out.lt; omega); have frvx : 0 < (nl y.natAbs) → ab av ≠ zx := (fun h => by have := hF4 h; have := Vx3.out.lt; omega); have frvy : 0 < (nl y.natAbs) → ab av ≠ zy := (fun h => by have := hF4 h; have := Vy3.out.lt; omega); have fov : 0 < (nl y.natAbs) → w.heap.size ≤ ab av := (fun h => by have := hF4 h; have := B3.size; omega); clear hF4; clear hb4 hf4)
        | fail)
  | fail "region"
  go_wp2_with fail
  refine bodyPost_ret2 (v := .tuple #[.agg #[.bool (decide (z < 0)), .slice a (nl z.natAbs) c], .agg #[.bool (decide (y < 0)), .slice av (nl y.natAbs) cv], .int .i64 f]) (by simp only [results, Tryz.results233]; go_simp) rfl ?_
  exact ⟨a, c, av, cv, rfl, hx.below (by have hszw := (B4).size; repeat (with_reducible first | refine Below.setCell ?_ (by first | omega | (simp <;> omega)) _ | refine Below.alloc ?_ (by first | omega | (simp <;> omega)) _ | refine Below.drew ?_ | refine below_drewN ?_ _ | exact B4)), (by repeat (with_reducible first | refine Mag.set ?_ frva _ _ | refine Mag.set ?_ frvb _ _ | refine Mag.set ?_ frvr _ _ | refine Mag.set ?_ frvq _ _ | refine Mag.set ?_ frvx _ _ | refine Mag.set ?_ frvy _ _ | refine Mag.drew ?_ | refine Mag.drewN ?_ _ | refine Mag.alloc ?_ _ | exact Mv4)), (by have hszw := (B4).size; repeat (with_reducible first | refine Below.setCell ?_ (by first | omega | (simp <;> omega)) _ | refine Below.alloc ?_ (by first | omega | (simp <;> omega)) _ | refine Below.drew ?_ | refine below_drewN ?_ _ | exact B4))⟩

theorem ralign_any (w : World) (bd bd' : Bool) (a a' : Option Addr) (c c' : Nat) (z z' f f' : Int) (hx : Mag w a (nl z.natAbs) c z.natAbs) (hy : Mag w a' (nl z'.natAbs) c' z'.natAbs) (hl : nl z.natAbs ≤ 549755813888) (hl' : nl z'.natAbs ≤ 549755813888) (h0 : -65536 ≤ f) (h1 : f ≤ 65536) (h0' : -65536 ≤ f') (h1' : f' ≤ 65536) :
    Calls Tryz.prog 233 #[.agg #[.bool bd, .bool (decide (z < 0)), .slice a (nl z.natAbs) c, .int .i64 f], .agg #[.bool bd', .bool (decide (z' < 0)), .slice a' (nl z'.natAbs) c', .int .i64 f']] w (RetAlp w (up z f (ale z f z' f')) (up z' f' (ale z f z' f')) (ale z f z' f')) := by
  unfold ale
  by_cases hz : z = 0
  · rw [if_pos hz, up_self]
    have h := ralign_zx w bd bd' a a' c c' z z' f f' hx hy hl hl' hz
    rwa [show up z f f' = z by rw [hz, up_zero]]
  · rw [if_neg hz]
    by_cases hz' : z' = 0
    · rw [if_pos hz', up_self]
      have h := ralign_zy w bd bd' a a' c c' z z' f f' hx hy hl hl' hz hz'
      rwa [show up z' f' f = z' by rw [hz', up_zero]]
    · rw [if_neg hz']
      by_cases hf : f' < f
      · rw [show min f f' = f' by omega, up_self]
        exact ralign_gt w bd bd' a a' c c' z z' f f' hx hy hl hl' hz hz' hf _ _ rfl (by rw [IntKind.wrap_i64]; omega) (by omega) rfl
      · rw [show min f f' = f by omega, up_self]
        exact ralign_le w bd bd' a a' c c' z z' f f' hx hy hl hl' hz hz' (by omega) _ _ rfl (by rw [IntKind.wrap_i64]; omega) (by omega) rfl
theorem ale_add (z f z' f' : Int) (h : Okd z f) (h' : Okd z' f') : nrm (up z f (ale z f z' f') + up z' f' (ale z f z' f')) (ale z f z' f') = nrm (up z f (min f f') + up z' f' (min f f')) (min f f') := by
  unfold ale
  by_cases hz : z = 0
  · subst hz
    rw [if_pos rfl, up_zero, up_zero, up_self, Int.zero_add, Int.zero_add, nrm_up _ _ _ (by omega)]
  · rw [if_neg hz]
    by_cases hz' : z' = 0
    · subst hz'
      rw [if_pos rfl, up_zero, up_zero, up_self, Int.add_zero, Int.add_zero, nrm_up _ _ _ (by omega)]
    · rw [if_neg hz']
theorem ale_ge (z f z' f' : Int) (h : -65536 ≤ f ∧ f ≤ 65536) (h' : -65536 ≤ f' ∧ f' ≤ 65536) : -65536 ≤ ale z f z' f' ∧ ale z f z' f' ≤ 65536 := by
  unfold ale; split <;> (try split) <;> omega
theorem ale_bl (z f z' f' : Int) (h : -65536 ≤ f ∧ f ≤ 65536) (h' : -65536 ≤ f' ∧ f' ≤ 65536) (hb : blen z.natAbs ≤ 131072) (hb' : blen z'.natAbs ≤ 131072) : blen (up z f (ale z f z' f')).natAbs ≤ 262144 ∧ blen (up z' f' (ale z f z' f')).natAbs ≤ 262144 := by
  unfold ale
  by_cases hz : z = 0
  · subst hz
    rw [if_pos rfl, up_zero, up_self]; exact ⟨by decide, by omega⟩
  · rw [if_neg hz]
    by_cases hz' : z' = 0
    · subst hz'
      rw [if_pos rfl, up_zero, up_self]; exact ⟨by omega, by decide⟩
    · rw [if_neg hz']
      exact ⟨blen_up_le (by omega) (by omega), blen_up_le (by omega) (by omega)⟩

end Go.Proofs.YtakbappmkdaioaaGreatDoor


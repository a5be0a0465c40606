/-
  Walks: the reference's dyads: Cut (joined), rounded, Round.
-/
import Derived.Test.YtakbappmkdaioaaGreatDoorZiRx
namespace Go.Proofs.YtakbappmkdaioaaGreatDoor
open Go.RowKit Sp

set_option maxRecDepth 100000 in
set_option maxHeartbeats 2000000 in
theorem rrounded_any (w : World) (hT : Tab w) (neg more : Bool) (a : Option Addr) (cap x : Nat) (e prec mode : Int) (hx : Mag w a (nl x) cap x) (hbl : blen x ≤ 524288) (he0 : -1099511627776 ≤ e) (he1 : e ≤ 1099511627776) (hp0 : 1 ≤ prec) (hp1 : prec ≤ 4096) (N : Nat) (hN : N = (blen x - prec).toNat) :
    Calls Tryz.prog 138 #[.bool neg, .agg #[.bool false, .slice a (nl x) cap], .int .i64 e, .bool more, .int .i64 prec, .int .i64 mode] w (RetDy w (nrm (sgn neg (cutn neg x N more mode)) (e + N))) := by
  have hNl : N ≤ 524288 := by omega
  have hnx : nl x ≤ 549755813888 := nl_lim5 (by omega)
  have hcb : blen (cutn neg x N more mode) ≤ 524289 := by
    have h1 : cutn neg x N more mode ≤ x + 1 := by
      unfold cutn
      have := Nat.div_le_self x (2 ^ N)
      split <;> omega
    have h2 := blen_mono h1
    have h3 := blen_add_le x 1
    have h4 : blen 1 = 1 := rfl
    omega
  obtain ⟨v, hv⟩ : ∃ v : Int, v = ((cutn neg x N more mode : Nat) : Int) := ⟨_, rfl⟩
  have hva : v.natAbs = cutn neg x N more mode := by rw [hv, Int.natAbs_natCast]
  rw [← hva] at hcb ⊢
  have HL := fun W h => Lib.hid (rbitlen_any W false a (nl x) cap x h (by omega))
  obtain ⟨l, hlb⟩ : ∃ l, l = blen x := ⟨_, rfl⟩
  rw [← hlb] at HL hbl hN
  have hsb : (l : Int) - prec ≤ 524288 := by omega
  have hmx : max ((l : Int) - prec) 0 = (N : Int) := by omega
  have HC := fun W ht h => Lib.hid (rcut_any W ht neg more a cap x N mode h hnx (by omega) v hv)
  obtain ⟨E, hE⟩ : ∃ E, E = e + (N : Int) := ⟨_, rfl⟩
  have hEw : IntKind.i64.wrap (e + (N : Int)) = E := by rw [IntKind.wrap_i64]; omega
  have HM := fun W b c h ht => Lib.hid (rmake_any W neg b (nl v.natAbs) c v.natAbs E h (nl_lim5 (by omega)) ht (by omega) (by omega))
  rw [← hE]
  generalize nrm (sgn neg v.natAbs) E = y at HM ⊢
  clear hv hva hE hlb hN hcb
  go_enter Tryz.func138, Tryz.ntmps138
  go_wp2_with fail
  have Im := ((BgV.made' w 24 false (.slice a (nl x) cap) (n := w.heap.size) (by rfl)).alloc (.cells #[.bool false, .bool false, (.slice none 0 0), .int .i64 0] 26))
  have Ir := (DyV.made' (w.alloc (.cells #[.bool false, (.slice a (nl x) cap)] 24)) 26 false false (.slice none 0 0) 0 (n := w.heap.size + 1) (by rw [World.size_alloc]))
  have B0 : Below w.heap.size w ((w.alloc (.cells #[.bool false, (.slice a (nl x) cap)] 24)).alloc (.cells #[.bool false, .bool false, (.slice none 0 0), .int .i64 0] 26)) := (by repeat (with_reducible first | refine Below.setCell ?_ (by simp <;> omega) _ | refine Below.alloc ?_ (by simp <;> omega) _ | refine Below.drew ?_ | refine below_drewN ?_ _ | exact Below.refl _ _))
  have nmr : ¬ w.heap.size = w.heap.size + 1 := by omega
  have nrm : ¬ w.heap.size + 1 = w.heap.size := by omega
  generalize ((w.alloc (.cells #[.bool false, (.slice a (nl x) cap)] 24)).alloc (.cells #[.bool false, .bool false, (.slice none 0 0), .int .i64 0] 26)) = w0 at Im Ir B0 ⊢
  generalize hb1 : w.heap.size + 1 = b1 at Ir nmr nrm ⊢
  generalize hb0 : w.heap.size = b0 at Im nmr nrm hb1 ⊢
  obtain ⟨mc0, mc1, mc2, mc3⟩ := Im
  have Vm0 := Lib.hid (BgV.mk mc0 mc1 mc2 mc3)
  obtain ⟨rc0, rc1, rc2, rc3, rc4, rc5⟩ := Ir
  have Vr0 := Lib.hid (DyV.mk rc0 rc1 rc2 rc3 rc4 rc5)
  refine (HL _ (hx.below (by have hszw := (B0).size; repeat (with_reducible first | refine Below.setCell ?_ (by first | omega | (simp <;> omega)) _ | refine Below.alloc ?_ (by first | omega | (simp <;> omega)) _ | refine Below.drew ?_ | refine below_drewN ?_ _ | exact B0)))).out.mono ?_
  rintro e w1 ⟨rfl, hb1⟩
  have Vm1 : BgV w1 b0 false (.slice a (nl x) cap) := (by refine BgV.below ?_ hb1; (repeat (with_reducible first | refine BgV.drew ?_ | refine BgV.drewN ?_ _ | refine BgV.alloc ?_ _)); exact Vm0.out)
  (try clear mc0 mc1 mc2)
  obtain ⟨mc0, mc1, mc2, mc3⟩ := Vm1
  have Vm1 := Lib.hid (BgV.mk mc0 mc1 mc2 mc3)
  have Vr1 : DyV w1 b1 false false (.slice none 0 0) 0 := (by refine DyV.below ?_ hb1; (repeat (with_reducible first | refine DyV.drew ?_ | refine DyV.drewN ?_ _ | refine DyV.alloc ?_ _)); exact Vr0.out)
  (try clear rc0 rc1 rc2 rc3 rc4)
  obtain ⟨rc0, rc1, rc2, rc3, rc4, rc5⟩ := Vr1
  have Vr1 := Lib.hid (DyV.mk rc0 rc1 rc2 rc3 rc4 rc5)
  have B1 := below_box (w := w) (by have hszw := (B0).size; repeat (with_reducible first | refine Below.setCell ?_ (by first | omega | (simp <;> omega)) _ | refine Below.alloc ?_ (by first | omega | (simp <;> omega)) _ | refine Below.drew ?_ | refine below_drewN ?_ _ | exact B0)) hb1
  clear hb1
  go_wp2_with fail
  (try rw [hmx])
  refine (HC _ (hT.below (by have hszw := (B1).size; repeat (with_reducible first | refine Below.setCell ?_ (by first | omega | (simp <;> omega)) _ | refine Below.alloc ?_ (by first | omega | (simp <;> omega)) _ | refine Below.drew ?_ | refine below_drewN ?_ _ | exact B1))) (hx.below (by have hszw := (B1).size; repeat (with_reducible first | refine Below.setCell ?_ (by first | omega | (simp <;> omega)) _ | refine Below.alloc ?_ (by first | omega | (simp <;> omega)) _ | refine Below.drew ?_ | refine below_drewN ?_ _ | exact B1)))).out.mono ?_
  rintro e w2 ⟨av, cv, rfl, Mv2, hb2, hf2⟩
  have Vm2 : BgV w2 b0 false (.slice a (nl x) cap) := (by refine BgV.below ?_ hb2; (repeat (with_reducible first | refine BgV.drew ?_ | refine BgV.drewN ?_ _ | refine BgV.alloc ?_ _)); exact Vm1.out)
  (try clear mc0 mc1 mc2)
  obtain ⟨mc0, mc1, mc2, mc3⟩ := Vm2
  have Vm2 := Lib.hid (BgV.mk mc0 mc1 mc2 mc3)
  have Vr2 : DyV w2 b1 false false (.slice none 0 0) 0 := (by refine DyV.below ?_ hb2; (repeat (with_reducible first | refine DyV.drew ?_ | refine DyV.drewN ?_ _ | refine DyV.alloc ?_ _)); exact Vr1.out)
  (try clear rc0 rc1 rc2 rc3 rc4)
  obtain ⟨rc0, rc1, rc2, rc3, rc4, rc5⟩ := Vr2
  have Vr2 := Lib.hid (DyV.mk rc0 rc1 rc2 rc3 rc4 rc5)
  have B2 := below_box (w := w) (by have hszw := (B1).size; repeat (with_reducible first | refine Below.setCell ?_ (by first | omega | (simp <;> omega)) _ | refine Below.alloc ?_ (by first | omega | (simp <;> omega)) _ | refine Below.drew ?_ | refine below_drewN ?_ _ | exact B1)) hb2
  have hF2 : 0 < (nl v.natAbs) → w1.heap.size ≤ ab av := (fun h => by have hq := hf2 h; (try simp at hq); omega)
  have frvm : 0 < (nl v.natAbs) → ab av ≠ b0 := (fun h => by have := hF2 h; have := Vm1.out.lt; omega)
  have frvr : 0 < (nl v.natAbs) → ab av ≠ b1 := (fun h => by have := hF2 h; have := Vr1.out.lt; omega)
  have fov : 0 < (nl v.natAbs) → w.heap.size ≤ ab av := (fun h => by have := hF2 h; have := B1.size; omega)
  clear hF2
  clear hb2 hf2
  go_wp2_with fail
  have Vq3 := (BgV.made' w2 24 neg (.slice av (nl v.natAbs) cv) (n := w2.heap.size) (by rfl))
  have Vm3 := (BgV.alloc Vm2.out (.cells #[.bool neg, (.slice av (nl v.natAbs) cv)] 24))
  have Vr3 := (DyV.alloc Vr2.out (.cells #[.bool neg, (.slice av (nl v.natAbs) cv)] 24))
  have Mv3 := (Mag.alloc Mv2 (.cells #[.bool neg, (.slice av (nl v.natAbs) cv)] 24))
  have B3 : Below w.heap.size w (w2.alloc (.cells #[.bool neg, (.slice av (nl v.natAbs) cv)] 24)) := (by have hszw := (B2).size; repeat (with_reducible first | refine Below.setCell ?_ (by first | omega | (simp <;> omega)) _ | refine Below.alloc ?_ (by first | omega | (simp <;> omega)) _ | refine Below.drew ?_ | refine below_drewN ?_ _ | exact B2))
  have nmq : ¬ b0 = w2.heap.size := by have := Vm2.out.lt; omega
  have nqm : ¬ w2.heap.size = b0 := by have := Vm2.out.lt; omega
  have nrq : ¬ b1 = w2.heap.size := by have := Vr2.out.lt; omega
  have nqr : ¬ w2.heap.size = b1 := by have := Vr2.out.lt; omega
  have frvq : 0 < (nl v.natAbs) → ab av ≠ w2.heap.size := fun h => by have := Mv2.old h; omega
  have gq : w.heap.size ≤ w2.heap.size := by have := B2.size; omega
  generalize (w2.alloc (.cells #[.bool neg, (.slice av (nl v.natAbs) cv)] 24)) = w3 at Vq3 Vm3 Vr3 Mv3 B3 ⊢
  generalize w2.heap.size = zq at Vq3 nmq nqm nrq nqr frvq gq ⊢
  (try clear mc0 mc1 mc2)
  obtain ⟨mc0, mc1, mc2, mc3⟩ := Vm3
  have Vm3 := Lib.hid (BgV.mk mc0 mc1 mc2 mc3)
  (try clear rc0 rc1 rc2 rc3 rc4)
  obtain ⟨rc0, rc1, rc2, rc3, rc4, rc5⟩ := Vr3
  have Vr3 := Lib.hid (DyV.mk rc0 rc1 rc2 rc3 rc4 rc5)
  (try clear qc0 qc1 qc2)
  obtain ⟨qc0, qc1, qc2, qc3⟩ := Vq3
  have Vq3 := Lib.hid (BgV.mk qc0 qc1 qc2 qc3)
  refine (HM _ av cv (by repeat (with_reducible first | refine Mag.set ?_ (fun h => by have := Mv3 h; omega) _ _ | refine Mag.drew ?_ | refine Mag.alloc ?_ _ | refine Mag.drewN ?_ _ | exact Mv3)) (hT.below (by have hszw := (B3).size; repeat (with_reducible first | refine Below.setCell ?_ (by first | omega | (simp <;> omega)) _ | refine Below.alloc ?_ (by first | omega | (simp <;> omega)) _ | refine Below.drew ?_ | refine below_drewN ?_ _ | exact B3)))).out.mono ?_
  rintro e w4 ⟨ay, cy, rfl, My4, hb4, hf4⟩
  have Vm4 : BgV w4 b0 false (.slice a (nl x) cap) := (by refine BgV.below ?_ hb4; (repeat (with_reducible first | refine BgV.drew ?_ | refine BgV.drewN ?_ _ | refine BgV.alloc ?_ _)); exact Vm3.out)
  (try clear mc0 mc1 mc2)
  obtain ⟨mc0, mc1, mc2, mc3⟩ := Vm4
  have Vm4 := Lib.hid (BgV.mk mc0 mc1 mc2 mc3)
  have Vr4 : DyV w4 b1 false false (.slice none 0 0) 0 := (by refine DyV.below ?_ hb4; (repeat (with_reducible first | refine DyV.drew ?_ | refine DyV.drewN ?_ _ | refine DyV.alloc ?_ _)); exact Vr3.out)
  (try clear rc0 rc1 rc2 rc3 rc4)
  obtain ⟨rc0, rc1, rc2, rc3, rc4, rc5⟩ := Vr4
  have Vr4 := Lib.hid (DyV.mk rc0 rc1 rc2 rc3 rc4 rc5)
  have Vq4 : BgV w4 zq neg (.slice av (nl v.natAbs) cv) := (by refine BgV.below ?_ hb4; (repeat (with_reducible first | refine BgV.drew ?_ | refine BgV.drewN ?_ _ | refine BgV.alloc ?_ _)); exact Vq3.out)
  (try clear qc0 qc1 qc2)
  obtain ⟨qc0, qc1, qc2, qc3⟩ := Vq4
  have Vq4 := Lib.hid (BgV.mk qc0 qc1 qc2 qc3)
  have Mv4 : Mag w4 av (nl v.natAbs) cv v.natAbs := Mag.below (by repeat (with_reducible first | refine Mag.set ?_ (fun h => by have := Mv3 h; omega) _ _ | refine Mag.drew ?_ | refine Mag.alloc ?_ _ | refine Mag.drewN ?_ _ | exact Mv3)) hb4
  have B4 := below_box (w := w) (by have hszw := (B3).size; repeat (with_reducible first | refine Below.setCell ?_ (by first | omega | (simp <;> omega)) _ | refine Below.alloc ?_ (by first | omega | (simp <;> omega)) _ | refine Below.drew ?_ | refine below_drewN ?_ _ | exact B3)) hb4
  have hF4 : 0 < (nl (dman y).natAbs) → w3.heap.size ≤ ab ay := (fun h => by have hq := hf4 h; (try simp at hq); omega)
  have frym : 0 < (nl (dman y).natAbs) → ab ay ≠ b0 := (fun h => by have := hF4 h; have := Vm3.out.lt; omega)
  have fryr : 0 < (nl (dman y).natAbs) → ab ay ≠ b1 := (fun h => by have := hF4 h; have := Vr3.out.lt; omega)
  have fryq : 0 < (nl (dman y).natAbs) → ab ay ≠ zq := (fun h => by have := hF4 h; have := Vq3.out.lt; omega)
  have foy : 0 < (nl (dman y).natAbs) → w.heap.size ≤ ab ay := (fun h => by have := hF4 h; have := B3.size; omega)
  clear hF4
  clear hb4 hf4
  go_wp2_with fail
  refine bodyPost_ret (v := .agg #[.bool (dbad y), .bool (decide (dman y < 0)), .slice ay (nl (dman y).natAbs) cy, .int .i64 (dexp y)]) (by simp only [results, Tryz.results138]; go_simp) rfl ?_
  exact ⟨ay, cy, rfl, (by repeat (with_reducible first | refine Mag.set ?_ frym _ _ | refine Mag.set ?_ fryr _ _ | refine Mag.set ?_ fryq _ _ | refine Mag.drew ?_ | refine Mag.drewN ?_ _ | refine Mag.alloc ?_ _ | exact My4)), (by have hszw := (B4).size; repeat (with_reducible first | refine Below.setCell ?_ (by first | omega | (simp <;> omega)) _ | refine Below.alloc ?_ (by first | omega | (simp <;> omega)) _ | refine Below.drew ?_ | refine below_drewN ?_ _ | exact B4)), foy⟩

end Go.Proofs.YtakbappmkdaioaaGreatDoor


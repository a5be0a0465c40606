/-
  Walks: the reference's dyads: Up, Cut.
-/
import Derived.Test.YtmpcikkimcehnaaGreatDoorZbRu
namespace Go.Proofs.YtmpcikkimcehnaaGreatDoor
open Go.RowKit Sp

theorem odd_of_tz {x : Nat} (h0 : x ≠ 0) (ht : tz x = 0) : x % 2 = 1 := by
  have := odd_div (Nat.pos_of_ne_zero h0)
  rw [ht, Nat.pow_zero, Nat.div_one] at this
  exact this
theorem rcm_zero (x : Nat) (more : Bool) : rcm x more 0 = -1 := by
  unfold rcm
  rw [show x % 2 ^ 0 = 0 by omega, show ((2 ^ (0 - 1) : Nat) : Int) = 1 by rfl]
  rfl
theorem rcm_bit (x : Nat) (more : Bool) (m : Nat) : rcm x more (m + 1) = if (x / 2 ^ m) % 2 = 0 then -1 else if more || decide (x % 2 ^ m ≠ 0) then 1 else 0 := by
  unfold rcm
  rw [show m + 1 - 1 = m by omega]
  have hp : 0 < 2 ^ m := Nat.pow_pos (by decide)
  have h1 : x % 2 ^ (m + 1) = x % 2 ^ m + 2 ^ m * ((x / 2 ^ m) % 2) := by rw [Nat.pow_succ, Nat.mod_mul]
  rw [h1]
  have h2 := Nat.mod_lt x hp
  generalize x % 2 ^ m = r at h2 ⊢
  generalize 2 ^ m = P at hp h2 ⊢
  rcases Nat.mod_two_eq_zero_or_one (x / P) with h | h
  · rw [h, Nat.mul_zero, Nat.add_zero]
    have : cmpI (r : Int) (P : Int) = -1 := by unfold cmpI; rw [if_pos (by omega)]
    rw [this]
    simp
  · rw [h, Nat.mul_one]
    by_cases hr : r = 0
    · have : cmpI ((r + P : Nat) : Int) (P : Int) = 0 := by unfold cmpI; rw [if_neg (by omega), if_neg (by omega)]
      rw [this]
      cases more <;> simp [hr]
    · have : cmpI ((r + P : Nat) : Int) (P : Int) = 1 := by unfold cmpI; rw [if_neg (by omega), if_pos (by omega)]
      rw [this]
      simp [hr]
def upB (neg : Bool) (half : Int) (odd : Bool) (mode : Int) : Bool := if mode = 1 then neg else if mode = 2 then !neg else if mode = 3 then false else decide (0 < half) || (decide (half = 0) && odd)
theorem raw_up (s : Bool) (n : Nat) (c : Int) (mode : Int) : raw s n c false mode = upB s c (decide (n % 2 = 1)) mode := rfl

set_option maxRecDepth 100000 in
set_option maxHeartbeats 2000000 in
theorem rup_any (w : World) (neg odd : Bool) (half mode : Int) :
    Calls Tryz.prog 272 #[.bool neg, .int .i64 half, .bool odd, .int .i64 mode] w fun e w' => e = .returned (.bool (upB neg half odd mode)) ∧ Below w.heap.size w w' := by
  by_cases h1 : mode = 1
  · subst h1
    rw [show upB neg half odd 1 = neg from rfl]
    go_enter Tryz.func272, Tryz.ntmps272
    go_wp2_with fail
    go_ret
    exact ⟨rfl, Below.refl _ _⟩
  · by_cases h2 : mode = 2
    · subst h2
      rw [show upB neg half odd 2 = !neg from rfl]
      go_enter Tryz.func272, Tryz.ntmps272
      go_wp2_with fail
      go_ret
      exact ⟨rfl, Below.refl _ _⟩
    · by_cases h3 : mode = 3
      · subst h3
        rw [show upB neg half odd 3 = false from rfl]
        go_enter Tryz.func272, Tryz.ntmps272
        go_wp2_with fail
        go_ret
        exact ⟨rfl, Below.refl _ _⟩
      · have k1 : (mode == 1) = false := by simpa using h1
        have k2 : (mode == 2) = false := by simpa using h2
        have k3 : (mode == 3) = false := by simpa using h3
        rw [show upB neg half odd mode = (decide (0 < half) || (decide (half = 0) && odd)) by unfold upB; rw [if_neg h1, if_neg h2, if_neg h3]]
        clear h1 h2 h3
        rcases Int.lt_trichotomy half 0 with h | h | h
        · have e1 : decide (0 < half) = false := by simp; omega
          have e2 : (half == 0) = false := by rw [beq_eq_false_iff_ne]; omega
          have e3 : decide (half = 0) = false := by simp; omega
          rw [e1, e3]
          clear h
          go_enter Tryz.func272, Tryz.ntmps272
          go_wp2_with fail
          go_ret
          exact ⟨rfl, Below.refl _ _⟩
        · subst h
          rw [show (decide ((0 : Int) < 0) || (decide ((0 : Int) = 0) && odd)) = odd by simp]
          go_enter Tryz.func272, Tryz.ntmps272
          go_wp2_with fail
          go_ret
          exact ⟨rfl, Below.refl _ _⟩
        · have e1 : decide (0 < half) = true := by simpa using h
          rw [e1, Bool.true_or]
          clear h
          go_enter Tryz.func272, Tryz.ntmps272
          go_wp2_with fail
          go_ret
          exact ⟨rfl, Below.refl _ _⟩

set_option maxRecDepth 100000 in
set_option maxHeartbeats 2000000 in
theorem rcut_exact (w : World) (_hT : Tab w) (neg more : Bool) (a : Option Addr) (cap x n : Nat) (mode : Int) (hx : Mag w a (nl x) cap x) (hl : nl x ≤ 549755813888) (hn : n ≤ 1048576) (hlo : decide (x % 2 ^ n ≠ 0) = false) (hm : more = false) (Q : Int) (hQ : Q = ((x / 2 ^ n : Nat) : Int)) :
    Calls Tryz.prog 234 #[.bool neg, .agg #[.bool false, .slice a (nl x) cap], .int .i64 n, .bool more, .int .i64 mode] w (RetBig w Q) := by
  have HD := fun W h => Lib.hid (rdown_any W a (nl x) cap x n h hl hn)
  have HL := fun W h => Lib.hid (rlost_any W false a (nl x) cap x n h hl hn)
  subst hm
  rw [hlo] at HL
  rw [← hQ] at HD
  clear hQ hlo hl hn
  go_enter Tryz.func234, Tryz.ntmps234
  go_wp2_with fail
  have Im := ((BgV.made' w 24 false (.slice a (nl x) cap) (n := w.heap.size) (by rfl)).alloc (.cells #[.bool false, (.slice none 0 0)] 24))
  have Ir := (BgV.made' (w.alloc (.cells #[.bool false, (.slice a (nl x) cap)] 24)) 24 false (.slice none 0 0) (n := w.heap.size + 1) (by rw [World.size_alloc]))
  have B0 : Below w.heap.size w ((w.alloc (.cells #[.bool false, (.slice a (nl x) cap)] 24)).alloc (.cells #[.bool false, (.slice none 0 0)] 24)) := zbh
  have nmr : ¬ w.heap.size = w.heap.size + 1 := by omega
  have nrm : ¬ w.heap.size + 1 = w.heap.size := by omega
  generalize ((w.alloc (.cells #[.bool false, (.slice a (nl x) cap)] 24)).alloc (.cells #[.bool false, (.slice none 0 0)] 24)) = w0 at Im Ir B0 ⊢
  generalize hb1 : w.heap.size + 1 = b1 at Ir nmr nrm ⊢
  generalize hb0 : w.heap.size = b0 at Im nmr nrm hb1 ⊢
  obtain ⟨mc0, mc1, mc2, mc3⟩ := Im
  have Vm0 := Lib.hid (BgV.mk mc0 mc1 mc2 mc3)
  obtain ⟨rc0, rc1, rc2, rc3⟩ := Ir
  have Vr0 := Lib.hid (BgV.mk rc0 rc1 rc2 rc3)
  refine (HD _ (hx.below (have := Beh.mk B0; zbh))).out.mono ?_
  rintro e w1 ⟨aq, cq, rfl, Mq1, hb1, hf1⟩
  have Vm1 : BgV w1 b0 false (.slice a (nl x) cap) := (Vm0.out.on.below hb1)
  (try clear mc0 mc1 mc2)
  obtain ⟨mc0, mc1, mc2, mc3⟩ := Vm1
  have Vm1 := Lib.hid (BgV.mk mc0 mc1 mc2 mc3)
  have Vr1 : BgV w1 b1 false (.slice none 0 0) := (Vr0.out.on.below hb1)
  (try clear rc0 rc1 rc2)
  obtain ⟨rc0, rc1, rc2, rc3⟩ := Vr1
  have Vr1 := Lib.hid (BgV.mk rc0 rc1 rc2 rc3)
  have B1 := below_box (w := w) (have := Beh.mk B0; zbh) hb1
  have hF1 : 0 < (nl Q.natAbs) → w0.heap.size ≤ ab aq := (fun h => by have hq := hf1 h; (try simp at hq); omega)
  have frqm : 0 < (nl Q.natAbs) → ab aq ≠ b0 := (fun h => by have := hF1 h; have := Vm0.out.lt; omega)
  have frqr : 0 < (nl Q.natAbs) → ab aq ≠ b1 := (fun h => by have := hF1 h; have := Vr0.out.lt; omega)
  have foq : 0 < (nl Q.natAbs) → w.heap.size ≤ ab aq := (fun h => by have := hF1 h; have := B0.size; omega)
  clear hF1
  clear hb1 hf1
  go_wp2_with fail
  have Vq2 := (BgV.made' w1 24 (decide (Q < 0)) (.slice aq (nl Q.natAbs) cq) (n := w1.heap.size) (by rfl))
  have Vm2 := (BgV.alloc Vm1.out (.cells #[.bool (decide (Q < 0)), (.slice aq (nl Q.natAbs) cq)] 24))
  have Vr2 := (BgV.alloc Vr1.out (.cells #[.bool (decide (Q < 0)), (.slice aq (nl Q.natAbs) cq)] 24))
  have Mq2 := (Mag.alloc Mq1 (.cells #[.bool (decide (Q < 0)), (.slice aq (nl Q.natAbs) cq)] 24))
  have B2 : Below w.heap.size w (w1.alloc (.cells #[.bool (decide (Q < 0)), (.slice aq (nl Q.natAbs) cq)] 24)) := (have := Beh.mk B1; zbh)
  have nmq : ¬ b0 = w1.heap.size := by have := Vm1.out.lt; omega
  have nqm : ¬ w1.heap.size = b0 := by have := Vm1.out.lt; omega
  have nrq : ¬ b1 = w1.heap.size := by have := Vr1.out.lt; omega
  have nqr : ¬ w1.heap.size = b1 := by have := Vr1.out.lt; omega
  have frqq : 0 < (nl Q.natAbs) → ab aq ≠ w1.heap.size := fun h => by have := Mq1.old h; omega
  have gq : w.heap.size ≤ w1.heap.size := by have := B1.size; omega
  generalize (w1.alloc (.cells #[.bool (decide (Q < 0)), (.slice aq (nl Q.natAbs) cq)] 24)) = w2 at Vq2 Vm2 Vr2 Mq2 B2 ⊢
  generalize w1.heap.size = zq at Vq2 nmq nqm nrq nqr frqq gq ⊢
  (try clear mc0 mc1 mc2)
  obtain ⟨mc0, mc1, mc2, mc3⟩ := Vm2
  have Vm2 := Lib.hid (BgV.mk mc0 mc1 mc2 mc3)
  (try clear rc0 rc1 rc2)
  obtain ⟨rc0, rc1, rc2, rc3⟩ := Vr2
  have Vr2 := Lib.hid (BgV.mk rc0 rc1 rc2 rc3)
  (try clear qc0 qc1 qc2)
  obtain ⟨qc0, qc1, qc2, qc3⟩ := Vq2
  have Vq2 := Lib.hid (BgV.mk qc0 qc1 qc2 qc3)
  refine (HL _ (hx.below (have := Beh.mk B2; zbh))).out.mono ?_
  rintro e w3 ⟨rfl, hb3⟩
  have Vm3 : BgV w3 b0 false (.slice a (nl x) cap) := (Vm2.out.on.below hb3)
  (try clear mc0 mc1 mc2)
  obtain ⟨mc0, mc1, mc2, mc3⟩ := Vm3
  have Vm3 := Lib.hid (BgV.mk mc0 mc1 mc2 mc3)
  have Vr3 : BgV w3 b1 false (.slice none 0 0) := (Vr2.out.on.below hb3)
  (try clear rc0 rc1 rc2)
  obtain ⟨rc0, rc1, rc2, rc3⟩ := Vr3
  have Vr3 := Lib.hid (BgV.mk rc0 rc1 rc2 rc3)
  have Vq3 : BgV w3 zq (decide (Q < 0)) (.slice aq (nl Q.natAbs) cq) := (Vq2.out.on.below hb3)
  (try clear qc0 qc1 qc2)
  obtain ⟨qc0, qc1, qc2, qc3⟩ := Vq3
  have Vq3 := Lib.hid (BgV.mk qc0 qc1 qc2 qc3)
  have Mq3 : Mag w3 aq (nl Q.natAbs) cq Q.natAbs := Mag.below (by repeat (with_reducible first | refine Mag.set ?_ (fun h => by have := Mq2 h; omega) _ _ | refine Mag.drew ?_ | refine Mag.alloc ?_ _ | refine Mag.drewN ?_ _ | exact Mq2)) hb3
  have B3 := below_box (w := w) (have := Beh.mk B2; zbh) hb3
  clear hb3
  go_wp2_with fail
  refine bodyPost_ret (v := .agg #[.bool (decide (Q < 0)), .slice aq (nl Q.natAbs) cq]) (by simp only [results, Tryz.results234]; go_simp) rfl ?_
  exact ⟨aq, cq, rfl, (by repeat (with_reducible first | refine Mag.set ?_ frqm _ _ | refine Mag.set ?_ frqr _ _ | refine Mag.set ?_ frqq _ _ | refine Mag.drew ?_ | refine Mag.drewN ?_ _ | refine Mag.alloc ?_ _ | exact Mq3)), (by have hszw := (B3).size; repeat (with_reducible first | refine Below.setCell ?_ (by first | omega | (simp <;> omega)) _ | refine Below.alloc ?_ (by first | omega | (simp <;> omega)) _ | refine Below.drew ?_ | refine below_drewN ?_ _ | exact B3)), foq⟩

set_option maxRecDepth 100000 in
set_option maxHeartbeats 2000000 in
theorem rcut_upA (w : World) (hT : Tab w) (neg more : Bool) (a : Option Addr) (cap x n : Nat) (mode : Int) (hx : Mag w a (nl x) cap x) (hl : nl x ≤ 549755813888) (hn : n ≤ 1048576) (hlb : decide (x % 2 ^ n ≠ 0) = true)  (Q : Int) (hQ : Q = ((x / 2 ^ n : Nat) : Int)) (H : Int) (hH : H = rcm x more n) (u : Bool) (hu : u = upB neg H (decide ((x / 2 ^ n) % 2 = 1)) mode) (v : Int) (hv : v = Q + if u then 1 else 0) :
    Calls Tryz.prog 234 #[.bool neg, .agg #[.bool false, .slice a (nl x) cap], .int .i64 n, .bool more, .int .i64 mode] w (RetBig w v) := by
  have HD := fun W h => Lib.hid (rdown_any W a (nl x) cap x n h hl hn)
  have HL := fun W h => Lib.hid (rlost_any W false a (nl x) cap x n h hl hn)
  rw [hlb] at HL
  rw [← hQ] at HD
  have HU := Lib.hid hu
  have HV := Lib.hid hv
  have HQ := Lib.hid hQ
  have HHH := Lib.hid hH
  clear hu hv hQ hH hlb
  go_enter Tryz.func234, Tryz.ntmps234
  go_wp2_with fail
  have Im := ((BgV.made' w 24 false (.slice a (nl x) cap) (n := w.heap.size) (by rfl)).alloc (.cells #[.bool false, (.slice none 0 0)] 24))
  have Ir := (BgV.made' (w.alloc (.cells #[.bool false, (.slice a (nl x) cap)] 24)) 24 false (.slice none 0 0) (n := w.heap.size + 1) (by rw [World.size_alloc]))
  have B0 : Below w.heap.size w ((w.alloc (.cells #[.bool false, (.slice a (nl x) cap)] 24)).alloc (.cells #[.bool false, (.slice none 0 0)] 24)) := (by repeat (with_reducible first | refine Below.setCell ?_ (by simp <;> omega) _ | refine Below.alloc ?_ (by simp <;> omega) _ | refine Below.drew ?_ | refine below_drewN ?_ _ | exact Below.refl _ _))
  have nmr : ¬ w.heap.size = w.heap.size + 1 := by omega
  have nrm : ¬ w.heap.size + 1 = w.heap.size := by omega
  generalize ((w.alloc (.cells #[.bool false, (.slice a (nl x) cap)] 24)).alloc (.cells #[.bool false, (.slice none 0 0)] 24)) = w0 at Im Ir B0 ⊢
  generalize hb1 : w.heap.size + 1 = b1 at Ir nmr nrm ⊢
  generalize hb0 : w.heap.size = b0 at Im nmr nrm hb1 ⊢
  obtain ⟨mc0, mc1, mc2, mc3⟩ := Im
  have Vm0 := Lib.hid (BgV.mk mc0 mc1 mc2 mc3)
  obtain ⟨rc0, rc1, rc2, rc3⟩ := Ir
  have Vr0 := Lib.hid (BgV.mk rc0 rc1 rc2 rc3)
  refine (HD _ (hx.below (by have hszw := (B0).size; repeat (with_reducible first | refine Below.setCell ?_ (by first | omega | (simp <;> omega)) _ | refine Below.alloc ?_ (by first | omega | (simp <;> omega)) _ | refine Below.drew ?_ | refine below_drewN ?_ _ | exact B0)))).out.mono ?_
  rintro e w1 ⟨aq, cq, rfl, Mq1, hb1, hf1⟩
  have Vm1 : BgV w1 b0 false (.slice a (nl x) cap) := (by refine BgV.below ?_ hb1; (repeat (with_reducible first | refine BgV.drew ?_ | refine BgV.drewN ?_ _ | refine BgV.alloc ?_ _)); exact Vm0.out)
  (try clear mc0 mc1 mc2)
  obtain ⟨mc0, mc1, mc2, mc3⟩ := Vm1
  have Vm1 := Lib.hid (BgV.mk mc0 mc1 mc2 mc3)
  have Vr1 : BgV w1 b1 false (.slice none 0 0) := (by refine BgV.below ?_ hb1; (repeat (with_reducible first | refine BgV.drew ?_ | refine BgV.drewN ?_ _ | refine BgV.alloc ?_ _)); exact Vr0.out)
  (try clear rc0 rc1 rc2)
  obtain ⟨rc0, rc1, rc2, rc3⟩ := Vr1
  have Vr1 := Lib.hid (BgV.mk rc0 rc1 rc2 rc3)
  have B1 := below_box (w := w) (by have hszw := (B0).size; repeat (with_reducible first | refine Below.setCell ?_ (by first | omega | (simp <;> omega)) _ | refine Below.alloc ?_ (by first | omega | (simp <;> omega)) _ | refine Below.drew ?_ | refine below_drewN ?_ _ | exact B0)) hb1
  have hF1 : 0 < (nl Q.natAbs) → w0.heap.size ≤ ab aq := (fun h => by have hq := hf1 h; (try simp at hq); omega)
  have frqm : 0 < (nl Q.natAbs) → ab aq ≠ b0 := (fun h => by have := hF1 h; have := Vm0.out.lt; omega)
  have frqr : 0 < (nl Q.natAbs) → ab aq ≠ b1 := (fun h => by have := hF1 h; have := Vr0.out.lt; omega)
  have foq : 0 < (nl Q.natAbs) → w.heap.size ≤ ab aq := (fun h => by have := hF1 h; have := B0.size; omega)
  clear hF1
  clear hb1 hf1
  go_wp2_with fail
  have Vq2 := (BgV.made' w1 24 (decide (Q < 0)) (.slice aq (nl Q.natAbs) cq) (n := w1.heap.size) (by rfl))
  have Vm2 := (BgV.alloc Vm1.out (.cells #[.bool (decide (Q < 0)), (.slice aq (nl Q.natAbs) cq)] 24))
  have Vr2 := (BgV.alloc Vr1.out (.cells #[.bool (decide (Q < 0)), (.slice aq (nl Q.natAbs) cq)] 24))
  have Mq2 := (Mag.alloc Mq1 (.cells #[.bool (decide (Q < 0)), (.slice aq (nl Q.natAbs) cq)] 24))
  have B2 : Below w.heap.size w (w1.alloc (.cells #[.bool (decide (Q < 0)), (.slice aq (nl Q.natAbs) cq)] 24)) := (by have hszw := (B1).size; repeat (with_reducible first | refine Below.setCell ?_ (by first | omega | (simp <;> omega)) _ | refine Below.alloc ?_ (by first | omega | (simp <;> omega)) _ | refine Below.drew ?_ | refine below_drewN ?_ _ | exact B1))
  have nmq : ¬ b0 = w1.heap.size := by have := Vm1.out.lt; omega
  have nqm : ¬ w1.heap.size = b0 := by have := Vm1.out.lt; omega
  have nrq : ¬ b1 = w1.heap.size := by have := Vr1.out.lt; omega
  have nqr : ¬ w1.heap.size = b1 := by have := Vr1.out.lt; omega
  have frqq : 0 < (nl Q.natAbs) → ab aq ≠ w1.heap.size := fun h => by have := Mq1.old h; omega
  have gq : w.heap.size ≤ w1.heap.size := by have := B1.size; omega
  generalize (w1.alloc (.cells #[.bool (decide (Q < 0)), (.slice aq (nl Q.natAbs) cq)] 24)) = w2 at Vq2 Vm2 Vr2 Mq2 B2 ⊢
  generalize w1.heap.size = zq at Vq2 nmq nqm nrq nqr frqq gq ⊢
  (try clear mc0 mc1 mc2)
  obtain ⟨mc0, mc1, mc2, mc3⟩ := Vm2
  have Vm2 := Lib.hid (BgV.mk mc0 mc1 mc2 mc3)
  (try clear rc0 rc1 rc2)
  obtain ⟨rc0, rc1, rc2, rc3⟩ := Vr2
  have Vr2 := Lib.hid (BgV.mk rc0 rc1 rc2 rc3)
  (try clear qc0 qc1 qc2)
  obtain ⟨qc0, qc1, qc2, qc3⟩ := Vq2
  have Vq2 := Lib.hid (BgV.mk qc0 qc1 qc2 qc3)
  refine (HL _ (hx.below (by have hszw := (B2).size; repeat (with_reducible first | refine Below.setCell ?_ (by first | omega | (simp <;> omega)) _ | refine Below.alloc ?_ (by first | omega | (simp <;> omega)) _ | refine Below.drew ?_ | refine below_drewN ?_ _ | exact B2)))).out.mono ?_
  rintro e w3 ⟨rfl, hb3⟩
  have Vm3 : BgV w3 b0 false (.slice a (nl x) cap) := (by refine BgV.below ?_ hb3; (repeat (with_reducible first | refine BgV.drew ?_ | refine BgV.drewN ?_ _ | refine BgV.alloc ?_ _)); exact Vm2.out)
  (try clear mc0 mc1 mc2)
  obtain ⟨mc0, mc1, mc2, mc3⟩ := Vm3
  have Vm3 := Lib.hid (BgV.mk mc0 mc1 mc2 mc3)
  have Vr3 : BgV w3 b1 false (.slice none 0 0) := (by refine BgV.below ?_ hb3; (repeat (with_reducible first | refine BgV.drew ?_ | refine BgV.drewN ?_ _ | refine BgV.alloc ?_ _)); exact Vr2.out)
  (try clear rc0 rc1 rc2)
  obtain ⟨rc0, rc1, rc2, rc3⟩ := Vr3
  have Vr3 := Lib.hid (BgV.mk rc0 rc1 rc2 rc3)
  have Vq3 : BgV w3 zq (decide (Q < 0)) (.slice aq (nl Q.natAbs) cq) := (by refine BgV.below ?_ hb3; (repeat (with_reducible first | refine BgV.drew ?_ | refine BgV.drewN ?_ _ | refine BgV.alloc ?_ _)); exact Vq2.out)
  (try clear qc0 qc1 qc2)
  obtain ⟨qc0, qc1, qc2, qc3⟩ := Vq3
  have Vq3 := Lib.hid (BgV.mk qc0 qc1 qc2 qc3)
  have Mq3 : Mag w3 aq (nl Q.natAbs) cq Q.natAbs := Mag.below (by repeat (with_reducible first | refine Mag.set ?_ (fun h => by have := Mq2 h; omega) _ _ | refine Mag.drew ?_ | refine Mag.alloc ?_ _ | refine Mag.drewN ?_ _ | exact Mq2)) hb3
  have B3 := below_box (w := w) (by have hszw := (B2).size; repeat (with_reducible first | refine Below.setCell ?_ (by first | omega | (simp <;> omega)) _ | refine Below.alloc ?_ (by first | omega | (simp <;> omega)) _ | refine Below.drew ?_ | refine below_drewN ?_ _ | exact B2)) hb3
  clear hb3
  go_upto_if 30 with fail
  go_cut [13] (fun hv wx => hv = .int .i64 H ∧ Below w3.heap.size w3 wx)
  case first =>
    have hqz : Below w3.heap.size w3 w3 := Below.refl _ _
    have BZ3 := hqz
    rcases Nat.eq_zero_or_pos n with hn0 | hn0
    · subst hn0
      have hH : H = -1 := by rw [HHH.out]; exact rcm_zero x more
      subst hH
      go_wp2_with fail
      go_meet
      exact ⟨rfl, hqz⟩
    · obtain ⟨m, hm1⟩ : ∃ m, n = m + 1 := ⟨n - 1, by omega⟩
      have hnm : (n : Int) - 1 = (m : Int) := by omega
      have hn2 : (n : Int) ≤ 1048576 := by omega
      have k0 : decide (0 < n) = true := by simpa using hn0
      have HD2 := fun W h => Lib.hid (rdown_any W a (nl x) cap x m h hl (by omega))
      have HL2 := fun W h => Lib.hid (rlost_any W false a (nl x) cap x m h hl (by omega))
      obtain ⟨Bt, hBt⟩ : ∃ Bt : Int, Bt = ((x / 2 ^ m : Nat) : Int) := ⟨_, rfl⟩
      have hBl : nl Bt.natAbs ≤ 549755813888 := by
        rw [hBt, Int.natAbs_natCast]
        exact Nat.le_trans (nl_mono (Nat.div_le_self x (2 ^ m))) hl
      rw [← hBt] at HD2
      have HS := fun W b c h => Lib.hid (rsgn_z W b c Bt _ rfl h hBl)
      have HZ := fun W b c ht h => Lib.hid (rtrailing_any W ht (decide (Bt < 0)) b (nl Bt.natAbs) c Bt.natAbs h (by omega))
      have hrc := rcm_bit x more m
      rw [← hm1] at hrc
      rw [show (x / 2 ^ m) = Bt.natAbs by rw [hBt]; exact (Int.natAbs_natCast _).symm, ← HHH.out] at hrc
      have HRC := Lib.hid hrc
      have hB0 : Bt = 0 ↔ Bt.natAbs = 0 := by omega
      have HB0 := Lib.hid hB0
      obtain ⟨g, hg⟩ : ∃ g, g = sg Bt := ⟨_, rfl⟩
      rw [← hg] at HS
      have HG := Lib.hid hg
      obtain ⟨lb2, hlb2⟩ : ∃ lb2, lb2 = decide (x % 2 ^ m ≠ 0) := ⟨_, rfl⟩
      rw [← hlb2] at HL2 hrc
      have HRC := Lib.hid hrc
      clear hrc hB0 hg hlb2 hBl hBt hn hl hm1
      go_wp2_with fail
      refine (HD2 _ (hx.below (by have hszw := (B3).size; repeat (with_reducible first | refine Below.setCell ?_ (by first | omega | (simp <;> omega)) _ | refine Below.alloc ?_ (by first | omega | (simp <;> omega)) _ | refine Below.drew ?_ | refine below_drewN ?_ _ | exact B3)))).out.mono ?_
      rintro e w4 ⟨ak, ck, rfl, Mk4, hb4, hf4⟩
      have Vm4 : BgV w4 b0 false (.slice a (nl x) cap) := (by refine BgV.below ?_ hb4; (repeat (with_reducible first | refine BgV.drew ?_ | refine BgV.drewN ?_ _ | refine BgV.alloc ?_ _)); exact Vm3.out)
      (try clear mc0 mc1 mc2)
      obtain ⟨mc0, mc1, mc2, mc3⟩ := Vm4
      have Vm4 := Lib.hid (BgV.mk mc0 mc1 mc2 mc3)
      have Vr4 : BgV w4 b1 false (.slice none 0 0) := (by refine BgV.below ?_ hb4; (repeat (with_reducible first | refine BgV.drew ?_ | refine BgV.drewN ?_ _ | refine BgV.alloc ?_ _)); exact Vr3.out)
      (try clear rc0 rc1 rc2)
      obtain ⟨rc0, rc1, rc2, rc3⟩ := Vr4
      have Vr4 := Lib.hid (BgV.mk rc0 rc1 rc2 rc3)
      have Vq4 : BgV w4 zq (decide (Q < 0)) (.slice aq (nl Q.natAbs) cq) := (by refine BgV.below ?_ hb4; (repeat (with_reducible first | refine BgV.drew ?_ | refine BgV.drewN ?_ _ | refine BgV.alloc ?_ _)); exact Vq3.out)
      (try clear qc0 qc1 qc2)
      obtain ⟨qc0, qc1, qc2, qc3⟩ := Vq4
      have Vq4 := Lib.hid (BgV.mk qc0 qc1 qc2 qc3)
      have Mq4 : Mag w4 aq (nl Q.natAbs) cq Q.natAbs := Mag.below (by repeat (with_reducible first | refine Mag.set ?_ (fun h => by have := Mq3 h; omega) _ _ | refine Mag.drew ?_ | refine Mag.alloc ?_ _ | refine Mag.drewN ?_ _ | exact Mq3)) hb4
      have B4 := below_box (w := w) (by have hszw := (B3).size; repeat (with_reducible first | refine Below.setCell ?_ (by first | omega | (simp <;> omega)) _ | refine Below.alloc ?_ (by first | omega | (simp <;> omega)) _ | refine Below.drew ?_ | refine below_drewN ?_ _ | exact B3)) hb4
      have BZ4 : Below w3.heap.size w3 w4 := Below.trans (by have hszw := (BZ3).size; repeat (with_reducible first | refine Below.setCell ?_ (by first | omega | (simp <;> omega)) _ | refine Below.alloc ?_ (by first | omega | (simp <;> omega)) _ | refine Below.drew ?_ | refine below_drewN ?_ _ | exact BZ3)) (hb4.mono (by have := BZ3.size; first | exact this | (simp; omega)))
      have hF4 : 0 < (nl Bt.natAbs) → w3.heap.size ≤ ab ak := (fun h => by have hq := hf4 h; (try simp at hq); omega)
      have frkm : 0 < (nl Bt.natAbs) → ab ak ≠ b0 := (fun h => by have := hF4 h; have := Vm3.out.lt; omega)
      have frkr : 0 < (nl Bt.natAbs) → ab ak ≠ b1 := (fun h => by have := hF4 h; have := Vr3.out.lt; omega)
      have frkq : 0 < (nl Bt.natAbs) → ab ak ≠ zq := (fun h => by have := hF4 h; have := Vq3.out.lt; omega)
      have fok : 0 < (nl Bt.natAbs) → w.heap.size ≤ ab ak := (fun h => by have := hF4 h; have := B3.size; omega)
      clear hF4
      clear hb4 hf4
      go_wp2_with fail
      have Vb5 := (BgV.made' w4 24 (decide (Bt < 0)) (.slice ak (nl Bt.natAbs) ck) (n := w4.heap.size) (by rfl))
      have Vm5 := (BgV.alloc Vm4.out (.cells #[.bool (decide (Bt < 0)), (.slice ak (nl Bt.natAbs) ck)] 24))
      have Vr5 := (BgV.alloc Vr4.out (.cells #[.bool (decide (Bt < 0)), (.slice ak (nl Bt.natAbs) ck)] 24))
      have Vq5 := (BgV.alloc Vq4.out (.cells #[.bool (decide (Bt < 0)), (.slice ak (nl Bt.natAbs) ck)] 24))
      have Mq5 := (Mag.alloc Mq4 (.cells #[.bool (decide (Bt < 0)), (.slice ak (nl Bt.natAbs) ck)] 24))
      have Mk5 := (Mag.alloc Mk4 (.cells #[.bool (decide (Bt < 0)), (.slice ak (nl Bt.natAbs) ck)] 24))
      have B5 : Below w.heap.size w (w4.alloc (.cells #[.bool (decide (Bt < 0)), (.slice ak (nl Bt.natAbs) ck)] 24)) := (by have hszw := (B4).size; repeat (with_reducible first | refine Below.setCell ?_ (by first | omega | (simp <;> omega)) _ | refine Below.alloc ?_ (by first | omega | (simp <;> omega)) _ | refine Below.drew ?_ | refine below_drewN ?_ _ | exact B4))
      have BZ5 : Below w3.heap.size w3 (w4.alloc (.cells #[.bool (decide (Bt < 0)), (.slice ak (nl Bt.natAbs) ck)] 24)) := (by have hszw := (BZ4).size; repeat (with_reducible first | refine Below.setCell ?_ (by first | omega | (simp <;> omega)) _ | refine Below.alloc ?_ (by first | omega | (simp <;> omega)) _ | refine Below.drew ?_ | refine below_drewN ?_ _ | exact BZ4))
      have nmb : ¬ b0 = w4.heap.size := by have := Vm4.out.lt; omega
      have nbm : ¬ w4.heap.size = b0 := by have := Vm4.out.lt; omega
      have nrb : ¬ b1 = w4.heap.size := by have := Vr4.out.lt; omega
      have nbr : ¬ w4.heap.size = b1 := by have := Vr4.out.lt; omega
      have nqb : ¬ zq = w4.heap.size := by have := Vq4.out.lt; omega
      have nbq : ¬ w4.heap.size = zq := by have := Vq4.out.lt; omega
      have frqb : 0 < (nl Q.natAbs) → ab aq ≠ w4.heap.size := fun h => by have := Mq4.old h; omega
      have frkb : 0 < (nl Bt.natAbs) → ab ak ≠ w4.heap.size := fun h => by have := Mk4.old h; omega
      have gb : w.heap.size ≤ w4.heap.size := by have := B4.size; omega
      generalize (w4.alloc (.cells #[.bool (decide (Bt < 0)), (.slice ak (nl Bt.natAbs) ck)] 24)) = w5 at Vb5 Vm5 Vr5 Vq5 Mq5 Mk5 B5 BZ5 ⊢
      generalize w4.heap.size = zb at Vb5 nmb nbm nrb nbr nqb nbq frqb frkb gb ⊢
      (try clear mc0 mc1 mc2)
      obtain ⟨mc0, mc1, mc2, mc3⟩ := Vm5
      have Vm5 := Lib.hid (BgV.mk mc0 mc1 mc2 mc3)
      (try clear rc0 rc1 rc2)
      obtain ⟨rc0, rc1, rc2, rc3⟩ := Vr5
      have Vr5 := Lib.hid (BgV.mk rc0 rc1 rc2 rc3)
      (try clear qc0 qc1 qc2)
      obtain ⟨qc0, qc1, qc2, qc3⟩ := Vq5
      have Vq5 := Lib.hid (BgV.mk qc0 qc1 qc2 qc3)
      (try clear bc0 bc1 bc2)
      obtain ⟨bc0, bc1, bc2, bc3⟩ := Vb5
      have Vb5 := Lib.hid (BgV.mk bc0 bc1 bc2 bc3)
      refine (HZ _ ak ck (hT.below (by have hszw := (B5).size; repeat (with_reducible first | refine Below.setCell ?_ (by first | omega | (simp <;> omega)) _ | refine Below.alloc ?_ (by first | omega | (simp <;> omega)) _ | refine Below.drew ?_ | refine below_drewN ?_ _ | exact B5))) (by repeat (with_reducible first | refine Mag.set ?_ (fun h => by have := Mk5 h; omega) _ _ | refine Mag.drew ?_ | refine Mag.alloc ?_ _ | refine Mag.drewN ?_ _ | exact Mk5))).out.mono ?_
      rintro e w6 ⟨rfl, hb6⟩
      have Vm6 : BgV w6 b0 false (.slice a (nl x) cap) := (by refine BgV.below ?_ hb6; (repeat (with_reducible first | refine BgV.drew ?_ | refine BgV.drewN ?_ _ | refine BgV.alloc ?_ _)); exact Vm5.out)
      (try clear mc0 mc1 mc2)
      obtain ⟨mc0, mc1, mc2, mc3⟩ := Vm6
      have Vm6 := Lib.hid (BgV.mk mc0 mc1 mc2 mc3)
      have Vr6 : BgV w6 b1 false (.slice none 0 0) := (by refine BgV.below ?_ hb6; (repeat (with_reducible first | refine BgV.drew ?_ | refine BgV.drewN ?_ _ | refine BgV.alloc ?_ _)); exact Vr5.out)
      (try clear rc0 rc1 rc2)
      obtain ⟨rc0, rc1, rc2, rc3⟩ := Vr6
      have Vr6 := Lib.hid (BgV.mk rc0 rc1 rc2 rc3)
      have Vq6 : BgV w6 zq (decide (Q < 0)) (.slice aq (nl Q.natAbs) cq) := (by refine BgV.below ?_ hb6; (repeat (with_reducible first | refine BgV.drew ?_ | refine BgV.drewN ?_ _ | refine BgV.alloc ?_ _)); exact Vq5.out)
      (try clear qc0 qc1 qc2)
      obtain ⟨qc0, qc1, qc2, qc3⟩ := Vq6
      have Vq6 := Lib.hid (BgV.mk qc0 qc1 qc2 qc3)
      have Vb6 : BgV w6 zb (decide (Bt < 0)) (.slice ak (nl Bt.natAbs) ck) := (by refine BgV.below ?_ hb6; (repeat (with_reducible first | refine BgV.drew ?_ | refine BgV.drewN ?_ _ | refine BgV.alloc ?_ _)); exact Vb5.out)
      (try clear bc0 bc1 bc2)
      obtain ⟨bc0, bc1, bc2, bc3⟩ := Vb6
      have Vb6 := Lib.hid (BgV.mk bc0 bc1 bc2 bc3)
      have Mq6 : Mag w6 aq (nl Q.natAbs) cq Q.natAbs := Mag.below (by repeat (with_reducible first | refine Mag.set ?_ (fun h => by have := Mq5 h; omega) _ _ | refine Mag.drew ?_ | refine Mag.alloc ?_ _ | refine Mag.drewN ?_ _ | exact Mq5)) hb6
      have Mk6 : Mag w6 ak (nl Bt.natAbs) ck Bt.natAbs := Mag.below (by repeat (with_reducible first | refine Mag.set ?_ (fun h => by have := Mk5 h; omega) _ _ | refine Mag.drew ?_ | refine Mag.alloc ?_ _ | refine Mag.drewN ?_ _ | exact Mk5)) hb6
      have B6 := below_box (w := w) (by have hszw := (B5).size; repeat (with_reducible first | refine Below.setCell ?_ (by first | omega | (simp <;> omega)) _ | refine Below.alloc ?_ (by first | omega | (simp <;> omega)) _ | refine Below.drew ?_ | refine below_drewN ?_ _ | exact B5)) hb6
      have BZ6 : Below w3.heap.size w3 w6 := Below.trans (by have hszw := (BZ5).size; repeat (with_reducible first | refine Below.setCell ?_ (by first | omega | (simp <;> omega)) _ | refine Below.alloc ?_ (by first | omega | (simp <;> omega)) _ | refine Below.drew ?_ | refine below_drewN ?_ _ | exact BZ5)) (hb6.mono (by have := BZ5.size; first | exact this | (simp; omega)))
      clear hb6
      by_cases ht : tz Bt.natAbs = 0
      · have kt : (((tz Bt.natAbs : Nat) : Int) == 0) = true := by rw [ht]; rfl
        have HT0 := Lib.hid ht
        clear ht
        go_wp2_with fail
        refine (HS _ ak ck (by repeat (with_reducible first | refine Mag.set ?_ (fun h => by have := Mk6 h; omega) _ _ | refine Mag.drew ?_ | refine Mag.alloc ?_ _ | refine Mag.drewN ?_ _ | exact Mk6))).out.mono ?_
        rintro e w7 ⟨rfl, hb7⟩
        have Vm7 : BgV w7 b0 false (.slice a (nl x) cap) := (by refine BgV.below ?_ hb7; (repeat (with_reducible first | refine BgV.drew ?_ | refine BgV.drewN ?_ _ | refine BgV.alloc ?_ _)); exact Vm6.out)
        (try clear mc0 mc1 mc2)
        obtain ⟨mc0, mc1, mc2, mc3⟩ := Vm7
        have Vm7 := Lib.hid (BgV.mk mc0 mc1 mc2 mc3)
        have Vr7 : BgV w7 b1 false (.slice none 0 0) := (by refine BgV.below ?_ hb7; (repeat (with_reducible first | refine BgV.drew ?_ | refine BgV.drewN ?_ _ | refine BgV.alloc ?_ _)); exact Vr6.out)
        (try clear rc0 rc1 rc2)
        obtain ⟨rc0, rc1, rc2, rc3⟩ := Vr7
        have Vr7 := Lib.hid (BgV.mk rc0 rc1 rc2 rc3)
        have Vq7 : BgV w7 zq (decide (Q < 0)) (.slice aq (nl Q.natAbs) cq) := (by refine BgV.below ?_ hb7; (repeat (with_reducible first | refine BgV.drew ?_ | refine BgV.drewN ?_ _ | refine BgV.alloc ?_ _)); exact Vq6.out)
        (try clear qc0 qc1 qc2)
        obtain ⟨qc0, qc1, qc2, qc3⟩ := Vq7
        have Vq7 := Lib.hid (BgV.mk qc0 qc1 qc2 qc3)
        have Vb7 : BgV w7 zb (decide (Bt < 0)) (.slice ak (nl Bt.natAbs) ck) := (by refine BgV.below ?_ hb7; (repeat (with_reducible first | refine BgV.drew ?_ | refine BgV.drewN ?_ _ | refine BgV.alloc ?_ _)); exact Vb6.out)
        (try clear bc0 bc1 bc2)
        obtain ⟨bc0, bc1, bc2, bc3⟩ := Vb7
        have Vb7 := Lib.hid (BgV.mk bc0 bc1 bc2 bc3)
        have Mq7 : Mag w7 aq (nl Q.natAbs) cq Q.natAbs := Mag.below (by repeat (with_reducible first | refine Mag.set ?_ (fun h => by have := Mq6 h; omega) _ _ | refine Mag.drew ?_ | refine Mag.alloc ?_ _ | refine Mag.drewN ?_ _ | exact Mq6)) hb7
        have Mk7 : Mag w7 ak (nl Bt.natAbs) ck Bt.natAbs := Mag.below (by repeat (with_reducible first | refine Mag.set ?_ (fun h => by have := Mk6 h; omega) _ _ | refine Mag.drew ?_ | refine Mag.alloc ?_ _ | refine Mag.drewN ?_ _ | exact Mk6)) hb7
        have B7 := below_box (w := w) (by have hszw := (B6).size; repeat (with_reducible first | refine Below.setCell ?_ (by first | omega | (simp <;> omega)) _ | refine Below.alloc ?_ (by first | omega | (simp <;> omega)) _ | refine Below.drew ?_ | refine below_drewN ?_ _ | exact B6)) hb7
        have BZ7 : Below w3.heap.size w3 w7 := Below.trans (by have hszw := (BZ6).size; repeat (with_reducible first | refine Below.setCell ?_ (by first | omega | (simp <;> omega)) _ | refine Below.alloc ?_ (by first | omega | (simp <;> omega)) _ | refine Below.drew ?_ | refine below_drewN ?_ _ | exact BZ6)) (hb7.mono (by have := BZ6.size; first | exact this | (simp; omega)))
        clear hb7
        by_cases hz : Bt = 0
        · have kz : (g == 0) = true := by rw [HG.out]; exact sg0 hz
          have kz' : (g != 0) = false := by rw [bne, kz]; rfl
          have hH : H = -1 := by rw [HRC.out, if_pos (by rw [HB0.out.1 hz])]
          subst hH
          clear hz
          go_wp2_with fail
          go_meet
          exact ⟨rfl, BZ7⟩
        · have kz : (g == 0) = false := by rw [HG.out]; exact sg1 hz
          have kz' : (g != 0) = true := by rw [bne, kz]; rfl
          have hH : H = if more || lb2 then 1 else 0 := by rw [HRC.out, if_neg (by have := odd_of_tz (x := Bt.natAbs) (fun h => hz (HB0.out.2 h)) HT0.out; omega)]
          have HH2 := Lib.hid hH
          clear hH hz
          cases more with
          | true =>
            have hH : H = 1 := HH2.out
            subst hH
            go_wp2_with fail
            go_meet
            exact ⟨rfl, BZ7⟩
          | false =>
            go_wp2_with fail
            refine (HL2 _ (hx.below (by have hszw := (B7).size; repeat (with_reducible first | refine Below.setCell ?_ (by first | omega | (simp <;> omega)) _ | refine Below.alloc ?_ (by first | omega | (simp <;> omega)) _ | refine Below.drew ?_ | refine below_drewN ?_ _ | exact B7)))).out.mono ?_
            rintro e w8 ⟨rfl, hb8⟩
            have Vm8 : BgV w8 b0 false (.slice a (nl x) cap) := (by refine BgV.below ?_ hb8; (repeat (with_reducible first | refine BgV.drew ?_ | refine BgV.drewN ?_ _ | refine BgV.alloc ?_ _)); exact Vm7.out)
            (try clear mc0 mc1 mc2)
            obtain ⟨mc0, mc1, mc2, mc3⟩ := Vm8
            have Vm8 := Lib.hid (BgV.mk mc0 mc1 mc2 mc3)
            have Vr8 : BgV w8 b1 false (.slice none 0 0) := (by refine BgV.below ?_ hb8; (repeat (with_reducible first | refine BgV.drew ?_ | refine BgV.drewN ?_ _ | refine BgV.alloc ?_ _)); exact Vr7.out)
            (try clear rc0 rc1 rc2)
            obtain ⟨rc0, rc1, rc2, rc3⟩ := Vr8
            have Vr8 := Lib.hid (BgV.mk rc0 rc1 rc2 rc3)
            have Vq8 : BgV w8 zq (decide (Q < 0)) (.slice aq (nl Q.natAbs) cq) := (by refine BgV.below ?_ hb8; (repeat (with_reducible first | refine BgV.drew ?_ | refine BgV.drewN ?_ _ | refine BgV.alloc ?_ _)); exact Vq7.out)
            (try clear qc0 qc1 qc2)
            obtain ⟨qc0, qc1, qc2, qc3⟩ := Vq8
            have Vq8 := Lib.hid (BgV.mk qc0 qc1 qc2 qc3)
            have Vb8 : BgV w8 zb (decide (Bt < 0)) (.slice ak (nl Bt.natAbs) ck) := (by refine BgV.below ?_ hb8; (repeat (with_reducible first | refine BgV.drew ?_ | refine BgV.drewN ?_ _ | refine BgV.alloc ?_ _)); exact Vb7.out)
            (try clear bc0 bc1 bc2)
            obtain ⟨bc0, bc1, bc2, bc3⟩ := Vb8
            have Vb8 := Lib.hid (BgV.mk bc0 bc1 bc2 bc3)
            have Mq8 : Mag w8 aq (nl Q.natAbs) cq Q.natAbs := Mag.below (by repeat (with_reducible first | refine Mag.set ?_ (fun h => by have := Mq7 h; omega) _ _ | refine Mag.drew ?_ | refine Mag.alloc ?_ _ | refine Mag.drewN ?_ _ | exact Mq7)) hb8
            have Mk8 : Mag w8 ak (nl Bt.natAbs) ck Bt.natAbs := Mag.below (by repeat (with_reducible first | refine Mag.set ?_ (fun h => by have := Mk7 h; omega) _ _ | refine Mag.drew ?_ | refine Mag.alloc ?_ _ | refine Mag.drewN ?_ _ | exact Mk7)) hb8
            have B8 := below_box (w := w) (by have hszw := (B7).size; repeat (with_reducible first | refine Below.setCell ?_ (by first | omega | (simp <;> omega)) _ | refine Below.alloc ?_ (by first | omega | (simp <;> omega)) _ | refine Below.drew ?_ | refine below_drewN ?_ _ | exact B7)) hb8
            have BZ8 : Below w3.heap.size w3 w8 := Below.trans (by have hszw := (BZ7).size; repeat (with_reducible first | refine Below.setCell ?_ (by first | omega | (simp <;> omega)) _ | refine Below.alloc ?_ (by first | omega | (simp <;> omega)) _ | refine Below.drew ?_ | refine below_drewN ?_ _ | exact BZ7)) (hb8.mono (by have := BZ7.size; first | exact this | (simp; omega)))
            clear hb8
            cases lb2 with
            | true =>
              have hH : H = 1 := HH2.out
              subst hH
              go_wp2_with fail
              go_meet
              exact ⟨rfl, BZ8⟩
            | false =>
              have hH : H = 0 := HH2.out
              subst hH
              go_wp2_with fail
              go_meet
              exact ⟨rfl, BZ8⟩
      · have kt : (((tz Bt.natAbs : Nat) : Int) == 0) = false := by rw [beq_eq_false_iff_ne]; omega
        have hH : H = -1 := by rw [HRC.out, if_pos (by have := tz_odd (x := Bt.natAbs); omega)]
        subst hH
        clear ht
        go_wp2_with fail
        go_meet
        exact ⟨rfl, BZ6⟩
  case rest =>
  obtain ⟨w4, hww⟩ : ∃ w4, w4 = wc := ⟨_, rfl⟩
  subst hww
  obtain ⟨rfl, hbz⟩ := hcut
  have Vm4 : BgV w4 b0 false (.slice a (nl x) cap) := Vm3.out.below hbz
  have Vr4 : BgV w4 b1 false (.slice none 0 0) := Vr3.out.below hbz
  have Vq4 : BgV w4 zq (decide (Q < 0)) (.slice aq (nl Q.natAbs) cq) := Vq3.out.below hbz
  have Mq4 := Mq3.below hbz
  have B4 := below_box (w := w) B3 hbz
  clear hbz
  (try clear mc0 mc1 mc2)
  obtain ⟨mc0, mc1, mc2, mc3⟩ := Vm4
  have Vm4 := Lib.hid (BgV.mk mc0 mc1 mc2 mc3)
  (try clear rc0 rc1 rc2)
  obtain ⟨rc0, rc1, rc2, rc3⟩ := Vr4
  have Vr4 := Lib.hid (BgV.mk rc0 rc1 rc2 rc3)
  (try clear qc0 qc1 qc2)
  obtain ⟨qc0, qc1, qc2, qc3⟩ := Vq4
  have Vq4 := Lib.hid (BgV.mk qc0 qc1 qc2 qc3)
  have hQl : nl Q.natAbs ≤ 549755813888 := by
    rw [HQ.out, Int.natAbs_natCast]
    exact Nat.le_trans (nl_mono (Nat.div_le_self x (2 ^ n))) hl
  have hQn : Q.natAbs = x / 2 ^ n := by rw [HQ.out, Int.natAbs_natCast]
  have HUP := fun W o => Lib.hid (rup_any W neg o H mode)
  have hu := HU.out
  rw [← hQn] at hu
  have HU2 := Lib.hid hu
  have HS := fun W b c h => Lib.hid (rsgn_z W b c Q _ rfl h hQl)
  have HZ := fun W b c ht h => Lib.hid (rtrailing_any W ht (decide (Q < 0)) b (nl Q.natAbs) c Q.natAbs h (by omega))
  obtain ⟨g, hg⟩ : ∃ g, g = sg Q := ⟨_, rfl⟩
  rw [← hg] at HS
  have HG := Lib.hid hg
  obtain ⟨o, ho⟩ : ∃ o : Int, o = 1 := ⟨_, rfl⟩
  have HO : ∀ W, Hid (Calls Tryz.prog 219 #[.int .i64 1] W (RetBig W o)) := fun W => by rw [ho]; exact Lib.hid (rfromInt_any W 1 (by omega) (by omega))
  obtain ⟨Q1, hQ1⟩ : ∃ Q1, Q1 = Q + o := ⟨_, rfl⟩
  have HA := fun W b c b' c' h h' => Lib.hid (radd_zz W b b' c c' Q o Q1 hQ1 h h' hQl (by rw [ho]; decide))
  have hv1 : u = true → v = Q1 := fun h => by rw [HV.out, hQ1, ho, if_pos h]
  have hv0 : u = false → v = Q := fun h => by rw [HV.out, h]; simp
  have HV1 := Lib.hid hv1
  have HV0 := Lib.hid hv0
  have hQ0 : Q = 0 ↔ Q.natAbs = 0 := by omega
  have HQ0 := Lib.hid hQ0
  clear hu hg ho hQ1 hv1 hv0 hQ0 hQn hQl hn hl HU HQ HD HL
  go_wp2_with fail
  refine (HS _ aq cq (by repeat (with_reducible first | refine Mag.set ?_ (fun h => by have := Mq4 h; omega) _ _ | refine Mag.drew ?_ | refine Mag.alloc ?_ _ | refine Mag.drewN ?_ _ | exact Mq4))).out.mono ?_
  rintro e w5 ⟨rfl, hb5⟩
  have Vm5 : BgV w5 b0 false (.slice a (nl x) cap) := (by refine BgV.below ?_ hb5; (repeat (with_reducible first | refine BgV.drew ?_ | refine BgV.drewN ?_ _ | refine BgV.alloc ?_ _)); exact Vm4.out)
  (try clear mc0 mc1 mc2)
  obtain ⟨mc0, mc1, mc2, mc3⟩ := Vm5
  have Vm5 := Lib.hid (BgV.mk mc0 mc1 mc2 mc3)
  have Vr5 : BgV w5 b1 false (.slice none 0 0) := (by refine BgV.below ?_ hb5; (repeat (with_reducible first | refine BgV.drew ?_ | refine BgV.drewN ?_ _ | refine BgV.alloc ?_ _)); exact Vr4.out)
  (try clear rc0 rc1 rc2)
  obtain ⟨rc0, rc1, rc2, rc3⟩ := Vr5
  have Vr5 := Lib.hid (BgV.mk rc0 rc1 rc2 rc3)
  have Vq5 : BgV w5 zq (decide (Q < 0)) (.slice aq (nl Q.natAbs) cq) := (by refine BgV.below ?_ hb5; (repeat (with_reducible first | refine BgV.drew ?_ | refine BgV.drewN ?_ _ | refine BgV.alloc ?_ _)); exact Vq4.out)
  (try clear qc0 qc1 qc2)
  obtain ⟨qc0, qc1, qc2, qc3⟩ := Vq5
  have Vq5 := Lib.hid (BgV.mk qc0 qc1 qc2 qc3)
  have Mq5 : Mag w5 aq (nl Q.natAbs) cq Q.natAbs := Mag.below (by repeat (with_reducible first | refine Mag.set ?_ (fun h => by have := Mq4 h; omega) _ _ | refine Mag.drew ?_ | refine Mag.alloc ?_ _ | refine Mag.drewN ?_ _ | exact Mq4)) hb5
  have B5 := below_box (w := w) (by have hszw := (B4).size; repeat (with_reducible first | refine Below.setCell ?_ (by first | omega | (simp <;> omega)) _ | refine Below.alloc ?_ (by first | omega | (simp <;> omega)) _ | refine Below.drew ?_ | refine below_drewN ?_ _ | exact B4)) hb5
  clear hb5
  by_cases hz : Q = 0
  · have kz : (g == 0) = true := by rw [HG.out]; exact sg0 hz
    have kz' : (g != 0) = false := by rw [bne, kz]; rfl
    have HU3 : Hid (u = upB neg H false mode) := by rw [HU2.out, HQ0.out.1 hz]; rfl
    clear hz
    go_wp2_with fail
    refine (HUP _ false).out.mono ?_
    rintro e w6 ⟨rfl, hb6⟩
    have Vm6 : BgV w6 b0 false (.slice a (nl x) cap) := (by refine BgV.below ?_ hb6; (repeat (with_reducible first | refine BgV.drew ?_ | refine BgV.drewN ?_ _ | refine BgV.alloc ?_ _)); exact Vm5.out)
    (try clear mc0 mc1 mc2)
    obtain ⟨mc0, mc1, mc2, mc3⟩ := Vm6
    have Vm6 := Lib.hid (BgV.mk mc0 mc1 mc2 mc3)
    have Vr6 : BgV w6 b1 false (.slice none 0 0) := (by refine BgV.below ?_ hb6; (repeat (with_reducible first | refine BgV.drew ?_ | refine BgV.drewN ?_ _ | refine BgV.alloc ?_ _)); exact Vr5.out)
    (try clear rc0 rc1 rc2)
    obtain ⟨rc0, rc1, rc2, rc3⟩ := Vr6
    have Vr6 := Lib.hid (BgV.mk rc0 rc1 rc2 rc3)
    have Vq6 : BgV w6 zq (decide (Q < 0)) (.slice aq (nl Q.natAbs) cq) := (by refine BgV.below ?_ hb6; (repeat (with_reducible first | refine BgV.drew ?_ | refine BgV.drewN ?_ _ | refine BgV.alloc ?_ _)); exact Vq5.out)
    (try clear qc0 qc1 qc2)
    obtain ⟨qc0, qc1, qc2, qc3⟩ := Vq6
    have Vq6 := Lib.hid (BgV.mk qc0 qc1 qc2 qc3)
    have Mq6 : Mag w6 aq (nl Q.natAbs) cq Q.natAbs := Mag.below (by repeat (with_reducible first | refine Mag.set ?_ (fun h => by have := Mq5 h; omega) _ _ | refine Mag.drew ?_ | refine Mag.alloc ?_ _ | refine Mag.drewN ?_ _ | exact Mq5)) hb6
    have B6 := below_box (w := w) (by have hszw := (B5).size; repeat (with_reducible first | refine Below.setCell ?_ (by first | omega | (simp <;> omega)) _ | refine Below.alloc ?_ (by first | omega | (simp <;> omega)) _ | refine Below.drew ?_ | refine below_drewN ?_ _ | exact B5)) hb6
    clear hb6
    rw [← HU3.out]
    cases u with
    | true =>
      have hv : v = Q1 := HV1.out rfl
      subst hv
      go_wp2_with fail
      first
      | go_region_with
          (first
            | (go_at_call 247; have xx := B7; refine (HA _ aq cq a4 c4 (by repeat (with_reducible first | refine Mag.set ?_ (fun h => by have := Mq7 h; omega) _ _ | refine Mag.drew ?_ | refine Mag.alloc ?_ _ | refine Mag.drewN ?_ _ | exact Mq7)) (by repeat (with_reducible first | refine Mag.set ?_ (fun h => by have := M47 h; omega) _ _ | refine Mag.drew ?_ | refine Mag.alloc ?_ _ | refine Mag.drewN ?_ _ | exact M47))).out.mono ?_; rintro e w8 ⟨av, cv, rfl, Mv8, hb8, hf8⟩; have Vm8 : BgV w8 b0 false (.slice a (nl x) cap) := (by refine BgV.below ?_ hb8; (repeat (with_reducible first | refine BgV.drew ?_ | refine BgV.drewN ?_ _ | refine BgV.alloc ?_ _)); exact Vm7.out); (try clear mc0 mc1 mc2); obtain ⟨mc0, mc1, mc2, mc3⟩ := Vm8; have Vm8 := Lib.hid (BgV.mk mc0 mc1 mc2 mc3); have Vr8 : BgV w8 b1 false (.slice none 0 0) := (by refine BgV.below ?_ hb8; (repeat (with_reducible first | refine BgV.drew ?_ | refine BgV.drewN ?_ _ | refine BgV.alloc ?_ _)); exact Vr7.out); (try clear rc0 rc1 rc2); obtain ⟨rc0, rc1, rc2, rc3⟩ := Vr8; have Vr8 := Lib.hid (BgV.mk rc0 rc1 rc2 rc3); have Vq8 : BgV w8 zq (decide (Q < 0)) (.slice aq (nl Q.natAbs) cq) := (by refine BgV.below ?_ hb8; (repeat (with_reducible first | refine BgV.drew ?_ | refine BgV.drewN ?_ _ | refine BgV.alloc ?_ _)); exact Vq7.out); (try clear qc0 qc1 qc2); obtain ⟨qc0, qc1, qc2, qc3⟩ := Vq8; have Vq8 := Lib.hid (BgV.mk qc0 qc1 qc2 qc3); have Mq8 : Mag w8 aq (nl Q.natAbs) cq Q.natAbs := Mag.below (by repeat (with_reducible first | refine Mag.set ?_ (fun h => by have := Mq7 h; omega) _ _ | refine Mag.drew ?_ | refine Mag.alloc ?_ _ | refine Mag.drewN ?_ _ | exact Mq7)) hb8; have M48 : Mag w8 a4 (nl o.natAbs) c4 o.natAbs := Mag.below (by repeat (with_reducible first | refine Mag.set ?_ (fun h => by have := M47 h; omega) _ _ | refine Mag.drew ?_ | refine Mag.alloc ?_ _ | refine Mag.drewN ?_ _ | exact M47)) hb8; have B8 := below_box (w := w) (by have hszw := (B7).size; repeat (with_reducible first | refine Below.setCell ?_ (by first | omega | (simp <;> omega)) _ | refine Below.alloc ?_ (by first | omega | (simp <;> omega)) _ | refine Below.drew ?_ | refine below_drewN ?_ _ | exact B7)) hb8; have hF8 : 0 < (nl v.natAbs) → w7.heap.size ≤ ab av := (fun h => by have hq := hf8 h; (try simp at hq); omega); have frvm : 0 < (nl v.natAbs) → ab av ≠ b0 := (fun h => by have := hF8 h; have := Vm7.out.lt; omega); have frvr : 0 < (nl v.natAbs) → ab av ≠ b1 := (fun h => by have := hF8 h; have := Vr7.out.lt; omega); have frvq : 0 < (nl v.natAbs) → ab av ≠ zq := (fun h => by have := hF8 h; have := Vq7.out.lt; omega); have fov : 0 < (nl v.natAbs) → w.heap.size ≤ ab av := (fun h => by have := hF8 h; have := B7.size; omega); clear hF8; clear hb8 hf8)
            | (go_at_call 219; have xx := B6; refine (HO _).out.mono ?_; rintro e w7 ⟨a4, c4, rfl, M47, hb7, hf7⟩; have Vm7 : BgV w7 b0 false (.slice a (nl x) cap) := (by refine BgV.below ?_ hb7; (repeat (with_reducible first | refine BgV.drew ?_ | refine BgV.drewN ?_ _ | refine BgV.alloc ?_ _)); exact Vm6.out); (try clear mc0 mc1 mc2); obtain ⟨mc0, mc1, mc2, mc3⟩ := Vm7; have Vm7 := Lib.hid (BgV.mk mc0 mc1 mc2 mc3); have Vr7 : BgV w7 b1 false (.slice none 0 0) := (by refine BgV.below ?_ hb7; (repeat (with_reducible first | refine BgV.drew ?_ | refine BgV.drewN ?_ _ | refine BgV.alloc ?_ _)); exact Vr6.out); (try clear rc0 rc1 rc2); obtain ⟨rc0, rc1, rc2, rc3⟩ := Vr7; have Vr7 := Lib.hid (BgV.mk rc0 rc1 rc2 rc3); have Vq7 : BgV w7 zq (decide (Q < 0)) (.slice aq (nl Q.natAbs) cq) := (by refine BgV.below ?_ hb7; (repeat (with_reducible first | refine BgV.drew ?_ | refine BgV.drewN ?_ _ | refine BgV.alloc ?_ _)); exact Vq6.out); (try clear qc0 qc1 qc2); obtain ⟨qc0, qc1, qc2, qc3⟩ := Vq7; have Vq7 := Lib.hid (BgV.mk qc0 qc1 qc2 qc3); have Mq7 : Mag w7 aq (nl Q.natAbs) cq Q.natAbs := Mag.below (by repeat (with_reducible first | refine Mag.set ?_ (fun h => by have := Mq6 h; omega) _ _ | refine Mag.drew ?_ | refine Mag.alloc ?_ _ | refine Mag.drewN ?_ _ | exact Mq6)) hb7; have B7 := below_box (w := w) (by have hszw := (B6).size; repeat (with_reducible first | refine Below.setCell ?_ (by first | omega | (simp <;> omega)) _ | refine Below.alloc ?_ (by first | omega | (simp <;> omega)) _ | refine Below.drew ?_ | refine below_drewN ?_ _ | exact B6)) hb7; have hF7 : 0 < (nl o.natAbs) → w6.heap.size ≤ ab a4 := (fun h => by have hq := hf7 h; (try simp at hq); omega); have fr4m : 0 < (nl o.natAbs) → ab a4 ≠ b0 := (fun h => by have := hF7 h; have := Vm6.out.lt; omega); have fr4r : 0 < (nl o.natAbs) → ab a4 ≠ b1 := (fun h => by have := hF7 h; have := Vr6.out.lt; omega); have fr4q : 0 < (nl o.natAbs) → ab a4 ≠ zq := (fun h => by have := hF7 h; have := Vq6.out.lt; omega); have fo4 : 0 < (nl o.natAbs) → w.heap.size ≤ ab a4 := (fun h => by have := hF7 h; have := B6.size; omega); clear hF7; clear hb7 hf7)
            | fail)
      | fail "region"
      all_goals (
        have Vq9 := BgV.put Vq8.out (decide (v < 0)) (.slice av (nl v.natAbs) cv)
        have Vm9 := (BgV.set (BgV.set Vm8.out nmq 0 (.bool (decide (v < 0)))) nmq 1 (.slice av (nl v.natAbs) cv))
        have Vr9 := (BgV.set (BgV.set Vr8.out nrq 0 (.bool (decide (v < 0)))) nrq 1 (.slice av (nl v.natAbs) cv))
        have Mq9 := (Mag.set (Mag.set Mq8 frqq 0 (.bool (decide (v < 0)))) frqq 1 (.slice av (nl v.natAbs) cv))
        have M49 := (Mag.set (Mag.set M48 fr4q 0 (.bool (decide (v < 0)))) fr4q 1 (.slice av (nl v.natAbs) cv))
        have Mv9 := (Mag.set (Mag.set Mv8 frvq 0 (.bool (decide (v < 0)))) frvq 1 (.slice av (nl v.natAbs) cv))
        have B9 : Below w.heap.size w ((w8.setCell ⟨zq, 0, none⟩ (.bool (decide (v < 0)))).setCell ⟨zq, 1, none⟩ (.slice av (nl v.natAbs) cv)) := (by have hszw := (B8).size; repeat (with_reducible first | refine Below.setCell ?_ (by first | omega | (simp <;> omega)) _ | refine Below.alloc ?_ (by first | omega | (simp <;> omega)) _ | refine Below.drew ?_ | refine below_drewN ?_ _ | exact B8))
        generalize ((w8.setCell ⟨zq, 0, none⟩ (.bool (decide (v < 0)))).setCell ⟨zq, 1, none⟩ (.slice av (nl v.natAbs) cv)) = w9 at Vq9 Vm9 Vr9 Mq9 M49 Mv9 B9 ⊢
        (try clear mc0 mc1 mc2)
        obtain ⟨mc0, mc1, mc2, mc3⟩ := Vm9
        have Vm9 := Lib.hid (BgV.mk mc0 mc1 mc2 mc3)
        (try clear rc0 rc1 rc2)
        obtain ⟨rc0, rc1, rc2, rc3⟩ := Vr9
        have Vr9 := Lib.hid (BgV.mk rc0 rc1 rc2 rc3)
        (try clear qc0 qc1 qc2)
        obtain ⟨qc0, qc1, qc2, qc3⟩ := Vq9
        have Vq9 := Lib.hid (BgV.mk qc0 qc1 qc2 qc3)
        go_wp2_with fail
        refine bodyPost_ret (v := .agg #[.bool (decide (v < 0)), .slice av (nl v.natAbs) cv]) (by simp only [results, Tryz.results234]; go_simp) rfl ?_
        exact ⟨av, cv, rfl, (by repeat (with_reducible first | refine Mag.set ?_ frvm _ _ | refine Mag.set ?_ frvr _ _ | refine Mag.set ?_ frvq _ _ | refine Mag.drew ?_ | refine Mag.drewN ?_ _ | refine Mag.alloc ?_ _ | exact Mv9)), (by have hszw := (B9).size; repeat (with_reducible first | refine Below.setCell ?_ (by first | omega | (simp <;> omega)) _ | refine Below.alloc ?_ (by first | omega | (simp <;> omega)) _ | refine Below.drew ?_ | refine below_drewN ?_ _ | exact B9)), fov⟩)
    | false =>
      have hv : v = Q := HV0.out rfl
      subst hv
      go_wp2_with fail
      refine bodyPost_ret (v := .agg #[.bool (decide (v < 0)), .slice aq (nl v.natAbs) cq]) (by simp only [results, Tryz.results234]; go_simp) rfl ?_
      exact ⟨aq, cq, rfl, (by repeat (with_reducible first | refine Mag.set ?_ frqm _ _ | refine Mag.set ?_ frqr _ _ | refine Mag.set ?_ frqq _ _ | refine Mag.drew ?_ | refine Mag.drewN ?_ _ | refine Mag.alloc ?_ _ | exact Mq6)), (by have hszw := (B6).size; repeat (with_reducible first | refine Below.setCell ?_ (by first | omega | (simp <;> omega)) _ | refine Below.alloc ?_ (by first | omega | (simp <;> omega)) _ | refine Below.drew ?_ | refine below_drewN ?_ _ | exact B6)), foq⟩
  · have kz : (g == 0) = false := by rw [HG.out]; exact sg1 hz
    have kz' : (g != 0) = true := by rw [bne, kz]; rfl
    have HZ0 := Lib.hid (show Q.natAbs ≠ 0 from fun h => hz (HQ0.out.2 h))
    clear hz
    go_wp2_with fail
    refine (HZ _ aq cq (hT.below (by have hszw := (B5).size; repeat (with_reducible first | refine Below.setCell ?_ (by first | omega | (simp <;> omega)) _ | refine Below.alloc ?_ (by first | omega | (simp <;> omega)) _ | refine Below.drew ?_ | refine below_drewN ?_ _ | exact B5))) (by repeat (with_reducible first | refine Mag.set ?_ (fun h => by have := Mq5 h; omega) _ _ | refine Mag.drew ?_ | refine Mag.alloc ?_ _ | refine Mag.drewN ?_ _ | exact Mq5))).out.mono ?_
    rintro e w6 ⟨rfl, hb6⟩
    have Vm6 : BgV w6 b0 false (.slice a (nl x) cap) := (by refine BgV.below ?_ hb6; (repeat (with_reducible first | refine BgV.drew ?_ | refine BgV.drewN ?_ _ | refine BgV.alloc ?_ _)); exact Vm5.out)
    (try clear mc0 mc1 mc2)
    obtain ⟨mc0, mc1, mc2, mc3⟩ := Vm6
    have Vm6 := Lib.hid (BgV.mk mc0 mc1 mc2 mc3)
    have Vr6 : BgV w6 b1 false (.slice none 0 0) := (by refine BgV.below ?_ hb6; (repeat (with_reducible first | refine BgV.drew ?_ | refine BgV.drewN ?_ _ | refine BgV.alloc ?_ _)); exact Vr5.out)
    (try clear rc0 rc1 rc2)
    obtain ⟨rc0, rc1, rc2, rc3⟩ := Vr6
    have Vr6 := Lib.hid (BgV.mk rc0 rc1 rc2 rc3)
    have Vq6 : BgV w6 zq (decide (Q < 0)) (.slice aq (nl Q.natAbs) cq) := (by refine BgV.below ?_ hb6; (repeat (with_reducible first | refine BgV.drew ?_ | refine BgV.drewN ?_ _ | refine BgV.alloc ?_ _)); exact Vq5.out)
    (try clear qc0 qc1 qc2)
    obtain ⟨qc0, qc1, qc2, qc3⟩ := Vq6
    have Vq6 := Lib.hid (BgV.mk qc0 qc1 qc2 qc3)
    have Mq6 : Mag w6 aq (nl Q.natAbs) cq Q.natAbs := Mag.below (by repeat (with_reducible first | refine Mag.set ?_ (fun h => by have := Mq5 h; omega) _ _ | refine Mag.drew ?_ | refine Mag.alloc ?_ _ | refine Mag.drewN ?_ _ | exact Mq5)) hb6
    have B6 := below_box (w := w) (by have hszw := (B5).size; repeat (with_reducible first | refine Below.setCell ?_ (by first | omega | (simp <;> omega)) _ | refine Below.alloc ?_ (by first | omega | (simp <;> omega)) _ | refine Below.drew ?_ | refine below_drewN ?_ _ | exact B5)) hb6
    clear hb6
    by_cases ht : tz Q.natAbs = 0
    · have kt : (((tz Q.natAbs : Nat) : Int) == 0) = true := by rw [ht]; rfl
      have HU3 : Hid (u = upB neg H true mode) := by rw [HU2.out, decide_eq_true (odd_of_tz HZ0.out ht)]; rfl
      clear ht
      go_wp2_with fail
      refine (HUP _ true).out.mono ?_
      rintro e w7 ⟨rfl, hb7⟩
      have Vm7 : BgV w7 b0 false (.slice a (nl x) cap) := (by refine BgV.below ?_ hb7; (repeat (with_reducible first | refine BgV.drew ?_ | refine BgV.drewN ?_ _ | refine BgV.alloc ?_ _)); exact Vm6.out)
      (try clear mc0 mc1 mc2)
      obtain ⟨mc0, mc1, mc2, mc3⟩ := Vm7
      have Vm7 := Lib.hid (BgV.mk mc0 mc1 mc2 mc3)
      have Vr7 : BgV w7 b1 false (.slice none 0 0) := (by refine BgV.below ?_ hb7; (repeat (with_reducible first | refine BgV.drew ?_ | refine BgV.drewN ?_ _ | refine BgV.alloc ?_ _)); exact Vr6.out)
      (try clear rc0 rc1 rc2)
      obtain ⟨rc0, rc1, rc2, rc3⟩ := Vr7
      have Vr7 := Lib.hid (BgV.mk rc0 rc1 rc2 rc3)
      have Vq7 : BgV w7 zq (decide (Q < 0)) (.slice aq (nl Q.natAbs) cq) := (by refine BgV.below ?_ hb7; (repeat (with_reducible first | refine BgV.drew ?_ | refine BgV.drewN ?_ _ | refine BgV.alloc ?_ _)); exact Vq6.out)
      (try clear qc0 qc1 qc2)
      obtain ⟨qc0, qc1, qc2, qc3⟩ := Vq7
      have Vq7 := Lib.hid (BgV.mk qc0 qc1 qc2 qc3)
      have Mq7 : Mag w7 aq (nl Q.natAbs) cq Q.natAbs := Mag.below (by repeat (with_reducible first | refine Mag.set ?_ (fun h => by have := Mq6 h; omega) _ _ | refine Mag.drew ?_ | refine Mag.alloc ?_ _ | refine Mag.drewN ?_ _ | exact Mq6)) hb7
      have B7 := below_box (w := w) (by have hszw := (B6).size; repeat (with_reducible first | refine Below.setCell ?_ (by first | omega | (simp <;> omega)) _ | refine Below.alloc ?_ (by first | omega | (simp <;> omega)) _ | refine Below.drew ?_ | refine below_drewN ?_ _ | exact B6)) hb7
      clear hb7
      rw [← HU3.out]
      cases u with
      | true =>
        have hv : v = Q1 := HV1.out rfl
        subst hv
        go_wp2_with fail
        first
        | go_region_with
            (first
              | (go_at_call 247; have xx := B8; refine (HA _ aq cq a4 c4 (by repeat (with_reducible first | refine Mag.set ?_ (fun h => by have := Mq8 h; omega) _ _ | refine Mag.drew ?_ | refine Mag.alloc ?_ _ | refine Mag.drewN ?_ _ | exact Mq8)) (by repeat (with_reducible first | refine Mag.set ?_ (fun h => by have := M48 h; omega) _ _ | refine Mag.drew ?_ | refine Mag.alloc ?_ _ | refine Mag.drewN ?_ _ | exact M48))).out.mono ?_; rintro e w9 ⟨av, cv, rfl, Mv9, hb9, hf9⟩; have Vm9 : BgV w9 b0 false (.slice a (nl x) cap) := (by refine BgV.below ?_ hb9; (repeat (with_reducible first | refine BgV.drew ?_ | refine BgV.drewN ?_ _ | refine BgV.alloc ?_ _)); exact Vm8.out); (try clear mc0 mc1 mc2); obtain ⟨mc0, mc1, mc2, mc3⟩ := Vm9; have Vm9 := Lib.hid (BgV.mk mc0 mc1 mc2 mc3); have Vr9 : BgV w9 b1 false (.slice none 0 0) := (by refine BgV.below ?_ hb9; (repeat (with_reducible first | refine BgV.drew ?_ | refine BgV.drewN ?_ _ | refine BgV.alloc ?_ _)); exact Vr8.out); (try clear rc0 rc1 rc2); obtain ⟨rc0, rc1, rc2, rc3⟩ := Vr9; have Vr9 := Lib.hid (BgV.mk rc0 rc1 rc2 rc3); have Vq9 : BgV w9 zq (decide (Q < 0)) (.slice aq (nl Q.natAbs) cq) := (by refine BgV.below ?_ hb9; (repeat (with_reducible first | refine BgV.drew ?_ | refine BgV.drewN ?_ _ | refine BgV.alloc ?_ _)); exact Vq8.out); (try clear qc0 qc1 qc2); obtain ⟨qc0, qc1, qc2, qc3⟩ := Vq9; have Vq9 := Lib.hid (BgV.mk qc0 qc1 qc2 qc3); have Mq9 : Mag w9 aq (nl Q.natAbs) cq Q.natAbs := Mag.below (by repeat (with_reducible first | refine Mag.set ?_ (fun h => by have := Mq8 h; omega) _ _ | refine Mag.drew ?_ | refine Mag.alloc ?_ _ | refine Mag.drewN ?_ _ | exact Mq8)) hb9; have M49 : Mag w9 a4 (nl o.natAbs) c4 o.natAbs := Mag.below (by repeat (with_reducible first | refine Mag.set ?_ (fun h => by have := M48 h; omega) _ _ | refine Mag.drew ?_ | refine Mag.alloc ?_ _ | refine Mag.drewN ?_ _ | exact M48)) hb9; have B9 := below_box (w := w) (by have hszw := (B8).size; repeat (with_reducible first | refine Below.setCell ?_ (by first | omega | (simp <;> omega)) _ | refine Below.alloc ?_ (by first | omega | (simp <;> omega)) _ | refine Below.drew ?_ | refine below_drewN ?_ _ | exact B8)) hb9; have hF9 : 0 < (nl v.natAbs) → w8.heap.size ≤ ab av := (fun h => by have hq := hf9 h; (try simp at hq); omega); have frvm : 0 < (nl v.natAbs) → ab av ≠ b0 := (fun h => by have := hF9 h; have := Vm8.out.lt; omega); have frvr : 0 < (nl v.natAbs) → ab av ≠ b1 := (fun h => by have := hF9 h; have := Vr8.out.lt; omega); have frvq : 0 < (nl v.natAbs) → ab av ≠ zq := (fun h => by have := hF9 h; have := Vq8.out.lt; omega); have fov : 0 < (nl v.natAbs) → w.heap.size ≤ ab av := (fun h => by have := hF9 h; have := B8.size; omega); clear hF9; clear hb9 hf9)
              | (go_at_call 219; have xx := B7; refine (HO _).out.mono ?_; rintro e w8 ⟨a4, c4, rfl, M48, hb8, hf8⟩; have Vm8 : BgV w8 b0 false (.slice a (nl x) cap) := (by refine BgV.below ?_ hb8; (repeat (with_reducible first | refine BgV.drew ?_ | refine BgV.drewN ?_ _ | refine BgV.alloc ?_ _)); exact Vm7.out); (try clear mc0 mc1 mc2); obtain ⟨mc0, mc1, mc2, mc3⟩ := Vm8; have Vm8 := Lib.hid (BgV.mk mc0 mc1 mc2 mc3); have Vr8 : BgV w8 b1 false (.slice none 0 0) := (by refine BgV.below ?_ hb8; (repeat (with_reducible first | refine BgV.drew ?_ | refine BgV.drewN ?_ _ | refine BgV.alloc ?_ _)); exact Vr7.out); (try clear rc0 rc1 rc2); obtain ⟨rc0, rc1, rc2, rc3⟩ := Vr8; have Vr8 := Lib.hid (BgV.mk rc0 rc1 rc2 rc3); have Vq8 : BgV w8 zq (decide (Q < 0)) (.slice aq (nl Q.natAbs) cq) := (by refine BgV.below ?_ hb8; (repeat (with_reducible first | refine BgV.drew ?_ | refine BgV.drewN ?_ _ | refine BgV.alloc ?_ _)); exact Vq7.out); (try clear qc0 qc1 qc2); obtain ⟨qc0, qc1, qc2, qc3⟩ := Vq8; have Vq8 := Lib.hid (BgV.mk qc0 qc1 qc2 qc3); have Mq8 : Mag w8 aq (nl Q.natAbs) cq Q.natAbs := Mag.below (by repeat (with_reducible first | refine Mag.set ?_ (fun h => by have := Mq7 h; omega) _ _ | refine Mag.drew ?_ | refine Mag.alloc ?_ _ | refine Mag.drewN ?_ _ | exact Mq7)) hb8; have B8 := below_box (w := w) (by have hszw := (B7).size; repeat (with_reducible first | refine Below.setCell ?_ (by first | omega | (simp <;> omega)) _ | refine Below.alloc ?_ (by first | omega | (simp <;> omega)) _ | refine Below.drew ?_ | refine below_drewN ?_ _ | exact B7)) hb8; have hF8 : 0 < (nl o.natAbs) → w7.heap.size ≤ ab a4 := (fun h => by have hq := hf8 h; (try simp at hq); omega); have fr4m : 0 < (nl o.natAbs) → ab a4 ≠ b0 := (fun h => by have := hF8 h; have := Vm7.out.lt; omega); have fr4r : 0 < (nl o.natAbs) → ab a4 ≠ b1 := (fun h => by have := hF8 h; have := Vr7.out.lt; omega); have fr4q : 0 < (nl o.natAbs) → ab a4 ≠ zq := (fun h => by have := hF8 h; have := Vq7.out.lt; omega); have fo4 : 0 < (nl o.natAbs) → w.heap.size ≤ ab a4 := (fun h => by have := hF8 h; have := B7.size; omega); clear hF8; clear hb8 hf8)
              | fail)
        | fail "region"
        all_goals (
          have Vq10 := BgV.put Vq9.out (decide (v < 0)) (.slice av (nl v.natAbs) cv)
          have Vm10 := (BgV.set (BgV.set Vm9.out nmq 0 (.bool (decide (v < 0)))) nmq 1 (.slice av (nl v.natAbs) cv))
          have Vr10 := (BgV.set (BgV.set Vr9.out nrq 0 (.bool (decide (v < 0)))) nrq 1 (.slice av (nl v.natAbs) cv))
          have Mq10 := (Mag.set (Mag.set Mq9 frqq 0 (.bool (decide (v < 0)))) frqq 1 (.slice av (nl v.natAbs) cv))
          have M410 := (Mag.set (Mag.set M49 fr4q 0 (.bool (decide (v < 0)))) fr4q 1 (.slice av (nl v.natAbs) cv))
          have Mv10 := (Mag.set (Mag.set Mv9 frvq 0 (.bool (decide (v < 0)))) frvq 1 (.slice av (nl v.natAbs) cv))
          have B10 : Below w.heap.size w ((w9.setCell ⟨zq, 0, none⟩ (.bool (decide (v < 0)))).setCell ⟨zq, 1, none⟩ (.slice av (nl v.natAbs) cv)) := (by have hszw := (B9).size; repeat (with_reducible first | refine Below.setCell ?_ (by first | omega | (simp <;> omega)) _ | refine Below.alloc ?_ (by first | omega | (simp <;> omega)) _ | refine Below.drew ?_ | refine below_drewN ?_ _ | exact B9))
          generalize ((w9.setCell ⟨zq, 0, none⟩ (.bool (decide (v < 0)))).setCell ⟨zq, 1, none⟩ (.slice av (nl v.natAbs) cv)) = w10 at Vq10 Vm10 Vr10 Mq10 M410 Mv10 B10 ⊢
          (try clear mc0 mc1 mc2)
          obtain ⟨mc0, mc1, mc2, mc3⟩ := Vm10
          have Vm10 := Lib.hid (BgV.mk mc0 mc1 mc2 mc3)
          (try clear rc0 rc1 rc2)
          obtain ⟨rc0, rc1, rc2, rc3⟩ := Vr10
          have Vr10 := Lib.hid (BgV.mk rc0 rc1 rc2 rc3)
          (try clear qc0 qc1 qc2)
          obtain ⟨qc0, qc1, qc2, qc3⟩ := Vq10
          have Vq10 := Lib.hid (BgV.mk qc0 qc1 qc2 qc3)
          go_wp2_with fail
          refine bodyPost_ret (v := .agg #[.bool (decide (v < 0)), .slice av (nl v.natAbs) cv]) (by simp only [results, Tryz.results234]; go_simp) rfl ?_
          exact ⟨av, cv, rfl, (by repeat (with_reducible first | refine Mag.set ?_ frvm _ _ | refine Mag.set ?_ frvr _ _ | refine Mag.set ?_ frvq _ _ | refine Mag.drew ?_ | refine Mag.drewN ?_ _ | refine Mag.alloc ?_ _ | exact Mv10)), (by have hszw := (B10).size; repeat (with_reducible first | refine Below.setCell ?_ (by first | omega | (simp <;> omega)) _ | refine Below.alloc ?_ (by first | omega | (simp <;> omega)) _ | refine Below.drew ?_ | refine below_drewN ?_ _ | exact B10)), fov⟩)
      | false =>
        have hv : v = Q := HV0.out rfl
        subst hv
        go_wp2_with fail
        refine bodyPost_ret (v := .agg #[.bool (decide (v < 0)), .slice aq (nl v.natAbs) cq]) (by simp only [results, Tryz.results234]; go_simp) rfl ?_
        exact ⟨aq, cq, rfl, (by repeat (with_reducible first | refine Mag.set ?_ frqm _ _ | refine Mag.set ?_ frqr _ _ | refine Mag.set ?_ frqq _ _ | refine Mag.drew ?_ | refine Mag.drewN ?_ _ | refine Mag.alloc ?_ _ | exact Mq7)), (by have hszw := (B7).size; repeat (with_reducible first | refine Below.setCell ?_ (by first | omega | (simp <;> omega)) _ | refine Below.alloc ?_ (by first | omega | (simp <;> omega)) _ | refine Below.drew ?_ | refine below_drewN ?_ _ | exact B7)), foq⟩
    · have kt : (((tz Q.natAbs : Nat) : Int) == 0) = false := by rw [beq_eq_false_iff_ne]; omega
      have HU3 : Hid (u = upB neg H false mode) := by rw [HU2.out, decide_eq_false (fun h => ht (tz_odd h))]; rfl
      clear ht
      go_wp2_with fail
      refine (HUP _ false).out.mono ?_
      rintro e w7 ⟨rfl, hb7⟩
      have Vm7 : BgV w7 b0 false (.slice a (nl x) cap) := (by refine BgV.below ?_ hb7; (repeat (with_reducible first | refine BgV.drew ?_ | refine BgV.drewN ?_ _ | refine BgV.alloc ?_ _)); exact Vm6.out)
      (try clear mc0 mc1 mc2)
      obtain ⟨mc0, mc1, mc2, mc3⟩ := Vm7
      have Vm7 := Lib.hid (BgV.mk mc0 mc1 mc2 mc3)
      have Vr7 : BgV w7 b1 false (.slice none 0 0) := (by refine BgV.below ?_ hb7; (repeat (with_reducible first | refine BgV.drew ?_ | refine BgV.drewN ?_ _ | refine BgV.alloc ?_ _)); exact Vr6.out)
      (try clear rc0 rc1 rc2)
      obtain ⟨rc0, rc1, rc2, rc3⟩ := Vr7
      have Vr7 := Lib.hid (BgV.mk rc0 rc1 rc2 rc3)
      have Vq7 : BgV w7 zq (decide (Q < 0)) (.slice aq (nl Q.natAbs) cq) := (by refine BgV.below ?_ hb7; (repeat (with_reducible first | refine BgV.drew ?_ | refine BgV.drewN ?_ _ | refine BgV.alloc ?_ _)); exact Vq6.out)
      (try clear qc0 qc1 qc2)
      obtain ⟨qc0, qc1, qc2, qc3⟩ := Vq7
      have Vq7 := Lib.hid (BgV.mk qc0 qc1 qc2 qc3)
      have Mq7 : Mag w7 aq (nl Q.natAbs) cq Q.natAbs := Mag.below (by repeat (with_reducible first | refine Mag.set ?_ (fun h => by have := Mq6 h; omega) _ _ | refine Mag.drew ?_ | refine Mag.alloc ?_ _ | refine Mag.drewN ?_ _ | exact Mq6)) hb7
      have B7 := below_box (w := w) (by have hszw := (B6).size; repeat (with_reducible first | refine Below.setCell ?_ (by first | omega | (simp <;> omega)) _ | refine Below.alloc ?_ (by first | omega | (simp <;> omega)) _ | refine Below.drew ?_ | refine below_drewN ?_ _ | exact B6)) hb7
      clear hb7
      rw [← HU3.out]
      cases u with
      | true =>
        have hv : v = Q1 := HV1.out rfl
        subst hv
        go_wp2_with fail
        first
        | go_region_with
            (first
              | (go_at_call 247; have xx := B8; refine (HA _ aq cq a4 c4 (by repeat (with_reducible first | refine Mag.set ?_ (fun h => by have := Mq8 h; omega) _ _ | refine Mag.drew ?_ | refine Mag.alloc ?_ _ | refine Mag.drewN ?_ _ | exact Mq8)) (by repeat (with_reducible first | refine Mag.set ?_ (fun h => by have := M48 h; omega) _ _ | refine Mag.drew ?_ | refine Mag.alloc ?_ _ | refine Mag.drewN ?_ _ | exact M48))).out.mono ?_; rintro e w9 ⟨av, cv, rfl, Mv9, hb9, hf9⟩; have Vm9 : BgV w9 b0 false (.slice a (nl x) cap) := (by refine BgV.below ?_ hb9; (repeat (with_reducible first | refine BgV.drew ?_ | refine BgV.drewN ?_ _ | refine BgV.alloc ?_ _)); exact Vm8.out); (try clear mc0 mc1 mc2); obtain ⟨mc0, mc1, mc2, mc3⟩ := Vm9; have Vm9 := Lib.hid (BgV.mk mc0 mc1 mc2 mc3); have Vr9 : BgV w9 b1 false (.slice none 0 0) := (by refine BgV.below ?_ hb9; (repeat (with_reducible first | refine BgV.drew ?_ | refine BgV.drewN ?_ _ | refine BgV.alloc ?_ _)); exact Vr8.out); (try clear rc0 rc1 rc2); obtain ⟨rc0, rc1, rc2, rc3⟩ := Vr9; have Vr9 := Lib.hid (BgV.mk rc0 rc1 rc2 rc3); have Vq9 : BgV w9 zq (decide (Q < 0)) (.slice aq (nl Q.natAbs) cq) := (by refine BgV.below ?_ hb9; (repeat (with_reducible first | refine BgV.drew ?_ | refine BgV.drewN ?_ _ | refine BgV.alloc ?_ _)); exact Vq8.out); (try clear qc0 qc1 qc2); obtain ⟨qc0, qc1, qc2, qc3⟩ := Vq9; have Vq9 := Lib.hid (BgV.mk qc0 qc1 qc2 qc3); have Mq9 : Mag w9 aq (nl Q.natAbs) cq Q.natAbs := Mag.below (by repeat (with_reducible first | refine Mag.set ?_ (fun h => by have := Mq8 h; omega) _ _ | refine Mag.drew ?_ | refine Mag.alloc ?_ _ | refine Mag.drewN ?_ _ | exact Mq8)) hb9; have M49 : Mag w9 a4 (nl o.natAbs) c4 o.natAbs := Mag.below (by repeat (with_reducible first | refine Mag.set ?_ (fun h => by have := M48 h; omega) _ _ | refine Mag.drew ?_ | refine Mag.alloc ?_ _ | refine Mag.drewN ?_ _ | exact M48)) hb9; have B9 := below_box (w := w) (by have hszw := (B8).size; repeat (with_reducible first | refine Below.setCell ?_ (by first | omega | (simp <;> omega)) _ | refine Below.alloc ?_ (by first | omega | (simp <;> omega)) _ | refine Below.drew ?_ | refine below_drewN ?_ _ | exact B8)) hb9; have hF9 : 0 < (nl v.natAbs) → w8.heap.size ≤ ab av := (fun h => by have hq := hf9 h; (try simp at hq); omega); have frvm : 0 < (nl v.natAbs) → ab av ≠ b0 := (fun h => by have := hF9 h; have := Vm8.out.lt; omega); have frvr : 0 < (nl v.natAbs) → ab av ≠ b1 := (fun h => by have := hF9 h; have := Vr8.out.lt; omega); have frvq : 0 < (nl v.natAbs) → ab av ≠ zq := (fun h => by have := hF9 h; have := Vq8.out.lt; omega); have fov : 0 < (nl v.natAbs) → w.heap.size ≤ ab av := (fun h => by have := hF9 h; have := B8.size; omega); clear hF9; clear hb9 hf9)
              | (go_at_call 219; have xx := B7; refine (HO _).out.mono ?_; rintro e w8 ⟨a4, c4, rfl, M48, hb8, hf8⟩; have Vm8 : BgV w8 b0 false (.slice a (nl x) cap) := (by refine BgV.below ?_ hb8; (repeat (with_reducible first | refine BgV.drew ?_ | refine BgV.drewN ?_ _ | refine BgV.alloc ?_ _)); exact Vm7.out); (try clear mc0 mc1 mc2); obtain ⟨mc0, mc1, mc2, mc3⟩ := Vm8; have Vm8 := Lib.hid (BgV.mk mc0 mc1 mc2 mc3); have Vr8 : BgV w8 b1 false (.slice none 0 0) := (by refine BgV.below ?_ hb8; (repeat (with_reducible first | refine BgV.drew ?_ | refine BgV.drewN ?_ _ | refine BgV.alloc ?_ _)); exact Vr7.out); (try clear rc0 rc1 rc2); obtain ⟨rc0, rc1, rc2, rc3⟩ := Vr8; have Vr8 := Lib.hid (BgV.mk rc0 rc1 rc2 rc3); have Vq8 : BgV w8 zq (decide (Q < 0)) (.slice aq (nl Q.natAbs) cq) := (by refine BgV.below ?_ hb8; (repeat (with_reducible first | refine BgV.drew ?_ | refine BgV.drewN ?_ _ | refine BgV.alloc ?_ _)); exact Vq7.out); (try clear qc0 qc1 qc2); obtain ⟨qc0, qc1, qc2, qc3⟩ := Vq8; have Vq8 := Lib.hid (BgV.mk qc0 qc1 qc2 qc3); have Mq8 : Mag w8 aq (nl Q.natAbs) cq Q.natAbs := Mag.below (by repeat (with_reducible first | refine Mag.set ?_ (fun h => by have := Mq7 h; omega) _ _ | refine Mag.drew ?_ | refine Mag.alloc ?_ _ | refine Mag.drewN ?_ _ | exact Mq7)) hb8; have B8 := below_box (w := w) (by have hszw := (B7).size; repeat (with_reducible first | refine Below.setCell ?_ (by first | omega | (simp <;> omega)) _ | refine Below.alloc ?_ (by first | omega | (simp <;> omega)) _ | refine Below.drew ?_ | refine below_drewN ?_ _ | exact B7)) hb8; have hF8 : 0 < (nl o.natAbs) → w7.heap.size ≤ ab a4 := (fun h => by have hq := hf8 h; (try simp at hq); omega); have fr4m : 0 < (nl o.natAbs) → ab a4 ≠ b0 := (fun h => by have := hF8 h; have := Vm7.out.lt; omega); have fr4r : 0 < (nl o.natAbs) → ab a4 ≠ b1 := (fun h => by have := hF8 h; have := Vr7.out.lt; omega); have fr4q : 0 < (nl o.natAbs) → ab a4 ≠ zq := (fun h => by have := hF8 h; have := Vq7.out.lt; omega); have fo4 : 0 < (nl o.natAbs) → w.heap.size ≤ ab a4 := (fun h => by have := hF8 h; have := B7.size; omega); clear hF8; clear hb8 hf8)
              | fail)
        | fail "region"
        all_goals (
          have Vq10 := BgV.put Vq9.out (decide (v < 0)) (.slice av (nl v.natAbs) cv)
          have Vm10 := (BgV.set (BgV.set Vm9.out nmq 0 (.bool (decide (v < 0)))) nmq 1 (.slice av (nl v.natAbs) cv))
          have Vr10 := (BgV.set (BgV.set Vr9.out nrq 0 (.bool (decide (v < 0)))) nrq 1 (.slice av (nl v.natAbs) cv))
          have Mq10 := (Mag.set (Mag.set Mq9 frqq 0 (.bool (decide (v < 0)))) frqq 1 (.slice av (nl v.natAbs) cv))
          have M410 := (Mag.set (Mag.set M49 fr4q 0 (.bool (decide (v < 0)))) fr4q 1 (.slice av (nl v.natAbs) cv))
          have Mv10 := (Mag.set (Mag.set Mv9 frvq 0 (.bool (decide (v < 0)))) frvq 1 (.slice av (nl v.natAbs) cv))
          have B10 : Below w.heap.size w ((w9.setCell ⟨zq, 0, none⟩ (.bool (decide (v < 0)))).setCell ⟨zq, 1, none⟩ (.slice av (nl v.natAbs) cv)) := (by have hszw := (B9).size; repeat (with_reducible first | refine Below.setCell ?_ (by first | omega | (simp <;> omega)) _ | refine Below.alloc ?_ (by first | omega | (simp <;> omega)) _ | refine Below.drew ?_ | refine below_drewN ?_ _ | exact B9))
          generalize ((w9.setCell ⟨zq, 0, none⟩ (.bool (decide (v < 0)))).setCell ⟨zq, 1, none⟩ (.slice av (nl v.natAbs) cv)) = w10 at Vq10 Vm10 Vr10 Mq10 M410 Mv10 B10 ⊢
          (try clear mc0 mc1 mc2)
          obtain ⟨mc0, mc1, mc2, mc3⟩ := Vm10
          have Vm10 := Lib.hid (BgV.mk mc0 mc1 mc2 mc3)
          (try clear rc0 rc1 rc2)
          obtain ⟨rc0, rc1, rc2, rc3⟩ := Vr10
          have Vr10 := Lib.hid (BgV.mk rc0 rc1 rc2 rc3)
          (try clear qc0 qc1 qc2)
          obtain ⟨qc0, qc1, qc2, qc3⟩ := Vq10
          have Vq10 := Lib.hid (BgV.mk qc0 qc1 qc2 qc3)
          go_wp2_with fail
          refine bodyPost_ret (v := .agg #[.bool (decide (v < 0)), .slice av (nl v.natAbs) cv]) (by simp only [results, Tryz.results234]; go_simp) rfl ?_
          exact ⟨av, cv, rfl, (by repeat (with_reducible first | refine Mag.set ?_ frvm _ _ | refine Mag.set ?_ frvr _ _ | refine Mag.set ?_ frvq _ _ | refine Mag.drew ?_ | refine Mag.drewN ?_ _ | refine Mag.alloc ?_ _ | exact Mv10)), (by have hszw := (B10).size; repeat (with_reducible first | refine Below.setCell ?_ (by first | omega | (simp <;> omega)) _ | refine Below.alloc ?_ (by first | omega | (simp <;> omega)) _ | refine Below.drew ?_ | refine below_drewN ?_ _ | exact B10)), fov⟩)
      | false =>
        have hv : v = Q := HV0.out rfl
        subst hv
        go_wp2_with fail
        refine bodyPost_ret (v := .agg #[.bool (decide (v < 0)), .slice aq (nl v.natAbs) cq]) (by simp only [results, Tryz.results234]; go_simp) rfl ?_
        exact ⟨aq, cq, rfl, (by repeat (with_reducible first | refine Mag.set ?_ frqm _ _ | refine Mag.set ?_ frqr _ _ | refine Mag.set ?_ frqq _ _ | refine Mag.drew ?_ | refine Mag.drewN ?_ _ | refine Mag.alloc ?_ _ | exact Mq7)), (by have hszw := (B7).size; repeat (with_reducible first | refine Below.setCell ?_ (by first | omega | (simp <;> omega)) _ | refine Below.alloc ?_ (by first | omega | (simp <;> omega)) _ | refine Below.drew ?_ | refine below_drewN ?_ _ | exact B7)), foq⟩
set_option maxRecDepth 100000 in
set_option maxHeartbeats 2000000 in
theorem rcut_upB (w : World) (hT : Tab w) (neg more : Bool) (a : Option Addr) (cap x n : Nat) (mode : Int) (hx : Mag w a (nl x) cap x) (hl : nl x ≤ 549755813888) (hn : n ≤ 1048576) (hlb : decide (x % 2 ^ n ≠ 0) = false) (hm : more = true) (Q : Int) (hQ : Q = ((x / 2 ^ n : Nat) : Int)) (H : Int) (hH : H = rcm x more n) (u : Bool) (hu : u = upB neg H (decide ((x / 2 ^ n) % 2 = 1)) mode) (v : Int) (hv : v = Q + if u then 1 else 0) :
    Calls Tryz.prog 234 #[.bool neg, .agg #[.bool false, .slice a (nl x) cap], .int .i64 n, .bool more, .int .i64 mode] w (RetBig w v) := by
  have HD := fun W h => Lib.hid (rdown_any W a (nl x) cap x n h hl hn)
  have HL := fun W h => Lib.hid (rlost_any W false a (nl x) cap x n h hl hn)
  rw [hlb] at HL
  rw [← hQ] at HD
  have HU := Lib.hid hu
  have HV := Lib.hid hv
  have HQ := Lib.hid hQ
  have HHH := Lib.hid hH
  clear hu hv hQ hH hlb
  go_enter Tryz.func234, Tryz.ntmps234
  go_wp2_with fail
  have Im := ((BgV.made' w 24 false (.slice a (nl x) cap) (n := w.heap.size) (by rfl)).alloc (.cells #[.bool false, (.slice none 0 0)] 24))
  have Ir := (BgV.made' (w.alloc (.cells #[.bool false, (.slice a (nl x) cap)] 24)) 24 false (.slice none 0 0) (n := w.heap.size + 1) (by rw [World.size_alloc]))
  have B0 : Below w.heap.size w ((w.alloc (.cells #[.bool false, (.slice a (nl x) cap)] 24)).alloc (.cells #[.bool false, (.slice none 0 0)] 24)) := (by repeat (with_reducible first | refine Below.setCell ?_ (by simp <;> omega) _ | refine Below.alloc ?_ (by simp <;> omega) _ | refine Below.drew ?_ | refine below_drewN ?_ _ | exact Below.refl _ _))
  have nmr : ¬ w.heap.size = w.heap.size + 1 := by omega
  have nrm : ¬ w.heap.size + 1 = w.heap.size := by omega
  generalize ((w.alloc (.cells #[.bool false, (.slice a (nl x) cap)] 24)).alloc (.cells #[.bool false, (.slice none 0 0)] 24)) = w0 at Im Ir B0 ⊢
  generalize hb1 : w.heap.size + 1 = b1 at Ir nmr nrm ⊢
  generalize hb0 : w.heap.size = b0 at Im nmr nrm hb1 ⊢
  obtain ⟨mc0, mc1, mc2, mc3⟩ := Im
  have Vm0 := Lib.hid (BgV.mk mc0 mc1 mc2 mc3)
  obtain ⟨rc0, rc1, rc2, rc3⟩ := Ir
  have Vr0 := Lib.hid (BgV.mk rc0 rc1 rc2 rc3)
  refine (HD _ (hx.below (by have hszw := (B0).size; repeat (with_reducible first | refine Below.setCell ?_ (by first | omega | (simp <;> omega)) _ | refine Below.alloc ?_ (by first | omega | (simp <;> omega)) _ | refine Below.drew ?_ | refine below_drewN ?_ _ | exact B0)))).out.mono ?_
  rintro e w1 ⟨aq, cq, rfl, Mq1, hb1, hf1⟩
  have Vm1 : BgV w1 b0 false (.slice a (nl x) cap) := (by refine BgV.below ?_ hb1; (repeat (with_reducible first | refine BgV.drew ?_ | refine BgV.drewN ?_ _ | refine BgV.alloc ?_ _)); exact Vm0.out)
  (try clear mc0 mc1 mc2)
  obtain ⟨mc0, mc1, mc2, mc3⟩ := Vm1
  have Vm1 := Lib.hid (BgV.mk mc0 mc1 mc2 mc3)
  have Vr1 : BgV w1 b1 false (.slice none 0 0) := (by refine BgV.below ?_ hb1; (repeat (with_reducible first | refine BgV.drew ?_ | refine BgV.drewN ?_ _ | refine BgV.alloc ?_ _)); exact Vr0.out)
  (try clear rc0 rc1 rc2)
  obtain ⟨rc0, rc1, rc2, rc3⟩ := Vr1
  have Vr1 := Lib.hid (BgV.mk rc0 rc1 rc2 rc3)
  have B1 := below_box (w := w) (by have hszw := (B0).size; repeat (with_reducible first | refine Below.setCell ?_ (by first | omega | (simp <;> omega)) _ | refine Below.alloc ?_ (by first | omega | (simp <;> omega)) _ | refine Below.drew ?_ | refine below_drewN ?_ _ | exact B0)) hb1
  have hF1 : 0 < (nl Q.natAbs) → w0.heap.size ≤ ab aq := (fun h => by have hq := hf1 h; (try simp at hq); omega)
  have frqm : 0 < (nl Q.natAbs) → ab aq ≠ b0 := (fun h => by have := hF1 h; have := Vm0.out.lt; omega)
  have frqr : 0 < (nl Q.natAbs) → ab aq ≠ b1 := (fun h => by have := hF1 h; have := Vr0.out.lt; omega)
  have foq : 0 < (nl Q.natAbs) → w.heap.size ≤ ab aq := (fun h => by have := hF1 h; have := B0.size; omega)
  clear hF1
  clear hb1 hf1
  go_wp2_with fail
  have Vq2 := (BgV.made' w1 24 (decide (Q < 0)) (.slice aq (nl Q.natAbs) cq) (n := w1.heap.size) (by rfl))
  have Vm2 := (BgV.alloc Vm1.out (.cells #[.bool (decide (Q < 0)), (.slice aq (nl Q.natAbs) cq)] 24))
  have Vr2 := (BgV.alloc Vr1.out (.cells #[.bool (decide (Q < 0)), (.slice aq (nl Q.natAbs) cq)] 24))
  have Mq2 := (Mag.alloc Mq1 (.cells #[.bool (decide (Q < 0)), (.slice aq (nl Q.natAbs) cq)] 24))
  have B2 : Below w.heap.size w (w1.alloc (.cells #[.bool (decide (Q < 0)), (.slice aq (nl Q.natAbs) cq)] 24)) := (by have hszw := (B1).size; repeat (with_reducible first | refine Below.setCell ?_ (by first | omega | (simp <;> omega)) _ | refine Below.alloc ?_ (by first | omega | (simp <;> omega)) _ | refine Below.drew ?_ | refine below_drewN ?_ _ | exact B1))
  have nmq : ¬ b0 = w1.heap.size := by have := Vm1.out.lt; omega
  have nqm : ¬ w1.heap.size = b0 := by have := Vm1.out.lt; omega
  have nrq : ¬ b1 = w1.heap.size := by have := Vr1.out.lt; omega
  have nqr : ¬ w1.heap.size = b1 := by have := Vr1.out.lt; omega
  have frqq : 0 < (nl Q.natAbs) → ab aq ≠ w1.heap.size := fun h => by have := Mq1.old h; omega
  have gq : w.heap.size ≤ w1.heap.size := by have := B1.size; omega
  generalize (w1.alloc (.cells #[.bool (decide (Q < 0)), (.slice aq (nl Q.natAbs) cq)] 24)) = w2 at Vq2 Vm2 Vr2 Mq2 B2 ⊢
  generalize w1.heap.size = zq at Vq2 nmq nqm nrq nqr frqq gq ⊢
  (try clear mc0 mc1 mc2)
  obtain ⟨mc0, mc1, mc2, mc3⟩ := Vm2
  have Vm2 := Lib.hid (BgV.mk mc0 mc1 mc2 mc3)
  (try clear rc0 rc1 rc2)
  obtain ⟨rc0, rc1, rc2, rc3⟩ := Vr2
  have Vr2 := Lib.hid (BgV.mk rc0 rc1 rc2 rc3)
  (try clear qc0 qc1 qc2)
  obtain ⟨qc0, qc1, qc2, qc3⟩ := Vq2
  have Vq2 := Lib.hid (BgV.mk qc0 qc1 qc2 qc3)
  refine (HL _ (hx.below (by have hszw := (B2).size; repeat (with_reducible first | refine Below.setCell ?_ (by first | omega | (simp <;> omega)) _ | refine Below.alloc ?_ (by first | omega | (simp <;> omega)) _ | refine Below.drew ?_ | refine below_drewN ?_ _ | exact B2)))).out.mono ?_
  rintro e w3 ⟨rfl, hb3⟩
  have Vm3 : BgV w3 b0 false (.slice a (nl x) cap) := (by refine BgV.below ?_ hb3; (repeat (with_reducible first | refine BgV.drew ?_ | refine BgV.drewN ?_ _ | refine BgV.alloc ?_ _)); exact Vm2.out)
  (try clear mc0 mc1 mc2)
  obtain ⟨mc0, mc1, mc2, mc3⟩ := Vm3
  have Vm3 := Lib.hid (BgV.mk mc0 mc1 mc2 mc3)
  have Vr3 : BgV w3 b1 false (.slice none 0 0) := (by refine BgV.below ?_ hb3; (repeat (with_reducible first | refine BgV.drew ?_ | refine BgV.drewN ?_ _ | refine BgV.alloc ?_ _)); exact Vr2.out)
  (try clear rc0 rc1 rc2)
  obtain ⟨rc0, rc1, rc2, rc3⟩ := Vr3
  have Vr3 := Lib.hid (BgV.mk rc0 rc1 rc2 rc3)
  have Vq3 : BgV w3 zq (decide (Q < 0)) (.slice aq (nl Q.natAbs) cq) := (by refine BgV.below ?_ hb3; (repeat (with_reducible first | refine BgV.drew ?_ | refine BgV.drewN ?_ _ | refine BgV.alloc ?_ _)); exact Vq2.out)
  (try clear qc0 qc1 qc2)
  obtain ⟨qc0, qc1, qc2, qc3⟩ := Vq3
  have Vq3 := Lib.hid (BgV.mk qc0 qc1 qc2 qc3)
  have Mq3 : Mag w3 aq (nl Q.natAbs) cq Q.natAbs := Mag.below (by repeat (with_reducible first | refine Mag.set ?_ (fun h => by have := Mq2 h; omega) _ _ | refine Mag.drew ?_ | refine Mag.alloc ?_ _ | refine Mag.drewN ?_ _ | exact Mq2)) hb3
  have B3 := below_box (w := w) (by have hszw := (B2).size; repeat (with_reducible first | refine Below.setCell ?_ (by first | omega | (simp <;> omega)) _ | refine Below.alloc ?_ (by first | omega | (simp <;> omega)) _ | refine Below.drew ?_ | refine below_drewN ?_ _ | exact B2)) hb3
  clear hb3
  go_upto_if 30 with fail
  go_cut [13] (fun hv wx => hv = .int .i64 H ∧ Below w3.heap.size w3 wx)
  case first =>
    have hqz : Below w3.heap.size w3 w3 := Below.refl _ _
    have BZ3 := hqz
    rcases Nat.eq_zero_or_pos n with hn0 | hn0
    · subst hn0
      have hH : H = -1 := by rw [HHH.out]; exact rcm_zero x more
      subst hH
      go_wp2_with fail
      go_meet
      exact ⟨rfl, hqz⟩
    · obtain ⟨m, hm1⟩ : ∃ m, n = m + 1 := ⟨n - 1, by omega⟩
      have hnm : (n : Int) - 1 = (m : Int) := by omega
      have hn2 : (n : Int) ≤ 1048576 := by omega
      have k0 : decide (0 < n) = true := by simpa using hn0
      have HD2 := fun W h => Lib.hid (rdown_any W a (nl x) cap x m h hl (by omega))
      have HL2 := fun W h => Lib.hid (rlost_any W false a (nl x) cap x m h hl (by omega))
      obtain ⟨Bt, hBt⟩ : ∃ Bt : Int, Bt = ((x / 2 ^ m : Nat) : Int) := ⟨_, rfl⟩
      have hBl : nl Bt.natAbs ≤ 549755813888 := by
        rw [hBt, Int.natAbs_natCast]
        exact Nat.le_trans (nl_mono (Nat.div_le_self x (2 ^ m))) hl
      rw [← hBt] at HD2
      have HS := fun W b c h => Lib.hid (rsgn_z W b c Bt _ rfl h hBl)
      have HZ := fun W b c ht h => Lib.hid (rtrailing_any W ht (decide (Bt < 0)) b (nl Bt.natAbs) c Bt.natAbs h (by omega))
      have hrc := rcm_bit x more m
      rw [← hm1] at hrc
      rw [show (x / 2 ^ m) = Bt.natAbs by rw [hBt]; exact (Int.natAbs_natCast _).symm, ← HHH.out] at hrc
      have HRC := Lib.hid hrc
      have hB0 : Bt = 0 ↔ Bt.natAbs = 0 := by omega
      have HB0 := Lib.hid hB0
      obtain ⟨g, hg⟩ : ∃ g, g = sg Bt := ⟨_, rfl⟩
      rw [← hg] at HS
      have HG := Lib.hid hg
      obtain ⟨lb2, hlb2⟩ : ∃ lb2, lb2 = decide (x % 2 ^ m ≠ 0) := ⟨_, rfl⟩
      rw [← hlb2] at HL2 hrc
      have HRC := Lib.hid hrc
      clear hrc hB0 hg hlb2 hBl hBt hn hl hm1
      go_wp2_with fail
      refine (HD2 _ (hx.below (by have hszw := (B3).size; repeat (with_reducible first | refine Below.setCell ?_ (by first | omega | (simp <;> omega)) _ | refine Below.alloc ?_ (by first | omega | (simp <;> omega)) _ | refine Below.drew ?_ | refine below_drewN ?_ _ | exact B3)))).out.mono ?_
      rintro e w4 ⟨ak, ck, rfl, Mk4, hb4, hf4⟩
      have Vm4 : BgV w4 b0 false (.slice a (nl x) cap) := (by refine BgV.below ?_ hb4; (repeat (with_reducible first | refine BgV.drew ?_ | refine BgV.drewN ?_ _ | refine BgV.alloc ?_ _)); exact Vm3.out)
      (try clear mc0 mc1 mc2)
      obtain ⟨mc0, mc1, mc2, mc3⟩ := Vm4
      have Vm4 := Lib.hid (BgV.mk mc0 mc1 mc2 mc3)
      have Vr4 : BgV w4 b1 false (.slice none 0 0) := (by refine BgV.below ?_ hb4; (repeat (with_reducible first | refine BgV.drew ?_ | refine BgV.drewN ?_ _ | refine BgV.alloc ?_ _)); exact Vr3.out)
      (try clear rc0 rc1 rc2)
      obtain ⟨rc0, rc1, rc2, rc3⟩ := Vr4
      have Vr4 := Lib.hid (BgV.mk rc0 rc1 rc2 rc3)
      have Vq4 : BgV w4 zq (decide (Q < 0)) (.slice aq (nl Q.natAbs) cq) := (by refine BgV.below ?_ hb4; (repeat (with_reducible first | refine BgV.drew ?_ | refine BgV.drewN ?_ _ | refine BgV.alloc ?_ _)); exact Vq3.out)
      (try clear qc0 qc1 qc2)
      obtain ⟨qc0, qc1, qc2, qc3⟩ := Vq4
      have Vq4 := Lib.hid (BgV.mk qc0 qc1 qc2 qc3)
      have Mq4 : Mag w4 aq (nl Q.natAbs) cq Q.natAbs := Mag.below (by repeat (with_reducible first | refine Mag.set ?_ (fun h => by have := Mq3 h; omega) _ _ | refine Mag.drew ?_ | refine Mag.alloc ?_ _ | refine Mag.drewN ?_ _ | exact Mq3)) hb4
      have B4 := below_box (w := w) (by have hszw := (B3).size; repeat (with_reducible first | refine Below.setCell ?_ (by first | omega | (simp <;> omega)) _ | refine Below.alloc ?_ (by first | omega | (simp <;> omega)) _ | refine Below.drew ?_ | refine below_drewN ?_ _ | exact B3)) hb4
      have BZ4 : Below w3.heap.size w3 w4 := Below.trans (by have hszw := (BZ3).size; repeat (with_reducible first | refine Below.setCell ?_ (by first | omega | (simp <;> omega)) _ | refine Below.alloc ?_ (by first | omega | (simp <;> omega)) _ | refine Below.drew ?_ | refine below_drewN ?_ _ | exact BZ3)) (hb4.mono (by have := BZ3.size; first | exact this | (simp; omega)))
      have hF4 : 0 < (nl Bt.natAbs) → w3.heap.size ≤ ab ak := (fun h => by have hq := hf4 h; (try simp at hq); omega)
      have frkm : 0 < (nl Bt.natAbs) → ab ak ≠ b0 := (fun h => by have := hF4 h; have := Vm3.out.lt; omega)
      have frkr : 0 < (nl Bt.natAbs) → ab ak ≠ b1 := (fun h => by have := hF4 h; have := Vr3.out.lt; omega)
      have frkq : 0 < (nl Bt.natAbs) → ab ak ≠ zq := (fun h => by have := hF4 h; have := Vq3.out.lt; omega)
      have fok : 0 < (nl Bt.natAbs) → w.heap.size ≤ ab ak := (fun h => by have := hF4 h; have := B3.size; omega)
      clear hF4
      clear hb4 hf4
      go_wp2_with fail
      have Vb5 := (BgV.made' w4 24 (decide (Bt < 0)) (.slice ak (nl Bt.natAbs) ck) (n := w4.heap.size) (by rfl))
      have Vm5 := (BgV.alloc Vm4.out (.cells #[.bool (decide (Bt < 0)), (.slice ak (nl Bt.natAbs) ck)] 24))
      have Vr5 := (BgV.alloc Vr4.out (.cells #[.bool (decide (Bt < 0)), (.slice ak (nl Bt.natAbs) ck)] 24))
      have Vq5 := (BgV.alloc Vq4.out (.cells #[.bool (decide (Bt < 0)), (.slice ak (nl Bt.natAbs) ck)] 24))
      have Mq5 := (Mag.alloc Mq4 (.cells #[.bool (decide (Bt < 0)), (.slice ak (nl Bt.natAbs) ck)] 24))
      have Mk5 := (Mag.alloc Mk4 (.cells #[.bool (decide (Bt < 0)), (.slice ak (nl Bt.natAbs) ck)] 24))
      have B5 : Below w.heap.size w (w4.alloc (.cells #[.bool (decide (Bt < 0)), (.slice ak (nl Bt.natAbs) ck)] 24)) := (by have hszw := (B4).size; repeat (with_reducible first | refine Below.setCell ?_ (by first | omega | (simp <;> omega)) _ | refine Below.alloc ?_ (by first | omega | (simp <;> omega)) _ | refine Below.drew ?_ | refine below_drewN ?_ _ | exact B4))
      have BZ5 : Below w3.heap.size w3 (w4.alloc (.cells #[.bool (decide (Bt < 0)), (.slice ak (nl Bt.natAbs) ck)] 24)) := (by have hszw := (BZ4).size; repeat (with_reducible first | refine Below.setCell ?_ (by first | omega | (simp <;> omega)) _ | refine Below.alloc ?_ (by first | omega | (simp <;> omega)) _ | refine Below.drew ?_ | refine below_drewN ?_ _ | exact BZ4))
      have nmb : ¬ b0 = w4.heap.size := by have := Vm4.out.lt; omega
      have nbm : ¬ w4.heap.size = b0 := by have := Vm4.out.lt; omega
      have nrb : ¬ b1 = w4.heap.size := by have := Vr4.out.lt; omega
      have nbr : ¬ w4.heap.size = b1 := by have := Vr4.out.lt; omega
      have nqb : ¬ zq = w4.heap.size := by have := Vq4.out.lt; omega
      have nbq : ¬ w4.heap.size = zq := by have := Vq4.out.lt; omega
      have frqb : 0 < (nl Q.natAbs) → ab aq ≠ w4.heap.size := fun h => by have := Mq4.old h; omega
      have frkb : 0 < (nl Bt.natAbs) → ab ak ≠ w4.heap.size := fun h => by have := Mk4.old h; omega
      have gb : w.heap.size ≤ w4.heap.size := by have := B4.size; omega
      generalize (w4.alloc (.cells #[.bool (decide (Bt < 0)), (.slice ak (nl Bt.natAbs) ck)] 24)) = w5 at Vb5 Vm5 Vr5 Vq5 Mq5 Mk5 B5 BZ5 ⊢
      generalize w4.heap.size = zb at Vb5 nmb nbm nrb nbr nqb nbq frqb frkb gb ⊢
      (try clear mc0 mc1 mc2)
      obtain ⟨mc0, mc1, mc2, mc3⟩ := Vm5
      have Vm5 := Lib.hid (BgV.mk mc0 mc1 mc2 mc3)
      (try clear rc0 rc1 rc2)
      obtain ⟨rc0, rc1, rc2, rc3⟩ := Vr5
      have Vr5 := Lib.hid (BgV.mk rc0 rc1 rc2 rc3)
      (try clear qc0 qc1 qc2)
      obtain ⟨qc0, qc1, qc2, qc3⟩ := Vq5
      have Vq5 := Lib.hid (BgV.mk qc0 qc1 qc2 qc3)
      (try clear bc0 bc1 bc2)
      obtain ⟨bc0, bc1, bc2, bc3⟩ := Vb5
      have Vb5 := Lib.hid (BgV.mk bc0 bc1 bc2 bc3)
      refine (HZ _ ak ck (hT.below (by have hszw := (B5).size; repeat (with_reducible first | refine Below.setCell ?_ (by first | omega | (simp <;> omega)) _ | refine Below.alloc ?_ (by first | omega | (simp <;> omega)) _ | refine Below.drew ?_ | refine below_drewN ?_ _ | exact B5))) (by repeat (with_reducible first | refine Mag.set ?_ (fun h => by have := Mk5 h; omega) _ _ | refine Mag.drew ?_ | refine Mag.alloc ?_ _ | refine Mag.drewN ?_ _ | exact Mk5))).out.mono ?_
      rintro e w6 ⟨rfl, hb6⟩
      have Vm6 : BgV w6 b0 false (.slice a (nl x) cap) := (by refine BgV.below ?_ hb6; (repeat (with_reducible first | refine BgV.drew ?_ | refine BgV.drewN ?_ _ | refine BgV.alloc ?_ _)); exact Vm5.out)
      (try clear mc0 mc1 mc2)
      obtain ⟨mc0, mc1, mc2, mc3⟩ := Vm6
      have Vm6 := Lib.hid (BgV.mk mc0 mc1 mc2 mc3)
      have Vr6 : BgV w6 b1 false (.slice none 0 0) := (by refine BgV.below ?_ hb6; (repeat (with_reducible first | refine BgV.drew ?_ | refine BgV.drewN ?_ _ | refine BgV.alloc ?_ _)); exact Vr5.out)
      (try clear rc0 rc1 rc2)
      obtain ⟨rc0, rc1, rc2, rc3⟩ := Vr6
      have Vr6 := Lib.hid (BgV.mk rc0 rc1 rc2 rc3)
      have Vq6 : BgV w6 zq (decide (Q < 0)) (.slice aq (nl Q.natAbs) cq) := (by refine BgV.below ?_ hb6; (repeat (with_reducible first | refine BgV.drew ?_ | refine BgV.drewN ?_ _ | refine BgV.alloc ?_ _)); exact Vq5.out)
      (try clear qc0 qc1 qc2)
      obtain ⟨qc0, qc1, qc2, qc3⟩ := Vq6
      have Vq6 := Lib.hid (BgV.mk qc0 qc1 qc2 qc3)
      have Vb6 : BgV w6 zb (decide (Bt < 0)) (.slice ak (nl Bt.natAbs) ck) := (by refine BgV.below ?_ hb6; (repeat (with_reducible first | refine BgV.drew ?_ | refine BgV.drewN ?_ _ | refine BgV.alloc ?_ _)); exact Vb5.out)
      (try clear bc0 bc1 bc2)
      obtain ⟨bc0, bc1, bc2, bc3⟩ := Vb6
      have Vb6 := Lib.hid (BgV.mk bc0 bc1 bc2 bc3)
      have Mq6 : Mag w6 aq (nl Q.natAbs) cq Q.natAbs := Mag.below (by repeat (with_reducible first | refine Mag.set ?_ (fun h => by have := Mq5 h; omega) _ _ | refine Mag.drew ?_ | refine Mag.alloc ?_ _ | refine Mag.drewN ?_ _ | exact Mq5)) hb6
      have Mk6 : Mag w6 ak (nl Bt.natAbs) ck Bt.natAbs := Mag.below (by repeat (with_reducible first | refine Mag.set ?_ (fun h => by have := Mk5 h; omega) _ _ | refine Mag.drew ?_ | refine Mag.alloc ?_ _ | refine Mag.drewN ?_ _ | exact Mk5)) hb6
      have B6 := below_box (w := w) (by have hszw := (B5).size; repeat (with_reducible first | refine Below.setCell ?_ (by first | omega | (simp <;> omega)) _ | refine Below.alloc ?_ (by first | omega | (simp <;> omega)) _ | refine Below.drew ?_ | refine below_drewN ?_ _ | exact B5)) hb6
      have BZ6 : Below w3.heap.size w3 w6 := Below.trans (by have hszw := (BZ5).size; repeat (with_reducible first | refine Below.setCell ?_ (by first | omega | (simp <;> omega)) _ | refine Below.alloc ?_ (by first | omega | (simp <;> omega)) _ | refine Below.drew ?_ | refine below_drewN ?_ _ | exact BZ5)) (hb6.mono (by have := BZ5.size; first | exact this | (simp; omega)))
      clear hb6
      by_cases ht : tz Bt.natAbs = 0
      · have kt : (((tz Bt.natAbs : Nat) : Int) == 0) = true := by rw [ht]; rfl
        have HT0 := Lib.hid ht
        clear ht
        go_wp2_with fail
        refine (HS _ ak ck (by repeat (with_reducible first | refine Mag.set ?_ (fun h => by have := Mk6 h; omega) _ _ | refine Mag.drew ?_ | refine Mag.alloc ?_ _ | refine Mag.drewN ?_ _ | exact Mk6))).out.mono ?_
        rintro e w7 ⟨rfl, hb7⟩
        have Vm7 : BgV w7 b0 false (.slice a (nl x) cap) := (by refine BgV.below ?_ hb7; (repeat (with_reducible first | refine BgV.drew ?_ | refine BgV.drewN ?_ _ | refine BgV.alloc ?_ _)); exact Vm6.out)
        (try clear mc0 mc1 mc2)
        obtain ⟨mc0, mc1, mc2, mc3⟩ := Vm7
        have Vm7 := Lib.hid (BgV.mk mc0 mc1 mc2 mc3)
        have Vr7 : BgV w7 b1 false (.slice none 0 0) := (by refine BgV.below ?_ hb7; (repeat (with_reducible first | refine BgV.drew ?_ | refine BgV.drewN ?_ _ | refine BgV.alloc ?_ _)); exact Vr6.out)
        (try clear rc0 rc1 rc2)
        obtain ⟨rc0, rc1, rc2, rc3⟩ := Vr7
        have Vr7 := Lib.hid (BgV.mk rc0 rc1 rc2 rc3)
        have Vq7 : BgV w7 zq (decide (Q < 0)) (.slice aq (nl Q.natAbs) cq) := (by refine BgV.below ?_ hb7; (repeat (with_reducible first | refine BgV.drew ?_ | refine BgV.drewN ?_ _ | refine BgV.alloc ?_ _)); exact Vq6.out)
        (try clear qc0 qc1 qc2)
        obtain ⟨qc0, qc1, qc2, qc3⟩ := Vq7
        have Vq7 := Lib.hid (BgV.mk qc0 qc1 qc2 qc3)
        have Vb7 : BgV w7 zb (decide (Bt < 0)) (.slice ak (nl Bt.natAbs) ck) := (by refine BgV.below ?_ hb7; (repeat (with_reducible first | refine BgV.drew ?_ | refine BgV.drewN ?_ _ | refine BgV.alloc ?_ _)); exact Vb6.out)
        (try clear bc0 bc1 bc2)
        obtain ⟨bc0, bc1, bc2, bc3⟩ := Vb7
        have Vb7 := Lib.hid (BgV.mk bc0 bc1 bc2 bc3)
        have Mq7 : Mag w7 aq (nl Q.natAbs) cq Q.natAbs := Mag.below (by repeat (with_reducible first | refine Mag.set ?_ (fun h => by have := Mq6 h; omega) _ _ | refine Mag.drew ?_ | refine Mag.alloc ?_ _ | refine Mag.drewN ?_ _ | exact Mq6)) hb7
        have Mk7 : Mag w7 ak (nl Bt.natAbs) ck Bt.natAbs := Mag.below (by repeat (with_reducible first | refine Mag.set ?_ (fun h => by have := Mk6 h; omega) _ _ | refine Mag.drew ?_ | refine Mag.alloc ?_ _ | refine Mag.drewN ?_ _ | exact Mk6)) hb7
        have B7 := below_box (w := w) (by have hszw := (B6).size; repeat (with_reducible first | refine Below.setCell ?_ (by first | omega | (simp <;> omega)) _ | refine Below.alloc ?_ (by first | omega | (simp <;> omega)) _ | refine Below.drew ?_ | refine below_drewN ?_ _ | exact B6)) hb7
        have BZ7 : Below w3.heap.size w3 w7 := Below.trans (by have hszw := (BZ6).size; repeat (with_reducible first | refine Below.setCell ?_ (by first | omega | (simp <;> omega)) _ | refine Below.alloc ?_ (by first | omega | (simp <;> omega)) _ | refine Below.drew ?_ | refine below_drewN ?_ _ | exact BZ6)) (hb7.mono (by have := BZ6.size; first | exact this | (simp; omega)))
        clear hb7
        by_cases hz : Bt = 0
        · have kz : (g == 0) = true := by rw [HG.out]; exact sg0 hz
          have kz' : (g != 0) = false := by rw [bne, kz]; rfl
          have hH : H = -1 := by rw [HRC.out, if_pos (by rw [HB0.out.1 hz])]
          subst hH
          clear hz
          go_wp2_with fail
          go_meet
          exact ⟨rfl, BZ7⟩
        · have kz : (g == 0) = false := by rw [HG.out]; exact sg1 hz
          have kz' : (g != 0) = true := by rw [bne, kz]; rfl
          have hH : H = if more || lb2 then 1 else 0 := by rw [HRC.out, if_neg (by have := odd_of_tz (x := Bt.natAbs) (fun h => hz (HB0.out.2 h)) HT0.out; omega)]
          have HH2 := Lib.hid hH
          clear hH hz
          cases more with
          | true =>
            have hH : H = 1 := HH2.out
            subst hH
            go_wp2_with fail
            go_meet
            exact ⟨rfl, BZ7⟩
          | false =>
          exact absurd hm (by decide)
      · have kt : (((tz Bt.natAbs : Nat) : Int) == 0) = false := by rw [beq_eq_false_iff_ne]; omega
        have hH : H = -1 := by rw [HRC.out, if_pos (by have := tz_odd (x := Bt.natAbs); omega)]
        subst hH
        clear ht
        go_wp2_with fail
        go_meet
        exact ⟨rfl, BZ6⟩
  case rest =>
  obtain ⟨w4, hww⟩ : ∃ w4, w4 = wc := ⟨_, rfl⟩
  subst hww
  obtain ⟨rfl, hbz⟩ := hcut
  have Vm4 : BgV w4 b0 false (.slice a (nl x) cap) := Vm3.out.below hbz
  have Vr4 : BgV w4 b1 false (.slice none 0 0) := Vr3.out.below hbz
  have Vq4 : BgV w4 zq (decide (Q < 0)) (.slice aq (nl Q.natAbs) cq) := Vq3.out.below hbz
  have Mq4 := Mq3.below hbz
  have B4 := below_box (w := w) B3 hbz
  clear hbz
  (try clear mc0 mc1 mc2)
  obtain ⟨mc0, mc1, mc2, mc3⟩ := Vm4
  have Vm4 := Lib.hid (BgV.mk mc0 mc1 mc2 mc3)
  (try clear rc0 rc1 rc2)
  obtain ⟨rc0, rc1, rc2, rc3⟩ := Vr4
  have Vr4 := Lib.hid (BgV.mk rc0 rc1 rc2 rc3)
  (try clear qc0 qc1 qc2)
  obtain ⟨qc0, qc1, qc2, qc3⟩ := Vq4
  have Vq4 := Lib.hid (BgV.mk qc0 qc1 qc2 qc3)
  have hQl : nl Q.natAbs ≤ 549755813888 := by
    rw [HQ.out, Int.natAbs_natCast]
    exact Nat.le_trans (nl_mono (Nat.div_le_self x (2 ^ n))) hl
  have hQn : Q.natAbs = x / 2 ^ n := by rw [HQ.out, Int.natAbs_natCast]
  have HUP := fun W o => Lib.hid (rup_any W neg o H mode)
  have hu := HU.out
  rw [← hQn] at hu
  have HU2 := Lib.hid hu
  have HS := fun W b c h => Lib.hid (rsgn_z W b c Q _ rfl h hQl)
  have HZ := fun W b c ht h => Lib.hid (rtrailing_any W ht (decide (Q < 0)) b (nl Q.natAbs) c Q.natAbs h (by omega))
  obtain ⟨g, hg⟩ : ∃ g, g = sg Q := ⟨_, rfl⟩
  rw [← hg] at HS
  have HG := Lib.hid hg
  obtain ⟨o, ho⟩ : ∃ o : Int, o = 1 := ⟨_, rfl⟩
  have HO : ∀ W, Hid (Calls Tryz.prog 219 #[.int .i64 1] W (RetBig W o)) := fun W => by rw [ho]; exact Lib.hid (rfromInt_any W 1 (by omega) (by omega))
  obtain ⟨Q1, hQ1⟩ : ∃ Q1, Q1 = Q + o := ⟨_, rfl⟩
  have HA := fun W b c b' c' h h' => Lib.hid (radd_zz W b b' c c' Q o Q1 hQ1 h h' hQl (by rw [ho]; decide))
  have hv1 : u = true → v = Q1 := fun h => by rw [HV.out, hQ1, ho, if_pos h]
  have hv0 : u = false → v = Q := fun h => by rw [HV.out, h]; simp
  have HV1 := Lib.hid hv1
  have HV0 := Lib.hid hv0
  have hQ0 : Q = 0 ↔ Q.natAbs = 0 := by omega
  have HQ0 := Lib.hid hQ0
  clear hu hg ho hQ1 hv1 hv0 hQ0 hQn hQl hn hl HU HQ HD HL
  go_wp2_with fail
  refine (HS _ aq cq (by repeat (with_reducible first | refine Mag.set ?_ (fun h => by have := Mq4 h; omega) _ _ | refine Mag.drew ?_ | refine Mag.alloc ?_ _ | refine Mag.drewN ?_ _ | exact Mq4))).out.mono ?_
  rintro e w5 ⟨rfl, hb5⟩
  have Vm5 : BgV w5 b0 false (.slice a (nl x) cap) := (by refine BgV.below ?_ hb5; (repeat (with_reducible first | refine BgV.drew ?_ | refine BgV.drewN ?_ _ | refine BgV.alloc ?_ _)); exact Vm4.out)
  (try clear mc0 mc1 mc2)
  obtain ⟨mc0, mc1, mc2, mc3⟩ := Vm5
  have Vm5 := Lib.hid (BgV.mk mc0 mc1 mc2 mc3)
  have Vr5 : BgV w5 b1 false (.slice none 0 0) := (by refine BgV.below ?_ hb5; (repeat (with_reducible first | refine BgV.drew ?_ | refine BgV.drewN ?_ _ | refine BgV.alloc ?_ _)); exact Vr4.out)
  (try clear rc0 rc1 rc2)
  obtain ⟨rc0, rc1, rc2, rc3⟩ := Vr5
  have Vr5 := Lib.hid (BgV.mk rc0 rc1 rc2 rc3)
  have Vq5 : BgV w5 zq (decide (Q < 0)) (.slice aq (nl Q.natAbs) cq) := (by refine BgV.below ?_ hb5; (repeat (with_reducible first | refine BgV.drew ?_ | refine BgV.drewN ?_ _ | refine BgV.alloc ?_ _)); exact Vq4.out)
  (try clear qc0 qc1 qc2)
  obtain ⟨qc0, qc1, qc2, qc3⟩ := Vq5
  have Vq5 := Lib.hid (BgV.mk qc0 qc1 qc2 qc3)
  have Mq5 : Mag w5 aq (nl Q.natAbs) cq Q.natAbs := Mag.below (by repeat (with_reducible first | refine Mag.set ?_ (fun h => by have := Mq4 h; omega) _ _ | refine Mag.drew ?_ | refine Mag.alloc ?_ _ | refine Mag.drewN ?_ _ | exact Mq4)) hb5
  have B5 := below_box (w := w) (by have hszw := (B4).size; repeat (with_reducible first | refine Below.setCell ?_ (by first | omega | (simp <;> omega)) _ | refine Below.alloc ?_ (by first | omega | (simp <;> omega)) _ | refine Below.drew ?_ | refine below_drewN ?_ _ | exact B4)) hb5
  clear hb5
  by_cases hz : Q = 0
  · have kz : (g == 0) = true := by rw [HG.out]; exact sg0 hz
    have kz' : (g != 0) = false := by rw [bne, kz]; rfl
    have HU3 : Hid (u = upB neg H false mode) := by rw [HU2.out, HQ0.out.1 hz]; rfl
    clear hz
    go_wp2_with fail
    refine (HUP _ false).out.mono ?_
    rintro e w6 ⟨rfl, hb6⟩
    have Vm6 : BgV w6 b0 false (.slice a (nl x) cap) := (by refine BgV.below ?_ hb6; (repeat (with_reducible first | refine BgV.drew ?_ | refine BgV.drewN ?_ _ | refine BgV.alloc ?_ _)); exact Vm5.out)
    (try clear mc0 mc1 mc2)
    obtain ⟨mc0, mc1, mc2, mc3⟩ := Vm6
    have Vm6 := Lib.hid (BgV.mk mc0 mc1 mc2 mc3)
    have Vr6 : BgV w6 b1 false (.slice none 0 0) := (by refine BgV.below ?_ hb6; (repeat (with_reducible first | refine BgV.drew ?_ | refine BgV.drewN ?_ _ | refine BgV.alloc ?_ _)); exact Vr5.out)
    (try clear rc0 rc1 rc2)
    obtain ⟨rc0, rc1, rc2, rc3⟩ := Vr6
    have Vr6 := Lib.hid (BgV.mk rc0 rc1 rc2 rc3)
    have Vq6 : BgV w6 zq (decide (Q < 0)) (.slice aq (nl Q.natAbs) cq) := (by refine BgV.below ?_ hb6; (repeat (with_reducible first | refine BgV.drew ?_ | refine BgV.drewN ?_ _ | refine BgV.alloc ?_ _)); exact Vq5.out)
    (try clear qc0 qc1 qc2)
    obtain ⟨qc0, qc1, qc2, qc3⟩ := Vq6
    have Vq6 := Lib.hid (BgV.mk qc0 qc1 qc2 qc3)
    have Mq6 : Mag w6 aq (nl Q.natAbs) cq Q.natAbs := Mag.below (by repeat (with_reducible first | refine Mag.set ?_ (fun h => by have := Mq5 h; omega) _ _ | refine Mag.drew ?_ | refine Mag.alloc ?_ _ | refine Mag.drewN ?_ _ | exact Mq5)) hb6
    have B6 := below_box (w := w) (by have hszw := (B5).size; repeat (with_reducible first | refine Below.setCell ?_ (by first | omega | (simp <;> omega)) _ | refine Below.alloc ?_ (by first | omega | (simp <;> omega)) _ | refine Below.drew ?_ | refine below_drewN ?_ _ | exact B5)) hb6
    clear hb6
    rw [← HU3.out]
    cases u with
    | true =>
      have hv : v = Q1 := HV1.out rfl
      subst hv
      go_wp2_with fail
      first
      | go_region_with
          (first
            | (go_at_call 247; have xx := B7; refine (HA _ aq cq a4 c4 (by repeat (with_reducible first | refine Mag.set ?_ (fun h => by have := Mq7 h; omega) _ _ | refine Mag.drew ?_ | refine Mag.alloc ?_ _ | refine Mag.drewN ?_ _ | exact Mq7)) (by repeat (with_reducible first | refine Mag.set ?_ (fun h => by have := M47 h; omega) _ _ | refine Mag.drew ?_ | refine Mag.alloc ?_ _ | refine Mag.drewN ?_ _ | exact M47))).out.mono ?_; rintro e w8 ⟨av, cv, rfl, Mv8, hb8, hf8⟩; have Vm8 : BgV w8 b0 false (.slice a (nl x) cap) := (by refine BgV.below ?_ hb8; (repeat (with_reducible first | refine BgV.drew ?_ | refine BgV.drewN ?_ _ | refine BgV.alloc ?_ _)); exact Vm7.out); (try clear mc0 mc1 mc2); obtain ⟨mc0, mc1, mc2, mc3⟩ := Vm8; have Vm8 := Lib.hid (BgV.mk mc0 mc1 mc2 mc3); have Vr8 : BgV w8 b1 false (.slice none 0 0) := (by refine BgV.below ?_ hb8; (repeat (with_reducible first | refine BgV.drew ?_ | refine BgV.drewN ?_ _ | refine BgV.alloc ?_ _)); exact Vr7.out); (try clear rc0 rc1 rc2); obtain ⟨rc0, rc1, rc2, rc3⟩ := Vr8; have Vr8 := Lib.hid (BgV.mk rc0 rc1 rc2 rc3); have Vq8 : BgV w8 zq (decide (Q < 0)) (.slice aq (nl Q.natAbs) cq) := (by refine BgV.below ?_ hb8; (repeat (with_reducible first | refine BgV.drew ?_ | refine BgV.drewN ?_ _ | refine BgV.alloc ?_ _)); exact Vq7.out); (try clear qc0 qc1 qc2); obtain ⟨qc0, qc1, qc2, qc3⟩ := Vq8; have Vq8 := Lib.hid (BgV.mk qc0 qc1 qc2 qc3); have Mq8 : Mag w8 aq (nl Q.natAbs) cq Q.natAbs := Mag.below (by repeat (with_reducible first | refine Mag.set ?_ (fun h => by have := Mq7 h; omega) _ _ | refine Mag.drew ?_ | refine Mag.alloc ?_ _ | refine Mag.drewN ?_ _ | exact Mq7)) hb8; have M48 : Mag w8 a4 (nl o.natAbs) c4 o.natAbs := Mag.below (by repeat (with_reducible first | refine Mag.set ?_ (fun h => by have := M47 h; omega) _ _ | refine Mag.drew ?_ | refine Mag.alloc ?_ _ | refine Mag.drewN ?_ _ | exact M47)) hb8; have B8 := below_box (w := w) (by have hszw := (B7).size; repeat (with_reducible first | refine Below.setCell ?_ (by first | omega | (simp <;> omega)) _ | refine Below.alloc ?_ (by first | omega | (simp <;> omega)) _ | refine Below.drew ?_ | refine below_drewN ?_ _ | exact B7)) hb8; have hF8 : 0 < (nl v.natAbs) → w7.heap.size ≤ ab av := (fun h => by have hq := hf8 h; (try simp at hq); omega); have frvm : 0 < (nl v.natAbs) → ab av ≠ b0 := (fun h => by have := hF8 h; have := Vm7.out.lt; omega); have frvr : 0 < (nl v.natAbs) → ab av ≠ b1 := (fun h => by have := hF8 h; have := Vr7.out.lt; omega); have frvq : 0 < (nl v.natAbs) → ab av ≠ zq := (fun h => by have := hF8 h; have := Vq7.out.lt; omega); have fov : 0 < (nl v.natAbs) → w.heap.size ≤ ab av := (fun h => by have := hF8 h; have := B7.size; omega); clear hF8; clear hb8 hf8)
            | (go_at_call 219; have xx := B6; refine (HO _).out.mono ?_; rintro e w7 ⟨a4, c4, rfl, M47, hb7, hf7⟩; have Vm7 : BgV w7 b0 false (.slice a (nl x) cap) := (by refine BgV.below ?_ hb7; (repeat (with_reducible first | refine BgV.drew ?_ | refine BgV.drewN ?_ _ | refine BgV.alloc ?_ _)); exact Vm6.out); (try clear mc0 mc1 mc2); obtain ⟨mc0, mc1, mc2, mc3⟩ := Vm7; have Vm7 := Lib.hid (BgV.mk mc0 mc1 mc2 mc3); have Vr7 : BgV w7 b1 false (.slice none 0 0) := (by refine BgV.below ?_ hb7; (repeat (with_reducible first | refine BgV.drew ?_ | refine BgV.drewN ?_ _ | refine BgV.alloc ?_ _)); exact Vr6.out); (try clear rc0 rc1 rc2); obtain ⟨rc0, rc1, rc2, rc3⟩ := Vr7; have Vr7 := Lib.hid (BgV.mk rc0 rc1 rc2 rc3); have Vq7 : BgV w7 zq (decide (Q < 0)) (.slice aq (nl Q.natAbs) cq) := (by refine BgV.below ?_ hb7; (repeat (with_reducible first | refine BgV.drew ?_ | refine BgV.drewN ?_ _ | refine BgV.alloc ?_ _)); exact Vq6.out); (try clear qc0 qc1 qc2); obtain ⟨qc0, qc1, qc2, qc3⟩ := Vq7; have Vq7 := Lib.hid (BgV.mk qc0 qc1 qc2 qc3); have Mq7 : Mag w7 aq (nl Q.natAbs) cq Q.natAbs := Mag.below (by repeat (with_reducible first | refine Mag.set ?_ (fun h => by have := Mq6 h; omega) _ _ | refine Mag.drew ?_ | refine Mag.alloc ?_ _ | refine Mag.drewN ?_ _ | exact Mq6)) hb7; have B7 := below_box (w := w) (by have hszw := (B6).size; repeat (with_reducible first | refine Below.setCell ?_ (by first | omega | (simp <;> omega)) _ | refine Below.alloc ?_ (by first | omega | (simp <;> omega)) _ | refine Below.drew ?_ | refine below_drewN ?_ _ | exact B6)) hb7; have hF7 : 0 < (nl o.natAbs) → w6.heap.size ≤ ab a4 := (fun h => by have hq := hf7 h; (try simp at hq); omega); have fr4m : 0 < (nl o.natAbs) → ab a4 ≠ b0 := (fun h => by have := hF7 h; have := Vm6.out.lt; omega); have fr4r : 0 < (nl o.natAbs) → ab a4 ≠ b1 := (fun h => by have := hF7 h; have := Vr6.out.lt; omega); have fr4q : 0 < (nl o.natAbs) → ab a4 ≠ zq := (fun h => by have := hF7 h; have := Vq6.out.lt; omega); have fo4 : 0 < (nl o.natAbs) → w.heap.size ≤ ab a4 := (fun h => by have := hF7 h; have := B6.size; omega); clear hF7; clear hb7 hf7)
            | fail)
      | fail "region"
      all_goals (
        have Vq9 := BgV.put Vq8.out (decide (v < 0)) (.slice av (nl v.natAbs) cv)
        have Vm9 := (BgV.set (BgV.set Vm8.out nmq 0 (.bool (decide (v < 0)))) nmq 1 (.slice av (nl v.natAbs) cv))
        have Vr9 := (BgV.set (BgV.set Vr8.out nrq 0 (.bool (decide (v < 0)))) nrq 1 (.slice av (nl v.natAbs) cv))
        have Mq9 := (Mag.set (Mag.set Mq8 frqq 0 (.bool (decide (v < 0)))) frqq 1 (.slice av (nl v.natAbs) cv))
        have M49 := (Mag.set (Mag.set M48 fr4q 0 (.bool (decide (v < 0)))) fr4q 1 (.slice av (nl v.natAbs) cv))
        have Mv9 := (Mag.set (Mag.set Mv8 frvq 0 (.bool (decide (v < 0)))) frvq 1 (.slice av (nl v.natAbs) cv))
        have B9 : Below w.heap.size w ((w8.setCell ⟨zq, 0, none⟩ (.bool (decide (v < 0)))).setCell ⟨zq, 1, none⟩ (.slice av (nl v.natAbs) cv)) := (by have hszw := (B8).size; repeat (with_reducible first | refine Below.setCell ?_ (by first | omega | (simp <;> omega)) _ | refine Below.alloc ?_ (by first | omega | (simp <;> omega)) _ | refine Below.drew ?_ | refine below_drewN ?_ _ | exact B8))
        generalize ((w8.setCell ⟨zq, 0, none⟩ (.bool (decide (v < 0)))).setCell ⟨zq, 1, none⟩ (.slice av (nl v.natAbs) cv)) = w9 at Vq9 Vm9 Vr9 Mq9 M49 Mv9 B9 ⊢
        (try clear mc0 mc1 mc2)
        obtain ⟨mc0, mc1, mc2, mc3⟩ := Vm9
        have Vm9 := Lib.hid (BgV.mk mc0 mc1 mc2 mc3)
        (try clear rc0 rc1 rc2)
        obtain ⟨rc0, rc1, rc2, rc3⟩ := Vr9
        have Vr9 := Lib.hid (BgV.mk rc0 rc1 rc2 rc3)
        (try clear qc0 qc1 qc2)
        obtain ⟨qc0, qc1, qc2, qc3⟩ := Vq9
        have Vq9 := Lib.hid (BgV.mk qc0 qc1 qc2 qc3)
        go_wp2_with fail
        refine bodyPost_ret (v := .agg #[.bool (decide (v < 0)), .slice av (nl v.natAbs) cv]) (by simp only [results, Tryz.results234]; go_simp) rfl ?_
        exact ⟨av, cv, rfl, (by repeat (with_reducible first | refine Mag.set ?_ frvm _ _ | refine Mag.set ?_ frvr _ _ | refine Mag.set ?_ frvq _ _ | refine Mag.drew ?_ | refine Mag.drewN ?_ _ | refine Mag.alloc ?_ _ | exact Mv9)), (by have hszw := (B9).size; repeat (with_reducible first | refine Below.setCell ?_ (by first | omega | (simp <;> omega)) _ | refine Below.alloc ?_ (by first | omega | (simp <;> omega)) _ | refine Below.drew ?_ | refine below_drewN ?_ _ | exact B9)), fov⟩)
    | false =>
      have hv : v = Q := HV0.out rfl
      subst hv
      go_wp2_with fail
      refine bodyPost_ret (v := .agg #[.bool (decide (v < 0)), .slice aq (nl v.natAbs) cq]) (by simp only [results, Tryz.results234]; go_simp) rfl ?_
      exact ⟨aq, cq, rfl, (by repeat (with_reducible first | refine Mag.set ?_ frqm _ _ | refine Mag.set ?_ frqr _ _ | refine Mag.set ?_ frqq _ _ | refine Mag.drew ?_ | refine Mag.drewN ?_ _ | refine Mag.alloc ?_ _ | exact Mq6)), (by have hszw := (B6).size; repeat (with_reducible first | refine Below.setCell ?_ (by first | omega | (simp <;> omega)) _ | refine Below.alloc ?_ (by first | omega | (simp <;> omega)) _ | refine Below.drew ?_ | refine below_drewN ?_ _ | exact B6)), foq⟩
  · have kz : (g == 0) = false := by rw [HG.out]; exact sg1 hz
    have kz' : (g != 0) = true := by rw [bne, kz]; rfl
    have HZ0 := Lib.hid (show Q.natAbs ≠ 0 from fun h => hz (HQ0.out.2 h))
    clear hz
    go_wp2_with fail
    refine (HZ _ aq cq (hT.below (by have hszw := (B5).size; repeat (with_reducible first | refine Below.setCell ?_ (by first | omega | (simp <;> omega)) _ | refine Below.alloc ?_ (by first | omega | (simp <;> omega)) _ | refine Below.drew ?_ | refine below_drewN ?_ _ | exact B5))) (by repeat (with_reducible first | refine Mag.set ?_ (fun h => by have := Mq5 h; omega) _ _ | refine Mag.drew ?_ | refine Mag.alloc ?_ _ | refine Mag.drewN ?_ _ | exact Mq5))).out.mono ?_
    rintro e w6 ⟨rfl, hb6⟩
    have Vm6 : BgV w6 b0 false (.slice a (nl x) cap) := (by refine BgV.below ?_ hb6; (repeat (with_reducible first | refine BgV.drew ?_ | refine BgV.drewN ?_ _ | refine BgV.alloc ?_ _)); exact Vm5.out)
    (try clear mc0 mc1 mc2)
    obtain ⟨mc0, mc1, mc2, mc3⟩ := Vm6
    have Vm6 := Lib.hid (BgV.mk mc0 mc1 mc2 mc3)
    have Vr6 : BgV w6 b1 false (.slice none 0 0) := (by refine BgV.below ?_ hb6; (repeat (with_reducible first | refine BgV.drew ?_ | refine BgV.drewN ?_ _ | refine BgV.alloc ?_ _)); exact Vr5.out)
    (try clear rc0 rc1 rc2)
    obtain ⟨rc0, rc1, rc2, rc3⟩ := Vr6
    have Vr6 := Lib.hid (BgV.mk rc0 rc1 rc2 rc3)
    have Vq6 : BgV w6 zq (decide (Q < 0)) (.slice aq (nl Q.natAbs) cq) := (by refine BgV.below ?_ hb6; (repeat (with_reducible first | refine BgV.drew ?_ | refine BgV.drewN ?_ _ | refine BgV.alloc ?_ _)); exact Vq5.out)
    (try clear qc0 qc1 qc2)
    obtain ⟨qc0, qc1, qc2, qc3⟩ := Vq6
    have Vq6 := Lib.hid (BgV.mk qc0 qc1 qc2 qc3)
    have Mq6 : Mag w6 aq (nl Q.natAbs) cq Q.natAbs := Mag.below (by repeat (with_reducible first | refine Mag.set ?_ (fun h => by have := Mq5 h; omega) _ _ | refine Mag.drew ?_ | refine Mag.alloc ?_ _ | refine Mag.drewN ?_ _ | exact Mq5)) hb6
    have B6 := below_box (w := w) (by have hszw := (B5).size; repeat (with_reducible first | refine Below.setCell ?_ (by first | omega | (simp <;> omega)) _ | refine Below.alloc ?_ (by first | omega | (simp <;> omega)) _ | refine Below.drew ?_ | refine below_drewN ?_ _ | exact B5)) hb6
    clear hb6
    by_cases ht : tz Q.natAbs = 0
    · have kt : (((tz Q.natAbs : Nat) : Int) == 0) = true := by rw [ht]; rfl
      have HU3 : Hid (u = upB neg H true mode) := by rw [HU2.out, decide_eq_true (odd_of_tz HZ0.out ht)]; rfl
      clear ht
      go_wp2_with fail
      refine (HUP _ true).out.mono ?_
      rintro e w7 ⟨rfl, hb7⟩
      have Vm7 : BgV w7 b0 false (.slice a (nl x) cap) := (by refine BgV.below ?_ hb7; (repeat (with_reducible first | refine BgV.drew ?_ | refine BgV.drewN ?_ _ | refine BgV.alloc ?_ _)); exact Vm6.out)
      (try clear mc0 mc1 mc2)
      obtain ⟨mc0, mc1, mc2, mc3⟩ := Vm7
      have Vm7 := Lib.hid (BgV.mk mc0 mc1 mc2 mc3)
      have Vr7 : BgV w7 b1 false (.slice none 0 0) := (by refine BgV.below ?_ hb7; (repeat (with_reducible first | refine BgV.drew ?_ | refine BgV.drewN ?_ _ | refine BgV.alloc ?_ _)); exact Vr6.out)
      (try clear rc0 rc1 rc2)
      obtain ⟨rc0, rc1, rc2, rc3⟩ := Vr7
      have Vr7 := Lib.hid (BgV.mk rc0 rc1 rc2 rc3)
      have Vq7 : BgV w7 zq (decide (Q < 0)) (.slice aq (nl Q.natAbs) cq) := (by refine BgV.below ?_ hb7; (repeat (with_reducible first | refine BgV.drew ?_ | refine BgV.drewN ?_ _ | refine BgV.alloc ?_ _)); exact Vq6.out)
      (try clear qc0 qc1 qc2)
      obtain ⟨qc0, qc1, qc2, qc3⟩ := Vq7
      have Vq7 := Lib.hid (BgV.mk qc0 qc1 qc2 qc3)
      have Mq7 : Mag w7 aq (nl Q.natAbs) cq Q.natAbs := Mag.below (by repeat (with_reducible first | refine Mag.set ?_ (fun h => by have := Mq6 h; omega) _ _ | refine Mag.drew ?_ | refine Mag.alloc ?_ _ | refine Mag.drewN ?_ _ | exact Mq6)) hb7
      have B7 := below_box (w := w) (by have hszw := (B6).size; repeat (with_reducible first | refine Below.setCell ?_ (by first | omega | (simp <;> omega)) _ | refine Below.alloc ?_ (by first | omega | (simp <;> omega)) _ | refine Below.drew ?_ | refine below_drewN ?_ _ | exact B6)) hb7
      clear hb7
      rw [← HU3.out]
      cases u with
      | true =>
        have hv : v = Q1 := HV1.out rfl
        subst hv
        go_wp2_with fail
        first
        | go_region_with
            (first
              | (go_at_call 247; have xx := B8; refine (HA _ aq cq a4 c4 (by repeat (with_reducible first | refine Mag.set ?_ (fun h => by have := Mq8 h; omega) _ _ | refine Mag.drew ?_ | refine Mag.alloc ?_ _ | refine Mag.drewN ?_ _ | exact Mq8)) (by repeat (with_reducible first | refine Mag.set ?_ (fun h => by have := M48 h; omega) _ _ | refine Mag.drew ?_ | refine Mag.alloc ?_ _ | refine Mag.drewN ?_ _ | exact M48))).out.mono ?_; rintro e w9 ⟨av, cv, rfl, Mv9, hb9, hf9⟩; have Vm9 : BgV w9 b0 false (.slice a (nl x) cap) := (by refine BgV.below ?_ hb9; (repeat (with_reducible first | refine BgV.drew ?_ | refine BgV.drewN ?_ _ | refine BgV.alloc ?_ _)); exact Vm8.out); (try clear mc0 mc1 mc2); obtain ⟨mc0, mc1, mc2, mc3⟩ := Vm9; have Vm9 := Lib.hid (BgV.mk mc0 mc1 mc2 mc3); have Vr9 : BgV w9 b1 false (.slice none 0 0) := (by refine BgV.below ?_ hb9; (repeat (with_reducible first | refine BgV.drew ?_ | refine BgV.drewN ?_ _ | refine BgV.alloc ?_ _)); exact Vr8.out); (try clear rc0 rc1 rc2); obtain ⟨rc0, rc1, rc2, rc3⟩ := Vr9; have Vr9 := Lib.hid (BgV.mk rc0 rc1 rc2 rc3); have Vq9 : BgV w9 zq (decide (Q < 0)) (.slice aq (nl Q.natAbs) cq) := (by refine BgV.below ?_ hb9; (repeat (with_reducible first | refine BgV.drew ?_ | refine BgV.drewN ?_ _ | refine BgV.alloc ?_ _)); exact Vq8.out); (try clear qc0 qc1 qc2); obtain ⟨qc0, qc1, qc2, qc3⟩ := Vq9; have Vq9 := Lib.hid (BgV.mk qc0 qc1 qc2 qc3); have Mq9 : Mag w9 aq (nl Q.natAbs) cq Q.natAbs := Mag.below (by repeat (with_reducible first | refine Mag.set ?_ (fun h => by have := Mq8 h; omega) _ _ | refine Mag.drew ?_ | refine Mag.alloc ?_ _ | refine Mag.drewN ?_ _ | exact Mq8)) hb9; have M49 : Mag w9 a4 (nl o.natAbs) c4 o.natAbs := Mag.below (by repeat (with_reducible first | refine Mag.set ?_ (fun h => by have := M48 h; omega) _ _ | refine Mag.drew ?_ | refine Mag.alloc ?_ _ | refine Mag.drewN ?_ _ | exact M48)) hb9; have B9 := below_box (w := w) (by have hszw := (B8).size; repeat (with_reducible first | refine Below.setCell ?_ (by first | omega | (simp <;> omega)) _ | refine Below.alloc ?_ (by first | omega | (simp <;> omega)) _ | refine Below.drew ?_ | refine below_drewN ?_ _ | exact B8)) hb9; have hF9 : 0 < (nl v.natAbs) → w8.heap.size ≤ ab av := (fun h => by have hq := hf9 h; (try simp at hq); omega); have frvm : 0 < (nl v.natAbs) → ab av ≠ b0 := (fun h => by have := hF9 h; have := Vm8.out.lt; omega); have frvr : 0 < (nl v.natAbs) → ab av ≠ b1 := (fun h => by have := hF9 h; have := Vr8.out.lt; omega); have frvq : 0 < (nl v.natAbs) → ab av ≠ zq := (fun h => by have := hF9 h; have := Vq8.out.lt; omega); have fov : 0 < (nl v.natAbs) → w.heap.size ≤ ab av := (fun h => by have := hF9 h; have := B8.size; omega); clear hF9; clear hb9 hf9)
              | (go_at_call 219; have xx := B7; refine (HO _).out.mono ?_; rintro e w8 ⟨a4, c4, rfl, M48, hb8, hf8⟩; have Vm8 : BgV w8 b0 false (.slice a (nl x) cap) := (by refine BgV.below ?_ hb8; (repeat (with_reducible first | refine BgV.drew ?_ | refine BgV.drewN ?_ _ | refine BgV.alloc ?_ _)); exact Vm7.out); (try clear mc0 mc1 mc2); obtain ⟨mc0, mc1, mc2, mc3⟩ := Vm8; have Vm8 := Lib.hid (BgV.mk mc0 mc1 mc2 mc3); have Vr8 : BgV w8 b1 false (.slice none 0 0) := (by refine BgV.below ?_ hb8; (repeat (with_reducible first | refine BgV.drew ?_ | refine BgV.drewN ?_ _ | refine BgV.alloc ?_ _)); exact Vr7.out); (try clear rc0 rc1 rc2); obtain ⟨rc0, rc1, rc2, rc3⟩ := Vr8; have Vr8 := Lib.hid (BgV.mk rc0 rc1 rc2 rc3); have Vq8 : BgV w8 zq (decide (Q < 0)) (.slice aq (nl Q.natAbs) cq) := (by refine BgV.below ?_ hb8; (repeat (with_reducible first | refine BgV.drew ?_ | refine BgV.drewN ?_ _ | refine BgV.alloc ?_ _)); exact Vq7.out); (try clear qc0 qc1 qc2); obtain ⟨qc0, qc1, qc2, qc3⟩ := Vq8; have Vq8 := Lib.hid (BgV.mk qc0 qc1 qc2 qc3); have Mq8 : Mag w8 aq (nl Q.natAbs) cq Q.natAbs := Mag.below (by repeat (with_reducible first | refine Mag.set ?_ (fun h => by have := Mq7 h; omega) _ _ | refine Mag.drew ?_ | refine Mag.alloc ?_ _ | refine Mag.drewN ?_ _ | exact Mq7)) hb8; have B8 := below_box (w := w) (by have hszw := (B7).size; repeat (with_reducible first | refine Below.setCell ?_ (by first | omega | (simp <;> omega)) _ | refine Below.alloc ?_ (by first | omega | (simp <;> omega)) _ | refine Below.drew ?_ | refine below_drewN ?_ _ | exact B7)) hb8; have hF8 : 0 < (nl o.natAbs) → w7.heap.size ≤ ab a4 := (fun h => by have hq := hf8 h; (try simp at hq); omega); have fr4m : 0 < (nl o.natAbs) → ab a4 ≠ b0 := (fun h => by have := hF8 h; have := Vm7.out.lt; omega); have fr4r : 0 < (nl o.natAbs) → ab a4 ≠ b1 := (fun h => by have := hF8 h; have := Vr7.out.lt; omega); have fr4q : 0 < (nl o.natAbs) → ab a4 ≠ zq := (fun h => by have := hF8 h; have := Vq7.out.lt; omega); have fo4 : 0 < (nl o.natAbs) → w.heap.size ≤ ab a4 := (fun h => by have := hF8 h; have := B7.size; omega); clear hF8; clear hb8 hf8)
              | fail)
        | fail "region"
        all_goals (
          have Vq10 := BgV.put Vq9.out (decide (v < 0)) (.slice av (nl v.natAbs) cv)
          have Vm10 := (BgV.set (BgV.set Vm9.out nmq 0 (.bool (decide (v < 0)))) nmq 1 (.slice av (nl v.natAbs) cv))
          have Vr10 := (BgV.set (BgV.set Vr9.out nrq 0 (.bool (decide (v < 0)))) nrq 1 (.slice av (nl v.natAbs) cv))
          have Mq10 := (Mag.set (Mag.set Mq9 frqq 0 (.bool (decide (v < 0)))) frqq 1 (.slice av (nl v.natAbs) cv))
          have M410 := (Mag.set (Mag.set M49 fr4q 0 (.bool (decide (v < 0)))) fr4q 1 (.slice av (nl v.natAbs) cv))
          have Mv10 := (Mag.set (Mag.set Mv9 frvq 0 (.bool (decide (v < 0)))) frvq 1 (.slice av (nl v.natAbs) cv))
          have B10 : Below w.heap.size w ((w9.setCell ⟨zq, 0, none⟩ (.bool (decide (v < 0)))).setCell ⟨zq, 1, none⟩ (.slice av (nl v.natAbs) cv)) := (by have hszw := (B9).size; repeat (with_reducible first | refine Below.setCell ?_ (by first | omega | (simp <;> omega)) _ | refine Below.alloc ?_ (by first | omega | (simp <;> omega)) _ | refine Below.drew ?_ | refine below_drewN ?_ _ | exact B9))
          generalize ((w9.setCell ⟨zq, 0, none⟩ (.bool (decide (v < 0)))).setCell ⟨zq, 1, none⟩ (.slice av (nl v.natAbs) cv)) = w10 at Vq10 Vm10 Vr10 Mq10 M410 Mv10 B10 ⊢
          (try clear mc0 mc1 mc2)
          obtain ⟨mc0, mc1, mc2, mc3⟩ := Vm10
          have Vm10 := Lib.hid (BgV.mk mc0 mc1 mc2 mc3)
          (try clear rc0 rc1 rc2)
          obtain ⟨rc0, rc1, rc2, rc3⟩ := Vr10
          have Vr10 := Lib.hid (BgV.mk rc0 rc1 rc2 rc3)
          (try clear qc0 qc1 qc2)
          obtain ⟨qc0, qc1, qc2, qc3⟩ := Vq10
          have Vq10 := Lib.hid (BgV.mk qc0 qc1 qc2 qc3)
          go_wp2_with fail
          refine bodyPost_ret (v := .agg #[.bool (decide (v < 0)), .slice av (nl v.natAbs) cv]) (by simp only [results, Tryz.results234]; go_simp) rfl ?_
          exact ⟨av, cv, rfl, (by repeat (with_reducible first | refine Mag.set ?_ frvm _ _ | refine Mag.set ?_ frvr _ _ | refine Mag.set ?_ frvq _ _ | refine Mag.drew ?_ | refine Mag.drewN ?_ _ | refine Mag.alloc ?_ _ | exact Mv10)), (by have hszw := (B10).size; repeat (with_reducible first | refine Below.setCell ?_ (by first | omega | (simp <;> omega)) _ | refine Below.alloc ?_ (by first | omega | (simp <;> omega)) _ | refine Below.drew ?_ | refine below_drewN ?_ _ | exact B10)), fov⟩)
      | false =>
        have hv : v = Q := HV0.out rfl
        subst hv
        go_wp2_with fail
        refine bodyPost_ret (v := .agg #[.bool (decide (v < 0)), .slice aq (nl v.natAbs) cq]) (by simp only [results, Tryz.results234]; go_simp) rfl ?_
        exact ⟨aq, cq, rfl, (by repeat (with_reducible first | refine Mag.set ?_ frqm _ _ | refine Mag.set ?_ frqr _ _ | refine Mag.set ?_ frqq _ _ | refine Mag.drew ?_ | refine Mag.drewN ?_ _ | refine Mag.alloc ?_ _ | exact Mq7)), (by have hszw := (B7).size; repeat (with_reducible first | refine Below.setCell ?_ (by first | omega | (simp <;> omega)) _ | refine Below.alloc ?_ (by first | omega | (simp <;> omega)) _ | refine Below.drew ?_ | refine below_drewN ?_ _ | exact B7)), foq⟩
    · have kt : (((tz Q.natAbs : Nat) : Int) == 0) = false := by rw [beq_eq_false_iff_ne]; omega
      have HU3 : Hid (u = upB neg H false mode) := by rw [HU2.out, decide_eq_false (fun h => ht (tz_odd h))]; rfl
      clear ht
      go_wp2_with fail
      refine (HUP _ false).out.mono ?_
      rintro e w7 ⟨rfl, hb7⟩
      have Vm7 : BgV w7 b0 false (.slice a (nl x) cap) := (by refine BgV.below ?_ hb7; (repeat (with_reducible first | refine BgV.drew ?_ | refine BgV.drewN ?_ _ | refine BgV.alloc ?_ _)); exact Vm6.out)
      (try clear mc0 mc1 mc2)
      obtain ⟨mc0, mc1, mc2, mc3⟩ := Vm7
      have Vm7 := Lib.hid (BgV.mk mc0 mc1 mc2 mc3)
      have Vr7 : BgV w7 b1 false (.slice none 0 0) := (by refine BgV.below ?_ hb7; (repeat (with_reducible first | refine BgV.drew ?_ | refine BgV.drewN ?_ _ | refine BgV.alloc ?_ _)); exact Vr6.out)
      (try clear rc0 rc1 rc2)
      obtain ⟨rc0, rc1, rc2, rc3⟩ := Vr7
      have Vr7 := Lib.hid (BgV.mk rc0 rc1 rc2 rc3)
      have Vq7 : BgV w7 zq (decide (Q < 0)) (.slice aq (nl Q.natAbs) cq) := (by refine BgV.below ?_ hb7; (repeat (with_reducible first | refine BgV.drew ?_ | refine BgV.drewN ?_ _ | refine BgV.alloc ?_ _)); exact Vq6.out)
      (try clear qc0 qc1 qc2)
      obtain ⟨qc0, qc1, qc2, qc3⟩ := Vq7
      have Vq7 := Lib.hid (BgV.mk qc0 qc1 qc2 qc3)
      have Mq7 : Mag w7 aq (nl Q.natAbs) cq Q.natAbs := Mag.below (by repeat (with_reducible first | refine Mag.set ?_ (fun h => by have := Mq6 h; omega) _ _ | refine Mag.drew ?_ | refine Mag.alloc ?_ _ | refine Mag.drewN ?_ _ | exact Mq6)) hb7
      have B7 := below_box (w := w) (by have hszw := (B6).size; repeat (with_reducible first | refine Below.setCell ?_ (by first | omega | (simp <;> omega)) _ | refine Below.alloc ?_ (by first | omega | (simp <;> omega)) _ | refine Below.drew ?_ | refine below_drewN ?_ _ | exact B6)) hb7
      clear hb7
      rw [← HU3.out]
      cases u with
      | true =>
        have hv : v = Q1 := HV1.out rfl
        subst hv
        go_wp2_with fail
        first
        | go_region_with
            (first
              | (go_at_call 247; have xx := B8; refine (HA _ aq cq a4 c4 (by repeat (with_reducible first | refine Mag.set ?_ (fun h => by have := Mq8 h; omega) _ _ | refine Mag.drew ?_ | refine Mag.alloc ?_ _ | refine Mag.drewN ?_ _ | exact Mq8)) (by repeat (with_reducible first | refine Mag.set ?_ (fun h => by have := M48 h; omega) _ _ | refine Mag.drew ?_ | refine Mag.alloc ?_ _ | refine Mag.drewN ?_ _ | exact M48))).out.mono ?_; rintro e w9 ⟨av, cv, rfl, Mv9, hb9, hf9⟩; have Vm9 : BgV w9 b0 false (.slice a (nl x) cap) := (by refine BgV.below ?_ hb9; (repeat (with_reducible first | refine BgV.drew ?_ | refine BgV.drewN ?_ _ | refine BgV.alloc ?_ _)); exact Vm8.out); (try clear mc0 mc1 mc2); obtain ⟨mc0, mc1, mc2, mc3⟩ := Vm9; have Vm9 := Lib.hid (BgV.mk mc0 mc1 mc2 mc3); have Vr9 : BgV w9 b1 false (.slice none 0 0) := (by refine BgV.below ?_ hb9; (repeat (with_reducible first | refine BgV.drew ?_ | refine BgV.drewN ?_ _ | refine BgV.alloc ?_ _)); exact Vr8.out); (try clear rc0 rc1 rc2); obtain ⟨rc0, rc1, rc2, rc3⟩ := Vr9; have Vr9 := Lib.hid (BgV.mk rc0 rc1 rc2 rc3); have Vq9 : BgV w9 zq (decide (Q < 0)) (.slice aq (nl Q.natAbs) cq) := (by refine BgV.below ?_ hb9; (repeat (with_reducible first | refine BgV.drew ?_ | refine BgV.drewN ?_ _ | refine BgV.alloc ?_ _)); exact Vq8.out); (try clear qc0 qc1 qc2); obtain ⟨qc0, qc1, qc2, qc3⟩ := Vq9; have Vq9 := Lib.hid (BgV.mk qc0 qc1 qc2 qc3); have Mq9 : Mag w9 aq (nl Q.natAbs) cq Q.natAbs := Mag.below (by repeat (with_reducible first | refine Mag.set ?_ (fun h => by have := Mq8 h; omega) _ _ | refine Mag.drew ?_ | refine Mag.alloc ?_ _ | refine Mag.drewN ?_ _ | exact Mq8)) hb9; have M49 : Mag w9 a4 (nl o.natAbs) c4 o.natAbs := Mag.below (by repeat (with_reducible first | refine Mag.set ?_ (fun h => by have := M48 h; omega) _ _ | refine Mag.drew ?_ | refine Mag.alloc ?_ _ | refine Mag.drewN ?_ _ | exact M48)) hb9; have B9 := below_box (w := w) (by have hszw := (B8).size; repeat (with_reducible first | refine Below.setCell ?_ (by first | omega | (simp <;> omega)) _ | refine Below.alloc ?_ (by first | omega | (simp <;> omega)) _ | refine Below.drew ?_ | refine below_drewN ?_ _ | exact B8)) hb9; have hF9 : 0 < (nl v.natAbs) → w8.heap.size ≤ ab av := (fun h => by have hq := hf9 h; (try simp at hq); omega); have frvm : 0 < (nl v.natAbs) → ab av ≠ b0 := (fun h => by have := hF9 h; have := Vm8.out.lt; omega); have frvr : 0 < (nl v.natAbs) → ab av ≠ b1 := (fun h => by have := hF9 h; have := Vr8.out.lt; omega); have frvq : 0 < (nl v.natAbs) → ab av ≠ zq := (fun h => by have := hF9 h; have := Vq8.out.lt; omega); have fov : 0 < (nl v.natAbs) → w.heap.size ≤ ab av := (fun h => by have := hF9 h; have := B8.size; omega); clear hF9; clear hb9 hf9)
              | (go_at_call 219; have xx := B7; refine (HO _).out.mono ?_; rintro e w8 ⟨a4, c4, rfl, M48, hb8, hf8⟩; have Vm8 : BgV w8 b0 false (.slice a (nl x) cap) := (by refine BgV.below ?_ hb8; (repeat (with_reducible first | refine BgV.drew ?_ | refine BgV.drewN ?_ _ | refine BgV.alloc ?_ _)); exact Vm7.out); (try clear mc0 mc1 mc2); obtain ⟨mc0, mc1, mc2, mc3⟩ := Vm8; have Vm8 := Lib.hid (BgV.mk mc0 mc1 mc2 mc3); have Vr8 : BgV w8 b1 false (.slice none 0 0) := (by refine BgV.below ?_ hb8; (repeat (with_reducible first | refine BgV.drew ?_ | refine BgV.drewN ?_ _ | refine BgV.alloc ?_ _)); exact Vr7.out); (try clear rc0 rc1 rc2); obtain ⟨rc0, rc1, rc2, rc3⟩ := Vr8; have Vr8 := Lib.hid (BgV.mk rc0 rc1 rc2 rc3); have Vq8 : BgV w8 zq (decide (Q < 0)) (.slice aq (nl Q.natAbs) cq) := (by refine BgV.below ?_ hb8; (repeat (with_reducible first | refine BgV.drew ?_ | refine BgV.drewN ?_ _ | refine BgV.alloc ?_ _)); exact Vq7.out); (try clear qc0 qc1 qc2); obtain ⟨qc0, qc1, qc2, qc3⟩ := Vq8; have Vq8 := Lib.hid (BgV.mk qc0 qc1 qc2 qc3); have Mq8 : Mag w8 aq (nl Q.natAbs) cq Q.natAbs := Mag.below (by repeat (with_reducible first | refine Mag.set ?_ (fun h => by have := Mq7 h; omega) _ _ | refine Mag.drew ?_ | refine Mag.alloc ?_ _ | refine Mag.drewN ?_ _ | exact Mq7)) hb8; have B8 := below_box (w := w) (by have hszw := (B7).size; repeat (with_reducible first | refine Below.setCell ?_ (by first | omega | (simp <;> omega)) _ | refine Below.alloc ?_ (by first | omega | (simp <;> omega)) _ | refine Below.drew ?_ | refine below_drewN ?_ _ | exact B7)) hb8; have hF8 : 0 < (nl o.natAbs) → w7.heap.size ≤ ab a4 := (fun h => by have hq := hf8 h; (try simp at hq); omega); have fr4m : 0 < (nl o.natAbs) → ab a4 ≠ b0 := (fun h => by have := hF8 h; have := Vm7.out.lt; omega); have fr4r : 0 < (nl o.natAbs) → ab a4 ≠ b1 := (fun h => by have := hF8 h; have := Vr7.out.lt; omega); have fr4q : 0 < (nl o.natAbs) → ab a4 ≠ zq := (fun h => by have := hF8 h; have := Vq7.out.lt; omega); have fo4 : 0 < (nl o.natAbs) → w.heap.size ≤ ab a4 := (fun h => by have := hF8 h; have := B7.size; omega); clear hF8; clear hb8 hf8)
              | fail)
        | fail "region"
        all_goals (
          have Vq10 := BgV.put Vq9.out (decide (v < 0)) (.slice av (nl v.natAbs) cv)
          have Vm10 := (BgV.set (BgV.set Vm9.out nmq 0 (.bool (decide (v < 0)))) nmq 1 (.slice av (nl v.natAbs) cv))
          have Vr10 := (BgV.set (BgV.set Vr9.out nrq 0 (.bool (decide (v < 0)))) nrq 1 (.slice av (nl v.natAbs) cv))
          have Mq10 := (Mag.set (Mag.set Mq9 frqq 0 (.bool (decide (v < 0)))) frqq 1 (.slice av (nl v.natAbs) cv))
          have M410 := (Mag.set (Mag.set M49 fr4q 0 (.bool (decide (v < 0)))) fr4q 1 (.slice av (nl v.natAbs) cv))
          have Mv10 := (Mag.set (Mag.set Mv9 frvq 0 (.bool (decide (v < 0)))) frvq 1 (.slice av (nl v.natAbs) cv))
          have B10 : Below w.heap.size w ((w9.setCell ⟨zq, 0, none⟩ (.bool (decide (v < 0)))).setCell ⟨zq, 1, none⟩ (.slice av (nl v.natAbs) cv)) := (by have hszw := (B9).size; repeat (with_reducible first | refine Below.setCell ?_ (by first | omega | (simp <;> omega)) _ | refine Below.alloc ?_ (by first | omega | (simp <;> omega)) _ | refine Below.drew ?_ | refine below_drewN ?_ _ | exact B9))
          generalize ((w9.setCell ⟨zq, 0, none⟩ (.bool (decide (v < 0)))).setCell ⟨zq, 1, none⟩ (.slice av (nl v.natAbs) cv)) = w10 at Vq10 Vm10 Vr10 Mq10 M410 Mv10 B10 ⊢
          (try clear mc0 mc1 mc2)
          obtain ⟨mc0, mc1, mc2, mc3⟩ := Vm10
          have Vm10 := Lib.hid (BgV.mk mc0 mc1 mc2 mc3)
          (try clear rc0 rc1 rc2)
          obtain ⟨rc0, rc1, rc2, rc3⟩ := Vr10
          have Vr10 := Lib.hid (BgV.mk rc0 rc1 rc2 rc3)
          (try clear qc0 qc1 qc2)
          obtain ⟨qc0, qc1, qc2, qc3⟩ := Vq10
          have Vq10 := Lib.hid (BgV.mk qc0 qc1 qc2 qc3)
          go_wp2_with fail
          refine bodyPost_ret (v := .agg #[.bool (decide (v < 0)), .slice av (nl v.natAbs) cv]) (by simp only [results, Tryz.results234]; go_simp) rfl ?_
          exact ⟨av, cv, rfl, (by repeat (with_reducible first | refine Mag.set ?_ frvm _ _ | refine Mag.set ?_ frvr _ _ | refine Mag.set ?_ frvq _ _ | refine Mag.drew ?_ | refine Mag.drewN ?_ _ | refine Mag.alloc ?_ _ | exact Mv10)), (by have hszw := (B10).size; repeat (with_reducible first | refine Below.setCell ?_ (by first | omega | (simp <;> omega)) _ | refine Below.alloc ?_ (by first | omega | (simp <;> omega)) _ | refine Below.drew ?_ | refine below_drewN ?_ _ | exact B10)), fov⟩)
      | false =>
        have hv : v = Q := HV0.out rfl
        subst hv
        go_wp2_with fail
        refine bodyPost_ret (v := .agg #[.bool (decide (v < 0)), .slice aq (nl v.natAbs) cq]) (by simp only [results, Tryz.results234]; go_simp) rfl ?_
        exact ⟨aq, cq, rfl, (by repeat (with_reducible first | refine Mag.set ?_ frqm _ _ | refine Mag.set ?_ frqr _ _ | refine Mag.set ?_ frqq _ _ | refine Mag.drew ?_ | refine Mag.drewN ?_ _ | refine Mag.alloc ?_ _ | exact Mq7)), (by have hszw := (B7).size; repeat (with_reducible first | refine Below.setCell ?_ (by first | omega | (simp <;> omega)) _ | refine Below.alloc ?_ (by first | omega | (simp <;> omega)) _ | refine Below.drew ?_ | refine below_drewN ?_ _ | exact B7)), foq⟩

end Go.Proofs.YtmpcikkimcehnaaGreatDoor


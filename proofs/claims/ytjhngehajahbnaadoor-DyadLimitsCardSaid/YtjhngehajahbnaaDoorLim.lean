/-
  Walks: the law DyadLimits.
-/
import Derived.Test.YtjhngehajahbnaaDoorAw
namespace Go.Proofs.YtjhngehajahbnaaDoor
open Go.RowKit Sp

set_option maxRecDepth 100000 in
set_option maxHeartbeats 2000000 in
theorem one1_any (w : World) : Calls Tryd.prog 12 #[] w fun o w' => ∃ a, o = .returned (.agg #[.bool false, .bool false, .slice a 1 1, .int .i64 0]) ∧ Mag w' a 1 1 1 ∧ Below w.heap.size w w' := by
  have e1 : ¬ w.heap.size + 1 = w.heap.size := by omega
  go_enter Tryd.func12, Tryd.ntmps12
  go_wp2_with fail
  refine bodyPost_ret (v := .agg #[.bool false, .bool false, .slice (some ⟨w.heap.size + 1, 0, none⟩) 1 1, .int .i64 0]) (by simp only [results, Tryd.results12]; go_simp) rfl ?_
  have hm := Mag.one (w.alloc (.cells #[.bool false, .bool false, .slice (some ⟨w.heap.size + 1, 0, none⟩) 1 1, .int .i64 0] 27)) 22 1 (by omega)
  rw [World.size_alloc] at hm
  exact ⟨_, rfl, hm, (by repeat (with_reducible first | refine Below.setCell ?_ (by simp <;> omega) _ | refine Below.alloc ?_ (by simp <;> omega) _ | refine Below.drew ?_ | refine below_drewN ?_ _ | exact Below.refl _ _))⟩

/-- a variable for a dyad, just made -/
structure Dy0 (W : World) (b : Nat) : Prop where
  c0 : W.cell? ⟨b, 0, none⟩ = some (.bool false)
  c1 : W.cell? ⟨b, 1, none⟩ = some (.bool false)
  c2 : W.cell? ⟨b, 2, none⟩ = some (.slice none 0 0)
  c3 : W.cell? ⟨b, 3, none⟩ = some (.int .i64 0)
  z : ∀ i, W.frozen? ⟨b, i, none⟩ = false
  lt : b < W.heap.size
theorem Dy0.below {W W' : World} {b : Nat} (h : Dy0 W b) (hb : Below W.heap.size W W') : Dy0 W' b := by
  obtain ⟨h1, h2⟩ := bcell hb
  exact ⟨(h1 _ _ h.lt).trans h.c0, (h1 _ _ h.lt).trans h.c1, (h1 _ _ h.lt).trans h.c2, (h1 _ _ h.lt).trans h.c3, fun i => (h2 _ _ h.lt).trans (h.z i), Nat.lt_of_lt_of_le h.lt hb.size⟩
theorem Dy0.drew {W : World} {b : Nat} (h : Dy0 W b) : Dy0 W.drew b := ⟨h.c0, h.c1, h.c2, h.c3, h.z, h.lt⟩
theorem Dy0.made (W : World) (t : TypeId) (n : Nat) (hn : n = W.heap.size) : Dy0 (W.alloc (.cells #[.bool false, .bool false, .slice none 0 0, .int .i64 0] t)) n := by
  subst hn
  refine ⟨by rw [World.cell?_alloc_new]; rfl, by rw [World.cell?_alloc_new]; rfl, by rw [World.cell?_alloc_new]; rfl, by rw [World.cell?_alloc_new]; rfl, fun i => by simp [go_sem], by rw [World.size_alloc]; omega⟩

theorem keepc {n : Nat} {W w' : World} {b i : Nat} {v : Value} (hb : Below n W w') (h : b < n) (hc : W.cell? ⟨b, i, none⟩ = some v) : w'.cell? ⟨b, i, none⟩ = some v := (hb.cell (p := ⟨b, i, none⟩) h).trans hc
theorem kd (w : World) (b b' : Bool) (s : Bool) (a a' : Option Addr) (cap cap' : Nat) (x : Nat) (z f f' : Int) (m : Nat) (s' : Bool) (hx : Mag w a (nl z.natAbs) cap z.natAbs) (hy : Mag w a' m cap' x) (_hs : s = decide (z < 0)) (hm : m = nl x) (hv : dyEq b b' s s' z.natAbs x f f' = true) :
    Calls Tryd.prog 13 #[.agg #[.bool b, .bool s, .slice a (nl z.natAbs) cap, .int .i64 f], .agg #[.bool b', .bool s', .slice a' m cap', .int .i64 f']] w fun e w' => e = .returned (.bool true) ∧ Below w.heap.size w w' :=
  kdyad_any w b b' s s' a a' _ m cap cap' _ x f f' hx hy rfl hm true hv.symm

set_option maxRecDepth 100000 in
set_option maxHeartbeats 2000000 in
theorem limits_low (w : World) (hT : Tab w) (exp n z f y h u v : Int) (he0 : -9223372036854775808 ≤ exp) (he1 : exp ≤ 9223372036854775807) (hn0 : -9223372036854775808 ≤ n) (hn1 : n ≤ 9223372036854775807) (hy : y = 0) (hh : h = 0) (hu : u = 0) (hv : v = 0) (hdb : dbad (nrm (sgn false 1) exp) = true) (hdz : dman (nrm (sgn false 1) exp) = z) (hdf : dexp (nrm (sgn false 1) exp) = f) (hzz : z = 0) (hff : f = 0) (hc1 : decide (exp < -65536) = true) :
    Calls Tryd.prog 3 #[.int .i64 exp, .int .i64 n] w fun e w' => e = .returned (.bool true) ∧ Below w.heap.size w w' := by
  have HM := fun W b hm ht => Lib.hid (make_lit W false b 1 1 1 exp true z f hm (by omega) (by decide) ht he0 he1 hdb hdz hdf)
  have HZ := fun W b hm ht => Lib.hid (make_lit W true b 2 2 0 exp false y h hm (by omega) (by decide) ht he0 he1 rfl (by rw [hy]; rfl) (by rw [hh]; rfl))
  have HI := fun W => Lib.hid (one1_any W)
  have HA := fun W b b' (hm : Mag W b 1 1 1) (hm' : Mag W b' 1 1 1) htt => Lib.hid (retX (dadd_any W true false false false b b' 1 1 1 1 n 0 none (some (1, 0)) ⟨1, hm, by omega, by decide, hn0, hn1, rfl⟩ ⟨1, hm', by omega, by decide, by omega, by omega, by decide⟩ htt) true u v rfl (by rw [hu]; rfl) (by rw [hv]; rfl))
  have HK1 := fun W b c hm => Lib.hid (kd W false false (decide (y < 0)) b none c 0 0 y h 0 0 false hm (Mag.nil W) rfl rfl (by rw [hy, hh]; decide))
  have HK2 := fun W b c hm => Lib.hid (kd W true true (decide (u < 0)) b none c 0 0 u v 0 0 false hm (Mag.nil W) rfl rfl (by rw [hu, hv]; decide))
  have HK3 := fun W b c b' c' hm hm' => Lib.hid (kd W true true (decide (z < 0)) b b' c c' u.natAbs z f v (nl u.natAbs) (decide (u < 0)) hm hm' rfl rfl (by rw [hzz, hff, hu, hv]; decide))
  clear hu hv hzz hff
  have HW := fun W htt => Lib.hid (awake_any W htt)
  clear hy hh he0 he1 hn0 hn1 hdb hdz hdf
  go_enter Tryd.func3, Tryd.ntmps3
  go_wp2_with fail
  have m0 : Mag ((w.alloc (.cells #[.int .u32 1] 22)).alloc (.cells #[.bool false, .slice (some ⟨w.heap.size, 0, none⟩) 1 1] 25)) (some ⟨w.heap.size, 0, none⟩) 1 1 1 := (Mag.one w 22 1 (by omega)).alloc _
  have B0 : Below w.heap.size w ((w.alloc (.cells #[.int .u32 1] 22)).alloc (.cells #[.bool false, .slice (some ⟨w.heap.size, 0, none⟩) 1 1] 25)) := (by repeat (with_reducible first | refine Below.setCell ?_ (by simp <;> omega) _ | refine Below.alloc ?_ (by simp <;> omega) _ | refine Below.drew ?_ | refine below_drewN ?_ _ | exact Below.refl _ _))
  obtain ⟨x0, x1, x2⟩ : ((w.alloc (.cells #[.int .u32 1] 22)).alloc (.cells #[.bool false, .slice (some ⟨w.heap.size, 0, none⟩) 1 1] 25)).cell? ⟨w.heap.size + 1, 0, none⟩ = some (.bool false) ∧ ((w.alloc (.cells #[.int .u32 1] 22)).alloc (.cells #[.bool false, .slice (some ⟨w.heap.size, 0, none⟩) 1 1] 25)).cell? ⟨w.heap.size + 1, 1, none⟩ = some (.slice (some ⟨w.heap.size, 0, none⟩) 1 1)
      ∧ w.heap.size + 1 < ((w.alloc (.cells #[.int .u32 1] 22)).alloc (.cells #[.bool false, .slice (some ⟨w.heap.size, 0, none⟩) 1 1] 25)).heap.size := ⟨by go_simp, by go_simp, by simp⟩
  generalize ((w.alloc (.cells #[.int .u32 1] 22)).alloc (.cells #[.bool false, .slice (some ⟨w.heap.size, 0, none⟩) 1 1] 25)) = W0 at m0 B0 x0 x1 x2 ⊢
  generalize w.heap.size + 1 = b5 at x0 x1 x2 ⊢
  generalize (some (⟨w.heap.size, 0, none⟩ : Addr)) = a0 at m0 x1 ⊢
  refine (HM W0 a0 m0 (hT.below B0)).out.mono ?_
  rintro e w1 ⟨a1, c1, rfl, hm1, hb1, hfx1⟩
  have m01 := m0.below hb1
  have k0 := keepc hb1 x2 x0
  have k1 := keepc hb1 x2 x1
  have k2 : b5 < w1.heap.size := Nat.lt_of_lt_of_le x2 hb1.size
  have B1 := below_box (w := w) B0 hb1
  clear m0 B0 x0 x1 x2 hb1 hfx1
  go_wp2_with fail
  generalize hL6 : Obj.cells #[Value.bool true, .bool (decide (z < 0)), .slice a1 (nl z.natAbs) c1, .int .i64 f] 27 = L6
  have T6 : DyC (w1.alloc L6) w1.heap.size true (decide (z < 0)) (.slice a1 (nl z.natAbs) c1) f := by subst hL6; exact ⟨by go_simp, by go_simp, by go_simp, by go_simp, by simp⟩
  have m1 := hm1.alloc L6
  have m02 := m01.alloc L6
  have hz := Mag.two (w1.alloc L6) 22 0 0 (by omega) (by omega)
  have B2 : Below w.heap.size w (w1.alloc L6) := B1.alloc B1.size _
  have k0' := keepc ((Below.refl w1.heap.size w1).alloc (Nat.le_refl _) L6) k2 k0
  have k1' := keepc ((Below.refl w1.heap.size w1).alloc (Nat.le_refl _) L6) k2 k1
  have k2' : b5 < (w1.alloc L6).heap.size := by rw [World.size_alloc]; omega
  have hsz : w1.heap.size + 1 = (w1.alloc L6).heap.size := by rw [World.size_alloc]
  rw [hsz]
  rw [show (0 : Nat) + 0 * B = 0 by rw [Nat.zero_mul]] at hz
  generalize w1.heap.size = b6 at T6 ⊢
  generalize w1.alloc L6 = W1 at T6 m1 m02 hz B2 k0' k1' k2' ⊢
  clear hsz k0 k1 k2 B1 m01 hm1
  refine (HZ _ _ hz (hT.below (B2.alloc B2.size _))).out.mono ?_
  rintro e w2 ⟨a2, c2, rfl, hm2, hb2, hfx2⟩
  have ba := (Below.refl W1.heap.size W1).alloc (Nat.le_refl _) (.cells #[.int .u32 (0 : Nat), .int .u32 (0 : Nat)] 22)
  have T62 := (T6.below ba).below hb2
  have m12 := (m1.below ba).below hb2
  have m03 := (m02.below ba).below hb2
  have k0 := keepc hb2 (Nat.lt_of_lt_of_le k2' ba.size) (keepc ba k2' k0')
  have k1 := keepc hb2 (Nat.lt_of_lt_of_le k2' ba.size) (keepc ba k2' k1')
  have k2 : b5 < w2.heap.size := Nat.lt_of_lt_of_le (Nat.lt_of_lt_of_le k2' ba.size) hb2.size
  have B3 := below_box (w := w) (B2.alloc B2.size _) hb2
  clear T6 m1 m02 hz B2 k0' k1' k2' ba hb2 hfx2
  go_wp2_with fail
  generalize hL7 : Obj.cells #[Value.bool false, .bool (decide (y < 0)), .slice a2 (nl y.natAbs) c2, .int .i64 h] 27 = L7
  have T7 : DyC (w2.alloc L7) w2.heap.size false (decide (y < 0)) (.slice a2 (nl y.natAbs) c2) h := by subst hL7; exact ⟨by go_simp, by go_simp, by go_simp, by go_simp, by simp⟩
  have ba := (Below.refl w2.heap.size w2).alloc (Nat.le_refl _) L7
  have T6 := T62.below ba
  have m1 := m12.below ba
  have m02 := m03.below ba
  have m2 := hm2.below ba
  have q0 := keepc ba k2 k0
  have q1 := keepc ba k2 k1
  have q2 : b5 < (w2.alloc L7).heap.size := Nat.lt_of_lt_of_le k2 ba.size
  have B4 : Below w.heap.size w (w2.alloc L7) := B3.alloc B3.size _
  generalize w2.heap.size = b7 at T7 ⊢
  generalize w2.alloc L7 = W3 at T7 T6 m1 m02 m2 q0 q1 q2 B4 ⊢
  clear k0 k1 k2 B3 m03 m12 T62 hm2 ba
  go_cut [8] (fun pt wx => ∃ b8 a8 c8, pt = .pointer (some ⟨b8, 0, none⟩) ∧ Below W3.heap.size W3 wx ∧ DyC wx b8 true (decide (u < 0)) (.slice a8 (nl u.natAbs) c8) v ∧ Mag wx a8 (nl u.natAbs) c8 u.natAbs)
  case first =>
    have hdr : ∀ W : World, W.drew.heap.size = W.heap.size := fun _ => rfl
    have nb5 : ¬ b5 = W3.heap.size := by omega
    have nb5' : ¬ W3.heap.size = b5 := by omega
    have hB2 : Below W3.heap.size W3 W3 := Below.refl _ _
    go_region_held3 (fun w' => w'.cell? ⟨b5, 0, none⟩ = some (.bool false) ∧ w'.cell? ⟨b5, 1, none⟩ = some (.slice a0 1 1)) (first | (go_keep; done) | (go_simp; done))
      (first
        | (go_at_call 12; refine (HI _).out.mono ?_; rintro e w3 ⟨a3, rfl, hm3, hb3⟩; have hs3 := hb3.size; (try simp at hs3); have hB3 : Below W3.heap.size W3 w3 := Below.trans (by have hszw := (hB2).size; repeat (with_reducible first | refine Below.setCell ?_ (by first | omega | (simp <;> omega)) _ | refine Below.alloc ?_ (by first | omega | (simp <;> omega)) _ | refine Below.drew ?_ | refine below_drewN ?_ _ | exact hB2)) (hb3.mono (by first | exact Nat.le_refl _ | (simp; done) | (simp <;> omega) | omega)); have g0 := keepc hB3 q2 q0; have g1 := keepc hB3 q2 q1; have m04 := m02.below hB3; have n31 : b5 < w3.heap.size := (by omega); have n32 : ¬ b5 = w3.heap.size := (by omega); have n33 : ¬ w3.heap.size = b5 := (by omega); (try (have D3 : Dy0 w3 W3.heap.size := (by first | (refine Dy0.below (?_ : Dy0 _ _) hb3; (repeat (first | assumption | (refine Dy0.made _ _ _ ?_; first | rfl | (simp; done)) | with_reducible refine Dy0.drew ?_)); done) | fail))))
        | (go_at_call 11; refine (HA _ a0 a3 (m04.below (by repeat (with_reducible first | refine Below.setCell ?_ (by simp <;> omega) _ | refine Below.alloc ?_ (by simp <;> omega) _ | refine Below.drew ?_ | refine below_drewN ?_ _ | exact Below.refl _ _))) (hm3.below (by repeat (with_reducible first | refine Below.setCell ?_ (by simp <;> omega) _ | refine Below.alloc ?_ (by simp <;> omega) _ | refine Below.drew ?_ | refine below_drewN ?_ _ | exact Below.refl _ _))) (hT.below (B4.trans (((by have hszw := (hB3).size; repeat (with_reducible first | refine Below.setCell ?_ (by first | omega | (simp <;> omega)) _ | refine Below.alloc ?_ (by first | omega | (simp <;> omega)) _ | refine Below.drew ?_ | refine below_drewN ?_ _ | exact hB3)) : Below W3.heap.size W3 _).mono B4.size)))).out.mono ?_; rintro e w4 ⟨a4, c4, rfl, hm4, hb4, hf4⟩; have hs4 := hb4.size; (try simp at hs4 hf4); have hB4 : Below W3.heap.size W3 w4 := Below.trans (by have hszw := (hB3).size; repeat (with_reducible first | refine Below.setCell ?_ (by first | omega | (simp <;> omega)) _ | refine Below.alloc ?_ (by first | omega | (simp <;> omega)) _ | refine Below.drew ?_ | refine below_drewN ?_ _ | exact hB3)) (hb4.mono (by first | omega | (simp; done) | (simp <;> omega))); have g2 := keepc hB4 q2 q0; have g3 := keepc hB4 q2 q1; have n41 : b5 < w4.heap.size := (by omega); have n42 : ¬ b5 = w4.heap.size := (by omega); have n43 : ¬ w4.heap.size = b5 := (by omega); (try (have D4 : Dy0 w4 W3.heap.size := (by first | (refine Dy0.below (?_ : Dy0 _ _) hb4; (repeat (first | assumption | (refine Dy0.made _ _ _ ?_; first | rfl | (simp; done)) | with_reducible refine Dy0.drew ?_)); done) | fail); obtain ⟨d0, d1, d2, d3, d4, d5⟩ := D4)); (try (have D5 : Dy0 w4 w3.heap.size := (by first | (refine Dy0.below (?_ : Dy0 _ _) hb4; (repeat (first | assumption | (refine Dy0.made _ _ _ ?_; first | rfl | (simp; done)) | with_reducible refine Dy0.drew ?_)); done) | fail); obtain ⟨d0, d1, d2, d3, d4, d5⟩ := D5))))
    all_goals (
      have o4 : 0 < nl u.natAbs → ab a4 < w4.heap.size := hm4.old
      go_wp2_with fail
      go_meet
      refine ⟨_, a4, c4, rfl, ?_, ⟨?_, ?_, ?_, ?_, ?_⟩, ?_⟩
      · exact (by have hszw := (hB4).size; repeat (with_reducible first | refine Below.setCell ?_ (by first | omega | (simp <;> omega)) _ | refine Below.alloc ?_ (by first | omega | (simp <;> omega)) _ | refine Below.drew ?_ | refine below_drewN ?_ _ | exact hB4))
      · go_simp
      · go_simp
      · go_simp
      · go_simp
      · first | omega | (simp <;> omega) | fail
      · repeat (with_reducible first | refine Mag.set ?_ (fun h => by have := hf4 h; have := o4 h; omega) _ _ | refine Mag.drew ?_ | refine Mag.alloc ?_ _ | exact hm4))
  case rest =>
  obtain ⟨b8, a8, c8, rfl, hB5, T8, m8⟩ := hcut
  have T65 := T6.below hB5
  have T75 := T7.below hB5
  have m15 := m1.below hB5
  have m25 := m2.below hB5
  have B6 := below_box (w := w) B4 hB5
  obtain ⟨p0, p1, p2, p3, p4⟩ := T65
  obtain ⟨r0, r1, r2, r3, r4⟩ := T75
  obtain ⟨s0, s1, s2, s3, s4⟩ := T8
  clear T6 T7 m1 m02 m2 q0 q1 q2 B4 hB5
  go_wp2_with fail
  refine (HK1 _ a2 c2 m25).out.mono ?_
  rintro e w5 ⟨rfl, hb5⟩
  have T66 := (DyC.mk p0 p1 p2 p3 p4).below hb5
  have T86 := (DyC.mk s0 s1 s2 s3 s4).below hb5
  have m16 := m15.below hb5
  have m86 := m8.below hb5
  have B7 := below_box (w := w) B6 hb5
  clear p0 p1 p2 p3 p4 r0 r1 r2 r3 r4 s0 s1 s2 s3 s4 m15 m25 m8 B6 hb5
  obtain ⟨p0, p1, p2, p3, p4⟩ := T66
  obtain ⟨s0, s1, s2, s3, s4⟩ := T86
  go_wp2_with fail
  refine (HK2 _ a8 c8 m86).out.mono ?_
  rintro e w6 ⟨rfl, hb6⟩
  have T67 := (DyC.mk p0 p1 p2 p3 p4).below hb6
  have T87 := (DyC.mk s0 s1 s2 s3 s4).below hb6
  have m17 := m16.below hb6
  have m87 := m86.below hb6
  have B8 := below_box (w := w) B7 hb6
  clear p0 p1 p2 p3 p4 s0 s1 s2 s3 s4 m16 m86 B7 hb6
  obtain ⟨p0, p1, p2, p3, p4⟩ := T67
  obtain ⟨s0, s1, s2, s3, s4⟩ := T87
  go_wp2_with fail
  refine (HK3 _ a1 c1 a8 c8 m17 m87).out.mono ?_
  rintro e w7 ⟨rfl, hb7⟩
  have B9 := below_box (w := w) B8 hb7
  go_wp2_with fail
  refine (HW _ (hT.below B9)).out.mono ?_
  rintro e w8 ⟨rfl, hb8⟩
  have B10 := below_box (w := w) B9 hb8
  go_wp2_with fail
  go_ret
  exact ⟨rfl, B10⟩

set_option maxRecDepth 100000 in
set_option maxHeartbeats 2000000 in
theorem limits_high (w : World) (hT : Tab w) (exp n z f y h u v : Int) (he0 : -9223372036854775808 ≤ exp) (he1 : exp ≤ 9223372036854775807) (hn0 : -9223372036854775808 ≤ n) (hn1 : n ≤ 9223372036854775807) (hy : y = 0) (hh : h = 0) (hu : u = 0) (hv : v = 0) (hdb : dbad (nrm (sgn false 1) exp) = true) (hdz : dman (nrm (sgn false 1) exp) = z) (hdf : dexp (nrm (sgn false 1) exp) = f) (hzz : z = 0) (hff : f = 0) (hc1 : decide (exp < -65536) = false) (hc2 : decide (65536 ≤ exp) = true) :
    Calls Tryd.prog 3 #[.int .i64 exp, .int .i64 n] w fun e w' => e = .returned (.bool true) ∧ Below w.heap.size w w' := by
  have HM := fun W b hm ht => Lib.hid (make_lit W false b 1 1 1 exp true z f hm (by omega) (by decide) ht he0 he1 hdb hdz hdf)
  have HZ := fun W b hm ht => Lib.hid (make_lit W true b 2 2 0 exp false y h hm (by omega) (by decide) ht he0 he1 rfl (by rw [hy]; rfl) (by rw [hh]; rfl))
  have HI := fun W => Lib.hid (one1_any W)
  have HA := fun W b b' (hm : Mag W b 1 1 1) (hm' : Mag W b' 1 1 1) htt => Lib.hid (retX (dadd_any W true false false false b b' 1 1 1 1 n 0 none (some (1, 0)) ⟨1, hm, by omega, by decide, hn0, hn1, rfl⟩ ⟨1, hm', by omega, by decide, by omega, by omega, by decide⟩ htt) true u v rfl (by rw [hu]; rfl) (by rw [hv]; rfl))
  have HK1 := fun W b c hm => Lib.hid (kd W false false (decide (y < 0)) b none c 0 0 y h 0 0 false hm (Mag.nil W) rfl rfl (by rw [hy, hh]; decide))
  have HK2 := fun W b c hm => Lib.hid (kd W true true (decide (u < 0)) b none c 0 0 u v 0 0 false hm (Mag.nil W) rfl rfl (by rw [hu, hv]; decide))
  have HK3 := fun W b c b' c' hm hm' => Lib.hid (kd W true true (decide (z < 0)) b b' c c' u.natAbs z f v (nl u.natAbs) (decide (u < 0)) hm hm' rfl rfl (by rw [hzz, hff, hu, hv]; decide))
  clear hu hv hzz hff
  have HW := fun W htt => Lib.hid (awake_any W htt)
  clear hy hh he0 he1 hn0 hn1 hdb hdz hdf
  go_enter Tryd.func3, Tryd.ntmps3
  go_wp2_with fail
  have m0 : Mag ((w.alloc (.cells #[.int .u32 1] 22)).alloc (.cells #[.bool false, .slice (some ⟨w.heap.size, 0, none⟩) 1 1] 25)) (some ⟨w.heap.size, 0, none⟩) 1 1 1 := (Mag.one w 22 1 (by omega)).alloc _
  have B0 : Below w.heap.size w ((w.alloc (.cells #[.int .u32 1] 22)).alloc (.cells #[.bool false, .slice (some ⟨w.heap.size, 0, none⟩) 1 1] 25)) := (by repeat (with_reducible first | refine Below.setCell ?_ (by simp <;> omega) _ | refine Below.alloc ?_ (by simp <;> omega) _ | refine Below.drew ?_ | refine below_drewN ?_ _ | exact Below.refl _ _))
  obtain ⟨x0, x1, x2⟩ : ((w.alloc (.cells #[.int .u32 1] 22)).alloc (.cells #[.bool false, .slice (some ⟨w.heap.size, 0, none⟩) 1 1] 25)).cell? ⟨w.heap.size + 1, 0, none⟩ = some (.bool false) ∧ ((w.alloc (.cells #[.int .u32 1] 22)).alloc (.cells #[.bool false, .slice (some ⟨w.heap.size, 0, none⟩) 1 1] 25)).cell? ⟨w.heap.size + 1, 1, none⟩ = some (.slice (some ⟨w.heap.size, 0, none⟩) 1 1)
      ∧ w.heap.size + 1 < ((w.alloc (.cells #[.int .u32 1] 22)).alloc (.cells #[.bool false, .slice (some ⟨w.heap.size, 0, none⟩) 1 1] 25)).heap.size := ⟨by go_simp, by go_simp, by simp⟩
  generalize ((w.alloc (.cells #[.int .u32 1] 22)).alloc (.cells #[.bool false, .slice (some ⟨w.heap.size, 0, none⟩) 1 1] 25)) = W0 at m0 B0 x0 x1 x2 ⊢
  generalize w.heap.size + 1 = b5 at x0 x1 x2 ⊢
  generalize (some (⟨w.heap.size, 0, none⟩ : Addr)) = a0 at m0 x1 ⊢
  refine (HM W0 a0 m0 (hT.below B0)).out.mono ?_
  rintro e w1 ⟨a1, c1, rfl, hm1, hb1, hfx1⟩
  have m01 := m0.below hb1
  have k0 := keepc hb1 x2 x0
  have k1 := keepc hb1 x2 x1
  have k2 : b5 < w1.heap.size := Nat.lt_of_lt_of_le x2 hb1.size
  have B1 := below_box (w := w) B0 hb1
  clear m0 B0 x0 x1 x2 hb1 hfx1
  go_wp2_with fail
  generalize hL6 : Obj.cells #[Value.bool true, .bool (decide (z < 0)), .slice a1 (nl z.natAbs) c1, .int .i64 f] 27 = L6
  have T6 : DyC (w1.alloc L6) w1.heap.size true (decide (z < 0)) (.slice a1 (nl z.natAbs) c1) f := by subst hL6; exact ⟨by go_simp, by go_simp, by go_simp, by go_simp, by simp⟩
  have m1 := hm1.alloc L6
  have m02 := m01.alloc L6
  have hz := Mag.two (w1.alloc L6) 22 0 0 (by omega) (by omega)
  have B2 : Below w.heap.size w (w1.alloc L6) := B1.alloc B1.size _
  have k0' := keepc ((Below.refl w1.heap.size w1).alloc (Nat.le_refl _) L6) k2 k0
  have k1' := keepc ((Below.refl w1.heap.size w1).alloc (Nat.le_refl _) L6) k2 k1
  have k2' : b5 < (w1.alloc L6).heap.size := by rw [World.size_alloc]; omega
  have hsz : w1.heap.size + 1 = (w1.alloc L6).heap.size := by rw [World.size_alloc]
  rw [hsz]
  rw [show (0 : Nat) + 0 * B = 0 by rw [Nat.zero_mul]] at hz
  generalize w1.heap.size = b6 at T6 ⊢
  generalize w1.alloc L6 = W1 at T6 m1 m02 hz B2 k0' k1' k2' ⊢
  clear hsz k0 k1 k2 B1 m01 hm1
  refine (HZ _ _ hz (hT.below (B2.alloc B2.size _))).out.mono ?_
  rintro e w2 ⟨a2, c2, rfl, hm2, hb2, hfx2⟩
  have ba := (Below.refl W1.heap.size W1).alloc (Nat.le_refl _) (.cells #[.int .u32 (0 : Nat), .int .u32 (0 : Nat)] 22)
  have T62 := (T6.below ba).below hb2
  have m12 := (m1.below ba).below hb2
  have m03 := (m02.below ba).below hb2
  have k0 := keepc hb2 (Nat.lt_of_lt_of_le k2' ba.size) (keepc ba k2' k0')
  have k1 := keepc hb2 (Nat.lt_of_lt_of_le k2' ba.size) (keepc ba k2' k1')
  have k2 : b5 < w2.heap.size := Nat.lt_of_lt_of_le (Nat.lt_of_lt_of_le k2' ba.size) hb2.size
  have B3 := below_box (w := w) (B2.alloc B2.size _) hb2
  clear T6 m1 m02 hz B2 k0' k1' k2' ba hb2 hfx2
  go_wp2_with fail
  generalize hL7 : Obj.cells #[Value.bool false, .bool (decide (y < 0)), .slice a2 (nl y.natAbs) c2, .int .i64 h] 27 = L7
  have T7 : DyC (w2.alloc L7) w2.heap.size false (decide (y < 0)) (.slice a2 (nl y.natAbs) c2) h := by subst hL7; exact ⟨by go_simp, by go_simp, by go_simp, by go_simp, by simp⟩
  have ba := (Below.refl w2.heap.size w2).alloc (Nat.le_refl _) L7
  have T6 := T62.below ba
  have m1 := m12.below ba
  have m02 := m03.below ba
  have m2 := hm2.below ba
  have q0 := keepc ba k2 k0
  have q1 := keepc ba k2 k1
  have q2 : b5 < (w2.alloc L7).heap.size := Nat.lt_of_lt_of_le k2 ba.size
  have B4 : Below w.heap.size w (w2.alloc L7) := B3.alloc B3.size _
  generalize w2.heap.size = b7 at T7 ⊢
  generalize w2.alloc L7 = W3 at T7 T6 m1 m02 m2 q0 q1 q2 B4 ⊢
  clear k0 k1 k2 B3 m03 m12 T62 hm2 ba
  go_cut [8] (fun pt wx => ∃ b8 a8 c8, pt = .pointer (some ⟨b8, 0, none⟩) ∧ Below W3.heap.size W3 wx ∧ DyC wx b8 true (decide (u < 0)) (.slice a8 (nl u.natAbs) c8) v ∧ Mag wx a8 (nl u.natAbs) c8 u.natAbs)
  case first =>
    have hdr : ∀ W : World, W.drew.heap.size = W.heap.size := fun _ => rfl
    have nb5 : ¬ b5 = W3.heap.size := by omega
    have nb5' : ¬ W3.heap.size = b5 := by omega
    have hB2 : Below W3.heap.size W3 W3 := Below.refl _ _
    go_region_held3 (fun w' => w'.cell? ⟨b5, 0, none⟩ = some (.bool false) ∧ w'.cell? ⟨b5, 1, none⟩ = some (.slice a0 1 1)) (first | (go_keep; done) | (go_simp; done))
      (first
        | (go_at_call 12; refine (HI _).out.mono ?_; rintro e w3 ⟨a3, rfl, hm3, hb3⟩; have hs3 := hb3.size; (try simp at hs3); have hB3 : Below W3.heap.size W3 w3 := Below.trans (by have hszw := (hB2).size; repeat (with_reducible first | refine Below.setCell ?_ (by first | omega | (simp <;> omega)) _ | refine Below.alloc ?_ (by first | omega | (simp <;> omega)) _ | refine Below.drew ?_ | refine below_drewN ?_ _ | exact hB2)) (hb3.mono (by first | exact Nat.le_refl _ | (simp; done) | (simp <;> omega) | omega)); have g0 := keepc hB3 q2 q0; have g1 := keepc hB3 q2 q1; have m04 := m02.below hB3; have n31 : b5 < w3.heap.size := (by omega); have n32 : ¬ b5 = w3.heap.size := (by omega); have n33 : ¬ w3.heap.size = b5 := (by omega); (try (have D3 : Dy0 w3 W3.heap.size := (by first | (refine Dy0.below (?_ : Dy0 _ _) hb3; (repeat (first | assumption | (refine Dy0.made _ _ _ ?_; first | rfl | (simp; done)) | with_reducible refine Dy0.drew ?_)); done) | fail))))
        | (go_at_call 11; refine (HA _ a0 a3 (m04.below (by repeat (with_reducible first | refine Below.setCell ?_ (by simp <;> omega) _ | refine Below.alloc ?_ (by simp <;> omega) _ | refine Below.drew ?_ | refine below_drewN ?_ _ | exact Below.refl _ _))) (hm3.below (by repeat (with_reducible first | refine Below.setCell ?_ (by simp <;> omega) _ | refine Below.alloc ?_ (by simp <;> omega) _ | refine Below.drew ?_ | refine below_drewN ?_ _ | exact Below.refl _ _))) (hT.below (B4.trans (((by have hszw := (hB3).size; repeat (with_reducible first | refine Below.setCell ?_ (by first | omega | (simp <;> omega)) _ | refine Below.alloc ?_ (by first | omega | (simp <;> omega)) _ | refine Below.drew ?_ | refine below_drewN ?_ _ | exact hB3)) : Below W3.heap.size W3 _).mono B4.size)))).out.mono ?_; rintro e w4 ⟨a4, c4, rfl, hm4, hb4, hf4⟩; have hs4 := hb4.size; (try simp at hs4 hf4); have hB4 : Below W3.heap.size W3 w4 := Below.trans (by have hszw := (hB3).size; repeat (with_reducible first | refine Below.setCell ?_ (by first | omega | (simp <;> omega)) _ | refine Below.alloc ?_ (by first | omega | (simp <;> omega)) _ | refine Below.drew ?_ | refine below_drewN ?_ _ | exact hB3)) (hb4.mono (by first | omega | (simp; done) | (simp <;> omega))); have g2 := keepc hB4 q2 q0; have g3 := keepc hB4 q2 q1; have n41 : b5 < w4.heap.size := (by omega); have n42 : ¬ b5 = w4.heap.size := (by omega); have n43 : ¬ w4.heap.size = b5 := (by omega); (try (have D4 : Dy0 w4 W3.heap.size := (by first | (refine Dy0.below (?_ : Dy0 _ _) hb4; (repeat (first | assumption | (refine Dy0.made _ _ _ ?_; first | rfl | (simp; done)) | with_reducible refine Dy0.drew ?_)); done) | fail); obtain ⟨d0, d1, d2, d3, d4, d5⟩ := D4)); (try (have D5 : Dy0 w4 w3.heap.size := (by first | (refine Dy0.below (?_ : Dy0 _ _) hb4; (repeat (first | assumption | (refine Dy0.made _ _ _ ?_; first | rfl | (simp; done)) | with_reducible refine Dy0.drew ?_)); done) | fail); obtain ⟨d0, d1, d2, d3, d4, d5⟩ := D5))))
    all_goals (
      have o4 : 0 < nl u.natAbs → ab a4 < w4.heap.size := hm4.old
      go_wp2_with fail
      go_meet
      refine ⟨_, a4, c4, rfl, ?_, ⟨?_, ?_, ?_, ?_, ?_⟩, ?_⟩
      · exact (by have hszw := (hB4).size; repeat (with_reducible first | refine Below.setCell ?_ (by first | omega | (simp <;> omega)) _ | refine Below.alloc ?_ (by first | omega | (simp <;> omega)) _ | refine Below.drew ?_ | refine below_drewN ?_ _ | exact hB4))
      · go_simp
      · go_simp
      · go_simp
      · go_simp
      · first | omega | (simp <;> omega) | fail
      · repeat (with_reducible first | refine Mag.set ?_ (fun h => by have := hf4 h; have := o4 h; omega) _ _ | refine Mag.drew ?_ | refine Mag.alloc ?_ _ | exact hm4))
  case rest =>
  obtain ⟨b8, a8, c8, rfl, hB5, T8, m8⟩ := hcut
  have T65 := T6.below hB5
  have T75 := T7.below hB5
  have m15 := m1.below hB5
  have m25 := m2.below hB5
  have B6 := below_box (w := w) B4 hB5
  obtain ⟨p0, p1, p2, p3, p4⟩ := T65
  obtain ⟨r0, r1, r2, r3, r4⟩ := T75
  obtain ⟨s0, s1, s2, s3, s4⟩ := T8
  clear T6 T7 m1 m02 m2 q0 q1 q2 B4 hB5
  go_wp2_with fail
  refine (HK1 _ a2 c2 m25).out.mono ?_
  rintro e w5 ⟨rfl, hb5⟩
  have T66 := (DyC.mk p0 p1 p2 p3 p4).below hb5
  have T86 := (DyC.mk s0 s1 s2 s3 s4).below hb5
  have m16 := m15.below hb5
  have m86 := m8.below hb5
  have B7 := below_box (w := w) B6 hb5
  clear p0 p1 p2 p3 p4 r0 r1 r2 r3 r4 s0 s1 s2 s3 s4 m15 m25 m8 B6 hb5
  obtain ⟨p0, p1, p2, p3, p4⟩ := T66
  obtain ⟨s0, s1, s2, s3, s4⟩ := T86
  go_wp2_with fail
  refine (HK2 _ a8 c8 m86).out.mono ?_
  rintro e w6 ⟨rfl, hb6⟩
  have T67 := (DyC.mk p0 p1 p2 p3 p4).below hb6
  have T87 := (DyC.mk s0 s1 s2 s3 s4).below hb6
  have m17 := m16.below hb6
  have m87 := m86.below hb6
  have B8 := below_box (w := w) B7 hb6
  clear p0 p1 p2 p3 p4 s0 s1 s2 s3 s4 m16 m86 B7 hb6
  obtain ⟨p0, p1, p2, p3, p4⟩ := T67
  obtain ⟨s0, s1, s2, s3, s4⟩ := T87
  go_wp2_with fail
  refine (HK3 _ a1 c1 a8 c8 m17 m87).out.mono ?_
  rintro e w7 ⟨rfl, hb7⟩
  have B9 := below_box (w := w) B8 hb7
  go_wp2_with fail
  refine (HW _ (hT.below B9)).out.mono ?_
  rintro e w8 ⟨rfl, hb8⟩
  have B10 := below_box (w := w) B9 hb8
  go_wp2_with fail
  go_ret
  exact ⟨rfl, B10⟩

set_option maxRecDepth 100000 in
set_option maxHeartbeats 2000000 in
theorem limits_in (w : World) (hT : Tab w) (exp n z f y h u v : Int) (he0 : -9223372036854775808 ≤ exp) (he1 : exp ≤ 9223372036854775807) (hn0 : -9223372036854775808 ≤ n) (hn1 : n ≤ 9223372036854775807) (hy : y = 0) (hh : h = 0) (hu : u = 0) (hv : v = 0) (hdb : dbad (nrm (sgn false 1) exp) = false) (hdz : dman (nrm (sgn false 1) exp) = z) (hdf : dexp (nrm (sgn false 1) exp) = f) (hzz : z = 1) (hff : f = exp) (hlo : -65536 ≤ exp) (hhi : exp < 65536) (hc1 : decide (exp < -65536) = false) (hc2 : decide (65536 ≤ exp) = false) :
    Calls Tryd.prog 3 #[.int .i64 exp, .int .i64 n] w fun e w' => e = .returned (.bool true) ∧ Below w.heap.size w w' := by
  have HM := fun W b hm ht => Lib.hid (make_lit W false b 1 1 1 exp false z f hm (by omega) (by decide) ht he0 he1 hdb hdz hdf)
  have HZ := fun W b hm ht => Lib.hid (make_lit W true b 2 2 0 exp false y h hm (by omega) (by decide) ht he0 he1 rfl (by rw [hy]; rfl) (by rw [hh]; rfl))
  have HI := fun W => Lib.hid (one1_any W)
  have HA := fun W b b' (hm : Mag W b 1 1 1) (hm' : Mag W b' 1 1 1) htt => Lib.hid (retX (dadd_any W true false false false b b' 1 1 1 1 n 0 none (some (1, 0)) ⟨1, hm, by omega, by decide, hn0, hn1, rfl⟩ ⟨1, hm', by omega, by decide, by omega, by omega, by decide⟩ htt) true u v rfl (by rw [hu]; rfl) (by rw [hv]; rfl))
  have HK1 := fun W b c hm => Lib.hid (kd W false false (decide (y < 0)) b none c 0 0 y h 0 0 false hm (Mag.nil W) rfl rfl (by rw [hy, hh]; decide))
  have HK2 := fun W b c hm => Lib.hid (kd W true true (decide (u < 0)) b none c 0 0 u v 0 0 false hm (Mag.nil W) rfl rfl (by rw [hu, hv]; decide))
  have N1 : IsN (some (z, f)) := isN_some (Or.inr ⟨by omega, by omega, by subst hzz; rw [show blen (1 : Int).natAbs = 1 from rfl]; omega⟩)
  have HL := fun W b c hm htt => Lib.hid (dlog_any W false (decide (z < 0)) b _ c f (some (z, f)) (dyinX N1 hm) htt)
  rw [show dlog (some (z, f)) = exp by simp only [dlog, hzz]; rw [if_neg (by decide), show blen (1 : Int).natAbs = 1 from rfl]; omega, show dnz (some (z, f)) = true by rw [hzz]; rfl] at HL
  have HV := fun W b c hm htt => Lib.hid (dvalid_in W (dyinX (w := W) (a := b) (c := c) N1 hm) htt)
  rw [show (!dbad (some (z, f))) = true from rfl] at HV
  have hee : (exp == exp) = true := by simp
  clear N1 hu hv hzz hff
  have HW := fun W htt => Lib.hid (awake_any W htt)
  clear hy hh he0 he1 hn0 hn1 hdb hdz hdf
  go_enter Tryd.func3, Tryd.ntmps3
  go_wp2_with fail
  have m0 : Mag ((w.alloc (.cells #[.int .u32 1] 22)).alloc (.cells #[.bool false, .slice (some ⟨w.heap.size, 0, none⟩) 1 1] 25)) (some ⟨w.heap.size, 0, none⟩) 1 1 1 := (Mag.one w 22 1 (by omega)).alloc _
  have B0 : Below w.heap.size w ((w.alloc (.cells #[.int .u32 1] 22)).alloc (.cells #[.bool false, .slice (some ⟨w.heap.size, 0, none⟩) 1 1] 25)) := (by repeat (with_reducible first | refine Below.setCell ?_ (by simp <;> omega) _ | refine Below.alloc ?_ (by simp <;> omega) _ | refine Below.drew ?_ | refine below_drewN ?_ _ | exact Below.refl _ _))
  obtain ⟨x0, x1, x2⟩ : ((w.alloc (.cells #[.int .u32 1] 22)).alloc (.cells #[.bool false, .slice (some ⟨w.heap.size, 0, none⟩) 1 1] 25)).cell? ⟨w.heap.size + 1, 0, none⟩ = some (.bool false) ∧ ((w.alloc (.cells #[.int .u32 1] 22)).alloc (.cells #[.bool false, .slice (some ⟨w.heap.size, 0, none⟩) 1 1] 25)).cell? ⟨w.heap.size + 1, 1, none⟩ = some (.slice (some ⟨w.heap.size, 0, none⟩) 1 1)
      ∧ w.heap.size + 1 < ((w.alloc (.cells #[.int .u32 1] 22)).alloc (.cells #[.bool false, .slice (some ⟨w.heap.size, 0, none⟩) 1 1] 25)).heap.size := ⟨by go_simp, by go_simp, by simp⟩
  generalize ((w.alloc (.cells #[.int .u32 1] 22)).alloc (.cells #[.bool false, .slice (some ⟨w.heap.size, 0, none⟩) 1 1] 25)) = W0 at m0 B0 x0 x1 x2 ⊢
  generalize w.heap.size + 1 = b5 at x0 x1 x2 ⊢
  generalize (some (⟨w.heap.size, 0, none⟩ : Addr)) = a0 at m0 x1 ⊢
  refine (HM W0 a0 m0 (hT.below B0)).out.mono ?_
  rintro e w1 ⟨a1, c1, rfl, hm1, hb1, hfx1⟩
  have m01 := m0.below hb1
  have k0 := keepc hb1 x2 x0
  have k1 := keepc hb1 x2 x1
  have k2 : b5 < w1.heap.size := Nat.lt_of_lt_of_le x2 hb1.size
  have B1 := below_box (w := w) B0 hb1
  clear m0 B0 x0 x1 x2 hb1 hfx1
  go_wp2_with fail
  generalize hL6 : Obj.cells #[Value.bool false, .bool (decide (z < 0)), .slice a1 (nl z.natAbs) c1, .int .i64 f] 27 = L6
  have T6 : DyC (w1.alloc L6) w1.heap.size false (decide (z < 0)) (.slice a1 (nl z.natAbs) c1) f := by subst hL6; exact ⟨by go_simp, by go_simp, by go_simp, by go_simp, by simp⟩
  have m1 := hm1.alloc L6
  have m02 := m01.alloc L6
  have hz := Mag.two (w1.alloc L6) 22 0 0 (by omega) (by omega)
  have B2 : Below w.heap.size w (w1.alloc L6) := B1.alloc B1.size _
  have k0' := keepc ((Below.refl w1.heap.size w1).alloc (Nat.le_refl _) L6) k2 k0
  have k1' := keepc ((Below.refl w1.heap.size w1).alloc (Nat.le_refl _) L6) k2 k1
  have k2' : b5 < (w1.alloc L6).heap.size := by rw [World.size_alloc]; omega
  have hsz : w1.heap.size + 1 = (w1.alloc L6).heap.size := by rw [World.size_alloc]
  rw [hsz]
  rw [show (0 : Nat) + 0 * B = 0 by rw [Nat.zero_mul]] at hz
  generalize w1.heap.size = b6 at T6 ⊢
  generalize w1.alloc L6 = W1 at T6 m1 m02 hz B2 k0' k1' k2' ⊢
  clear hsz k0 k1 k2 B1 m01 hm1
  refine (HZ _ _ hz (hT.below (B2.alloc B2.size _))).out.mono ?_
  rintro e w2 ⟨a2, c2, rfl, hm2, hb2, hfx2⟩
  have ba := (Below.refl W1.heap.size W1).alloc (Nat.le_refl _) (.cells #[.int .u32 (0 : Nat), .int .u32 (0 : Nat)] 22)
  have T62 := (T6.below ba).below hb2
  have m12 := (m1.below ba).below hb2
  have m03 := (m02.below ba).below hb2
  have k0 := keepc hb2 (Nat.lt_of_lt_of_le k2' ba.size) (keepc ba k2' k0')
  have k1 := keepc hb2 (Nat.lt_of_lt_of_le k2' ba.size) (keepc ba k2' k1')
  have k2 : b5 < w2.heap.size := Nat.lt_of_lt_of_le (Nat.lt_of_lt_of_le k2' ba.size) hb2.size
  have B3 := below_box (w := w) (B2.alloc B2.size _) hb2
  clear T6 m1 m02 hz B2 k0' k1' k2' ba hb2 hfx2
  go_wp2_with fail
  generalize hL7 : Obj.cells #[Value.bool false, .bool (decide (y < 0)), .slice a2 (nl y.natAbs) c2, .int .i64 h] 27 = L7
  have T7 : DyC (w2.alloc L7) w2.heap.size false (decide (y < 0)) (.slice a2 (nl y.natAbs) c2) h := by subst hL7; exact ⟨by go_simp, by go_simp, by go_simp, by go_simp, by simp⟩
  have ba := (Below.refl w2.heap.size w2).alloc (Nat.le_refl _) L7
  have T6 := T62.below ba
  have m1 := m12.below ba
  have m02 := m03.below ba
  have m2 := hm2.below ba
  have q0 := keepc ba k2 k0
  have q1 := keepc ba k2 k1
  have q2 : b5 < (w2.alloc L7).heap.size := Nat.lt_of_lt_of_le k2 ba.size
  have B4 : Below w.heap.size w (w2.alloc L7) := B3.alloc B3.size _
  generalize w2.heap.size = b7 at T7 ⊢
  generalize w2.alloc L7 = W3 at T7 T6 m1 m02 m2 q0 q1 q2 B4 ⊢
  clear k0 k1 k2 B3 m03 m12 T62 hm2 ba
  go_cut [8] (fun pt wx => ∃ b8 a8 c8, pt = .pointer (some ⟨b8, 0, none⟩) ∧ Below W3.heap.size W3 wx ∧ DyC wx b8 true (decide (u < 0)) (.slice a8 (nl u.natAbs) c8) v ∧ Mag wx a8 (nl u.natAbs) c8 u.natAbs)
  case first =>
    have hdr : ∀ W : World, W.drew.heap.size = W.heap.size := fun _ => rfl
    have nb5 : ¬ b5 = W3.heap.size := by omega
    have nb5' : ¬ W3.heap.size = b5 := by omega
    have hB2 : Below W3.heap.size W3 W3 := Below.refl _ _
    go_region_held3 (fun w' => w'.cell? ⟨b5, 0, none⟩ = some (.bool false) ∧ w'.cell? ⟨b5, 1, none⟩ = some (.slice a0 1 1)) (first | (go_keep; done) | (go_simp; done))
      (first
        | (go_at_call 12; refine (HI _).out.mono ?_; rintro e w3 ⟨a3, rfl, hm3, hb3⟩; have hs3 := hb3.size; (try simp at hs3); have hB3 : Below W3.heap.size W3 w3 := Below.trans (by have hszw := (hB2).size; repeat (with_reducible first | refine Below.setCell ?_ (by first | omega | (simp <;> omega)) _ | refine Below.alloc ?_ (by first | omega | (simp <;> omega)) _ | refine Below.drew ?_ | refine below_drewN ?_ _ | exact hB2)) (hb3.mono (by first | exact Nat.le_refl _ | (simp; done) | (simp <;> omega) | omega)); have g0 := keepc hB3 q2 q0; have g1 := keepc hB3 q2 q1; have m04 := m02.below hB3; have n31 : b5 < w3.heap.size := (by omega); have n32 : ¬ b5 = w3.heap.size := (by omega); have n33 : ¬ w3.heap.size = b5 := (by omega); (try (have D3 : Dy0 w3 W3.heap.size := (by first | (refine Dy0.below (?_ : Dy0 _ _) hb3; (repeat (first | assumption | (refine Dy0.made _ _ _ ?_; first | rfl | (simp; done)) | with_reducible refine Dy0.drew ?_)); done) | fail))))
        | (go_at_call 11; refine (HA _ a0 a3 (m04.below (by repeat (with_reducible first | refine Below.setCell ?_ (by simp <;> omega) _ | refine Below.alloc ?_ (by simp <;> omega) _ | refine Below.drew ?_ | refine below_drewN ?_ _ | exact Below.refl _ _))) (hm3.below (by repeat (with_reducible first | refine Below.setCell ?_ (by simp <;> omega) _ | refine Below.alloc ?_ (by simp <;> omega) _ | refine Below.drew ?_ | refine below_drewN ?_ _ | exact Below.refl _ _))) (hT.below (B4.trans (((by have hszw := (hB3).size; repeat (with_reducible first | refine Below.setCell ?_ (by first | omega | (simp <;> omega)) _ | refine Below.alloc ?_ (by first | omega | (simp <;> omega)) _ | refine Below.drew ?_ | refine below_drewN ?_ _ | exact hB3)) : Below W3.heap.size W3 _).mono B4.size)))).out.mono ?_; rintro e w4 ⟨a4, c4, rfl, hm4, hb4, hf4⟩; have hs4 := hb4.size; (try simp at hs4 hf4); have hB4 : Below W3.heap.size W3 w4 := Below.trans (by have hszw := (hB3).size; repeat (with_reducible first | refine Below.setCell ?_ (by first | omega | (simp <;> omega)) _ | refine Below.alloc ?_ (by first | omega | (simp <;> omega)) _ | refine Below.drew ?_ | refine below_drewN ?_ _ | exact hB3)) (hb4.mono (by first | omega | (simp; done) | (simp <;> omega))); have g2 := keepc hB4 q2 q0; have g3 := keepc hB4 q2 q1; have n41 : b5 < w4.heap.size := (by omega); have n42 : ¬ b5 = w4.heap.size := (by omega); have n43 : ¬ w4.heap.size = b5 := (by omega); (try (have D4 : Dy0 w4 W3.heap.size := (by first | (refine Dy0.below (?_ : Dy0 _ _) hb4; (repeat (first | assumption | (refine Dy0.made _ _ _ ?_; first | rfl | (simp; done)) | with_reducible refine Dy0.drew ?_)); done) | fail); obtain ⟨d0, d1, d2, d3, d4, d5⟩ := D4)); (try (have D5 : Dy0 w4 w3.heap.size := (by first | (refine Dy0.below (?_ : Dy0 _ _) hb4; (repeat (first | assumption | (refine Dy0.made _ _ _ ?_; first | rfl | (simp; done)) | with_reducible refine Dy0.drew ?_)); done) | fail); obtain ⟨d0, d1, d2, d3, d4, d5⟩ := D5))))
    all_goals (
      have o4 : 0 < nl u.natAbs → ab a4 < w4.heap.size := hm4.old
      go_wp2_with fail
      go_meet
      refine ⟨_, a4, c4, rfl, ?_, ⟨?_, ?_, ?_, ?_, ?_⟩, ?_⟩
      · exact (by have hszw := (hB4).size; repeat (with_reducible first | refine Below.setCell ?_ (by first | omega | (simp <;> omega)) _ | refine Below.alloc ?_ (by first | omega | (simp <;> omega)) _ | refine Below.drew ?_ | refine below_drewN ?_ _ | exact hB4))
      · go_simp
      · go_simp
      · go_simp
      · go_simp
      · first | omega | (simp <;> omega) | fail
      · repeat (with_reducible first | refine Mag.set ?_ (fun h => by have := hf4 h; have := o4 h; omega) _ _ | refine Mag.drew ?_ | refine Mag.alloc ?_ _ | exact hm4))
  case rest =>
  obtain ⟨b8, a8, c8, rfl, hB5, T8, m8⟩ := hcut
  have T65 := T6.below hB5
  have T75 := T7.below hB5
  have m15 := m1.below hB5
  have m25 := m2.below hB5
  have B6 := below_box (w := w) B4 hB5
  obtain ⟨p0, p1, p2, p3, p4⟩ := T65
  obtain ⟨r0, r1, r2, r3, r4⟩ := T75
  obtain ⟨s0, s1, s2, s3, s4⟩ := T8
  clear T6 T7 m1 m02 m2 q0 q1 q2 B4 hB5
  go_wp2_with fail
  refine (HK1 _ a2 c2 m25).out.mono ?_
  rintro e w5 ⟨rfl, hb5⟩
  have T66 := (DyC.mk p0 p1 p2 p3 p4).below hb5
  have T86 := (DyC.mk s0 s1 s2 s3 s4).below hb5
  have m16 := m15.below hb5
  have m86 := m8.below hb5
  have B7 := below_box (w := w) B6 hb5
  clear p0 p1 p2 p3 p4 r0 r1 r2 r3 r4 s0 s1 s2 s3 s4 m15 m25 m8 B6 hb5
  obtain ⟨p0, p1, p2, p3, p4⟩ := T66
  obtain ⟨s0, s1, s2, s3, s4⟩ := T86
  go_wp2_with fail
  refine (HK2 _ a8 c8 m86).out.mono ?_
  rintro e w6 ⟨rfl, hb6⟩
  have T67 := (DyC.mk p0 p1 p2 p3 p4).below hb6
  have T87 := (DyC.mk s0 s1 s2 s3 s4).below hb6
  have m17 := m16.below hb6
  have m87 := m86.below hb6
  have B8 := below_box (w := w) B7 hb6
  clear p0 p1 p2 p3 p4 s0 s1 s2 s3 s4 m16 m86 B7 hb6
  obtain ⟨p0, p1, p2, p3, p4⟩ := T67
  obtain ⟨s0, s1, s2, s3, s4⟩ := T87
  go_wp2_with fail
  refine (HL _ a1 c1 m17 (hT.below B8)).out.mono ?_
  rintro e w7 ⟨rfl, hb7⟩
  have T68 := (DyC.mk p0 p1 p2 p3 p4).below hb7
  have m18 := m17.below hb7
  have B9 := below_box (w := w) B8 hb7
  clear p0 p1 p2 p3 p4 s0 s1 s2 s3 s4
  obtain ⟨p0, p1, p2, p3, p4⟩ := T68
  go_wp2_with fail
  refine (HV _ a1 c1 m18 (hT.below B9)).out.mono ?_
  rintro e w8 ⟨rfl, hb8⟩
  have B10 := below_box (w := w) B9 hb8
  go_wp2_with fail
  refine (HW _ (hT.below B10)).out.mono ?_
  rintro e w9 ⟨rfl, hb9⟩
  have B11 := below_box (w := w) B10 hb9
  go_wp2_with fail
  go_ret
  exact ⟨rfl, B11⟩

theorem limits_any (w : World) (hT : Tab w) (exp n : Int) (he0 : -9223372036854775808 ≤ exp) (he1 : exp ≤ 9223372036854775807) (hn0 : -9223372036854775808 ≤ n) (hn1 : n ≤ 9223372036854775807) :
    Calls Tryd.prog 3 #[.int .i64 exp, .int .i64 n] w fun e w' => e = .returned (.bool true) ∧ Below w.heap.size w w' := by
  have es : sgn false 1 = 1 := rfl
  have eb : blen (1 : Int).natAbs = 1 := rfl
  have ez : tz (1 : Int).natAbs = 0 := rfl
  by_cases h1 : exp < -65536
  · have hd : nrm (sgn false 1) exp = none := by rw [es]; exact nrm_none.2 ⟨by decide, Or.inr (by rw [ez]; omega)⟩
    exact limits_low w hT exp n 0 0 0 0 0 0 he0 he1 hn0 hn1 rfl rfl rfl rfl (by rw [hd]; rfl) (by rw [hd]; rfl) (by rw [hd]; rfl) rfl rfl (by simpa using h1)
  · by_cases h2 : 65536 ≤ exp
    · have hd : nrm (sgn false 1) exp = none := by rw [es]; exact nrm_none.2 ⟨by decide, Or.inl (by rw [eb]; omega)⟩
      exact limits_high w hT exp n 0 0 0 0 0 0 he0 he1 hn0 hn1 rfl rfl rfl rfl (by rw [hd]; rfl) (by rw [hd]; rfl) (by rw [hd]; rfl) rfl rfl (by simpa using h1) (by simpa using h2)
    · have hd : nrm (sgn false 1) exp = some (1, exp) := by rw [es]; exact nrm_self (Or.inr ⟨by decide, by omega, by rw [eb]; omega⟩)
      exact limits_in w hT exp n 1 exp 0 0 0 0 he0 he1 hn0 hn1 rfl rfl rfl rfl (by rw [hd]; rfl) (by rw [hd]; rfl) (by rw [hd]; rfl) rfl rfl (by omega) (by omega) (by simpa using h1) (by simpa using h2)

end Go.Proofs.YtjhngehajahbnaaDoor

/-
  Walks: package dyad, round.go: cut.
-/
import Derived.Test.YtjhngehajahbnaaDoorCut
import Derived.Deep.RegionWith
namespace Go.Proofs.YtjhngehajahbnaaDoor
open Go.RowKit Sp

set_option maxRecDepth 100000 in
set_option maxHeartbeats 2000000 in
theorem cut_b (w : World) (s : Bool) (more : Bool) (a : Option Addr) (c : Nat) (x E n p r h c0 g : Int) (T : Nat) (hx : Mag w a (nl x.natAbs) c x.natAbs) (hxl : blen x.natAbs ≤ 1048576) (hT0 : 1 ≤ T) (hT1 : T ≤ blen x.natAbs)
    (hn : n = shl x (-(T : Int))) (hp : p = n * 2 ^ T) (hr : r = x - p) (hh : h = 2 ^ (T - 1)) (hc0 : c0 = cmpI r h) (hg : g = sg r) (hnl : blen n.natAbs ≤ 1048576) (hpl : blen p.natAbs ≤ 1048576) (_hc1 : decide (c0 = 0) = false) (hc2 : (c0 == 0) = false) (_hg1 : decide (g = 0) = true) (hg2 : (g == 0) = true) :
    Calls Tryd.prog 103 #[.agg #[.bool s, .bool (decide (x < 0)), .slice a (nl x.natAbs) c, .int .i64 E, .bool more], .int .i64 T] w (RetCut w n c0 (!more)) := by
  have hl := nl_lim hxl
  have hln := nl_lim hnl
  have hlp := nl_lim hpl
  have HB := fun W b c h => Lib.hid (bitlen_z W b c x h hl)
  have HR := fun W b c h => Lib.hid (right_z W b c x T h hl (by omega))
  rw [← hn] at HR
  have HL := fun W b c h => Lib.hid (left_z W b c n (T : Int) p (by rw [hp]; simp) h hln (by omega) (by omega))
  have HS := fun W b c b' c' h h' => Lib.hid (sub_z W b b' c c' x p r hr h h' hl hlp)
  have HH := fun W b c hm => Lib.hid (left_z W b c 1 ((T : Int) - 1) h (by rw [hh, Int.one_mul]; congr 1; omega) hm (by decide) (by omega) (by omega))
  have HC := fun W b c b' c' hm hm' => Lib.hid (cmp_z W b b' c c' r h c0 hc0 hm hm')
  have HG := fun W b c hm => Lib.hid (sign_z W b c r hm)
  rw [← hg] at HG
  obtain ⟨u, hu⟩ : ∃ u, u = (T : Int) - 1 := ⟨_, rfl⟩
  have hwt : IntKind.i64.wrap ((T : Int) - 1) = u := by rw [IntKind.wrap_i64]; omega
  rw [← hu] at HH
  have hT2 : ¬ (blen x.natAbs : Int) < (T : Int) := by omega
  obtain ⟨o, ho⟩ : ∃ o : Int, o = 1 := ⟨_, rfl⟩
  have HO2 := fun W => Lib.hid (fromInt_o W o ho)
  rw [← ho] at HH
  clear ho hu hn hp hr hh hc0 hg hnl hpl hT0 hT1 hxl
  have e1 : ¬ w.heap.size + 1 = w.heap.size := by omega
  go_enter Tryd.func103, Tryd.ntmps103
  go_wp2_with fail
  refine (HB _ a c (hx.below (by repeat (with_reducible first | refine Below.setCell ?_ (by simp <;> omega) _ | refine Below.alloc ?_ (by simp <;> omega) _ | refine Below.drew ?_ | refine below_drewN ?_ _ | exact Below.refl _ _)))).out.mono ?_
  rintro e w1 ⟨rfl, hb1⟩
  obtain ⟨hc1, hz1⟩ := bcell (hb1.mono (show w.heap.size + 2 ≤ _ by simp))
  have hg1 : w.heap.size + 2 ≤ w1.heap.size := by have := hb1.size; simpa using this
  have hbw := below_box (w := w) (by repeat (with_reducible first | refine Below.setCell ?_ (by simp <;> omega) _ | refine Below.alloc ?_ (by simp <;> omega) _ | refine Below.drew ?_ | refine below_drewN ?_ _ | exact Below.refl _ _)) hb1
  go_wp2_with fail
  refine (HR _ a c (hx.below (by have hszw := hbw.size; repeat (with_reducible first | refine Below.setCell ?_ (by first | omega | (simp <;> omega)) _ | refine Below.alloc ?_ (by first | omega | (simp <;> omega)) _ | refine Below.drew ?_ | refine below_drewN ?_ _ | exact hbw)))).out.mono ?_
  rintro e w2 ⟨a2, c2, rfl, hm2, hb2, hf2⟩
  have hg2 : w.heap.size + 2 ≤ w2.heap.size := by have := hb2.size; (try simp at this); omega
  have hfr2 : 0 < nl n.natAbs → w.heap.size + 2 ≤ ab a2 := fun h => by have := hf2 h; (try simp at this); omega
  obtain ⟨hc2, hz2⟩ := bcell (hb2.mono (show w.heap.size + 2 ≤ _ by simpa using hg1))
  have hbw2 := below_box (w := w) (by have hszw := hbw.size; repeat (with_reducible first | refine Below.setCell ?_ (by first | omega | (simp <;> omega)) _ | refine Below.alloc ?_ (by first | omega | (simp <;> omega)) _ | refine Below.drew ?_ | refine below_drewN ?_ _ | exact hbw)) hb2
  obtain ⟨q1, q2, q4, q5, q6⟩ : w2.cell? ⟨w.heap.size, 1, none⟩ = some (.bool (decide (x < 0))) ∧ w2.cell? ⟨w.heap.size, 2, none⟩ = some (.slice a (nl x.natAbs) c) ∧ w2.cell? ⟨w.heap.size, 4, none⟩ = some (.bool more) ∧ w2.cell? ⟨w.heap.size + 1, 0, none⟩ = some (.bool false) ∧ w2.cell? ⟨w.heap.size + 1, 1, none⟩ = some (.slice none 0 0) := by
    refine ⟨?_, ?_, ?_, ?_, ?_⟩ <;> go_simp
  obtain ⟨z5, z6⟩ : w2.frozen? ⟨w.heap.size + 1, 0, none⟩ = false ∧ w2.frozen? ⟨w.heap.size + 1, 1, none⟩ = false := by
    refine ⟨?_, ?_⟩ <;> go_simp
  clear hc1 hc2 hz1 hz2 hbw hb1 hf2
  have hbw := hbw2
  obtain ⟨o01p, o02p, o03p, o04p, o05p, o06p, o07p, o08p, o09p, o10p, o11p, o12p, o13p, o14p, o15p, o16p, o17p, o18p, o19p, o20p, o21p, o22p, o23p, o24p, o25p, o26p⟩ := old2' hg2
  have old2n : 0 < nl n.natAbs → ab a2 < w2.heap.size := hm2.old
  go_wp2_with fail
  go_cut [8] (fun pt wx => ∃ b8 a4 c4, pt = .pointer (some ⟨b8, 0, none⟩) ∧ w.heap.size + 2 ≤ b8 ∧ b8 < wx.heap.size ∧ wx.cell? ⟨w.heap.size, 4, none⟩ = some (.bool more) ∧ wx.cell? ⟨w.heap.size + 1, 0, none⟩ = some (.bool (decide (n < 0))) ∧ wx.cell? ⟨w.heap.size + 1, 1, none⟩ = some (.slice a2 (nl n.natAbs) c2)
    ∧ wx.cell? ⟨b8, 0, none⟩ = some (.bool (decide (r < 0))) ∧ wx.cell? ⟨b8, 1, none⟩ = some (.slice a4 (nl r.natAbs) c4) ∧ wx.frozen? ⟨w.heap.size + 1, 0, none⟩ = false ∧ wx.frozen? ⟨w.heap.size + 1, 1, none⟩ = false ∧ Mag wx a2 (nl n.natAbs) c2 n.natAbs ∧ Mag wx a4 (nl r.natAbs) c4 r.natAbs ∧ Below w.heap.size w wx)
  case first =>
    go_region_held3 (fun w' => w'.cell? ⟨w.heap.size, 1, none⟩ = some (.bool (decide (x < 0))) ∧ w'.cell? ⟨w.heap.size, 2, none⟩ = some (.slice a (nl x.natAbs) c) ∧ w'.cell? ⟨w.heap.size + 1, 0, none⟩ = some (.bool (decide (n < 0))) ∧ w'.cell? ⟨w.heap.size + 1, 1, none⟩ = some (.slice a2 (nl n.natAbs) c2)) (first | (go_keep; done) | (go_simp; done))
      (first
        | (go_at_call 48; refine (HL _ a2 c2 (by repeat (with_reducible first | refine Mag.set ?_ (fun h => by have := hfr2 h; omega) _ _ | refine Mag.drew ?_ | refine Mag.alloc ?_ _ | refine Mag.drewN ?_ _ | refine Mag.below ?_ (Below.drew (Below.refl _ _)) | refine Mag.below ?_ ((Below.refl _ _).alloc (Nat.le_refl _) _) | exact hm2))).out.mono ?_; rintro e w3 ⟨a3, c3, rfl, hm3, hb3, hf3⟩; obtain ⟨hc3, hz3⟩ := bcell hb3; have hs3 := hb3.size; (try simp at hs3 hf3); have hg3 : w.heap.size + 2 ≤ w3.heap.size := (by omega); have hm23 : Mag w3 a2 (nl n.natAbs) c2 n.natAbs := Mag.below (by repeat (with_reducible first | refine Mag.set ?_ (fun h => by have := hfr2 h; omega) _ _ | refine Mag.drew ?_ | refine Mag.alloc ?_ _ | refine Mag.drewN ?_ _ | refine Mag.below ?_ (Below.drew (Below.refl _ _)) | refine Mag.below ?_ ((Below.refl _ _).alloc (Nat.le_refl _) _) | exact hm2)) hb3; have hbw3 := below_box (w := w) (by have hszw := hbw.size; repeat (with_reducible first | refine Below.setCell ?_ (by first | omega | (simp <;> omega)) _ | refine Below.alloc ?_ (by first | omega | (simp <;> omega)) _ | refine Below.drew ?_ | refine below_drewN ?_ _ | exact hbw)) hb3; obtain ⟨o01q, o02q, o03q, o04q, o05q, o06q, o07q, o08q, o09q, o10q, o11q, o12q, o13q, o14q, o15q, o16q, o17q, o18q, o19q, o20q, o21q, o22q, o23q, o24q, o25q, o26q⟩ := old2' hg3; (try (have hs23 : w2.heap.size < w3.heap.size := (by omega))))
        | (go_at_call 110; refine (HS _ a c a3 c3 (hx.below (by have hszw := (hbw3).size; repeat (with_reducible first | refine Below.setCell ?_ (by first | omega | (simp <;> omega)) _ | refine Below.alloc ?_ (by first | omega | (simp <;> omega)) _ | refine Below.drew ?_ | refine below_drewN ?_ _ | exact hbw3))) (Mag.below hm3 (by repeat (with_reducible first | refine Below.setCell ?_ (by simp <;> omega) _ | refine Below.alloc ?_ (by simp <;> omega) _ | refine Below.drew ?_ | refine below_drewN ?_ _ | exact Below.refl _ _)))).out.mono ?_; rintro e w4 ⟨a4, c4, rfl, hm4, hb4, hf4⟩; obtain ⟨hc4, hz4⟩ := bcell hb4; have hs4 := hb4.size; (try simp at hs4 hf4); have hg4 : w.heap.size + 2 ≤ w4.heap.size := (by omega); have hm24 : Mag w4 a2 (nl n.natAbs) c2 n.natAbs := Mag.below (Mag.below hm23 (by repeat (with_reducible first | refine Below.setCell ?_ (by simp <;> omega) _ | refine Below.alloc ?_ (by simp <;> omega) _ | refine Below.drew ?_ | refine below_drewN ?_ _ | exact Below.refl _ _))) hb4; have hbw4 := below_box (w := w) (by have hszw := (hbw3).size; repeat (with_reducible first | refine Below.setCell ?_ (by first | omega | (simp <;> omega)) _ | refine Below.alloc ?_ (by first | omega | (simp <;> omega)) _ | refine Below.drew ?_ | refine below_drewN ?_ _ | exact hbw3)) hb4; obtain ⟨o01r, o02r, o03r, o04r, o05r, o06r, o07r, o08r, o09r, o10r, o11r, o12r, o13r, o14r, o15r, o16r, o17r, o18r, o19r, o20r, o21r, o22r, o23r, o24r, o25r, o26r⟩ := old2' hg4; (try (have hs34 : w3.heap.size < w4.heap.size := (by omega))); (try (have hs24 : w2.heap.size < w4.heap.size := (by omega)))))
    all_goals (
      have old4n : 0 < nl r.natAbs → ab a4 < w4.heap.size := hm4.old
      have old5n : 0 < nl n.natAbs → ab a2 < w3.heap.size := hm23.old
      go_wp2_with fail
      go_meet
      refine ⟨_, a4, c4, rfl, ?_, ?_, ?_, ?_, ?_, ?_, ?_, ?_, ?_, ?_, ?_, ?_⟩
      · omega
      · simp <;> omega
      · go_simp
      · go_simp
      · go_simp
      · go_simp
      · go_simp
      · go_simp
      · go_simp
      · repeat (with_reducible first | refine Mag.set ?_ (fun h => by have := old2n h; omega) _ _ | refine Mag.drew ?_ | refine Mag.alloc ?_ _ | refine Mag.drewN ?_ _ | exact hm24)
      · repeat (with_reducible first | refine Mag.set ?_ (fun h => by have := old4n h; have := hf4 h; omega) _ _ | refine Mag.drew ?_ | refine Mag.alloc ?_ _ | refine Mag.drewN ?_ _ | exact hm4)
      · exact (by have hszw := (hbw4).size; repeat (with_reducible first | refine Below.setCell ?_ (by first | omega | (simp <;> omega)) _ | refine Below.alloc ?_ (by first | omega | (simp <;> omega)) _ | refine Below.drew ?_ | refine below_drewN ?_ _ | exact hbw4)))
  case rest =>
  obtain ⟨b8, a4, c4, rfl, hg4, hg4', r4, r5, r6, r7, r8, y5, y6, hm24, hm4, hbwc⟩ := hcut
  clear q1 q2 q4 q5 q6 z5 z6 hbw hbw2 hb2
  have hbw := hbwc
  obtain ⟨o01, o02, o03, o04, o05, o06, o07, o08, o09, o10, o11, o12, o13, o14, o15, o16, o17, o18, o19, o20, o21, o22, o23, o24, o25, o26⟩ := old2' hg4
  go_wp2_with fail
  go_region_held3 (fun w' => w'.cell? ⟨b8, 0, none⟩ = some (.bool (decide (r < 0))) ∧ w'.cell? ⟨b8, 1, none⟩ = some (.slice a4 (nl r.natAbs) c4)) (first | (go_keep; done) | (go_simp; done))
    (first
      | (go_at_call 64; refine (HO2 _).out.mono ?_; rintro e w5 ⟨a5, c5, rfl, hm5, hb5, hf5⟩; obtain ⟨hc5, hz5⟩ := bcell (hb5.mono (show b8 + 1 ≤ _ by simp <;> omega)); have hg5 : b8 + 1 ≤ w5.heap.size := (by have := hb5.size; (try simp at this); omega); have hm25 : Mag w5 a2 (nl n.natAbs) c2 n.natAbs := Mag.below (Mag.below hm24 (by repeat (with_reducible first | refine Below.setCell ?_ (by simp <;> omega) _ | refine Below.alloc ?_ (by simp <;> omega) _ | refine Below.drew ?_ | refine below_drewN ?_ _ | exact Below.refl _ _))) hb5; have hm45 : Mag w5 a4 (nl r.natAbs) c4 r.natAbs := Mag.below (Mag.below hm4 (by repeat (with_reducible first | refine Below.setCell ?_ (by simp <;> omega) _ | refine Below.alloc ?_ (by simp <;> omega) _ | refine Below.drew ?_ | refine below_drewN ?_ _ | exact Below.refl _ _))) hb5; have hbw5 := below_box (w := w) (by have hszw := hbw.size; repeat (with_reducible first | refine Below.setCell ?_ (by first | omega | (simp <;> omega)) _ | refine Below.alloc ?_ (by first | omega | (simp <;> omega)) _ | refine Below.drew ?_ | refine below_drewN ?_ _ | exact hbw)) hb5)
      | (go_at_call 48; refine (HH _ a5 c5 (Mag.below hm5 (by repeat (with_reducible first | refine Below.setCell ?_ (by simp <;> omega) _ | refine Below.alloc ?_ (by simp <;> omega) _ | refine Below.drew ?_ | refine below_drewN ?_ _ | exact Below.refl _ _)))).out.mono ?_; rintro e w6 ⟨a6, c6, rfl, hm6, hb6, hf6⟩; obtain ⟨hc6, hz6⟩ := bcell (hb6.mono (show b8 + 1 ≤ _ by simpa using hg5)); have hg6 : b8 + 1 ≤ w6.heap.size := (by have := hb6.size; (try simp at this); omega); have hm26 : Mag w6 a2 (nl n.natAbs) c2 n.natAbs := Mag.below (Mag.below hm25 (by repeat (with_reducible first | refine Below.setCell ?_ (by simp <;> omega) _ | refine Below.alloc ?_ (by simp <;> omega) _ | refine Below.drew ?_ | refine below_drewN ?_ _ | exact Below.refl _ _))) hb6; have hm46 : Mag w6 a4 (nl r.natAbs) c4 r.natAbs := Mag.below (Mag.below hm45 (by repeat (with_reducible first | refine Below.setCell ?_ (by simp <;> omega) _ | refine Below.alloc ?_ (by simp <;> omega) _ | refine Below.drew ?_ | refine below_drewN ?_ _ | exact Below.refl _ _))) hb6; have hbw6 := below_box (w := w) (by have hszw := (hbw5).size; repeat (with_reducible first | refine Below.setCell ?_ (by first | omega | (simp <;> omega)) _ | refine Below.alloc ?_ (by first | omega | (simp <;> omega)) _ | refine Below.drew ?_ | refine below_drewN ?_ _ | exact hbw5)) hb6)
      | (go_at_call 57; refine (HC _ a4 c4 a6 c6 (Mag.below hm46 (by repeat (with_reducible first | refine Below.setCell ?_ (by simp <;> omega) _ | refine Below.alloc ?_ (by simp <;> omega) _ | refine Below.drew ?_ | refine below_drewN ?_ _ | exact Below.refl _ _))) (Mag.below hm6 (by repeat (with_reducible first | refine Below.setCell ?_ (by simp <;> omega) _ | refine Below.alloc ?_ (by simp <;> omega) _ | refine Below.drew ?_ | refine below_drewN ?_ _ | exact Below.refl _ _)))).out.mono ?_; rintro e w7 ⟨rfl, hb7⟩; obtain ⟨hc7, hz7⟩ := bcell (hb7.mono (show b8 + 1 ≤ _ by simpa using hg6)); have hg7 : b8 + 1 ≤ w7.heap.size := (by have := hb7.size; (try simp at this); omega); have hm27 : Mag w7 a2 (nl n.natAbs) c2 n.natAbs := Mag.below (Mag.below hm26 (by repeat (with_reducible first | refine Below.setCell ?_ (by simp <;> omega) _ | refine Below.alloc ?_ (by simp <;> omega) _ | refine Below.drew ?_ | refine below_drewN ?_ _ | exact Below.refl _ _))) hb7; have hm47 : Mag w7 a4 (nl r.natAbs) c4 r.natAbs := Mag.below (Mag.below hm46 (by repeat (with_reducible first | refine Below.setCell ?_ (by simp <;> omega) _ | refine Below.alloc ?_ (by simp <;> omega) _ | refine Below.drew ?_ | refine below_drewN ?_ _ | exact Below.refl _ _))) hb7; have hbw7 := below_box (w := w) (by have hszw := (hbw6).size; repeat (with_reducible first | refine Below.setCell ?_ (by first | omega | (simp <;> omega)) _ | refine Below.alloc ?_ (by first | omega | (simp <;> omega)) _ | refine Below.drew ?_ | refine below_drewN ?_ _ | exact hbw6)) hb7))
  obtain ⟨t4, t5, t6, t7, t8⟩ : w7.cell? ⟨w.heap.size, 4, none⟩ = some (.bool more) ∧ w7.cell? ⟨w.heap.size + 1, 0, none⟩ = some (.bool (decide (n < 0))) ∧ w7.cell? ⟨w.heap.size + 1, 1, none⟩ = some (.slice a2 (nl n.natAbs) c2) ∧ w7.cell? ⟨b8, 0, none⟩ = some (.bool (decide (r < 0))) ∧ w7.cell? ⟨b8, 1, none⟩ = some (.slice a4 (nl r.natAbs) c4) := by
    refine ⟨?_, ?_, ?_, ?_, ?_⟩ <;> go_simp
  obtain ⟨v5, v6⟩ : w7.frozen? ⟨w.heap.size + 1, 0, none⟩ = false ∧ w7.frozen? ⟨w.heap.size + 1, 1, none⟩ = false := by
    refine ⟨?_, ?_⟩ <;> go_simp
  clear hc5 hz5 hc6 hz6 hc7 hz7 hbw hbwc hbw5 hbw6 hb5 hb6 hb7 hf5 hf6 r4 r5 r6 r7 r8 y5 y6
  have hbw := hbw7
  go_wp2_with fail
  first | go_region_held3 (fun w' => w'.cell? ⟨w.heap.size, 4, none⟩ = some (.bool more) ∧ w'.cell? ⟨w.heap.size + 1, 0, none⟩ = some (.bool (decide (n < 0))) ∧ w'.cell? ⟨w.heap.size + 1, 1, none⟩ = some (.slice a2 (nl n.natAbs) c2) ∧ w'.cell? ⟨b8, 0, none⟩ = some (.bool (decide (r < 0))) ∧ w'.cell? ⟨b8, 1, none⟩ = some (.slice a4 (nl r.natAbs) c4)) (first | (go_keep; done) | (go_simp; done))
    (first | (go_at_call 45; refine (HG _ a4 c4 (Mag.below hm47 (by repeat (with_reducible first | refine Below.setCell ?_ (by simp <;> omega) _ | refine Below.alloc ?_ (by simp <;> omega) _ | refine Below.drew ?_ | refine below_drewN ?_ _ | exact Below.refl _ _)))).out.mono ?_; rintro e w8 ⟨rfl, hb8⟩; obtain ⟨hc8, hz8⟩ := bcell (hb8.mono (show b8 + 1 ≤ _ by simpa using hg7)))) | fail "region9"
  all_goals (
    have hm28 : Mag w8 a2 (nl n.natAbs) c2 n.natAbs := Mag.below (Mag.below hm27 (by repeat (with_reducible first | refine Below.setCell ?_ (by simp <;> omega) _ | refine Below.alloc ?_ (by simp <;> omega) _ | refine Below.drew ?_ | refine below_drewN ?_ _ | exact Below.refl _ _))) hb8
    have hbw8 := below_box (w := w) (by have hszw := hbw.size; repeat (with_reducible first | refine Below.setCell ?_ (by first | omega | (simp <;> omega)) _ | refine Below.alloc ?_ (by first | omega | (simp <;> omega)) _ | refine Below.drew ?_ | refine below_drewN ?_ _ | exact hbw)) hb8
    clear hbw
    have hbw := hbw8
    go_wp2_with fail
    refine bodyPost_ret2 (v := .tuple #[.agg #[.bool (decide (n < 0)), .slice a2 (nl n.natAbs) c2], .int .i64 c0, .bool (!more)]) (by simp only [results, Tryd.results103]; go_simp) rfl ?_
    exact ⟨a2, c2, rfl, (by repeat (with_reducible first | refine Mag.set ?_ (fun h => by have := hfr2 h; omega) _ _ | refine Mag.drew ?_ | refine Mag.alloc ?_ _ | refine Mag.drewN ?_ _ | refine Mag.below ?_ (Below.drew (Below.refl _ _)) | refine Mag.below ?_ ((Below.refl _ _).alloc (Nat.le_refl _) _) | exact hm28)), (by have hszw := hbw.size; repeat (with_reducible first | refine Below.setCell ?_ (by first | omega | (simp <;> omega)) _ | refine Below.alloc ?_ (by first | omega | (simp <;> omega)) _ | refine Below.drew ?_ | refine below_drewN ?_ _ | exact hbw)), fun h => by have := hfr2 h; omega⟩)

set_option maxRecDepth 100000 in
set_option maxHeartbeats 2000000 in
theorem cut_c (w : World) (s : Bool) (a : Option Addr) (c : Nat) (x E n p r h c0 g : Int) (T : Nat) (hx : Mag w a (nl x.natAbs) c x.natAbs) (hxl : blen x.natAbs ≤ 1048576) (hT0 : 1 ≤ T) (hT1 : T ≤ blen x.natAbs)
    (hn : n = shl x (-(T : Int))) (hp : p = n * 2 ^ T) (hr : r = x - p) (hh : h = 2 ^ (T - 1)) (hc0 : c0 = cmpI r h) (hg : g = sg r) (hnl : blen n.natAbs ≤ 1048576) (hpl : blen p.natAbs ≤ 1048576) (_hc1 : decide (c0 = 0) = true) (hc2 : (c0 == 0) = true) (_hg1 : decide (g = 0) = false) (hg2 : (g == 0) = false) :
    Calls Tryd.prog 103 #[.agg #[.bool s, .bool (decide (x < 0)), .slice a (nl x.natAbs) c, .int .i64 E, .bool false], .int .i64 T] w (RetCut w n c0 false) := by
  have hl := nl_lim hxl
  have hln := nl_lim hnl
  have hlp := nl_lim hpl
  have HB := fun W b c h => Lib.hid (bitlen_z W b c x h hl)
  have HR := fun W b c h => Lib.hid (right_z W b c x T h hl (by omega))
  rw [← hn] at HR
  have HL := fun W b c h => Lib.hid (left_z W b c n (T : Int) p (by rw [hp]; simp) h hln (by omega) (by omega))
  have HS := fun W b c b' c' h h' => Lib.hid (sub_z W b b' c c' x p r hr h h' hl hlp)
  have HH := fun W b c hm => Lib.hid (left_z W b c 1 ((T : Int) - 1) h (by rw [hh, Int.one_mul]; congr 1; omega) hm (by decide) (by omega) (by omega))
  have HC := fun W b c b' c' hm hm' => Lib.hid (cmp_z W b b' c c' r h c0 hc0 hm hm')
  have HG := fun W b c hm => Lib.hid (sign_z W b c r hm)
  rw [← hg] at HG
  obtain ⟨u, hu⟩ : ∃ u, u = (T : Int) - 1 := ⟨_, rfl⟩
  have hwt : IntKind.i64.wrap ((T : Int) - 1) = u := by rw [IntKind.wrap_i64]; omega
  rw [← hu] at HH
  have hT2 : ¬ (blen x.natAbs : Int) < (T : Int) := by omega
  obtain ⟨o, ho⟩ : ∃ o : Int, o = 1 := ⟨_, rfl⟩
  have HO2 := fun W => Lib.hid (fromInt_o W o ho)
  rw [← ho] at HH
  clear ho hu hn hp hr hh hc0 hg hnl hpl hT0 hT1 hxl
  have e1 : ¬ w.heap.size + 1 = w.heap.size := by omega
  go_enter Tryd.func103, Tryd.ntmps103
  go_wp2_with fail
  refine (HB _ a c (hx.below (by repeat (with_reducible first | refine Below.setCell ?_ (by simp <;> omega) _ | refine Below.alloc ?_ (by simp <;> omega) _ | refine Below.drew ?_ | refine below_drewN ?_ _ | exact Below.refl _ _)))).out.mono ?_
  rintro e w1 ⟨rfl, hb1⟩
  obtain ⟨hc1, hz1⟩ := bcell (hb1.mono (show w.heap.size + 2 ≤ _ by simp))
  have hg1 : w.heap.size + 2 ≤ w1.heap.size := by have := hb1.size; simpa using this
  have hbw := below_box (w := w) (by repeat (with_reducible first | refine Below.setCell ?_ (by simp <;> omega) _ | refine Below.alloc ?_ (by simp <;> omega) _ | refine Below.drew ?_ | refine below_drewN ?_ _ | exact Below.refl _ _)) hb1
  go_wp2_with fail
  refine (HR _ a c (hx.below (by have hszw := hbw.size; repeat (with_reducible first | refine Below.setCell ?_ (by first | omega | (simp <;> omega)) _ | refine Below.alloc ?_ (by first | omega | (simp <;> omega)) _ | refine Below.drew ?_ | refine below_drewN ?_ _ | exact hbw)))).out.mono ?_
  rintro e w2 ⟨a2, c2, rfl, hm2, hb2, hf2⟩
  have hg2 : w.heap.size + 2 ≤ w2.heap.size := by have := hb2.size; (try simp at this); omega
  have hfr2 : 0 < nl n.natAbs → w.heap.size + 2 ≤ ab a2 := fun h => by have := hf2 h; (try simp at this); omega
  obtain ⟨hc2, hz2⟩ := bcell (hb2.mono (show w.heap.size + 2 ≤ _ by simpa using hg1))
  have hbw2 := below_box (w := w) (by have hszw := hbw.size; repeat (with_reducible first | refine Below.setCell ?_ (by first | omega | (simp <;> omega)) _ | refine Below.alloc ?_ (by first | omega | (simp <;> omega)) _ | refine Below.drew ?_ | refine below_drewN ?_ _ | exact hbw)) hb2
  obtain ⟨q1, q2, q4, q5, q6⟩ : w2.cell? ⟨w.heap.size, 1, none⟩ = some (.bool (decide (x < 0))) ∧ w2.cell? ⟨w.heap.size, 2, none⟩ = some (.slice a (nl x.natAbs) c) ∧ w2.cell? ⟨w.heap.size, 4, none⟩ = some (.bool false) ∧ w2.cell? ⟨w.heap.size + 1, 0, none⟩ = some (.bool false) ∧ w2.cell? ⟨w.heap.size + 1, 1, none⟩ = some (.slice none 0 0) := by
    refine ⟨?_, ?_, ?_, ?_, ?_⟩ <;> go_simp
  obtain ⟨z5, z6⟩ : w2.frozen? ⟨w.heap.size + 1, 0, none⟩ = false ∧ w2.frozen? ⟨w.heap.size + 1, 1, none⟩ = false := by
    refine ⟨?_, ?_⟩ <;> go_simp
  clear hc1 hc2 hz1 hz2 hbw hb1 hf2
  have hbw := hbw2
  obtain ⟨o01p, o02p, o03p, o04p, o05p, o06p, o07p, o08p, o09p, o10p, o11p, o12p, o13p, o14p, o15p, o16p, o17p, o18p, o19p, o20p, o21p, o22p, o23p, o24p, o25p, o26p⟩ := old2' hg2
  have old2n : 0 < nl n.natAbs → ab a2 < w2.heap.size := hm2.old
  go_wp2_with fail
  go_cut [8] (fun pt wx => ∃ b8 a4 c4, pt = .pointer (some ⟨b8, 0, none⟩) ∧ w.heap.size + 2 ≤ b8 ∧ b8 < wx.heap.size ∧ wx.cell? ⟨w.heap.size, 4, none⟩ = some (.bool false) ∧ wx.cell? ⟨w.heap.size + 1, 0, none⟩ = some (.bool (decide (n < 0))) ∧ wx.cell? ⟨w.heap.size + 1, 1, none⟩ = some (.slice a2 (nl n.natAbs) c2)
    ∧ wx.cell? ⟨b8, 0, none⟩ = some (.bool (decide (r < 0))) ∧ wx.cell? ⟨b8, 1, none⟩ = some (.slice a4 (nl r.natAbs) c4) ∧ wx.frozen? ⟨w.heap.size + 1, 0, none⟩ = false ∧ wx.frozen? ⟨w.heap.size + 1, 1, none⟩ = false ∧ Mag wx a2 (nl n.natAbs) c2 n.natAbs ∧ Mag wx a4 (nl r.natAbs) c4 r.natAbs ∧ Below w.heap.size w wx)
  case first =>
    go_region_held3 (fun w' => w'.cell? ⟨w.heap.size, 1, none⟩ = some (.bool (decide (x < 0))) ∧ w'.cell? ⟨w.heap.size, 2, none⟩ = some (.slice a (nl x.natAbs) c) ∧ w'.cell? ⟨w.heap.size + 1, 0, none⟩ = some (.bool (decide (n < 0))) ∧ w'.cell? ⟨w.heap.size + 1, 1, none⟩ = some (.slice a2 (nl n.natAbs) c2)) (first | (go_keep; done) | (go_simp; done))
      (first
        | (go_at_call 48; refine (HL _ a2 c2 (by repeat (with_reducible first | refine Mag.set ?_ (fun h => by have := hfr2 h; omega) _ _ | refine Mag.drew ?_ | refine Mag.alloc ?_ _ | refine Mag.drewN ?_ _ | refine Mag.below ?_ (Below.drew (Below.refl _ _)) | refine Mag.below ?_ ((Below.refl _ _).alloc (Nat.le_refl _) _) | exact hm2))).out.mono ?_; rintro e w3 ⟨a3, c3, rfl, hm3, hb3, hf3⟩; obtain ⟨hc3, hz3⟩ := bcell hb3; have hs3 := hb3.size; (try simp at hs3 hf3); have hg3 : w.heap.size + 2 ≤ w3.heap.size := (by omega); have hm23 : Mag w3 a2 (nl n.natAbs) c2 n.natAbs := Mag.below (by repeat (with_reducible first | refine Mag.set ?_ (fun h => by have := hfr2 h; omega) _ _ | refine Mag.drew ?_ | refine Mag.alloc ?_ _ | refine Mag.drewN ?_ _ | refine Mag.below ?_ (Below.drew (Below.refl _ _)) | refine Mag.below ?_ ((Below.refl _ _).alloc (Nat.le_refl _) _) | exact hm2)) hb3; have hbw3 := below_box (w := w) (by have hszw := hbw.size; repeat (with_reducible first | refine Below.setCell ?_ (by first | omega | (simp <;> omega)) _ | refine Below.alloc ?_ (by first | omega | (simp <;> omega)) _ | refine Below.drew ?_ | refine below_drewN ?_ _ | exact hbw)) hb3; obtain ⟨o01q, o02q, o03q, o04q, o05q, o06q, o07q, o08q, o09q, o10q, o11q, o12q, o13q, o14q, o15q, o16q, o17q, o18q, o19q, o20q, o21q, o22q, o23q, o24q, o25q, o26q⟩ := old2' hg3; (try (have hs23 : w2.heap.size < w3.heap.size := (by omega))))
        | (go_at_call 110; refine (HS _ a c a3 c3 (hx.below (by have hszw := (hbw3).size; repeat (with_reducible first | refine Below.setCell ?_ (by first | omega | (simp <;> omega)) _ | refine Below.alloc ?_ (by first | omega | (simp <;> omega)) _ | refine Below.drew ?_ | refine below_drewN ?_ _ | exact hbw3))) (Mag.below hm3 (by repeat (with_reducible first | refine Below.setCell ?_ (by simp <;> omega) _ | refine Below.alloc ?_ (by simp <;> omega) _ | refine Below.drew ?_ | refine below_drewN ?_ _ | exact Below.refl _ _)))).out.mono ?_; rintro e w4 ⟨a4, c4, rfl, hm4, hb4, hf4⟩; obtain ⟨hc4, hz4⟩ := bcell hb4; have hs4 := hb4.size; (try simp at hs4 hf4); have hg4 : w.heap.size + 2 ≤ w4.heap.size := (by omega); have hm24 : Mag w4 a2 (nl n.natAbs) c2 n.natAbs := Mag.below (Mag.below hm23 (by repeat (with_reducible first | refine Below.setCell ?_ (by simp <;> omega) _ | refine Below.alloc ?_ (by simp <;> omega) _ | refine Below.drew ?_ | refine below_drewN ?_ _ | exact Below.refl _ _))) hb4; have hbw4 := below_box (w := w) (by have hszw := (hbw3).size; repeat (with_reducible first | refine Below.setCell ?_ (by first | omega | (simp <;> omega)) _ | refine Below.alloc ?_ (by first | omega | (simp <;> omega)) _ | refine Below.drew ?_ | refine below_drewN ?_ _ | exact hbw3)) hb4; obtain ⟨o01r, o02r, o03r, o04r, o05r, o06r, o07r, o08r, o09r, o10r, o11r, o12r, o13r, o14r, o15r, o16r, o17r, o18r, o19r, o20r, o21r, o22r, o23r, o24r, o25r, o26r⟩ := old2' hg4; (try (have hs34 : w3.heap.size < w4.heap.size := (by omega))); (try (have hs24 : w2.heap.size < w4.heap.size := (by omega)))))
    all_goals (
      have old4n : 0 < nl r.natAbs → ab a4 < w4.heap.size := hm4.old
      have old5n : 0 < nl n.natAbs → ab a2 < w3.heap.size := hm23.old
      go_wp2_with fail
      go_meet
      refine ⟨_, a4, c4, rfl, ?_, ?_, ?_, ?_, ?_, ?_, ?_, ?_, ?_, ?_, ?_, ?_⟩
      · omega
      · simp <;> omega
      · go_simp
      · go_simp
      · go_simp
      · go_simp
      · go_simp
      · go_simp
      · go_simp
      · repeat (with_reducible first | refine Mag.set ?_ (fun h => by have := old2n h; omega) _ _ | refine Mag.drew ?_ | refine Mag.alloc ?_ _ | refine Mag.drewN ?_ _ | exact hm24)
      · repeat (with_reducible first | refine Mag.set ?_ (fun h => by have := old4n h; have := hf4 h; omega) _ _ | refine Mag.drew ?_ | refine Mag.alloc ?_ _ | refine Mag.drewN ?_ _ | exact hm4)
      · exact (by have hszw := (hbw4).size; repeat (with_reducible first | refine Below.setCell ?_ (by first | omega | (simp <;> omega)) _ | refine Below.alloc ?_ (by first | omega | (simp <;> omega)) _ | refine Below.drew ?_ | refine below_drewN ?_ _ | exact hbw4)))
  case rest =>
  obtain ⟨b8, a4, c4, rfl, hg4, hg4', r4, r5, r6, r7, r8, y5, y6, hm24, hm4, hbwc⟩ := hcut
  clear q1 q2 q4 q5 q6 z5 z6 hbw hbw2 hb2
  have hbw := hbwc
  obtain ⟨o01, o02, o03, o04, o05, o06, o07, o08, o09, o10, o11, o12, o13, o14, o15, o16, o17, o18, o19, o20, o21, o22, o23, o24, o25, o26⟩ := old2' hg4
  go_wp2_with fail
  go_region_held3 (fun w' => w'.cell? ⟨b8, 0, none⟩ = some (.bool (decide (r < 0))) ∧ w'.cell? ⟨b8, 1, none⟩ = some (.slice a4 (nl r.natAbs) c4)) (first | (go_keep; done) | (go_simp; done))
    (first
      | (go_at_call 64; refine (HO2 _).out.mono ?_; rintro e w5 ⟨a5, c5, rfl, hm5, hb5, hf5⟩; obtain ⟨hc5, hz5⟩ := bcell (hb5.mono (show b8 + 1 ≤ _ by simp <;> omega)); have hg5 : b8 + 1 ≤ w5.heap.size := (by have := hb5.size; (try simp at this); omega); have hm25 : Mag w5 a2 (nl n.natAbs) c2 n.natAbs := Mag.below (Mag.below hm24 (by repeat (with_reducible first | refine Below.setCell ?_ (by simp <;> omega) _ | refine Below.alloc ?_ (by simp <;> omega) _ | refine Below.drew ?_ | refine below_drewN ?_ _ | exact Below.refl _ _))) hb5; have hm45 : Mag w5 a4 (nl r.natAbs) c4 r.natAbs := Mag.below (Mag.below hm4 (by repeat (with_reducible first | refine Below.setCell ?_ (by simp <;> omega) _ | refine Below.alloc ?_ (by simp <;> omega) _ | refine Below.drew ?_ | refine below_drewN ?_ _ | exact Below.refl _ _))) hb5; have hbw5 := below_box (w := w) (by have hszw := hbw.size; repeat (with_reducible first | refine Below.setCell ?_ (by first | omega | (simp <;> omega)) _ | refine Below.alloc ?_ (by first | omega | (simp <;> omega)) _ | refine Below.drew ?_ | refine below_drewN ?_ _ | exact hbw)) hb5)
      | (go_at_call 48; refine (HH _ a5 c5 (Mag.below hm5 (by repeat (with_reducible first | refine Below.setCell ?_ (by simp <;> omega) _ | refine Below.alloc ?_ (by simp <;> omega) _ | refine Below.drew ?_ | refine below_drewN ?_ _ | exact Below.refl _ _)))).out.mono ?_; rintro e w6 ⟨a6, c6, rfl, hm6, hb6, hf6⟩; obtain ⟨hc6, hz6⟩ := bcell (hb6.mono (show b8 + 1 ≤ _ by simpa using hg5)); have hg6 : b8 + 1 ≤ w6.heap.size := (by have := hb6.size; (try simp at this); omega); have hm26 : Mag w6 a2 (nl n.natAbs) c2 n.natAbs := Mag.below (Mag.below hm25 (by repeat (with_reducible first | refine Below.setCell ?_ (by simp <;> omega) _ | refine Below.alloc ?_ (by simp <;> omega) _ | refine Below.drew ?_ | refine below_drewN ?_ _ | exact Below.refl _ _))) hb6; have hm46 : Mag w6 a4 (nl r.natAbs) c4 r.natAbs := Mag.below (Mag.below hm45 (by repeat (with_reducible first | refine Below.setCell ?_ (by simp <;> omega) _ | refine Below.alloc ?_ (by simp <;> omega) _ | refine Below.drew ?_ | refine below_drewN ?_ _ | exact Below.refl _ _))) hb6; have hbw6 := below_box (w := w) (by have hszw := (hbw5).size; repeat (with_reducible first | refine Below.setCell ?_ (by first | omega | (simp <;> omega)) _ | refine Below.alloc ?_ (by first | omega | (simp <;> omega)) _ | refine Below.drew ?_ | refine below_drewN ?_ _ | exact hbw5)) hb6)
      | (go_at_call 57; refine (HC _ a4 c4 a6 c6 (Mag.below hm46 (by repeat (with_reducible first | refine Below.setCell ?_ (by simp <;> omega) _ | refine Below.alloc ?_ (by simp <;> omega) _ | refine Below.drew ?_ | refine below_drewN ?_ _ | exact Below.refl _ _))) (Mag.below hm6 (by repeat (with_reducible first | refine Below.setCell ?_ (by simp <;> omega) _ | refine Below.alloc ?_ (by simp <;> omega) _ | refine Below.drew ?_ | refine below_drewN ?_ _ | exact Below.refl _ _)))).out.mono ?_; rintro e w7 ⟨rfl, hb7⟩; obtain ⟨hc7, hz7⟩ := bcell (hb7.mono (show b8 + 1 ≤ _ by simpa using hg6)); have hg7 : b8 + 1 ≤ w7.heap.size := (by have := hb7.size; (try simp at this); omega); have hm27 : Mag w7 a2 (nl n.natAbs) c2 n.natAbs := Mag.below (Mag.below hm26 (by repeat (with_reducible first | refine Below.setCell ?_ (by simp <;> omega) _ | refine Below.alloc ?_ (by simp <;> omega) _ | refine Below.drew ?_ | refine below_drewN ?_ _ | exact Below.refl _ _))) hb7; have hm47 : Mag w7 a4 (nl r.natAbs) c4 r.natAbs := Mag.below (Mag.below hm46 (by repeat (with_reducible first | refine Below.setCell ?_ (by simp <;> omega) _ | refine Below.alloc ?_ (by simp <;> omega) _ | refine Below.drew ?_ | refine below_drewN ?_ _ | exact Below.refl _ _))) hb7; have hbw7 := below_box (w := w) (by have hszw := (hbw6).size; repeat (with_reducible first | refine Below.setCell ?_ (by first | omega | (simp <;> omega)) _ | refine Below.alloc ?_ (by first | omega | (simp <;> omega)) _ | refine Below.drew ?_ | refine below_drewN ?_ _ | exact hbw6)) hb7))
  obtain ⟨t4, t5, t6, t7, t8⟩ : w7.cell? ⟨w.heap.size, 4, none⟩ = some (.bool false) ∧ w7.cell? ⟨w.heap.size + 1, 0, none⟩ = some (.bool (decide (n < 0))) ∧ w7.cell? ⟨w.heap.size + 1, 1, none⟩ = some (.slice a2 (nl n.natAbs) c2) ∧ w7.cell? ⟨b8, 0, none⟩ = some (.bool (decide (r < 0))) ∧ w7.cell? ⟨b8, 1, none⟩ = some (.slice a4 (nl r.natAbs) c4) := by
    refine ⟨?_, ?_, ?_, ?_, ?_⟩ <;> go_simp
  obtain ⟨v5, v6⟩ : w7.frozen? ⟨w.heap.size + 1, 0, none⟩ = false ∧ w7.frozen? ⟨w.heap.size + 1, 1, none⟩ = false := by
    refine ⟨?_, ?_⟩ <;> go_simp
  clear hc5 hz5 hc6 hz6 hc7 hz7 hbw hbwc hbw5 hbw6 hb5 hb6 hb7 hf5 hf6 r4 r5 r6 r7 r8 y5 y6
  have hbw := hbw7
  go_wp2_with fail
  first | go_region_with (first | (go_at_call 45; refine (HG _ a4 c4 (Mag.below hm47 (by repeat (with_reducible first | refine Below.setCell ?_ (by simp <;> omega) _ | refine Below.alloc ?_ (by simp <;> omega) _ | refine Below.drew ?_ | refine below_drewN ?_ _ | exact Below.refl _ _)))).out.mono ?_; rintro e w8 ⟨rfl, hb8⟩; obtain ⟨hc8, hz8⟩ := bcell (hb8.mono (show b8 + 1 ≤ _ by simpa using hg7)))) | fail "region9"
  all_goals (
    have hm28 : Mag w8 a2 (nl n.natAbs) c2 n.natAbs := Mag.below (Mag.below hm27 (by repeat (with_reducible first | refine Below.setCell ?_ (by simp <;> omega) _ | refine Below.alloc ?_ (by simp <;> omega) _ | refine Below.drew ?_ | refine below_drewN ?_ _ | exact Below.refl _ _))) hb8
    have hbw8 := below_box (w := w) (by have hszw := hbw.size; repeat (with_reducible first | refine Below.setCell ?_ (by first | omega | (simp <;> omega)) _ | refine Below.alloc ?_ (by first | omega | (simp <;> omega)) _ | refine Below.drew ?_ | refine below_drewN ?_ _ | exact hbw)) hb8
    clear hbw
    have hbw := hbw8
    go_wp2_with fail
    refine bodyPost_ret2 (v := .tuple #[.agg #[.bool (decide (n < 0)), .slice a2 (nl n.natAbs) c2], .int .i64 c0, .bool false]) (by simp only [results, Tryd.results103]; go_simp) rfl ?_
    exact ⟨a2, c2, rfl, (by repeat (with_reducible first | refine Mag.set ?_ (fun h => by have := hfr2 h; omega) _ _ | refine Mag.drew ?_ | refine Mag.alloc ?_ _ | refine Mag.drewN ?_ _ | refine Mag.below ?_ (Below.drew (Below.refl _ _)) | refine Mag.below ?_ ((Below.refl _ _).alloc (Nat.le_refl _) _) | exact hm28)), (by have hszw := hbw.size; repeat (with_reducible first | refine Below.setCell ?_ (by first | omega | (simp <;> omega)) _ | refine Below.alloc ?_ (by first | omega | (simp <;> omega)) _ | refine Below.drew ?_ | refine below_drewN ?_ _ | exact hbw)), fun h => by have := hfr2 h; omega⟩)

set_option maxRecDepth 100000 in
set_option maxHeartbeats 2000000 in
theorem cut_d (w : World) (s : Bool) (a : Option Addr) (c : Nat) (x E n p r h c0 g : Int) (T : Nat) (hx : Mag w a (nl x.natAbs) c x.natAbs) (hxl : blen x.natAbs ≤ 1048576) (hT0 : 1 ≤ T) (hT1 : T ≤ blen x.natAbs)
    (hn : n = shl x (-(T : Int))) (hp : p = n * 2 ^ T) (hr : r = x - p) (hh : h = 2 ^ (T - 1)) (hc0 : c0 = cmpI r h) (hg : g = sg r) (hnl : blen n.natAbs ≤ 1048576) (hpl : blen p.natAbs ≤ 1048576) (_hc1 : decide (c0 = 0) = true) (hc2 : (c0 == 0) = true) (_hg1 : decide (g = 0) = false) (hg2 : (g == 0) = false) :
    Calls Tryd.prog 103 #[.agg #[.bool s, .bool (decide (x < 0)), .slice a (nl x.natAbs) c, .int .i64 E, .bool true], .int .i64 T] w (RetCut w n 1 false) := by
  have hl := nl_lim hxl
  have hln := nl_lim hnl
  have hlp := nl_lim hpl
  have HB := fun W b c h => Lib.hid (bitlen_z W b c x h hl)
  have HR := fun W b c h => Lib.hid (right_z W b c x T h hl (by omega))
  rw [← hn] at HR
  have HL := fun W b c h => Lib.hid (left_z W b c n (T : Int) p (by rw [hp]; simp) h hln (by omega) (by omega))
  have HS := fun W b c b' c' h h' => Lib.hid (sub_z W b b' c c' x p r hr h h' hl hlp)
  have HH := fun W b c hm => Lib.hid (left_z W b c 1 ((T : Int) - 1) h (by rw [hh, Int.one_mul]; congr 1; omega) hm (by decide) (by omega) (by omega))
  have HC := fun W b c b' c' hm hm' => Lib.hid (cmp_z W b b' c c' r h c0 hc0 hm hm')
  have HG := fun W b c hm => Lib.hid (sign_z W b c r hm)
  rw [← hg] at HG
  obtain ⟨u, hu⟩ : ∃ u, u = (T : Int) - 1 := ⟨_, rfl⟩
  have hwt : IntKind.i64.wrap ((T : Int) - 1) = u := by rw [IntKind.wrap_i64]; omega
  rw [← hu] at HH
  have hT2 : ¬ (blen x.natAbs : Int) < (T : Int) := by omega
  obtain ⟨o, ho⟩ : ∃ o : Int, o = 1 := ⟨_, rfl⟩
  have HO2 := fun W => Lib.hid (fromInt_o W o ho)
  rw [← ho] at HH
  clear ho hu hn hp hr hh hc0 hg hnl hpl hT0 hT1 hxl
  have e1 : ¬ w.heap.size + 1 = w.heap.size := by omega
  go_enter Tryd.func103, Tryd.ntmps103
  go_wp2_with fail
  refine (HB _ a c (hx.below (by repeat (with_reducible first | refine Below.setCell ?_ (by simp <;> omega) _ | refine Below.alloc ?_ (by simp <;> omega) _ | refine Below.drew ?_ | refine below_drewN ?_ _ | exact Below.refl _ _)))).out.mono ?_
  rintro e w1 ⟨rfl, hb1⟩
  obtain ⟨hc1, hz1⟩ := bcell (hb1.mono (show w.heap.size + 2 ≤ _ by simp))
  have hg1 : w.heap.size + 2 ≤ w1.heap.size := by have := hb1.size; simpa using this
  have hbw := below_box (w := w) (by repeat (with_reducible first | refine Below.setCell ?_ (by simp <;> omega) _ | refine Below.alloc ?_ (by simp <;> omega) _ | refine Below.drew ?_ | refine below_drewN ?_ _ | exact Below.refl _ _)) hb1
  go_wp2_with fail
  refine (HR _ a c (hx.below (by have hszw := hbw.size; repeat (with_reducible first | refine Below.setCell ?_ (by first | omega | (simp <;> omega)) _ | refine Below.alloc ?_ (by first | omega | (simp <;> omega)) _ | refine Below.drew ?_ | refine below_drewN ?_ _ | exact hbw)))).out.mono ?_
  rintro e w2 ⟨a2, c2, rfl, hm2, hb2, hf2⟩
  have hg2 : w.heap.size + 2 ≤ w2.heap.size := by have := hb2.size; (try simp at this); omega
  have hfr2 : 0 < nl n.natAbs → w.heap.size + 2 ≤ ab a2 := fun h => by have := hf2 h; (try simp at this); omega
  obtain ⟨hc2, hz2⟩ := bcell (hb2.mono (show w.heap.size + 2 ≤ _ by simpa using hg1))
  have hbw2 := below_box (w := w) (by have hszw := hbw.size; repeat (with_reducible first | refine Below.setCell ?_ (by first | omega | (simp <;> omega)) _ | refine Below.alloc ?_ (by first | omega | (simp <;> omega)) _ | refine Below.drew ?_ | refine below_drewN ?_ _ | exact hbw)) hb2
  obtain ⟨q1, q2, q4, q5, q6⟩ : w2.cell? ⟨w.heap.size, 1, none⟩ = some (.bool (decide (x < 0))) ∧ w2.cell? ⟨w.heap.size, 2, none⟩ = some (.slice a (nl x.natAbs) c) ∧ w2.cell? ⟨w.heap.size, 4, none⟩ = some (.bool true) ∧ w2.cell? ⟨w.heap.size + 1, 0, none⟩ = some (.bool false) ∧ w2.cell? ⟨w.heap.size + 1, 1, none⟩ = some (.slice none 0 0) := by
    refine ⟨?_, ?_, ?_, ?_, ?_⟩ <;> go_simp
  obtain ⟨z5, z6⟩ : w2.frozen? ⟨w.heap.size + 1, 0, none⟩ = false ∧ w2.frozen? ⟨w.heap.size + 1, 1, none⟩ = false := by
    refine ⟨?_, ?_⟩ <;> go_simp
  clear hc1 hc2 hz1 hz2 hbw hb1 hf2
  have hbw := hbw2
  obtain ⟨o01p, o02p, o03p, o04p, o05p, o06p, o07p, o08p, o09p, o10p, o11p, o12p, o13p, o14p, o15p, o16p, o17p, o18p, o19p, o20p, o21p, o22p, o23p, o24p, o25p, o26p⟩ := old2' hg2
  have old2n : 0 < nl n.natAbs → ab a2 < w2.heap.size := hm2.old
  go_wp2_with fail
  go_cut [8] (fun pt wx => ∃ b8 a4 c4, pt = .pointer (some ⟨b8, 0, none⟩) ∧ w.heap.size + 2 ≤ b8 ∧ b8 < wx.heap.size ∧ wx.cell? ⟨w.heap.size, 4, none⟩ = some (.bool true) ∧ wx.cell? ⟨w.heap.size + 1, 0, none⟩ = some (.bool (decide (n < 0))) ∧ wx.cell? ⟨w.heap.size + 1, 1, none⟩ = some (.slice a2 (nl n.natAbs) c2)
    ∧ wx.cell? ⟨b8, 0, none⟩ = some (.bool (decide (r < 0))) ∧ wx.cell? ⟨b8, 1, none⟩ = some (.slice a4 (nl r.natAbs) c4) ∧ wx.frozen? ⟨w.heap.size + 1, 0, none⟩ = false ∧ wx.frozen? ⟨w.heap.size + 1, 1, none⟩ = false ∧ Mag wx a2 (nl n.natAbs) c2 n.natAbs ∧ Mag wx a4 (nl r.natAbs) c4 r.natAbs ∧ Below w.heap.size w wx)
  case first =>
    go_region_held3 (fun w' => w'.cell? ⟨w.heap.size, 1, none⟩ = some (.bool (decide (x < 0))) ∧ w'.cell? ⟨w.heap.size, 2, none⟩ = some (.slice a (nl x.natAbs) c) ∧ w'.cell? ⟨w.heap.size + 1, 0, none⟩ = some (.bool (decide (n < 0))) ∧ w'.cell? ⟨w.heap.size + 1, 1, none⟩ = some (.slice a2 (nl n.natAbs) c2)) (first | (go_keep; done) | (go_simp; done))
      (first
        | (go_at_call 48; refine (HL _ a2 c2 (by repeat (with_reducible first | refine Mag.set ?_ (fun h => by have := hfr2 h; omega) _ _ | refine Mag.drew ?_ | refine Mag.alloc ?_ _ | refine Mag.drewN ?_ _ | refine Mag.below ?_ (Below.drew (Below.refl _ _)) | refine Mag.below ?_ ((Below.refl _ _).alloc (Nat.le_refl _) _) | exact hm2))).out.mono ?_; rintro e w3 ⟨a3, c3, rfl, hm3, hb3, hf3⟩; obtain ⟨hc3, hz3⟩ := bcell hb3; have hs3 := hb3.size; (try simp at hs3 hf3); have hg3 : w.heap.size + 2 ≤ w3.heap.size := (by omega); have hm23 : Mag w3 a2 (nl n.natAbs) c2 n.natAbs := Mag.below (by repeat (with_reducible first | refine Mag.set ?_ (fun h => by have := hfr2 h; omega) _ _ | refine Mag.drew ?_ | refine Mag.alloc ?_ _ | refine Mag.drewN ?_ _ | refine Mag.below ?_ (Below.drew (Below.refl _ _)) | refine Mag.below ?_ ((Below.refl _ _).alloc (Nat.le_refl _) _) | exact hm2)) hb3; have hbw3 := below_box (w := w) (by have hszw := hbw.size; repeat (with_reducible first | refine Below.setCell ?_ (by first | omega | (simp <;> omega)) _ | refine Below.alloc ?_ (by first | omega | (simp <;> omega)) _ | refine Below.drew ?_ | refine below_drewN ?_ _ | exact hbw)) hb3; obtain ⟨o01q, o02q, o03q, o04q, o05q, o06q, o07q, o08q, o09q, o10q, o11q, o12q, o13q, o14q, o15q, o16q, o17q, o18q, o19q, o20q, o21q, o22q, o23q, o24q, o25q, o26q⟩ := old2' hg3; (try (have hs23 : w2.heap.size < w3.heap.size := (by omega))))
        | (go_at_call 110; refine (HS _ a c a3 c3 (hx.below (by have hszw := (hbw3).size; repeat (with_reducible first | refine Below.setCell ?_ (by first | omega | (simp <;> omega)) _ | refine Below.alloc ?_ (by first | omega | (simp <;> omega)) _ | refine Below.drew ?_ | refine below_drewN ?_ _ | exact hbw3))) (Mag.below hm3 (by repeat (with_reducible first | refine Below.setCell ?_ (by simp <;> omega) _ | refine Below.alloc ?_ (by simp <;> omega) _ | refine Below.drew ?_ | refine below_drewN ?_ _ | exact Below.refl _ _)))).out.mono ?_; rintro e w4 ⟨a4, c4, rfl, hm4, hb4, hf4⟩; obtain ⟨hc4, hz4⟩ := bcell hb4; have hs4 := hb4.size; (try simp at hs4 hf4); have hg4 : w.heap.size + 2 ≤ w4.heap.size := (by omega); have hm24 : Mag w4 a2 (nl n.natAbs) c2 n.natAbs := Mag.below (Mag.below hm23 (by repeat (with_reducible first | refine Below.setCell ?_ (by simp <;> omega) _ | refine Below.alloc ?_ (by simp <;> omega) _ | refine Below.drew ?_ | refine below_drewN ?_ _ | exact Below.refl _ _))) hb4; have hbw4 := below_box (w := w) (by have hszw := (hbw3).size; repeat (with_reducible first | refine Below.setCell ?_ (by first | omega | (simp <;> omega)) _ | refine Below.alloc ?_ (by first | omega | (simp <;> omega)) _ | refine Below.drew ?_ | refine below_drewN ?_ _ | exact hbw3)) hb4; obtain ⟨o01r, o02r, o03r, o04r, o05r, o06r, o07r, o08r, o09r, o10r, o11r, o12r, o13r, o14r, o15r, o16r, o17r, o18r, o19r, o20r, o21r, o22r, o23r, o24r, o25r, o26r⟩ := old2' hg4; (try (have hs34 : w3.heap.size < w4.heap.size := (by omega))); (try (have hs24 : w2.heap.size < w4.heap.size := (by omega)))))
    all_goals (
      have old4n : 0 < nl r.natAbs → ab a4 < w4.heap.size := hm4.old
      have old5n : 0 < nl n.natAbs → ab a2 < w3.heap.size := hm23.old
      go_wp2_with fail
      go_meet
      refine ⟨_, a4, c4, rfl, ?_, ?_, ?_, ?_, ?_, ?_, ?_, ?_, ?_, ?_, ?_, ?_⟩
      · omega
      · simp <;> omega
      · go_simp
      · go_simp
      · go_simp
      · go_simp
      · go_simp
      · go_simp
      · go_simp
      · repeat (with_reducible first | refine Mag.set ?_ (fun h => by have := old2n h; omega) _ _ | refine Mag.drew ?_ | refine Mag.alloc ?_ _ | refine Mag.drewN ?_ _ | exact hm24)
      · repeat (with_reducible first | refine Mag.set ?_ (fun h => by have := old4n h; have := hf4 h; omega) _ _ | refine Mag.drew ?_ | refine Mag.alloc ?_ _ | refine Mag.drewN ?_ _ | exact hm4)
      · exact (by have hszw := (hbw4).size; repeat (with_reducible first | refine Below.setCell ?_ (by first | omega | (simp <;> omega)) _ | refine Below.alloc ?_ (by first | omega | (simp <;> omega)) _ | refine Below.drew ?_ | refine below_drewN ?_ _ | exact hbw4)))
  case rest =>
  obtain ⟨b8, a4, c4, rfl, hg4, hg4', r4, r5, r6, r7, r8, y5, y6, hm24, hm4, hbwc⟩ := hcut
  clear q1 q2 q4 q5 q6 z5 z6 hbw hbw2 hb2
  have hbw := hbwc
  obtain ⟨o01, o02, o03, o04, o05, o06, o07, o08, o09, o10, o11, o12, o13, o14, o15, o16, o17, o18, o19, o20, o21, o22, o23, o24, o25, o26⟩ := old2' hg4
  go_wp2_with fail
  go_region_held3 (fun w' => w'.cell? ⟨b8, 0, none⟩ = some (.bool (decide (r < 0))) ∧ w'.cell? ⟨b8, 1, none⟩ = some (.slice a4 (nl r.natAbs) c4)) (first | (go_keep; done) | (go_simp; done))
    (first
      | (go_at_call 64; refine (HO2 _).out.mono ?_; rintro e w5 ⟨a5, c5, rfl, hm5, hb5, hf5⟩; obtain ⟨hc5, hz5⟩ := bcell (hb5.mono (show b8 + 1 ≤ _ by simp <;> omega)); have hg5 : b8 + 1 ≤ w5.heap.size := (by have := hb5.size; (try simp at this); omega); have hm25 : Mag w5 a2 (nl n.natAbs) c2 n.natAbs := Mag.below (Mag.below hm24 (by repeat (with_reducible first | refine Below.setCell ?_ (by simp <;> omega) _ | refine Below.alloc ?_ (by simp <;> omega) _ | refine Below.drew ?_ | refine below_drewN ?_ _ | exact Below.refl _ _))) hb5; have hm45 : Mag w5 a4 (nl r.natAbs) c4 r.natAbs := Mag.below (Mag.below hm4 (by repeat (with_reducible first | refine Below.setCell ?_ (by simp <;> omega) _ | refine Below.alloc ?_ (by simp <;> omega) _ | refine Below.drew ?_ | refine below_drewN ?_ _ | exact Below.refl _ _))) hb5; have hbw5 := below_box (w := w) (by have hszw := hbw.size; repeat (with_reducible first | refine Below.setCell ?_ (by first | omega | (simp <;> omega)) _ | refine Below.alloc ?_ (by first | omega | (simp <;> omega)) _ | refine Below.drew ?_ | refine below_drewN ?_ _ | exact hbw)) hb5)
      | (go_at_call 48; refine (HH _ a5 c5 (Mag.below hm5 (by repeat (with_reducible first | refine Below.setCell ?_ (by simp <;> omega) _ | refine Below.alloc ?_ (by simp <;> omega) _ | refine Below.drew ?_ | refine below_drewN ?_ _ | exact Below.refl _ _)))).out.mono ?_; rintro e w6 ⟨a6, c6, rfl, hm6, hb6, hf6⟩; obtain ⟨hc6, hz6⟩ := bcell (hb6.mono (show b8 + 1 ≤ _ by simpa using hg5)); have hg6 : b8 + 1 ≤ w6.heap.size := (by have := hb6.size; (try simp at this); omega); have hm26 : Mag w6 a2 (nl n.natAbs) c2 n.natAbs := Mag.below (Mag.below hm25 (by repeat (with_reducible first | refine Below.setCell ?_ (by simp <;> omega) _ | refine Below.alloc ?_ (by simp <;> omega) _ | refine Below.drew ?_ | refine below_drewN ?_ _ | exact Below.refl _ _))) hb6; have hm46 : Mag w6 a4 (nl r.natAbs) c4 r.natAbs := Mag.below (Mag.below hm45 (by repeat (with_reducible first | refine Below.setCell ?_ (by simp <;> omega) _ | refine Below.alloc ?_ (by simp <;> omega) _ | refine Below.drew ?_ | refine below_drewN ?_ _ | exact Below.refl _ _))) hb6; have hbw6 := below_box (w := w) (by have hszw := (hbw5).size; repeat (with_reducible first | refine Below.setCell ?_ (by first | omega | (simp <;> omega)) _ | refine Below.alloc ?_ (by first | omega | (simp <;> omega)) _ | refine Below.drew ?_ | refine below_drewN ?_ _ | exact hbw5)) hb6)
      | (go_at_call 57; refine (HC _ a4 c4 a6 c6 (Mag.below hm46 (by repeat (with_reducible first | refine Below.setCell ?_ (by simp <;> omega) _ | refine Below.alloc ?_ (by simp <;> omega) _ | refine Below.drew ?_ | refine below_drewN ?_ _ | exact Below.refl _ _))) (Mag.below hm6 (by repeat (with_reducible first | refine Below.setCell ?_ (by simp <;> omega) _ | refine Below.alloc ?_ (by simp <;> omega) _ | refine Below.drew ?_ | refine below_drewN ?_ _ | exact Below.refl _ _)))).out.mono ?_; rintro e w7 ⟨rfl, hb7⟩; obtain ⟨hc7, hz7⟩ := bcell (hb7.mono (show b8 + 1 ≤ _ by simpa using hg6)); have hg7 : b8 + 1 ≤ w7.heap.size := (by have := hb7.size; (try simp at this); omega); have hm27 : Mag w7 a2 (nl n.natAbs) c2 n.natAbs := Mag.below (Mag.below hm26 (by repeat (with_reducible first | refine Below.setCell ?_ (by simp <;> omega) _ | refine Below.alloc ?_ (by simp <;> omega) _ | refine Below.drew ?_ | refine below_drewN ?_ _ | exact Below.refl _ _))) hb7; have hm47 : Mag w7 a4 (nl r.natAbs) c4 r.natAbs := Mag.below (Mag.below hm46 (by repeat (with_reducible first | refine Below.setCell ?_ (by simp <;> omega) _ | refine Below.alloc ?_ (by simp <;> omega) _ | refine Below.drew ?_ | refine below_drewN ?_ _ | exact Below.refl _ _))) hb7; have hbw7 := below_box (w := w) (by have hszw := (hbw6).size; repeat (with_reducible first | refine Below.setCell ?_ (by first | omega | (simp <;> omega)) _ | refine Below.alloc ?_ (by first | omega | (simp <;> omega)) _ | refine Below.drew ?_ | refine below_drewN ?_ _ | exact hbw6)) hb7))
  obtain ⟨t4, t5, t6, t7, t8⟩ : w7.cell? ⟨w.heap.size, 4, none⟩ = some (.bool true) ∧ w7.cell? ⟨w.heap.size + 1, 0, none⟩ = some (.bool (decide (n < 0))) ∧ w7.cell? ⟨w.heap.size + 1, 1, none⟩ = some (.slice a2 (nl n.natAbs) c2) ∧ w7.cell? ⟨b8, 0, none⟩ = some (.bool (decide (r < 0))) ∧ w7.cell? ⟨b8, 1, none⟩ = some (.slice a4 (nl r.natAbs) c4) := by
    refine ⟨?_, ?_, ?_, ?_, ?_⟩ <;> go_simp
  obtain ⟨v5, v6⟩ : w7.frozen? ⟨w.heap.size + 1, 0, none⟩ = false ∧ w7.frozen? ⟨w.heap.size + 1, 1, none⟩ = false := by
    refine ⟨?_, ?_⟩ <;> go_simp
  clear hc5 hz5 hc6 hz6 hc7 hz7 hbw hbwc hbw5 hbw6 hb5 hb6 hb7 hf5 hf6 r4 r5 r6 r7 r8 y5 y6
  have hbw := hbw7
  go_wp2_with fail
  first | go_region_with (first | (go_at_call 45; refine (HG _ a4 c4 (Mag.below hm47 (by repeat (with_reducible first | refine Below.setCell ?_ (by simp <;> omega) _ | refine Below.alloc ?_ (by simp <;> omega) _ | refine Below.drew ?_ | refine below_drewN ?_ _ | exact Below.refl _ _)))).out.mono ?_; rintro e w8 ⟨rfl, hb8⟩; obtain ⟨hc8, hz8⟩ := bcell (hb8.mono (show b8 + 1 ≤ _ by simpa using hg7)))) | fail "region9"
  all_goals (
    have hm28 : Mag w8 a2 (nl n.natAbs) c2 n.natAbs := Mag.below (Mag.below hm27 (by repeat (with_reducible first | refine Below.setCell ?_ (by simp <;> omega) _ | refine Below.alloc ?_ (by simp <;> omega) _ | refine Below.drew ?_ | refine below_drewN ?_ _ | exact Below.refl _ _))) hb8
    have hbw8 := below_box (w := w) (by have hszw := hbw.size; repeat (with_reducible first | refine Below.setCell ?_ (by first | omega | (simp <;> omega)) _ | refine Below.alloc ?_ (by first | omega | (simp <;> omega)) _ | refine Below.drew ?_ | refine below_drewN ?_ _ | exact hbw)) hb8
    clear hbw
    have hbw := hbw8
    go_wp2_with fail
    refine bodyPost_ret2 (v := .tuple #[.agg #[.bool (decide (n < 0)), .slice a2 (nl n.natAbs) c2], .int .i64 1, .bool false]) (by simp only [results, Tryd.results103]; go_simp) rfl ?_
    exact ⟨a2, c2, rfl, (by repeat (with_reducible first | refine Mag.set ?_ (fun h => by have := hfr2 h; omega) _ _ | refine Mag.drew ?_ | refine Mag.alloc ?_ _ | refine Mag.drewN ?_ _ | refine Mag.below ?_ (Below.drew (Below.refl _ _)) | refine Mag.below ?_ ((Below.refl _ _).alloc (Nat.le_refl _) _) | exact hm28)), (by have hszw := hbw.size; repeat (with_reducible first | refine Below.setCell ?_ (by first | omega | (simp <;> omega)) _ | refine Below.alloc ?_ (by first | omega | (simp <;> omega)) _ | refine Below.drew ?_ | refine below_drewN ?_ _ | exact hbw)), fun h => by have := hfr2 h; omega⟩)

end Go.Proofs.YtjhngehajahbnaaDoor

/-
  Walks: the laws' helpers: awake, one1.
-/
import Derived.Test.YtakbappmkdaioaaGreatDoorZiQuo
import Derived.Test.YtakbappmkdaioaaGreatDoorZiKit
namespace Go.Proofs.YtakbappmkdaioaaGreatDoor
open Go.RowKit Sp

/-- A call's result: a dyad that is not bad, its parts by name. -/
def RetDyX (w : World) (b : Bool) (z f : Int) (e : Ending) (w' : World) : Prop :=
  ∃ a c, e = .returned (.agg #[.bool b, .bool (decide (z < 0)), .slice a (nl z.natAbs) c, .int .i64 f]) ∧ Mag w' a (nl z.natAbs) c z.natAbs ∧ Below w.heap.size w w' ∧ (0 < nl z.natAbs → w.heap.size ≤ ab a)
theorem retX {P : Program} {F : FuncId} {args : Array Value} {w : World} {d : Option (Int × Int)} (h : Calls P F args w (RetDy w d)) (b : Bool) (z f : Int) (hb : dbad d = b) (hz : dman d = z) (hf : dexp d = f) : Calls P F args w (RetDyX w b z f) := by
  subst hb hz hf; exact h
/-- a variable that holds a dyad -/
structure DyC (W : World) (b : Nat) (v s : Bool) (sl : Value) (f : Int) : Prop where
  c0 : W.cell? ⟨b, 0, none⟩ = some (.bool v)
  c1 : W.cell? ⟨b, 1, none⟩ = some (.bool s)
  c2 : W.cell? ⟨b, 2, none⟩ = some sl
  c3 : W.cell? ⟨b, 3, none⟩ = some (.int .i64 f)
  lt : b < W.heap.size
theorem DyC.below {W W' : World} {b : Nat} {v s : Bool} {sl : Value} {f : Int} (h : DyC W b v s sl f) (hb : Below W.heap.size W W') : DyC W' b v s sl f := by
  obtain ⟨h1, h2⟩ := bcell hb
  exact ⟨(h1 _ _ h.lt).trans h.c0, (h1 _ _ h.lt).trans h.c1, (h1 _ _ h.lt).trans h.c2, (h1 _ _ h.lt).trans h.c3, Nat.lt_of_lt_of_le h.lt hb.size⟩
theorem make_lit (w : World) (s : Bool) (a : Option Addr) (n cap x : Nat) (e : Int) (b : Bool) (z f : Int) (hm : Mag w a n cap x) (hn : n ≤ 1000) (hx : blen x ≤ 1000) (hT : Tab w) (h0 : -9223372036854775808 ≤ e) (h1 : e ≤ 9223372036854775807) (hb : dbad (nrm (sgn s x) e) = b) (hz : dman (nrm (sgn s x) e) = z) (hf : dexp (nrm (sgn s x) e) = f) :
    Calls Tryz.prog 126 #[.agg #[.bool s, .slice a n cap], .int .i64 e] w (RetDyX w b z f) :=
  retX (make_any w s a n cap x e hm (by omega) hT (by omega) (tz_lim (by omega)) h0 h1) b z f hb hz hf
theorem dyinX {w : World} {z f : Int} {a : Option Addr} {c : Nat} (hd : IsN (some (z, f))) (hm : Mag w a (nl z.natAbs) c z.natAbs) : DyIn w false (decide (z < 0)) a (nl z.natAbs) c f (some (z, f)) := dyin_of hd hm
theorem dvalid_in (w : World) {bd s : Bool} {a : Option Addr} {n cap : Nat} {e : Int} {d : Option (Int × Int)} (h : DyIn w bd s a n cap e d) (hT : Tab w) :
    Calls Tryz.prog 128 #[.agg #[.bool bd, .bool s, .slice a n cap, .int .i64 e]] w fun o w' => o = .returned (.bool (!dbad d)) ∧ Below w.heap.size w w' := by
  obtain ⟨x, h1, h2, h3, h4, h5, h6⟩ := h
  have := dvalid_any w bd s a n cap x e h1 h2 hT h3 (tz_lim h3) h4 h5
  rwa [h6] at this
set_option maxRecDepth 100000 in
set_option maxHeartbeats 2000000 in
theorem awake_core (w : World) (hT : Tab w) (z1 f1 o t q g v : Int) (hz1 : z1 = 3) (hf1 : f1 = 5) (ho : o = 1) (ht : t = 3) (hq : q = 3) (hg : g = -3) (hv : v = -1) :
    Calls Tryz.prog 15 #[] w fun e w' => e = .returned (.bool true) ∧ Below w.heap.size w w' := by
  have N1 : IsN (some (z1, f1)) := isN_some (Or.inr ⟨by omega, by omega, by subst hz1 hf1; decide⟩)
  have N2 : IsN (some (o, 0)) := isN_some (Or.inr ⟨by omega, by omega, by subst ho; decide⟩)
  have N3 : IsN (some (t, 0)) := isN_some (Or.inr ⟨by omega, by omega, by subst ht; decide⟩)
  have N4 : IsN (some (q, g)) := isN_some (Or.inr ⟨by omega, by omega, by subst hq hg; decide⟩)
  have HM := fun W b h ht => Lib.hid (make_lit W false b 1 1 12 3 false z1 f1 h (by omega) (by decide) ht (by omega) (by omega) (by decide) (by rw [hz1]; decide) (by rw [hf1]; decide))
  have HO := fun W ht => Lib.hid (retX (dfromInt_any W 1 ht (by omega) (by omega)) false o 0 (by decide) (by rw [ho]; decide) (by decide))
  have HH := fun W ht' => Lib.hid (retX (dfromInt_any W 3 ht' (by omega) (by omega)) false t 0 (by decide) (by rw [ht]; decide) (by decide))
  have HQ := fun W b c b' c' h h' htt => Lib.hid (retX (quo_any W false (decide (o < 0)) false (decide (t < 0)) b b' _ _ c c' 0 0 2 0 (some (o, 0)) (some (t, 0)) (dyinX N2 h) (dyinX N3 h') htt) false q g (by rw [ho, ht]; decide) (by rw [ho, ht, hq]; decide) (by rw [ho, ht, hg]; decide))
  have HC := fun W b c b' c' h h' htt => Lib.hid (dcmp_any W false (decide (q < 0)) false (decide (o < 0)) b b' _ _ c c' g 0 (some (q, g)) (some (o, 0)) (dyinX N4 h) (dyinX N2 h') htt)
  rw [show dcmp (some (q, g)) (some (o, 0)) = v by rw [hq, hg, ho, hv]; decide, show (!dbad (some (q, g)) && !dbad (some (o, 0))) = true from rfl] at HC
  have HK1 := fun W b c h b' h' => Lib.hid (kdyad_any W false false (decide (z1 < 0)) false b b' _ 1 c 1 z1.natAbs 3 f1 5 h h' rfl (by decide) true (by rw [hz1, hf1]; decide))
  have HK2 := fun W b c h b' h' => Lib.hid (kdyad_any W false false (decide (q < 0)) false b b' _ 1 c 1 q.natAbs 3 g (-3) h h' rfl (by decide) true (by rw [hq, hg]; decide))
  have HV := fun W b c h htt => Lib.hid (dvalid_in W (dyinX (w := W) (a := b) (c := c) N1 h) htt)
  rw [show (!dbad (some (z1, f1))) = true from rfl] at HV
  have hvv : (v == -1) = true := by rw [hv]; rfl
  have hvd : decide (v = -1) = true := by rw [hv]; rfl
  clear hz1 hf1 ho ht hq hg hv N1 N2 N3 N4
  go_enter Tryz.func15, Tryz.ntmps15
  go_wp2_with fail
  refine (HM _ _ (Mag.one w 87 12 (by omega)) (hT.below zbh)).out.mono ?_
  rintro e w1 ⟨a1, c1, rfl, hm1, hb1, hfx1⟩
  have hbw1 := below_box (w := w) zbh hb1
  clear hfx1 hb1
  go_wp2_with fail
  refine (HO _ (hT.below (have := Beh.mk hbw1; zbh))).out.mono ?_
  rintro e w2 ⟨a2, c2, rfl, hm2, hb2, hfx2⟩
  have T12 : DyC w2 w1.heap.size false (decide (z1 < 0)) (.slice a1 (nl z1.natAbs) c1) f1 := DyC.below (W := _) ⟨by go_simp, by go_simp, by go_simp, by go_simp, by simp⟩ hb2
  have hm12 : Mag w2 a1 (nl z1.natAbs) c1 z1.natAbs := Mag.below (by first | (repeat (with_reducible first | refine Mag.set ?_ (fun h => by have := hm1.old h; omega) _ _ | refine Mag.alloc ?_ _ | refine Mag.drew ?_ | exact hm1)) | fail) hb2
  have hbw2 := below_box (w := w) (have := Beh.mk hbw1; zbh) hb2
  clear hfx2 hb2
  go_wp2_with fail
  refine (HH _ (hT.below hbw2)).out.mono ?_
  rintro e w3 ⟨a3, c3, rfl, hm3, hb3, hfx3⟩
  have T13 := T12.below hb3
  have hm13 := hm12.below hb3
  have hm23 := hm2.below hb3
  have hbw3 := below_box (w := w) hbw2 hb3
  clear hfx3 hb3 T12 hm12
  go_wp2_with fail
  refine (HQ _ a2 c2 a3 c3 hm23 hm3 (hT.below hbw3)).out.mono ?_
  rintro e w4 ⟨a4, c4, rfl, hm4, hb4, hfx4⟩
  have T14 := T13.below hb4
  have hm14 := hm13.below hb4
  have hbw4 := below_box (w := w) hbw3 hb4
  clear hfx4 hb4 T13 hm13
  go_wp2_with fail
  have T14' : DyC (w4.alloc (.cells #[.bool false, .bool (decide (q < 0)), .slice a4 (nl q.natAbs) c4, .int .i64 g] 26)) w1.heap.size false (decide (z1 < 0)) (.slice a1 (nl z1.natAbs) c1) f1 := T14.below ((Below.refl _ _).alloc (Nat.le_refl _) _)
  have T24' : DyC (w4.alloc (.cells #[.bool false, .bool (decide (q < 0)), .slice a4 (nl q.natAbs) c4, .int .i64 g] 26)) w4.heap.size false (decide (q < 0)) (.slice a4 (nl q.natAbs) c4) g := ⟨by go_simp, by go_simp, by go_simp, by go_simp, by simp⟩
  have hm14' := hm14.alloc (.cells #[.bool false, .bool (decide (q < 0)), .slice a4 (nl q.natAbs) c4, .int .i64 g] 26)
  have hm44' := hm4.alloc (.cells #[.bool false, .bool (decide (q < 0)), .slice a4 (nl q.natAbs) c4, .int .i64 g] 26)
  have hbw4' : Below w.heap.size w (w4.alloc (.cells #[.bool false, .bool (decide (q < 0)), .slice a4 (nl q.natAbs) c4, .int .i64 g] 26)) := hbw4.alloc hbw4.size _
  generalize w1.heap.size = b1 at T14' ⊢
  generalize w4.heap.size = b2 at T24' ⊢
  generalize (w4.alloc (.cells #[.bool false, .bool (decide (q < 0)), .slice a4 (nl q.natAbs) c4, .int .i64 g] 26)) = W4 at T14' T24' hm14' hm44' hbw4' ⊢
  clear hm4 hm14 T14 hbw4 hbw3 hbw2 hbw1 hm23 hm3 hm2 hm1
  obtain ⟨x0, x1, x2, x3, x4⟩ := T24'
  go_region_held3 (fun w' => w'.cell? ⟨b2, 0, none⟩ = some (.bool false) ∧ w'.cell? ⟨b2, 1, none⟩ = some (.bool (decide (q < 0))) ∧ w'.cell? ⟨b2, 2, none⟩ = some (.slice a4 (nl q.natAbs) c4) ∧ w'.cell? ⟨b2, 3, none⟩ = some (.int .i64 g)) (first | (go_keep; done) | (go_simp; done))
    (first
      | (go_at_call 125; refine (HO _ (hT.below (by have hszw := (hbw4').size; repeat (with_reducible first | refine Below.setCell ?_ (by first | omega | (simp <;> omega)) _ | refine Below.alloc ?_ (by first | omega | (simp <;> omega)) _ | refine Below.drew ?_ | refine below_drewN ?_ _ | exact hbw4')))).out.mono ?_; rintro e w5 ⟨a5, c5, rfl, hm5, hb5, hfx5⟩; have T15 := (T14'.below (W' := W4.drew) (Below.drew (Below.refl _ _))).below hb5; have T25 := (DyC.below (W' := W4.drew) (DyC.mk x0 x1 x2 x3 x4) (Below.drew (Below.refl _ _))).below hb5; have hm15 : Mag w5 a1 (nl z1.natAbs) c1 z1.natAbs := Mag.below hm14'.drew hb5; have hm45 : Mag w5 a4 (nl q.natAbs) c4 q.natAbs := Mag.below hm44'.drew hb5; have hbw5 := below_box (w := w) (by have hszw := (hbw4').size; repeat (with_reducible first | refine Below.setCell ?_ (by first | omega | (simp <;> omega)) _ | refine Below.alloc ?_ (by first | omega | (simp <;> omega)) _ | refine Below.drew ?_ | refine below_drewN ?_ _ | exact hbw4')) hb5; obtain ⟨y0, y1, y2, y3, y4⟩ := T25)
      | (go_at_call 127; refine (HC _ a4 c4 a5 c5 (Mag.below hm45 zbh) (Mag.below hm5 zbh) (hT.below (have := Beh.mk hbw5; zbh))).out.mono ?_; rintro e w6 ⟨rfl, hb6⟩; have T16 := (T15.below zbh).below hb6; have T26 := (DyC.below (DyC.mk y0 y1 y2 y3 y4) zbh).below hb6; have hm16 : Mag w6 a1 (nl z1.natAbs) c1 z1.natAbs := Mag.below (Mag.below hm15 zbh) hb6; have hm46 : Mag w6 a4 (nl q.natAbs) c4 q.natAbs := Mag.below (Mag.below hm45 zbh) hb6; have hbw6 := below_box (w := w) (have := Beh.mk hbw5; zbh) hb6; obtain ⟨v0, v1, v2, v3, v4⟩ := T26))
  obtain ⟨u0, u1, u2, u3, u4⟩ := T16
  clear hb5 hb6 hfx5 hm5 hm15 hm45 hbw5 hbw4' hm14' hm44' T14' T15 x0 x1 x2 x3 x4 y0 y1 y2 y3 y4
  go_wp2_with fail
  refine (HK1 _ a1 c1 (hm16.alloc _) _ (Mag.one w6 87 3 (by omega))).out.mono ?_
  rintro e w7 ⟨rfl, hb7⟩
  have T17 := ((DyC.mk u0 u1 u2 u3 u4).below ((Below.refl w6.heap.size w6).alloc (Nat.le_refl _) (.cells #[.int .u32 3] 87))).below hb7
  have T27 := ((DyC.mk v0 v1 v2 v3 v4).below ((Below.refl w6.heap.size w6).alloc (Nat.le_refl _) (.cells #[.int .u32 3] 87))).below hb7
  have hm17 : Mag w7 a1 (nl z1.natAbs) c1 z1.natAbs := Mag.below (hm16.alloc _) hb7
  have hm47 : Mag w7 a4 (nl q.natAbs) c4 q.natAbs := Mag.below (hm46.alloc _) hb7
  have hbw7 := below_box (w := w) (hbw6.alloc hbw6.size (.cells #[.int .u32 3] 87)) hb7
  clear u0 u1 u2 u3 u4 v0 v1 v2 v3 v4 hb7 hm16 hm46 hbw6
  obtain ⟨u0, u1, u2, u3, u4⟩ := T17
  obtain ⟨v0, v1, v2, v3, v4⟩ := T27
  go_wp2_with fail
  refine (HK2 _ a4 c4 (hm47.alloc _) _ (Mag.one w7 87 3 (by omega))).out.mono ?_
  rintro e w8 ⟨rfl, hb8⟩
  have T18 := ((DyC.mk u0 u1 u2 u3 u4).below ((Below.refl w7.heap.size w7).alloc (Nat.le_refl _) (.cells #[.int .u32 3] 87))).below hb8
  have hm18 : Mag w8 a1 (nl z1.natAbs) c1 z1.natAbs := Mag.below (hm17.alloc _) hb8
  have hbw8 := below_box (w := w) (hbw7.alloc hbw7.size (.cells #[.int .u32 3] 87)) hb8
  clear u0 u1 u2 u3 u4 v0 v1 v2 v3 v4 hb8 hm17 hm47 hbw7
  obtain ⟨u0, u1, u2, u3, u4⟩ := T18
  go_wp2_with fail
  refine (HV _ a1 c1 hm18 (hT.below hbw8)).out.mono ?_
  rintro e w9 ⟨rfl, hb9⟩
  have hbw9 := below_box (w := w) hbw8 hb9
  go_wp2_with fail
  go_ret
  exact ⟨rfl, hbw9⟩

theorem awake_any (w : World) (hT : Tab w) : Calls Tryz.prog 15 #[] w fun e w' => e = .returned (.bool true) ∧ Below w.heap.size w w' :=
  awake_core w hT _ _ _ _ _ _ _ rfl rfl rfl rfl rfl rfl rfl

end Go.Proofs.YtakbappmkdaioaaGreatDoor


/-
  Walks: package dyad, round.go: Quo.
-/
import Derived.Test.YtakbappmkdaioaaGreatDoorZiBh
import Derived.Test.YtakbappmkdaioaaGreatDoorZiRat
namespace Go.Proofs.YtakbappmkdaioaaGreatDoor
open Go.RowKit Sp

/-- A call's result: a real number, its magnitude a natural one. -/
def RetReN (w : World) (s : Bool) (x : Nat) (E : Int) (more : Bool) (e : Ending) (w' : World) : Prop :=
  ∃ a c, e = .returned (.agg #[.bool s, .bool false, .slice a (nl x) c, .int .i64 E, .bool more]) ∧ Mag w' a (nl x) c x ∧ Below w.heap.size w w' ∧ (0 < nl x → w.heap.size ≤ ab a)
theorem ratio_any (w : World) (bd bd' : Bool) (a a' : Option Addr) (c c' : Nat) (z f z' f' p : Int) (hx : Mag w a (nl z.natAbs) c z.natAbs) (hy : Mag w a' (nl z'.natAbs) c' z'.natAbs) (hb : blen z.natAbs ≤ 131072) (hb' : blen z'.natAbs ≤ 131072) (hz' : z' ≠ 0) (hp0 : 1 ≤ p) (hp1 : p ≤ 4096) (hf : -65536 ≤ f) (hf1 : f ≤ 65536) (hf' : -65536 ≤ f') (hf1' : f' ≤ 65536) :
    Calls Tryz.prog 141 #[.agg #[.bool bd, .bool (decide (z < 0)), .slice a (nl z.natAbs) c, .int .i64 f], .agg #[.bool bd', .bool (decide (z' < 0)), .slice a' (nl z'.natAbs) c', .int .i64 f'], .int .i64 p]
      w (RetReN w (decide (z < 0) != decide (z' < 0)) (z.natAbs * 2 ^ qsh z z' p / z'.natAbs) (f - qsh z z' p - f') (decide (z.natAbs * 2 ^ qsh z z' p % z'.natAbs ≠ 0))) := by
  have hn : max 0 (p + 3 + (blen z'.natAbs : Int) - (blen z.natAbs : Int)) = (qsh z z' p : Int) := by unfold qsh; omega
  have hn2 : qsh z z' p ≤ 140000 := by unfold qsh; omega
  have hyl : nl ((z.natAbs * 2 ^ qsh z z' p : Nat) : Int).natAbs ≤ 1099511627776 := by
    refine nl_lim ?_
    show blen (z.natAbs * 2 ^ qsh z z' p) ≤ _
    by_cases h0 : z.natAbs = 0
    · rw [h0, Nat.zero_mul]; decide
    · rw [blen_mul_pow (Nat.pos_of_ne_zero h0)]; omega
  have h := ratio_core w bd bd' a a' c c' z f z' f' p (qsh z z' p) (f - qsh z z' p - f') (z.natAbs : Int) ((z.natAbs * 2 ^ qsh z z' p : Nat) : Int) _ _ _ _ (z.natAbs * 2 ^ qsh z z' p) z'.natAbs hx hy (nl_lim (by omega)) (nl_lim (by omega)) rfl rfl hb hb' hp0 hp1 hn rfl (by simp) rfl rfl (Int.natAbs_pos.2 hz') rfl rfl hyl hf hf1 hf' hf1' rfl
  have e : (sg ((z.natAbs * 2 ^ qsh z z' p % z'.natAbs : Nat) : Int) != 0) = decide (z.natAbs * 2 ^ qsh z z' p % z'.natAbs ≠ 0) := by
    by_cases h0 : z.natAbs * 2 ^ qsh z z' p % z'.natAbs = 0
    · rw [h0]; rfl
    · rw [sg_pos (by omega)]; simp [h0]
  rw [e] at h
  refine h.mono ?_
  rintro o w' ⟨a1, c1, rfl, h1, h2, h3⟩
  refine ⟨a1, c1, ?_, h1, h2, h3⟩
  simp only [show ∀ k : Nat, decide ((k : Int) < 0) = false from fun k => by simp]
  rfl

set_option maxRecDepth 100000 in
set_option maxHeartbeats 2000000 in
theorem quo_1 (w : World) (bd s bd' s' : Bool) (a a' : Option Addr) (n n' cap cap' : Nat) (e e' p mode : Int) (d d' : Option (Int × Int)) (hx : DyIn w bd s a n cap e d) (hy : DyIn w bd' s' a' n' cap' e' d') (hT : Tab w) (hk : (!dbad d && !dbad d') = false) :
    Calls Tryz.prog 19 #[.agg #[.bool bd, .bool s, .slice a n cap, .int .i64 e], .agg #[.bool bd', .bool s', .slice a' n' cap', .int .i64 e'], .int .i64 p, .int .i64 mode] w (RetDy w none) := by
  have HN := fun W hx hy ht => Lib.hid (@two_v W bd s bd' s' a a' n n' cap cap' e e' d d' hx hy ht _ _ _ rfl rfl rfl _ _ _ rfl rfl rfl false hk)
  generalize dbad d = b at HN
  generalize dman d = z at HN
  generalize dexp d = f at HN
  generalize dbad d' = b' at HN
  generalize dman d' = z' at HN
  generalize dexp d' = f' at HN
  clear hk
  have e1 : ¬ w.heap.size + 1 = w.heap.size := by omega
  have e2 : ¬ w.heap.size + 1 + 1 = w.heap.size := by omega
  have l2 : w.heap.size < w.heap.size + 1 + 1 := by omega
  have k2 : ¬ w.heap.size = w.heap.size + 1 + 1 := by omega
  have l3 : w.heap.size < w.heap.size + 1 + 1 + 1 := by omega
  have k3 : ¬ w.heap.size = w.heap.size + 1 + 1 + 1 := by omega
  go_enter Tryz.func19, Tryz.ntmps19
  go_wp2_with fail
  refine (HN _ (hx.below zbh) (hy.below zbh) (hT.below zbh)).out.mono ?_
  rintro e w1 ⟨a1, c1, a2, c2, rfl, hm1, hm2, hb, hf1, hf2⟩
  obtain ⟨hc1, hz1⟩ := bcell (hb.mono (show w.heap.size + 3 ≤ _ by simp))
  have hg1 : w.heap.size + 3 ≤ w1.heap.size := by have := hb.size; simpa using this
  have hbw := below_box (w := w) zbh hb
  go_wp2_with fail
  refine (bad_any _).mono ?_
  rintro e w2 ⟨rfl, hbz⟩
  obtain ⟨hcz, hzz⟩ := bcell (hbz.mono (show w.heap.size + 3 ≤ _ by simpa using hg1))
  have hbwz := below_box (w := w) (have := Beh.mk hbw; zbh) hbz
  clear hbw
  have hbw := hbwz
  go_wp2_with fail
  refine bodyPost_ret (v := .agg #[.bool true, .bool false, .slice none 0 0, .int .i64 0]) (by simp only [results, Tryz.results19]; go_simp) rfl ?_
  exact ret_bad rfl (have := Beh.mk hbw; zbh)

set_option maxRecDepth 100000 in
set_option maxHeartbeats 2000000 in
theorem quo_2 (w : World) (bd s bd' s' : Bool) (a a' : Option Addr) (n n' cap cap' : Nat) (e e' p mode : Int) (z f z' f' : Int) (hx : DyIn w bd s a n cap e (some (z, f))) (hy : DyIn w bd' s' a' n' cap' e' (some (z', f'))) (hT : Tab w) (hp : prc p = false) :
    Calls Tryz.prog 19 #[.agg #[.bool bd, .bool s, .slice a n cap, .int .i64 e], .agg #[.bool bd', .bool s', .slice a' n' cap', .int .i64 e'], .int .i64 p, .int .i64 mode] w (RetDy w none) := by
  have HN := fun W hx hy ht => Lib.hid (@two_v W bd s bd' s' a a' n n' cap cap' e e' (some (z, f)) (some (z', f')) hx hy ht false z f rfl rfl rfl false z' f' rfl rfl rfl true rfl)
  obtain ⟨hb0, hf0, hf1⟩ := isN_bounds hx.isN
  obtain ⟨hb0', hf0', hf1'⟩ := isN_bounds hy.isN
  simp only [dman, dexp, Option.getD_some] at hb0 hf0 hf1 hb0' hf0' hf1'
  have HP := fun W => Lib.hid (precise_any W p)
  have e1 : ¬ w.heap.size + 1 = w.heap.size := by omega
  have e2 : ¬ w.heap.size + 1 + 1 = w.heap.size := by omega
  have l2 : w.heap.size < w.heap.size + 1 + 1 := by omega
  have k2 : ¬ w.heap.size = w.heap.size + 1 + 1 := by omega
  have l3 : w.heap.size < w.heap.size + 1 + 1 + 1 := by omega
  have k3 : ¬ w.heap.size = w.heap.size + 1 + 1 + 1 := by omega
  clear hb0 hf0 hf1 hb0' hf0' hf1'
  go_enter Tryz.func19, Tryz.ntmps19
  go_wp2_with fail
  refine (HN _ (hx.below zbh) (hy.below zbh) (hT.below zbh)).out.mono ?_
  rintro e w1 ⟨a1, c1, a2, c2, rfl, hm1, hm2, hb, hf1, hf2⟩
  obtain ⟨hc1, hz1⟩ := bcell (hb.mono (show w.heap.size + 3 ≤ _ by simp))
  have hg1 : w.heap.size + 3 ≤ w1.heap.size := by have := hb.size; simpa using this
  have hfr1 : 0 < nl z.natAbs → w.heap.size + 3 ≤ ab a1 := fun h => by have := hf1 h; simpa using this
  have hfr2 : 0 < nl z'.natAbs → w.heap.size + 3 ≤ ab a2 := fun h => by have := hf2 h; simpa using this
  have hbw := below_box (w := w) zbh hb
  go_wp2_with fail
  refine (HP _).out.mono ?_
  rintro e wp ⟨rfl, rfl⟩
  go_wp2_with fail
  refine (bad_any _).mono ?_
  rintro e w2 ⟨rfl, hbz⟩
  obtain ⟨hcz, hzz⟩ := bcell (hbz.mono (show w.heap.size + 3 ≤ _ by simpa using hg1))
  have hbwz := below_box (w := w) (have := Beh.mk hbw; zbh) hbz
  clear hbw
  have hbw := hbwz
  go_wp2_with fail
  refine bodyPost_ret (v := .agg #[.bool true, .bool false, .slice none 0 0, .int .i64 0]) (by simp only [results, Tryz.results19]; go_simp) rfl ?_
  exact ret_bad rfl (have := Beh.mk hbw; zbh)

set_option maxRecDepth 100000 in
set_option maxHeartbeats 2000000 in
theorem quo_3 (w : World) (bd s bd' s' : Bool) (a a' : Option Addr) (n n' cap cap' : Nat) (e e' p mode : Int) (z f z' f' : Int) (hx : DyIn w bd s a n cap e (some (z, f))) (hy : DyIn w bd' s' a' n' cap' e' (some (z', f'))) (hT : Tab w) (hp : prc p = true) (h0 : z' = 0) :
    Calls Tryz.prog 19 #[.agg #[.bool bd, .bool s, .slice a n cap, .int .i64 e], .agg #[.bool bd', .bool s', .slice a' n' cap', .int .i64 e'], .int .i64 p, .int .i64 mode] w (RetDy w none) := by
  have HN := fun W hx hy ht => Lib.hid (@two_v W bd s bd' s' a a' n n' cap cap' e e' (some (z, f)) (some (z', f')) hx hy ht false z f rfl rfl rfl false z' f' rfl rfl rfl true rfl)
  obtain ⟨hb0, hf0, hf1⟩ := isN_bounds hx.isN
  obtain ⟨hb0', hf0', hf1'⟩ := isN_bounds hy.isN
  simp only [dman, dexp, Option.getD_some] at hb0 hf0 hf1 hb0' hf0' hf1'
  have HP := fun W => Lib.hid (precise_any W p)
  have HG' := fun W b c h => Lib.hid (sign_z W b c z' h)
  obtain ⟨g', hg'⟩ : ∃ g', g' = sg z' := ⟨_, rfl⟩
  rw [← hg'] at HG'
  have hgz : (g' == 0) = true := by rw [hg', h0]; rfl
  clear hg' h0
  have e1 : ¬ w.heap.size + 1 = w.heap.size := by omega
  have e2 : ¬ w.heap.size + 1 + 1 = w.heap.size := by omega
  have l2 : w.heap.size < w.heap.size + 1 + 1 := by omega
  have k2 : ¬ w.heap.size = w.heap.size + 1 + 1 := by omega
  have l3 : w.heap.size < w.heap.size + 1 + 1 + 1 := by omega
  have k3 : ¬ w.heap.size = w.heap.size + 1 + 1 + 1 := by omega
  clear hb0 hf0 hf1 hb0' hf0' hf1'
  go_enter Tryz.func19, Tryz.ntmps19
  go_wp2_with fail
  refine (HN _ (hx.below zbh) (hy.below zbh) (hT.below zbh)).out.mono ?_
  rintro e w1 ⟨a1, c1, a2, c2, rfl, hm1, hm2, hb, hf1, hf2⟩
  obtain ⟨hc1, hz1⟩ := bcell (hb.mono (show w.heap.size + 3 ≤ _ by simp))
  have hg1 : w.heap.size + 3 ≤ w1.heap.size := by have := hb.size; simpa using this
  have hfr1 : 0 < nl z.natAbs → w.heap.size + 3 ≤ ab a1 := fun h => by have := hf1 h; simpa using this
  have hfr2 : 0 < nl z'.natAbs → w.heap.size + 3 ≤ ab a2 := fun h => by have := hf2 h; simpa using this
  have hbw := below_box (w := w) zbh hb
  go_wp2_with fail
  refine (HP _).out.mono ?_
  rintro e wp ⟨rfl, rfl⟩
  go_wp2_with fail
  refine (HG' _ a2 c2 (by repeat (with_reducible first | refine Mag.set ?_ (fun h => by have := hfr2 h; omega) _ _ | refine Mag.drew ?_ | refine Mag.alloc ?_ _ | refine Mag.drewN ?_ _ | refine Mag.below ?_ (Below.drew (Below.refl _ _)) | refine Mag.below ?_ ((Below.refl _ _).alloc (Nat.le_refl _) _) | exact hm2))).out.mono ?_
  rintro e w2 ⟨rfl, hb2⟩
  obtain ⟨hc2, hz2⟩ := bcell (hb2.mono (show w.heap.size + 3 ≤ _ by simpa using hg1))
  have hs2 := hb2.size
  (try simp at hs2)
  have hg2 : w.heap.size + 3 ≤ w2.heap.size := by omega
  have hm12 : Mag w2 a1 (nl z.natAbs) c1 z.natAbs := Mag.below (by repeat (with_reducible first | refine Mag.set ?_ (fun h => by have := hfr1 h; omega) _ _ | refine Mag.drew ?_ | refine Mag.alloc ?_ _ | refine Mag.drewN ?_ _ | refine Mag.below ?_ (Below.drew (Below.refl _ _)) | refine Mag.below ?_ ((Below.refl _ _).alloc (Nat.le_refl _) _) | exact hm1)) hb2
  have hm22 : Mag w2 a2 (nl z'.natAbs) c2 z'.natAbs := Mag.below (by repeat (with_reducible first | refine Mag.set ?_ (fun h => by have := hfr2 h; omega) _ _ | refine Mag.drew ?_ | refine Mag.alloc ?_ _ | refine Mag.drewN ?_ _ | refine Mag.below ?_ (Below.drew (Below.refl _ _)) | refine Mag.below ?_ ((Below.refl _ _).alloc (Nat.le_refl _) _) | exact hm2)) hb2
  have hbw2 := below_box (w := w) (have := Beh.mk hbw; zbh) hb2
  clear hbw
  have hbw := hbw2
  obtain ⟨q0, q1, q2, q3, q4, q5, q6, q7⟩ : w2.cell? ⟨w.heap.size, 0, none⟩ = some (.bool false) ∧ w2.cell? ⟨w.heap.size, 1, none⟩ = some (.bool (decide (z < 0))) ∧ w2.cell? ⟨w.heap.size, 2, none⟩ = some (.slice a1 (nl z.natAbs) c1) ∧ w2.cell? ⟨w.heap.size, 3, none⟩ = some (.int .i64 f)
      ∧ w2.cell? ⟨w.heap.size + 1, 0, none⟩ = some (.bool false) ∧ w2.cell? ⟨w.heap.size + 1, 1, none⟩ = some (.bool (decide (z' < 0))) ∧ w2.cell? ⟨w.heap.size + 1, 2, none⟩ = some (.slice a2 (nl z'.natAbs) c2) ∧ w2.cell? ⟨w.heap.size + 1, 3, none⟩ = some (.int .i64 f') := by
    refine ⟨?_, ?_, ?_, ?_, ?_, ?_, ?_, ?_⟩ <;> go_simp
  obtain ⟨r0, r1, r2, r3⟩ : w2.cell? ⟨w.heap.size + 1 + 1, 0, none⟩ = some (.bool false) ∧ w2.cell? ⟨w.heap.size + 1 + 1, 1, none⟩ = some (.bool false) ∧ w2.cell? ⟨w.heap.size + 1 + 1, 2, none⟩ = some (.slice none 0 0) ∧ w2.cell? ⟨w.heap.size + 1 + 1, 3, none⟩ = some (.int .i64 0) := by
    refine ⟨?_, ?_, ?_, ?_⟩ <;> go_simp
  obtain ⟨y0, y1, y2, y3⟩ : w2.frozen? ⟨w.heap.size + 1 + 1, 0, none⟩ = false ∧ w2.frozen? ⟨w.heap.size + 1 + 1, 1, none⟩ = false ∧ w2.frozen? ⟨w.heap.size + 1 + 1, 2, none⟩ = false ∧ w2.frozen? ⟨w.heap.size + 1 + 1, 3, none⟩ = false := by
    refine ⟨?_, ?_, ?_, ?_⟩ <;> go_simp
  clear hc1 hz1 hc2 hz2 hb hb2
  go_wp2_with fail
  refine (bad_any _).mono ?_
  rintro e w3 ⟨rfl, hbz⟩
  obtain ⟨hcz, hzz⟩ := bcell (hbz.mono (show w.heap.size + 3 ≤ _ from hg2))
  have hbwz := below_box (w := w) (have := Beh.mk hbw; zbh) hbz
  clear hbw
  have hbw := hbwz
  go_wp2_with fail
  refine bodyPost_ret (v := .agg #[.bool true, .bool false, .slice none 0 0, .int .i64 0]) (by simp only [results, Tryz.results19]; go_simp) rfl ?_
  exact ret_bad rfl (have := Beh.mk hbw; zbh)

set_option maxRecDepth 100000 in
set_option maxHeartbeats 2000000 in
theorem quo_4 (w : World) (bd s bd' s' : Bool) (a a' : Option Addr) (n n' cap cap' : Nat) (e e' p mode : Int) (z f z' f' : Int) (hx : DyIn w bd s a n cap e (some (z, f))) (hy : DyIn w bd' s' a' n' cap' e' (some (z', f'))) (hT : Tab w) (hp : prc p = true) (h0' : z' ≠ 0) (h0 : z = 0) :
    Calls Tryz.prog 19 #[.agg #[.bool bd, .bool s, .slice a n cap, .int .i64 e], .agg #[.bool bd', .bool s', .slice a' n' cap', .int .i64 e'], .int .i64 p, .int .i64 mode] w (RetDy w (some (z, f))) := by
  have HN := fun W hx hy ht => Lib.hid (@two_v W bd s bd' s' a a' n n' cap cap' e e' (some (z, f)) (some (z', f')) hx hy ht false z f rfl rfl rfl false z' f' rfl rfl rfl true rfl)
  obtain ⟨hb0, hf0, hf1⟩ := isN_bounds hx.isN
  obtain ⟨hb0', hf0', hf1'⟩ := isN_bounds hy.isN
  simp only [dman, dexp, Option.getD_some] at hb0 hf0 hf1 hb0' hf0' hf1'
  have HP := fun W => Lib.hid (precise_any W p)
  have HG' := fun W b c h => Lib.hid (sign_z W b c z' h)
  obtain ⟨g', hg'⟩ : ∃ g', g' = sg z' := ⟨_, rfl⟩
  rw [← hg'] at HG'
  have hgz : (g' == 0) = false := by rw [hg']; unfold sg cmpI; split <;> (try split) <;> first | decide | (exfalso; omega)
  clear hg'
  have HG := fun W b c h => Lib.hid (sign_z W b c z h)
  obtain ⟨g, hg⟩ : ∃ g, g = sg z := ⟨_, rfl⟩
  rw [← hg] at HG
  have hgy : (g == 0) = true := by rw [hg, h0]; rfl
  clear hg h0 h0'
  have e1 : ¬ w.heap.size + 1 = w.heap.size := by omega
  have e2 : ¬ w.heap.size + 1 + 1 = w.heap.size := by omega
  have l2 : w.heap.size < w.heap.size + 1 + 1 := by omega
  have k2 : ¬ w.heap.size = w.heap.size + 1 + 1 := by omega
  have l3 : w.heap.size < w.heap.size + 1 + 1 + 1 := by omega
  have k3 : ¬ w.heap.size = w.heap.size + 1 + 1 + 1 := by omega
  clear hb0 hf0 hf1 hb0' hf0' hf1'
  go_enter Tryz.func19, Tryz.ntmps19
  go_wp2_with fail
  refine (HN _ (hx.below zbh) (hy.below zbh) (hT.below zbh)).out.mono ?_
  rintro e w1 ⟨a1, c1, a2, c2, rfl, hm1, hm2, hb, hf1, hf2⟩
  obtain ⟨hc1, hz1⟩ := bcell (hb.mono (show w.heap.size + 3 ≤ _ by simp))
  have hg1 : w.heap.size + 3 ≤ w1.heap.size := by have := hb.size; simpa using this
  have hfr1 : 0 < nl z.natAbs → w.heap.size + 3 ≤ ab a1 := fun h => by have := hf1 h; simpa using this
  have hfr2 : 0 < nl z'.natAbs → w.heap.size + 3 ≤ ab a2 := fun h => by have := hf2 h; simpa using this
  have hbw := below_box (w := w) zbh hb
  go_wp2_with fail
  refine (HP _).out.mono ?_
  rintro e wp ⟨rfl, rfl⟩
  go_wp2_with fail
  refine (HG' _ a2 c2 (by repeat (with_reducible first | refine Mag.set ?_ (fun h => by have := hfr2 h; omega) _ _ | refine Mag.drew ?_ | refine Mag.alloc ?_ _ | refine Mag.drewN ?_ _ | refine Mag.below ?_ (Below.drew (Below.refl _ _)) | refine Mag.below ?_ ((Below.refl _ _).alloc (Nat.le_refl _) _) | exact hm2))).out.mono ?_
  rintro e w2 ⟨rfl, hb2⟩
  obtain ⟨hc2, hz2⟩ := bcell (hb2.mono (show w.heap.size + 3 ≤ _ by simpa using hg1))
  have hs2 := hb2.size
  (try simp at hs2)
  have hg2 : w.heap.size + 3 ≤ w2.heap.size := by omega
  have hm12 : Mag w2 a1 (nl z.natAbs) c1 z.natAbs := Mag.below (by repeat (with_reducible first | refine Mag.set ?_ (fun h => by have := hfr1 h; omega) _ _ | refine Mag.drew ?_ | refine Mag.alloc ?_ _ | refine Mag.drewN ?_ _ | refine Mag.below ?_ (Below.drew (Below.refl _ _)) | refine Mag.below ?_ ((Below.refl _ _).alloc (Nat.le_refl _) _) | exact hm1)) hb2
  have hm22 : Mag w2 a2 (nl z'.natAbs) c2 z'.natAbs := Mag.below (by repeat (with_reducible first | refine Mag.set ?_ (fun h => by have := hfr2 h; omega) _ _ | refine Mag.drew ?_ | refine Mag.alloc ?_ _ | refine Mag.drewN ?_ _ | refine Mag.below ?_ (Below.drew (Below.refl _ _)) | refine Mag.below ?_ ((Below.refl _ _).alloc (Nat.le_refl _) _) | exact hm2)) hb2
  have hbw2 := below_box (w := w) (have := Beh.mk hbw; zbh) hb2
  clear hbw
  have hbw := hbw2
  obtain ⟨q0, q1, q2, q3, q4, q5, q6, q7⟩ : w2.cell? ⟨w.heap.size, 0, none⟩ = some (.bool false) ∧ w2.cell? ⟨w.heap.size, 1, none⟩ = some (.bool (decide (z < 0))) ∧ w2.cell? ⟨w.heap.size, 2, none⟩ = some (.slice a1 (nl z.natAbs) c1) ∧ w2.cell? ⟨w.heap.size, 3, none⟩ = some (.int .i64 f)
      ∧ w2.cell? ⟨w.heap.size + 1, 0, none⟩ = some (.bool false) ∧ w2.cell? ⟨w.heap.size + 1, 1, none⟩ = some (.bool (decide (z' < 0))) ∧ w2.cell? ⟨w.heap.size + 1, 2, none⟩ = some (.slice a2 (nl z'.natAbs) c2) ∧ w2.cell? ⟨w.heap.size + 1, 3, none⟩ = some (.int .i64 f') := by
    refine ⟨?_, ?_, ?_, ?_, ?_, ?_, ?_, ?_⟩ <;> go_simp
  obtain ⟨r0, r1, r2, r3⟩ : w2.cell? ⟨w.heap.size + 1 + 1, 0, none⟩ = some (.bool false) ∧ w2.cell? ⟨w.heap.size + 1 + 1, 1, none⟩ = some (.bool false) ∧ w2.cell? ⟨w.heap.size + 1 + 1, 2, none⟩ = some (.slice none 0 0) ∧ w2.cell? ⟨w.heap.size + 1 + 1, 3, none⟩ = some (.int .i64 0) := by
    refine ⟨?_, ?_, ?_, ?_⟩ <;> go_simp
  obtain ⟨y0, y1, y2, y3⟩ : w2.frozen? ⟨w.heap.size + 1 + 1, 0, none⟩ = false ∧ w2.frozen? ⟨w.heap.size + 1 + 1, 1, none⟩ = false ∧ w2.frozen? ⟨w.heap.size + 1 + 1, 2, none⟩ = false ∧ w2.frozen? ⟨w.heap.size + 1 + 1, 3, none⟩ = false := by
    refine ⟨?_, ?_, ?_, ?_⟩ <;> go_simp
  clear hc1 hz1 hc2 hz2 hb hb2
  go_wp2_with fail
  refine (HG _ a1 c1 hm12).out.mono ?_
  rintro e w3 ⟨rfl, hb3⟩
  obtain ⟨hc3, hz3⟩ := bcell (hb3.mono hg2)
  have hs3 := hb3.size
  have hg3 : w.heap.size + 3 ≤ w3.heap.size := by omega
  have hm13 : Mag w3 a1 (nl z.natAbs) c1 z.natAbs := hm12.below hb3
  have hm23 : Mag w3 a2 (nl z'.natAbs) c2 z'.natAbs := hm22.below hb3
  have hbw3 := below_box (w := w) hbw hb3
  clear hbw
  have hbw := hbw3
  go_wp2_with fail
  refine bodyPost_ret (v := .agg #[.bool false, .bool (decide (z < 0)), .slice a1 (nl z.natAbs) c1, .int .i64 f]) (by simp only [results, Tryz.results19]; go_simp) rfl ?_
  exact ret_dy false z f rfl rfl rfl (by repeat (with_reducible first | refine Mag.set ?_ (fun h => by have := hfr1 h; omega) _ _ | refine Mag.drew ?_ | refine Mag.alloc ?_ _ | refine Mag.drewN ?_ _ | refine Mag.below ?_ (Below.drew (Below.refl _ _)) | refine Mag.below ?_ ((Below.refl _ _).alloc (Nat.le_refl _) _) | exact hm13)) (have := Beh.mk hbw; zbh) (fun h => by have := hfr1 h; omega)

set_option maxRecDepth 100000 in
set_option maxHeartbeats 2000000 in
theorem quo_5 (w : World) (bd s bd' s' : Bool) (a a' : Option Addr) (n n' cap cap' : Nat) (e e' p mode : Int) (z f z' f' : Int) (hx : DyIn w bd s a n cap e (some (z, f))) (hy : DyIn w bd' s' a' n' cap' e' (some (z', f'))) (hT : Tab w) (hp : prc p = true) (h0' : z' ≠ 0) (h0 : z ≠ 0) (X : Nat) (E : Int) (sb more : Bool) (hX : X = z.natAbs * 2 ^ qsh z z' p / z'.natAbs) (hE : E = f - qsh z z' p - f') (hsb : sb = (decide (z < 0) != decide (z' < 0))) (hmo : more = decide (z.natAbs * 2 ^ qsh z z' p % z'.natAbs ≠ 0)) (hX0 : 0 < X) (hXl : blen X ≤ 400000) (hE0 : -900000 ≤ E) (hE1 : E ≤ 900000) :
    Calls Tryz.prog 19 #[.agg #[.bool bd, .bool s, .slice a n cap, .int .i64 e], .agg #[.bool bd', .bool s', .slice a' n' cap', .int .i64 e'], .int .i64 p, .int .i64 mode] w (RetDy w (dfix sb X E more p mode)) := by
  have HN := fun W hx hy ht => Lib.hid (@two_v W bd s bd' s' a a' n n' cap cap' e e' (some (z, f)) (some (z', f')) hx hy ht false z f rfl rfl rfl false z' f' rfl rfl rfl true rfl)
  obtain ⟨hb0, hf0, hf1⟩ := isN_bounds hx.isN
  obtain ⟨hb0', hf0', hf1'⟩ := isN_bounds hy.isN
  simp only [dman, dexp, Option.getD_some] at hb0 hf0 hf1 hb0' hf0' hf1'
  have HP := fun W => Lib.hid (precise_any W p)
  have HG' := fun W b c h => Lib.hid (sign_z W b c z' h)
  obtain ⟨g', hg'⟩ : ∃ g', g' = sg z' := ⟨_, rfl⟩
  rw [← hg'] at HG'
  have hgz : (g' == 0) = false := by rw [hg']; unfold sg cmpI; split <;> (try split) <;> first | decide | (exfalso; omega)
  clear hg'
  have HG := fun W b c h => Lib.hid (sign_z W b c z h)
  obtain ⟨g, hg⟩ : ∃ g, g = sg z := ⟨_, rfl⟩
  rw [← hg] at HG
  have hgy : (g == 0) = false := by rw [hg]; unfold sg cmpI; split <;> (try split) <;> first | decide | (exfalso; omega)
  have hp' : 1 ≤ p ∧ p ≤ 4096 := by unfold prc at hp; simpa using hp
  have HR := fun W b c b' c' h h' => Lib.hid (ratio_any W false false b b' c c' z f z' f' p h h' hb0 hb0' h0' hp'.1 hp'.2 hf0 hf1 hf0' hf1')
  rw [← hX, ← hE, ← hsb, ← hmo] at HR
  have HF := fun W b c h ht => Lib.hid (fixed_any W sb more b c X E p mode h hX0 (by omega) (by omega) (by omega) hp ht)
  generalize dfix sb X E more p mode = d at HF ⊢
  clear hg h0 h0' hX hE hsb hmo hX0 hXl hE0 hE1 hp'
  have e1 : ¬ w.heap.size + 1 = w.heap.size := by omega
  have e2 : ¬ w.heap.size + 1 + 1 = w.heap.size := by omega
  have l2 : w.heap.size < w.heap.size + 1 + 1 := by omega
  have k2 : ¬ w.heap.size = w.heap.size + 1 + 1 := by omega
  have l3 : w.heap.size < w.heap.size + 1 + 1 + 1 := by omega
  have k3 : ¬ w.heap.size = w.heap.size + 1 + 1 + 1 := by omega
  clear hb0 hf0 hf1 hb0' hf0' hf1'
  go_enter Tryz.func19, Tryz.ntmps19
  go_wp2_with fail
  refine (HN _ (hx.below zbh) (hy.below zbh) (hT.below zbh)).out.mono ?_
  rintro e w1 ⟨a1, c1, a2, c2, rfl, hm1, hm2, hb, hf1, hf2⟩
  obtain ⟨hc1, hz1⟩ := bcell (hb.mono (show w.heap.size + 3 ≤ _ by simp))
  have hg1 : w.heap.size + 3 ≤ w1.heap.size := by have := hb.size; simpa using this
  have hfr1 : 0 < nl z.natAbs → w.heap.size + 3 ≤ ab a1 := fun h => by have := hf1 h; simpa using this
  have hfr2 : 0 < nl z'.natAbs → w.heap.size + 3 ≤ ab a2 := fun h => by have := hf2 h; simpa using this
  have hbw := below_box (w := w) zbh hb
  go_wp2_with fail
  refine (HP _).out.mono ?_
  rintro e wp ⟨rfl, rfl⟩
  go_wp2_with fail
  refine (HG' _ a2 c2 (by repeat (with_reducible first | refine Mag.set ?_ (fun h => by have := hfr2 h; omega) _ _ | refine Mag.drew ?_ | refine Mag.alloc ?_ _ | refine Mag.drewN ?_ _ | refine Mag.below ?_ (Below.drew (Below.refl _ _)) | refine Mag.below ?_ ((Below.refl _ _).alloc (Nat.le_refl _) _) | exact hm2))).out.mono ?_
  rintro e w2 ⟨rfl, hb2⟩
  obtain ⟨hc2, hz2⟩ := bcell (hb2.mono (show w.heap.size + 3 ≤ _ by simpa using hg1))
  have hs2 := hb2.size
  (try simp at hs2)
  have hg2 : w.heap.size + 3 ≤ w2.heap.size := by omega
  have hm12 : Mag w2 a1 (nl z.natAbs) c1 z.natAbs := Mag.below (by repeat (with_reducible first | refine Mag.set ?_ (fun h => by have := hfr1 h; omega) _ _ | refine Mag.drew ?_ | refine Mag.alloc ?_ _ | refine Mag.drewN ?_ _ | refine Mag.below ?_ (Below.drew (Below.refl _ _)) | refine Mag.below ?_ ((Below.refl _ _).alloc (Nat.le_refl _) _) | exact hm1)) hb2
  have hm22 : Mag w2 a2 (nl z'.natAbs) c2 z'.natAbs := Mag.below (by repeat (with_reducible first | refine Mag.set ?_ (fun h => by have := hfr2 h; omega) _ _ | refine Mag.drew ?_ | refine Mag.alloc ?_ _ | refine Mag.drewN ?_ _ | refine Mag.below ?_ (Below.drew (Below.refl _ _)) | refine Mag.below ?_ ((Below.refl _ _).alloc (Nat.le_refl _) _) | exact hm2)) hb2
  have hbw2 := below_box (w := w) (have := Beh.mk hbw; zbh) hb2
  clear hbw
  have hbw := hbw2
  obtain ⟨q0, q1, q2, q3, q4, q5, q6, q7⟩ : w2.cell? ⟨w.heap.size, 0, none⟩ = some (.bool false) ∧ w2.cell? ⟨w.heap.size, 1, none⟩ = some (.bool (decide (z < 0))) ∧ w2.cell? ⟨w.heap.size, 2, none⟩ = some (.slice a1 (nl z.natAbs) c1) ∧ w2.cell? ⟨w.heap.size, 3, none⟩ = some (.int .i64 f)
      ∧ w2.cell? ⟨w.heap.size + 1, 0, none⟩ = some (.bool false) ∧ w2.cell? ⟨w.heap.size + 1, 1, none⟩ = some (.bool (decide (z' < 0))) ∧ w2.cell? ⟨w.heap.size + 1, 2, none⟩ = some (.slice a2 (nl z'.natAbs) c2) ∧ w2.cell? ⟨w.heap.size + 1, 3, none⟩ = some (.int .i64 f') := by
    refine ⟨?_, ?_, ?_, ?_, ?_, ?_, ?_, ?_⟩ <;> go_simp
  obtain ⟨r0, r1, r2, r3⟩ : w2.cell? ⟨w.heap.size + 1 + 1, 0, none⟩ = some (.bool false) ∧ w2.cell? ⟨w.heap.size + 1 + 1, 1, none⟩ = some (.bool false) ∧ w2.cell? ⟨w.heap.size + 1 + 1, 2, none⟩ = some (.slice none 0 0) ∧ w2.cell? ⟨w.heap.size + 1 + 1, 3, none⟩ = some (.int .i64 0) := by
    refine ⟨?_, ?_, ?_, ?_⟩ <;> go_simp
  obtain ⟨y0, y1, y2, y3⟩ : w2.frozen? ⟨w.heap.size + 1 + 1, 0, none⟩ = false ∧ w2.frozen? ⟨w.heap.size + 1 + 1, 1, none⟩ = false ∧ w2.frozen? ⟨w.heap.size + 1 + 1, 2, none⟩ = false ∧ w2.frozen? ⟨w.heap.size + 1 + 1, 3, none⟩ = false := by
    refine ⟨?_, ?_, ?_, ?_⟩ <;> go_simp
  clear hc1 hz1 hc2 hz2 hb hb2
  go_wp2_with fail
  refine (HG _ a1 c1 hm12).out.mono ?_
  rintro e w3 ⟨rfl, hb3⟩
  obtain ⟨hc3, hz3⟩ := bcell (hb3.mono hg2)
  have hs3 := hb3.size
  have hg3 : w.heap.size + 3 ≤ w3.heap.size := by omega
  have hm13 : Mag w3 a1 (nl z.natAbs) c1 z.natAbs := hm12.below hb3
  have hm23 : Mag w3 a2 (nl z'.natAbs) c2 z'.natAbs := hm22.below hb3
  have hbw3 := below_box (w := w) hbw hb3
  clear hbw
  have hbw := hbw3
  go_wp2_with fail
  refine (HR _ a1 c1 a2 c2 hm13 hm23).out.mono ?_
  rintro e w4 ⟨a4, c4, rfl, hm4, hb4, hf4⟩
  obtain ⟨hc4, hz4⟩ := bcell (hb4.mono hg3)
  have hs4 := hb4.size
  have hg4 : w.heap.size + 3 ≤ w4.heap.size := by omega
  have hbw4 := below_box (w := w) hbw hb4
  clear hbw
  have hbw := hbw4
  go_wp2_with fail
  refine (HF _ a4 c4 hm4 (hT.below hbw)).out.mono ?_
  rintro e w5 ⟨a5, c5, rfl, hm5, hb5, hf5⟩
  obtain ⟨hc5, hz5⟩ := bcell (hb5.mono hg4)
  have hfr5 : 0 < nl (dman d).natAbs → w.heap.size + 3 ≤ ab a5 := fun h => by have := hf5 h; omega
  have hbw5 := below_box (w := w) hbw hb5
  clear hbw
  have hbw := hbw5
  go_wp2_with fail
  refine bodyPost_ret (v := .agg #[.bool (dbad d), .bool (decide (dman d < 0)), .slice a5 (nl (dman d).natAbs) c5, .int .i64 (dexp d)]) (by simp only [results, Tryz.results19]; go_simp) rfl ?_
  exact ⟨a5, c5, rfl, (by repeat (with_reducible first | refine Mag.set ?_ (fun h => by have := hfr5 h; omega) _ _ | refine Mag.drew ?_ | refine Mag.alloc ?_ _ | refine Mag.drewN ?_ _ | refine Mag.below ?_ (Below.drew (Below.refl _ _)) | refine Mag.below ?_ ((Below.refl _ _).alloc (Nat.le_refl _) _) | exact hm5)), (have := Beh.mk hbw; zbh), fun h => by have := hfr5 h; omega⟩

theorem quo_any (w : World) (bd s bd' s' : Bool) (a a' : Option Addr) (n n' cap cap' : Nat) (e e' p mode : Int) (d d' : Option (Int × Int)) (hx : DyIn w bd s a n cap e d) (hy : DyIn w bd' s' a' n' cap' e' d') (hT : Tab w) :
    Calls Tryz.prog 19 #[.agg #[.bool bd, .bool s, .slice a n cap, .int .i64 e], .agg #[.bool bd', .bool s', .slice a' n' cap', .int .i64 e'], .int .i64 p, .int .i64 mode] w (RetDy w (dquo d d' p mode)) := by
  rcases d with _ | ⟨z, f⟩
  · exact quo_1 w bd s bd' s' a a' n n' cap cap' e e' p mode _ _ hx hy hT rfl
  · rcases d' with _ | ⟨z', f'⟩
    · exact quo_1 w bd s bd' s' a a' n n' cap cap' e e' p mode _ _ hx hy hT rfl
    · cases hp : prc p with
      | false =>
        have h := quo_2 w bd s bd' s' a a' n n' cap cap' e e' p mode z f z' f' hx hy hT hp
        have e1 : dquo (some (z, f)) (some (z', f')) p mode = none := by simp [dquo, hp]
        rw [e1]; exact h
      | true =>
        by_cases h0' : z' = 0
        · have h := quo_3 w bd s bd' s' a a' n n' cap cap' e e' p mode z f z' f' hx hy hT hp h0'
          have e1 : dquo (some (z, f)) (some (z', f')) p mode = none := by simp [dquo, hp, h0']
          rw [e1]; exact h
        · by_cases h0 : z = 0
          · have h := quo_4 w bd s bd' s' a a' n n' cap cap' e e' p mode z f z' f' hx hy hT hp h0' h0
            have hN : Okd z f := hx.isN z f rfl
            have hf : f = 0 := by rcases hN with hN | hN <;> omega
            have e1 : dquo (some (z, f)) (some (z', f')) p mode = some (z, f) := by simp [dquo, hp, h0', h0, hf]
            rw [e1]; exact h
          · have e1 : dquo (some (z, f)) (some (z', f')) p mode = dfix (decide (z < 0) != decide (z' < 0)) (z.natAbs * 2 ^ qsh z z' p / z'.natAbs) (f - qsh z z' p - f') (decide (z.natAbs * 2 ^ qsh z z' p % z'.natAbs ≠ 0)) p mode := by
              simp only [dquo, hp, if_neg h0', if_neg h0, Bool.true_eq_false, if_false]
            rw [e1]
            obtain ⟨hb, hf0, hf1⟩ := isN_bounds hx.isN
            obtain ⟨hb', hf0', hf1'⟩ := isN_bounds hy.isN
            simp only [dman, dexp, Option.getD_some] at hb hf0 hf1 hb' hf0' hf1'
            have hp' : 1 ≤ p ∧ p ≤ 4096 := by unfold prc at hp; simpa using hp
            have hn1 : p + 3 + (blen z'.natAbs : Int) ≤ (blen z.natAbs : Int) + (qsh z z' p : Int) := by unfold qsh; omega
            have hn2 : qsh z z' p ≤ 140000 := by unfold qsh; omega
            have hz0 := Int.natAbs_pos.2 h0
            have hz0' := Int.natAbs_pos.2 h0'
            have hbP : blen (z.natAbs * 2 ^ qsh z z' p) = blen z.natAbs + qsh z z' p := blen_mul_pow hz0 _
            have hP0 : 0 < z.natAbs * 2 ^ qsh z z' p := Nat.mul_pos hz0 (Nat.pow_pos (by decide))
            have hX0 : 0 < z.natAbs * 2 ^ qsh z z' p / z'.natAbs := by
              refine Nat.div_pos ?_ hz0'
              refine Nat.le_trans (Nat.le_of_lt (lt_blen _)) (Nat.le_trans (Nat.pow_le_pow_right (by decide) ?_) (blen_le_self hP0))
              omega
            exact quo_5 w bd s bd' s' a a' n n' cap cap' e e' p mode z f z' f' hx hy hT hp h0' h0 _ _ _ _ rfl rfl rfl rfl hX0 (Nat.le_trans (blen_mono (Nat.div_le_self _ _)) (by omega)) (by omega) (by omega)

end Go.Proofs.YtakbappmkdaioaaGreatDoor


/-
  Walks: package dyad, round.go: Round.
-/
import Derived.Test.YtakbappmkdaioaaGreatDoorZiBh
import Derived.Test.YtakbappmkdaioaaGreatDoorZiRa
import Derived.Test.YtakbappmkdaioaaGreatDoorZiBg
import Derived.Test.YtakbappmkdaioaaGreatDoorZiBf
namespace Go.Proofs.YtakbappmkdaioaaGreatDoor
open Go.RowKit Sp

set_option maxRecDepth 100000 in
set_option maxHeartbeats 2000000 in
theorem rnd_none (w : World) (bd s : Bool) (a : Option Addr) (n cap : Nat) (e p mode : Int) (hx : DyIn w bd s a n cap e none) (hT : Tab w)  :
    Calls Tryz.prog 17 #[.agg #[.bool bd, .bool s, .slice a n cap, .int .i64 e], .int .i64 p, .int .i64 mode] w (RetDy w none) := by
  have e1 : ¬ w.heap.size + 1 = w.heap.size := by omega
  have e2 : ¬ w.heap.size = w.heap.size + 1 := by omega
  have HN := fun W h ht => Lib.hid (@norm_v W bd s a n cap e none h ht true 0 0 rfl rfl rfl)
  have HB := fun W => Lib.hid (bad_any W)
  go_enter Tryz.func17, Tryz.ntmps17
  go_wp2_with fail
  have I0 := (DyV.made w 26 bd s (.slice a n cap) e).alloc (.cells #[.bool false, .bool false, .slice none 0 0, .int .i64 0] 26)
  have I1 := DyV.made' (w.alloc (.cells #[.bool bd, .bool s, .slice a n cap, .int .i64 e] 26)) 26 false false (.slice none 0 0) 0 (n := w.heap.size + 1) (by rw [World.size_alloc])
  refine (HN _ (hx.below zbh) (hT.below zbh)).out.mono ?_
  rintro e w1 ⟨a1, c1, rfl, hm1, hb, hf1⟩
  have hbw := below_box (w := w) zbh hb
  have J0 := I0.below hb
  have J1 := I1.below hb
  have hfr : 0 < nl (0 : Int).natAbs → w.heap.size + 2 ≤ ab a1 := fun h => by have := hf1 h; simpa using this
  clear I0 I1 hb hf1
  obtain ⟨p0, p1, p2, p3, p4, p5⟩ := J0
  obtain ⟨r0, r1, r2, r3, r4, r5⟩ := J1
  go_wp2_with fail
  refine (HB _).out.mono ?_
  rintro e w9 ⟨rfl, hb⟩
  have B9 := below_box (w := w) (have := Beh.mk hbw; zbh) hb
  have M1 : DyV w9 (w.heap.size + 1) false false (.slice none 0 0) 0 := DyV.below (by first | (repeat (first | refine DyV.set ?_ (by omega) _ _ | exact DyV.mk r0 r1 r2 r3 r4 r5))) hb
  clear hb
  obtain ⟨r0, r1, r2, r3, r4, r5⟩ := M1
  go_wp2_with fail
  refine bodyPost_ret (v := .agg #[.bool true, .bool false, .slice none 0 0, .int .i64 0]) (by simp only [results, Tryz.results17]; go_simp) rfl ?_
  exact ⟨none, 0, rfl, Mag.nil _, (have := Beh.mk B9; zbh), nl0⟩

set_option maxRecDepth 100000 in
set_option maxHeartbeats 2000000 in
theorem rnd_prec (w : World) (bd s : Bool) (a : Option Addr) (n cap : Nat) (e p mode : Int) (z f : Int) (hx : DyIn w bd s a n cap e (some (z, f))) (hT : Tab w) (hp : prc p = false) :
    Calls Tryz.prog 17 #[.agg #[.bool bd, .bool s, .slice a n cap, .int .i64 e], .int .i64 p, .int .i64 mode] w (RetDy w none) := by
  have e1 : ¬ w.heap.size + 1 = w.heap.size := by omega
  have e2 : ¬ w.heap.size = w.heap.size + 1 := by omega
  have HN := fun W h ht => Lib.hid (@norm_v W bd s a n cap e (some (z, f)) h ht false z f rfl rfl rfl)
  have HP := fun W => Lib.hid (precise_any W p)
  have HB := fun W => Lib.hid (bad_any W)
  rw [hp] at HP
  go_enter Tryz.func17, Tryz.ntmps17
  go_wp2_with fail
  have I0 := (DyV.made w 26 bd s (.slice a n cap) e).alloc (.cells #[.bool false, .bool false, .slice none 0 0, .int .i64 0] 26)
  have I1 := DyV.made' (w.alloc (.cells #[.bool bd, .bool s, .slice a n cap, .int .i64 e] 26)) 26 false false (.slice none 0 0) 0 (n := w.heap.size + 1) (by rw [World.size_alloc])
  refine (HN _ (hx.below zbh) (hT.below zbh)).out.mono ?_
  rintro e w1 ⟨a1, c1, rfl, hm1, hb, hf1⟩
  have hbw := below_box (w := w) zbh hb
  have J0 := I0.below hb
  have J1 := I1.below hb
  have hfr : 0 < nl z.natAbs → w.heap.size + 2 ≤ ab a1 := fun h => by have := hf1 h; simpa using this
  clear I0 I1 hb hf1
  obtain ⟨p0, p1, p2, p3, p4, p5⟩ := J0
  obtain ⟨r0, r1, r2, r3, r4, r5⟩ := J1
  go_wp2_with fail
  refine (HP _).out.mono ?_
  rintro e wp ⟨rfl, rfl⟩
  go_wp2_with fail
  refine (HB _).out.mono ?_
  rintro e w9 ⟨rfl, hb⟩
  have B9 := below_box (w := w) (have := Beh.mk hbw; zbh) hb
  have M1 : DyV w9 (w.heap.size + 1) false false (.slice none 0 0) 0 := DyV.below (by first | (repeat (first | refine DyV.set ?_ (by omega) _ _ | exact DyV.mk r0 r1 r2 r3 r4 r5))) hb
  clear hb
  obtain ⟨r0, r1, r2, r3, r4, r5⟩ := M1
  go_wp2_with fail
  refine bodyPost_ret (v := .agg #[.bool true, .bool false, .slice none 0 0, .int .i64 0]) (by simp only [results, Tryz.results17]; go_simp) rfl ?_
  exact ⟨none, 0, rfl, Mag.nil _, (have := Beh.mk B9; zbh), nl0⟩

set_option maxRecDepth 100000 in
set_option maxHeartbeats 2000000 in
theorem rnd_zero (w : World) (bd s : Bool) (a : Option Addr) (n cap : Nat) (e p mode : Int) (z f : Int) (hx : DyIn w bd s a n cap e (some (z, f))) (hT : Tab w) (hp : prc p = true) (h0 : z = 0) :
    Calls Tryz.prog 17 #[.agg #[.bool bd, .bool s, .slice a n cap, .int .i64 e], .int .i64 p, .int .i64 mode] w (RetDy w (some (z, f))) := by
  have e1 : ¬ w.heap.size + 1 = w.heap.size := by omega
  have e2 : ¬ w.heap.size = w.heap.size + 1 := by omega
  have HN := fun W h ht => Lib.hid (@norm_v W bd s a n cap e (some (z, f)) h ht false z f rfl rfl rfl)
  have HP := fun W => Lib.hid (precise_any W p)
  have HB := fun W => Lib.hid (bad_any W)
  rw [hp] at HP
  have HG := fun W b c h => Lib.hid (sign_z W b c z h)
  obtain ⟨g, hg⟩ : ∃ g, g = sg z := ⟨_, rfl⟩
  rw [← hg] at HG
  have hge : (g == 0) = true := by rw [hg, h0]; rfl
  clear hg h0
  go_enter Tryz.func17, Tryz.ntmps17
  go_wp2_with fail
  have I0 := (DyV.made w 26 bd s (.slice a n cap) e).alloc (.cells #[.bool false, .bool false, .slice none 0 0, .int .i64 0] 26)
  have I1 := DyV.made' (w.alloc (.cells #[.bool bd, .bool s, .slice a n cap, .int .i64 e] 26)) 26 false false (.slice none 0 0) 0 (n := w.heap.size + 1) (by rw [World.size_alloc])
  refine (HN _ (hx.below zbh) (hT.below zbh)).out.mono ?_
  rintro e w1 ⟨a1, c1, rfl, hm1, hb, hf1⟩
  have hbw := below_box (w := w) zbh hb
  have J0 := I0.below hb
  have J1 := I1.below hb
  have hfr : 0 < nl z.natAbs → w.heap.size + 2 ≤ ab a1 := fun h => by have := hf1 h; simpa using this
  clear I0 I1 hb hf1
  obtain ⟨p0, p1, p2, p3, p4, p5⟩ := J0
  obtain ⟨r0, r1, r2, r3, r4, r5⟩ := J1
  go_wp2_with fail
  refine (HP _).out.mono ?_
  rintro e wp ⟨rfl, rfl⟩
  go_wp2_with fail
  have B2 : Below w.heap.size w ((((w1.setCell ⟨w.heap.size, 0, none⟩ (.bool false)).setCell ⟨w.heap.size, 1, none⟩ (.bool (decide (z < 0)))).setCell ⟨w.heap.size, 2, none⟩ (.slice a1 (nl z.natAbs) c1)).setCell ⟨w.heap.size, 3, none⟩ (.int .i64 f)) := (((hbw.setCell (Nat.le_refl _) _).setCell (Nat.le_refl _) _).setCell (Nat.le_refl _) _).setCell (Nat.le_refl _) _
  have K0 : DyV ((((w1.setCell ⟨w.heap.size, 0, none⟩ (.bool false)).setCell ⟨w.heap.size, 1, none⟩ (.bool (decide (z < 0)))).setCell ⟨w.heap.size, 2, none⟩ (.slice a1 (nl z.natAbs) c1)).setCell ⟨w.heap.size, 3, none⟩ (.int .i64 f)) w.heap.size false (decide (z < 0)) (.slice a1 (nl z.natAbs) c1) f := ⟨by go_simp, by go_simp, by go_simp, by go_simp, fun i => by go_simp, by simpa using p5⟩
  have K1 : DyV ((((w1.setCell ⟨w.heap.size, 0, none⟩ (.bool false)).setCell ⟨w.heap.size, 1, none⟩ (.bool (decide (z < 0)))).setCell ⟨w.heap.size, 2, none⟩ (.slice a1 (nl z.natAbs) c1)).setCell ⟨w.heap.size, 3, none⟩ (.int .i64 f)) (w.heap.size + 1) false false (.slice none 0 0) 0 := by
    refine DyV.set (DyV.set (DyV.set (DyV.set (DyV.mk r0 r1 r2 r3 r4 r5) ?_ _ _) ?_ _ _) ?_ _ _) ?_ _ _ <;> omega
  have ne1 : 0 < nl z.natAbs → ab a1 ≠ w.heap.size := fun h => by have := hfr h; omega
  have m2 := (((hm1.set ne1 0 (.bool false)).set ne1 1 (.bool (decide (z < 0)))).set ne1 2 (.slice a1 (nl z.natAbs) c1)).set ne1 3 (.int .i64 f)
  generalize ((((w1.setCell ⟨w.heap.size, 0, none⟩ (.bool false)).setCell ⟨w.heap.size, 1, none⟩ (.bool (decide (z < 0)))).setCell ⟨w.heap.size, 2, none⟩ (.slice a1 (nl z.natAbs) c1)).setCell ⟨w.heap.size, 3, none⟩ (.int .i64 f)) = w2 at B2 K0 K1 m2 ⊢
  clear p0 p1 p2 p3 p4 p5 r0 r1 r2 r3 r4 r5 hm1 hbw
  refine (HG _ a1 c1 m2).out.mono ?_
  rintro e w3 ⟨rfl, hb⟩
  have B3 := below_box (w := w) B2 hb
  have L0 := K0.below hb
  have L1 := K1.below hb
  have m3 := m2.below hb
  clear K0 K1 hb m2
  have K0 := Lib.hid L0
  have K1 := Lib.hid L1
  obtain ⟨p0, p1, p2, p3, p4, p5⟩ := L0
  obtain ⟨r0, r1, r2, r3, r4, r5⟩ := L1
  go_wp2_with fail
  refine bodyPost_ret (v := .agg #[.bool false, .bool (decide (z < 0)), .slice a1 (nl z.natAbs) c1, .int .i64 f]) (by simp only [results, Tryz.results17]; go_simp) rfl ?_
  have hf1 : 0 < nl z.natAbs → ab a1 ≠ w.heap.size + 1 := fun h => by have := hfr h; omega
  exact ret_dy false z f rfl rfl rfl (by repeat (with_reducible first | refine Mag.set ?_ hf1 _ _ | exact m3)) (have := Beh.mk B3; zbh) (fun h => by have := hfr h; omega)

set_option maxRecDepth 100000 in
set_option maxHeartbeats 2000000 in
theorem rnd_ok (w : World) (bd s : Bool) (a : Option Addr) (n cap : Nat) (e p mode : Int) (z f : Int) (hx : DyIn w bd s a n cap e (some (z, f))) (hT : Tab w) (hp : prc p = true) (h0 : z ≠ 0) :
    Calls Tryz.prog 17 #[.agg #[.bool bd, .bool s, .slice a n cap, .int .i64 e], .int .i64 p, .int .i64 mode] w (RetDy w (dfix (decide (z < 0)) z.natAbs f false p mode)) := by
  have e1 : ¬ w.heap.size + 1 = w.heap.size := by omega
  have e2 : ¬ w.heap.size = w.heap.size + 1 := by omega
  have HN := fun W h ht => Lib.hid (@norm_v W bd s a n cap e (some (z, f)) h ht false z f rfl rfl rfl)
  have HP := fun W => Lib.hid (precise_any W p)
  have HB := fun W => Lib.hid (bad_any W)
  rw [hp] at HP
  have HG := fun W b c h => Lib.hid (sign_z W b c z h)
  obtain ⟨g, hg⟩ : ∃ g, g = sg z := ⟨_, rfl⟩
  rw [← hg] at HG
  have hge : (g == 0) = false := by rw [hg]; unfold sg cmpI; split <;> (try split) <;> first | decide | (exfalso; omega)
  obtain ⟨hb0, hf0, hf1⟩ := isN_bounds hx.isN
  simp only [dman, dexp, Option.getD_some] at hb0 hf0 hf1
  have HO := fun W b c h => Lib.hid (of_any W false b c z f _ h (nl_lim (by omega)) rfl)
  obtain ⟨y, hy⟩ : ∃ y : Int, y = (z.natAbs : Int) := ⟨_, rfl⟩
  have hya : y.natAbs = z.natAbs := by omega
  have hy0 : decide (y < 0) = false := by simp; omega
  rw [← hy] at HO
  have HF := fun W b c h ht => Lib.hid (fixed_any W (decide (z < 0)) false b c y.natAbs f p mode h (by omega) (by rw [hya]; omega) (by omega) (by omega) hp ht)
  rw [← hya]
  generalize dfix (decide (z < 0)) y.natAbs f false p mode = d at HF ⊢
  clear hg h0 hb0 hf0 hf1 hy hya
  go_enter Tryz.func17, Tryz.ntmps17
  go_wp2_with fail
  have I0 := (DyV.made w 26 bd s (.slice a n cap) e).alloc (.cells #[.bool false, .bool false, .slice none 0 0, .int .i64 0] 26)
  have I1 := DyV.made' (w.alloc (.cells #[.bool bd, .bool s, .slice a n cap, .int .i64 e] 26)) 26 false false (.slice none 0 0) 0 (n := w.heap.size + 1) (by rw [World.size_alloc])
  refine (HN _ (hx.below zbh) (hT.below zbh)).out.mono ?_
  rintro e w1 ⟨a1, c1, rfl, hm1, hb, hf1⟩
  have hbw := below_box (w := w) zbh hb
  have J0 := I0.below hb
  have J1 := I1.below hb
  have hfr : 0 < nl z.natAbs → w.heap.size + 2 ≤ ab a1 := fun h => by have := hf1 h; simpa using this
  clear I0 I1 hb hf1
  obtain ⟨p0, p1, p2, p3, p4, p5⟩ := J0
  obtain ⟨r0, r1, r2, r3, r4, r5⟩ := J1
  go_wp2_with fail
  refine (HP _).out.mono ?_
  rintro e wp ⟨rfl, rfl⟩
  go_wp2_with fail
  have B2 : Below w.heap.size w ((((w1.setCell ⟨w.heap.size, 0, none⟩ (.bool false)).setCell ⟨w.heap.size, 1, none⟩ (.bool (decide (z < 0)))).setCell ⟨w.heap.size, 2, none⟩ (.slice a1 (nl z.natAbs) c1)).setCell ⟨w.heap.size, 3, none⟩ (.int .i64 f)) := (((hbw.setCell (Nat.le_refl _) _).setCell (Nat.le_refl _) _).setCell (Nat.le_refl _) _).setCell (Nat.le_refl _) _
  have K0 : DyV ((((w1.setCell ⟨w.heap.size, 0, none⟩ (.bool false)).setCell ⟨w.heap.size, 1, none⟩ (.bool (decide (z < 0)))).setCell ⟨w.heap.size, 2, none⟩ (.slice a1 (nl z.natAbs) c1)).setCell ⟨w.heap.size, 3, none⟩ (.int .i64 f)) w.heap.size false (decide (z < 0)) (.slice a1 (nl z.natAbs) c1) f := ⟨by go_simp, by go_simp, by go_simp, by go_simp, fun i => by go_simp, by simpa using p5⟩
  have K1 : DyV ((((w1.setCell ⟨w.heap.size, 0, none⟩ (.bool false)).setCell ⟨w.heap.size, 1, none⟩ (.bool (decide (z < 0)))).setCell ⟨w.heap.size, 2, none⟩ (.slice a1 (nl z.natAbs) c1)).setCell ⟨w.heap.size, 3, none⟩ (.int .i64 f)) (w.heap.size + 1) false false (.slice none 0 0) 0 := by
    refine DyV.set (DyV.set (DyV.set (DyV.set (DyV.mk r0 r1 r2 r3 r4 r5) ?_ _ _) ?_ _ _) ?_ _ _) ?_ _ _ <;> omega
  have ne1 : 0 < nl z.natAbs → ab a1 ≠ w.heap.size := fun h => by have := hfr h; omega
  have m2 := (((hm1.set ne1 0 (.bool false)).set ne1 1 (.bool (decide (z < 0)))).set ne1 2 (.slice a1 (nl z.natAbs) c1)).set ne1 3 (.int .i64 f)
  generalize ((((w1.setCell ⟨w.heap.size, 0, none⟩ (.bool false)).setCell ⟨w.heap.size, 1, none⟩ (.bool (decide (z < 0)))).setCell ⟨w.heap.size, 2, none⟩ (.slice a1 (nl z.natAbs) c1)).setCell ⟨w.heap.size, 3, none⟩ (.int .i64 f)) = w2 at B2 K0 K1 m2 ⊢
  clear p0 p1 p2 p3 p4 p5 r0 r1 r2 r3 r4 r5 hm1 hbw
  refine (HG _ a1 c1 m2).out.mono ?_
  rintro e w3 ⟨rfl, hb⟩
  have B3 := below_box (w := w) B2 hb
  have L0 := K0.below hb
  have L1 := K1.below hb
  have m3 := m2.below hb
  clear K0 K1 hb m2
  have K0 := Lib.hid L0
  have K1 := Lib.hid L1
  obtain ⟨p0, p1, p2, p3, p4, p5⟩ := L0
  obtain ⟨r0, r1, r2, r3, r4, r5⟩ := L1
  go_wp2_with fail
  refine (HO _ a1 c1 m3).out.mono ?_
  rintro e w4 ⟨a4, c4, rfl, m4, hb, hf⟩
  have B4 := below_box (w := w) B3 hb
  have L1 := K1.out.below hb
  clear K0 K1 hb hf p0 p1 p2 p3 p4 p5 r0 r1 r2 r3 r4 r5
  have K1 := Lib.hid L1
  obtain ⟨r0, r1, r2, r3, r4, r5⟩ := L1
  go_wp2_with fail
  refine (HF _ a4 c4 m4 (hT.below B4)).out.mono ?_
  rintro e w5 ⟨a5, c5, rfl, m5, hb, hf5⟩
  have B5 := below_box (w := w) B4 hb
  have L1 := K1.out.below hb
  have hf6 : 0 < nl (dman d).natAbs → w.heap.size + 1 < ab a5 := fun h => by have := hf5 h; omega
  clear K1 hb r0 r1 r2 r3 r4 r5
  obtain ⟨r0, r1, r2, r3, r4, r5⟩ := L1
  go_wp2_with fail
  refine bodyPost_ret (v := .agg #[.bool (dbad d), .bool (decide (dman d < 0)), .slice a5 (nl (dman d).natAbs) c5, .int .i64 (dexp d)]) (by simp only [results, Tryz.results17]; go_simp) rfl ?_
  exact ⟨a5, c5, rfl, (by repeat (with_reducible first | refine Mag.set ?_ (fun h => by have := hf6 h; omega) _ _ | exact m5)), (have := Beh.mk B5; zbh), fun h => by have := hf6 h; omega⟩

theorem dround_any (w : World) (bd s : Bool) (a : Option Addr) (n cap : Nat) (e p mode : Int) (d : Option (Int × Int)) (hx : DyIn w bd s a n cap e d) (hT : Tab w) :
    Calls Tryz.prog 17 #[.agg #[.bool bd, .bool s, .slice a n cap, .int .i64 e], .int .i64 p, .int .i64 mode] w (RetDy w (dround d p mode)) := by
  cases d with
  | none => exact rnd_none w bd s a n cap e p mode hx hT
  | some q =>
    obtain ⟨z, f⟩ := q
    cases hp : prc p with
    | false =>
      have e1 : dround (some (z, f)) p mode = none := by simp [dround, hp]
      rw [e1]; exact rnd_prec w bd s a n cap e p mode z f hx hT hp
    | true =>
      by_cases h0 : z = 0
      · have hN : Okd z f := hx.isN z f rfl
        have hf : f = 0 := by rcases hN with hN | hN <;> omega
        have e1 : dround (some (z, f)) p mode = some (z, f) := by simp [dround, hp, h0, hf]
        rw [e1]; exact rnd_zero w bd s a n cap e p mode z f hx hT hp h0
      · have e1 : dround (some (z, f)) p mode = dfix (decide (z < 0)) z.natAbs f false p mode := by
          simp only [dround, hp, if_neg h0, Bool.true_eq_false, if_false]
        rw [e1]; exact rnd_ok w bd s a n cap e p mode z f hx hT hp h0

end Go.Proofs.YtakbappmkdaioaaGreatDoor


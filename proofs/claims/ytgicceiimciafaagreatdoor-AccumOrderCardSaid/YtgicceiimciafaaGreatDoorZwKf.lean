/-
  Walks: the laws of accumulation: awake.
-/
import Derived.Test.YtgicceiimciafaaGreatDoorZwKA
import Derived.Test.YtgicceiimciafaaGreatDoorZwS3
import Derived.Test.YtgicceiimciafaaGreatDoorZwKit
set_option maxRecDepth 100000
set_option maxHeartbeats 8000000
namespace Go.Proofs.YtgicceiimciafaaGreatDoor
open Go.RowKit Sp
def bigL (i : Nat) : Nat := if i = 0 then fBig else if i = 1 then fOne else fneg fBig
theorem fneg_big : fneg fBig = 14100770433297022976 := by decide
theorem bigL_fin (i : Nat) : ffin (bigL i) = true := by
 unfold bigL; split
 · decide
 · split <;> decide
theorem bigL_sum : dsum (fun i => fof (bigL i)) 3 = some (1, 0) := by
 rw [(asum_val (L := bigL) (n := 3) (by decide) (fun i _ => bigL_fin i)).1]
 have e : sumI (fun i => fz (bigL i)) 3 = fz fOne := by
  show 0 + fz fBig + fz fOne + fz (fneg fBig) = fz fOne
  rw [(fz_fneg big_val.1).2]; omega
 rw [e, ← fof_fin fin_one, fof_one]
theorem awakeA_any (w : World) (hT : Tab w) : Calls Tryz.prog 6 #[] w fun o w' => o = .returned (.bool true) ∧ Below w.heap.size w w' := by
 have H1 := fun W ht => Lib.hid (show Calls Tryz.prog 35 #[.int .i64 1152921504606846976, .int .i64 0] W fun o w' => o = .returned (.int .u64 4877398396442247168) ∧ Below W.heap.size W w' from by
  have := r3fromInt_any W 1152921504606846976 0 (by decide) (by decide) ht
  rw [big_round] at this; exact this)
 have H2 := fun W => Lib.hid (show Calls Tryz.prog 36 #[.int .u64 4877398396442247168] W fun o w' => o = .returned (.int .u64 14100770433297022976) ∧ W = w' from by
  have := r3neg_any W fBig (by decide)
  rw [fneg_big] at this; exact this)
 obtain ⟨d, hd⟩ : ∃ d : Option (Int × Int), d = some (1, 0) := ⟨_, rfl⟩
 have H3 := fun W g ht (h0 : W.cell? ⟨g, 0, none⟩ = some (.int .u64 4877398396442247168)) (h1 : W.cell? ⟨g, 1, none⟩ = some (.int .u64 4607182418800017408)) (h2 : W.cell? ⟨g, 2, none⟩ = some (.int .u64 14100770433297022976)) (hg : g < W.heap.size) => Lib.hid (show Calls Tryz.prog 12 #[.slice (some ⟨g, 0, none⟩) 3 3] W (RetDy W d) from by
  have := asum_any W ht (some ⟨g, 0, none⟩) 3 3 bigL ⟨by decide, by decide, fun _ => rfl, fun i hi => by
   rcases (show i = 0 ∨ i = 1 ∨ i = 2 by omega) with rfl | rfl | rfl
   · rw [ab_some, ao_some]; exact h0
   · rw [ab_some, ao_some]; exact h1
   · rw [ab_some, ao_some]; rw [show bigL 2 = 14100770433297022976 from fneg_big]; exact h2, fun i _ => by
   unfold bigL; split
   · decide
   · split
     · decide
     · exact fneg_lt _, fun _ => hg⟩ (by decide)
  rw [bigL_sum, ← hd] at this; exact this)
 have H4 := fun W ht => Lib.hid (show Calls Tryz.prog 37 #[.int .u64 4877398396442247168, .int .u64 4607182418800017408] W fun o w' => o = .returned (.tuple #[.int .u64 4877398396442247168, .int .u64 4607182418800017408, .bool true]) ∧ Below W.heap.size W w' from by
  have := atwosum_any W ht fBig fOne (by decide) (by decide)
  rw [big_add] at this
  unfold rstS rstT at this
  rw [big_rest.1, big_rest.2] at this; exact this)
 have H5 := fun W b c (h : Mag W b (nl (dman d).natAbs) c (dman d).natAbs) g (h' : Mag W (some ⟨g, 0, none⟩) 1 1 1) => Lib.hid (show Calls Tryz.prog 10 #[.agg #[.bool (dbad d), .bool (decide (dman d < 0)), .slice b (nl (dman d).natAbs) c, .int .i64 (dexp d)], .agg #[.bool false, .bool false, .slice (some ⟨g, 0, none⟩) 1 1, .int .i64 0]] W fun o w' => o = .returned (.bool true) ∧ Below W.heap.size W w' from by
  refine kdyad_any W _ _ _ _ _ _ _ _ _ _ _ _ _ _ h h' rfl (by decide) true ?_
  rw [hd]; decide)
 clear hd
 go_enter Tryz.func6, Tryz.ntmps6
 go_wp2_with fail
 have B0 : Below w.heap.size w w := Below.refl _ _
 refine (H1 _ hT).out.mono ?_
 rintro e w1 ⟨rfl, hb1⟩
 have B1 := below_box (w := w) (have := Beh.mk B0; zbh) hb1
 clear hb1
 (try clear xx)
 (try clear B0)
 go_wp2_with fail
 (refine (H2 _).out.mono ?_; rintro e w1 ⟨rfl, rfl⟩; go_wp2_with fail)
 have hg1 : w1.heap.size < (w1.alloc (.cells #[.int .u64 4877398396442247168, .int .u64 4607182418800017408, .int .u64 14100770433297022976] 28)).heap.size := by simp
 refine (H3 _ w1.heap.size (hT.below (have := Beh.mk B1; zbh)) (by go_simp) (by go_simp) (by go_simp) hg1).out.mono ?_
 rintro e w2 ⟨ad, cd, rfl, Md2, hb2, hf2⟩
 have B2 := below_box (w := w) (have := Beh.mk B1; zbh) hb2
 clear hb2 hf2
 (try clear xx)
 (try clear B1)
 go_wp2_with fail
 have Vs3 := (DyV.made' w2 34 (dbad d) (decide (dman d < 0)) (.slice ad (nl (dman d).natAbs) cd) (dexp d) (n := w2.heap.size) (by rfl))
 have Md3 := (Mag.alloc Md2 (.cells #[.bool (dbad d), .bool (decide (dman d < 0)), (.slice ad (nl (dman d).natAbs) cd), .int .i64 (dexp d)] 34))
 have B3 : Below w.heap.size w (w2.alloc (.cells #[.bool (dbad d), .bool (decide (dman d < 0)), (.slice ad (nl (dman d).natAbs) cd), .int .i64 (dexp d)] 34)) := (have := Beh.mk B2; zbh)
 have frds : 0 < (nl (dman d).natAbs) → ab ad ≠ w2.heap.size := fun h => by have := Md2.old h; omega
 have gs : w.heap.size ≤ w2.heap.size := by have := B2.size; omega
 generalize (w2.alloc (.cells #[.bool (dbad d), .bool (decide (dman d < 0)), (.slice ad (nl (dman d).natAbs) cd), .int .i64 (dexp d)] 34)) = w3 at Vs3 Md3 B3 ⊢
 generalize w2.heap.size = zs at Vs3 frds gs ⊢
 (try clear sc0 sc1 sc2 sc3 sc4)
 obtain ⟨sc0, sc1, sc2, sc3, sc4, sc5⟩ := Vs3
 have Vs3 := Lib.hid (DyV.mk sc0 sc1 sc2 sc3 sc4 sc5)
 refine (H4 _ (hT.below (have := Beh.mk B3; zbh))).out.mono ?_
 rintro e w4 ⟨rfl, hb4⟩
 have Vs4 : DyV w4 zs (dbad d) (decide (dman d < 0)) (.slice ad (nl (dman d).natAbs) cd) (dexp d) := (Vs3.out.on.below hb4)
 (try clear sc0 sc1 sc2 sc3 sc4)
 obtain ⟨sc0, sc1, sc2, sc3, sc4, sc5⟩ := Vs4
 have Vs4 := Lib.hid (DyV.mk sc0 sc1 sc2 sc3 sc4 sc5)
 have Md4 : Mag w4 ad (nl (dman d).natAbs) cd (dman d).natAbs := Mag.below (by repeat (with_reducible first | refine Mag.set ?_ (fun h => by have := Md3 h; omega) _ _ | refine Mag.drew ?_ | refine Mag.alloc ?_ _ | refine Mag.drewN ?_ _ | exact Md3)) hb4
 have B4 := below_box (w := w) (have := Beh.mk B3; zbh) hb4
 clear hb4
 (try clear xx)
 (try clear Vs3)
 (try clear Md3)
 (try clear B3)
 go_wp2_with fail
 have L1 := Mag.one w4 54 1 (by decide)
 refine (H5 _ ad cd (by repeat (with_reducible first | refine Mag.set ?_ (fun h => by have := Md4 h; omega) _ _ | refine Mag.drew ?_ | refine Mag.alloc ?_ _ | refine Mag.drewN ?_ _ | exact Md4)) w4.heap.size L1).out.mono ?_
 rintro e w5 ⟨rfl, hb5⟩
 have Vs5 : DyV w5 zs (dbad d) (decide (dman d < 0)) (.slice ad (nl (dman d).natAbs) cd) (dexp d) := (Vs4.out.on.below hb5)
 (try clear sc0 sc1 sc2 sc3 sc4)
 obtain ⟨sc0, sc1, sc2, sc3, sc4, sc5⟩ := Vs5
 have Vs5 := Lib.hid (DyV.mk sc0 sc1 sc2 sc3 sc4 sc5)
 have Md5 : Mag w5 ad (nl (dman d).natAbs) cd (dman d).natAbs := Mag.below (by repeat (with_reducible first | refine Mag.set ?_ (fun h => by have := Md4 h; omega) _ _ | refine Mag.drew ?_ | refine Mag.alloc ?_ _ | refine Mag.drewN ?_ _ | exact Md4)) hb5
 have B5 := below_box (w := w) (have := Beh.mk B4; zbh) hb5
 clear hb5
 (try clear xx)
 (try clear Vs4)
 (try clear Md4)
 (try clear B4)
 go_wp2_with fail
 go_ret
 exact ⟨rfl, (have := Beh.mk B5; zbh)⟩
end Go.Proofs.YtgicceiimciafaaGreatDoor

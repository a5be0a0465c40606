/-
  Walks: the law AccumRoots.
-/
import Derived.Test.YtmpcikkimcehnaaGreatDoorZbKf
namespace Go.Proofs.YtmpcikkimcehnaaGreatDoor
open Go.RowKit Sp

theorem froot_lt2 (d : Option (Int × Int)) (mode : Int) : froot d mode < 18446744073709551616 := by
  unfold froot; split
  · decide
  · split
    · decide
    · split
      · decide
      · exact fcut_lt _ _ _
theorem sumI_nonneg {f : Nat → Int} {n : Nat} (h : ∀ i, i < n → 0 ≤ f i) : 0 ≤ sumI f n := by
  induction n with
  | zero => exact Int.le_refl 0
  | succ n ih =>
    have h1 := ih (fun i hi => h i (by omega))
    have h2 := h n (by omega)
    show 0 ≤ sumI f n + f n
    omega
theorem dotI_self_nonneg (X : Nat → Nat) (n : Nat) : 0 ≤ dotI X X n := sumI_nonneg fun i _ => by
  rcases Int.le_total 0 (fz (X i)) with h | h
  · exact Int.mul_nonneg h h
  · exact Int.mul_nonneg_of_nonpos_of_nonpos h h
theorem allfin_at {X : Nat → Nat} {n : Nat} (h : allfin X n = true) (i : Nat) (hi : i < n) : ffin (X i) = true := (allfin_iff X n).1 h i hi
set_option maxRecDepth 100000 in
set_option maxHeartbeats 20000000 in
theorem aroots_big (w : World) (hT : Tab w) (a : Option Addr) (n cap : Nat) (X : Nat → Nat) (hX : Fls w a n cap X) (hn : 10 < n) :
    Calls Tryz.prog 12 #[.slice a n cap] w fun o w' => o = .returned (.bool true) ∧ Below w.heap.size w w' := by
  have l1 := hX.lim
  have l2 := hX.fits
  have HW := fun W ht => Lib.hid (awakeA_any W ht)
  have HF := Lib.hid (rfinite_any w a n cap X hX)
  clear HF hX
  go_enter Tryz.func12, Tryz.ntmps12
  go_wp2_with fail
  have B0 : Below w.heap.size w w := Below.refl _ _
  refine (HW _ (hT.below (have := Beh.mk B0; zbh))).out.mono ?_
  rintro e w1 ⟨rfl, hb1⟩
  have B1 := below_box (w := w) (have := Beh.mk B0; zbh) hb1
  clear hb1
  (try clear xx)
  (try clear B0)
  go_wp2_with fail
  go_ret
  exact ⟨rfl, (have := Beh.mk B1; zbh)⟩

set_option maxRecDepth 100000 in
set_option maxHeartbeats 20000000 in
theorem aroots_inf (w : World) (hT : Tab w) (a : Option Addr) (n cap : Nat) (X : Nat → Nat) (hX : Fls w a n cap X) (hn : ¬ 10 < n) (fa : allfin X n = false) :
    Calls Tryz.prog 12 #[.slice a n cap] w fun o w' => o = .returned (.bool true) ∧ Below w.heap.size w w' := by
  have l1 := hX.lim
  have l2 := hX.fits
  have HW := fun W ht => Lib.hid (awakeA_any W ht)
  have HF := Lib.hid (rfinite_any w a n cap X hX)
  rw [fa] at HF
  clear hX fa
  go_enter Tryz.func12, Tryz.ntmps12
  go_wp2_with fail
  have B0 : Below w.heap.size w w := Below.refl _ _
  refine HF.out.mono ?_; rintro e w1 ⟨rfl, rfl⟩; go_wp2_with fail
  refine (HW _ (hT.below (have := Beh.mk B0; zbh))).out.mono ?_
  rintro e w1 ⟨rfl, hb1⟩
  have B1 := below_box (w := w) (have := Beh.mk B0; zbh) hb1
  clear hb1
  (try clear xx)
  (try clear B0)
  go_wp2_with fail
  go_ret
  exact ⟨rfl, (have := Beh.mk B1; zbh)⟩

set_option maxRecDepth 100000 in
set_option maxHeartbeats 20000000 in
theorem aroots_inf_ (w : World) (hT : Tab w) (a : Option Addr) (n cap : Nat) (X : Nat → Nat) (hX : Fls w a n cap X) (hn : ¬ 10 < n) (fa : allfin X n = true) (hi : Nat) (ehi : hi = froot (ddot X X n) 2) (hq : hi = 9218868437227405312) :
    Calls Tryz.prog 12 #[.slice a n cap] w fun o w' => o = .returned (.bool true) ∧ Below w.heap.size w w' := by
  have l1 := hX.lim
  have l2 := hX.fits
  have HW := fun W ht => Lib.hid (awakeA_any W ht)
  have HF := Lib.hid (rfinite_any w a n cap X hX)
  rw [fa] at HF
  have hfin := allfin_at fa
  obtain ⟨ev, hv⟩ := adot_val (X := X) (Y := X) (n := n) (by omega) hfin hfin
  obtain ⟨lo, elo⟩ : ∃ lo, lo = froot (ddot X X n) 1 := ⟨_, rfl⟩
  have hlaw := roots_law (S := dotI X X n) (lo := lo) (hi := hi) (dotI_self_nonneg X n) hv (by rw [← ev]; exact elo) (by rw [← ev]; exact ehi)
  rw [← ev] at hlaw hv
  have bd : dbad (ddot X X n) = false := by
    cases hd : ddot X X n with
    | none => exact absurd hd hv
    | some p => obtain ⟨z, f⟩ := p; rfl
  have hE : dotE X X n n = 0 := by unfold dotE; rw [if_neg (fun h => h rfl), fa]; rfl
  have hDD : dotD X X n n = ddot X X n := by unfold dotD; rw [hE]; rfl
  have HN1 := fun W ht h => Lib.hid (anormtwo_any W ht a n cap X h (by omega) 1)
  have HN2 := fun W ht h => Lib.hid (anormtwo_any W ht a n cap X h (by omega) 2)
  rw [← elo] at HN1
  rw [← ehi] at HN2
  have HDt := fun W ht h h' => Lib.hid (adot_any W ht a a n n cap cap X X h h' (by omega))
  rw [hE, hDD] at HDt
  have Nd := isN_dotD X X n n
  rw [hDD] at Nd
  have blo : lo < 18446744073709551616 := by rw [elo]; exact froot_lt2 _ _
  have bhi : hi < 18446744073709551616 := by rw [ehi]; exact froot_lt2 _ _
  generalize ddot X X n = dd at *
  obtain ⟨⟨k1, k2, k3⟩, k4⟩ := hlaw
  have HOl := fun W ht => Lib.hid (fof_any W lo blo ht)
  have Nl := isN_fof lo
  generalize fof lo = dl at *
  have HMl := fun W b1 q1 b2 q2 (h1 : Mag W b1 (nl (dman dl).natAbs) q1 (dman dl).natAbs) (h2 : Mag W b2 (nl (dman dl).natAbs) q2 (dman dl).natAbs) ht => Lib.hid (dmul_any W _ _ _ _ _ _ _ _ _ _ _ _ _ _ (dyin_of Nl h1) (dyin_of Nl h2) ht)
  have Np := isN_mul dl dl
  generalize dmul dl dl = pl at *
  have HCl := fun W b1 q1 b2 q2 (h1 : Mag W b1 (nl (dman pl).natAbs) q1 (dman pl).natAbs) (h2 : Mag W b2 (nl (dman dd).natAbs) q2 (dman dd).natAbs) ht => Lib.hid (dcmp_any W _ _ _ _ _ _ _ _ _ _ _ _ _ _ (dyin_of Np h1) (dyin_of Nd h2) ht)
  have o1 : (!dbad pl && !dbad dd) = true := by rw [k2, bd]; rfl
  rw [o1] at HCl
  generalize dcmp pl dd = v1 at *
  have g1 : decide (0 < v1) = false := decide_eq_false (by omega)
  subst hq
  clear k4
  generalize (lo : Int) = VL at *
  have HX := Lib.hid hX
  clear o1 k1 k2 k3 elo ehi hE hDD ev hv bd Nd Nl Np blo bhi hfin fa hX
  go_enter Tryz.func12, Tryz.ntmps12
  go_wp2_with fail
  have B0 : Below w.heap.size w w := Below.refl _ _
  refine HF.out.mono ?_; rintro e w1 ⟨rfl, rfl⟩; go_wp2_with fail
  refine (HN1 _ (hT.below (have := Beh.mk B0; zbh)) (HX.out.below (have := Beh.mk B0; zbh))).out.mono ?_
  rintro e w1 ⟨rfl, hb1⟩
  have B1 := below_box (w := w) (have := Beh.mk B0; zbh) hb1
  clear hb1
  (try clear xx)
  (try clear B0)
  go_wp2_with fail
  refine (HN2 _ (hT.below (have := Beh.mk B1; zbh)) (HX.out.below (have := Beh.mk B1; zbh))).out.mono ?_
  rintro e w2 ⟨rfl, hb2⟩
  have B2 := below_box (w := w) (have := Beh.mk B1; zbh) hb2
  clear hb2
  (try clear xx)
  (try clear B1)
  go_wp2_with fail
  refine (HDt _ (hT.below (have := Beh.mk B2; zbh)) (HX.out.below (have := Beh.mk B2; zbh)) (HX.out.below (have := Beh.mk B2; zbh))).out.mono ?_
  rintro e w3 ⟨a1, c1, rfl, M13, hb3, hf3⟩
  have B3 := below_box (w := w) (have := Beh.mk B2; zbh) hb3
  clear hb3 hf3
  (try clear xx)
  (try clear B2)
  go_wp2_with fail
  have Vs4 := (DyV.made' w3 26 (dbad dd) (decide (dman dd < 0)) (.slice a1 (nl (dman dd).natAbs) c1) (dexp dd) (n := w3.heap.size) (by rfl))
  have M14 := (Mag.alloc M13 (.cells #[.bool (dbad dd), .bool (decide (dman dd < 0)), (.slice a1 (nl (dman dd).natAbs) c1), .int .i64 (dexp dd)] 26))
  have B4 : Below w.heap.size w (w3.alloc (.cells #[.bool (dbad dd), .bool (decide (dman dd < 0)), (.slice a1 (nl (dman dd).natAbs) c1), .int .i64 (dexp dd)] 26)) := (have := Beh.mk B3; zbh)
  have fr1s : 0 < (nl (dman dd).natAbs) → ab a1 ≠ w3.heap.size := fun h => by have := M13.old h; omega
  have gs : w.heap.size ≤ w3.heap.size := by have := B3.size; omega
  generalize (w3.alloc (.cells #[.bool (dbad dd), .bool (decide (dman dd < 0)), (.slice a1 (nl (dman dd).natAbs) c1), .int .i64 (dexp dd)] 26)) = w4 at Vs4 M14 B4 ⊢
  generalize w3.heap.size = zs at Vs4 fr1s gs ⊢
  (try clear sc0 sc1 sc2 sc3 sc4)
  obtain ⟨sc0, sc1, sc2, sc3, sc4, sc5⟩ := Vs4
  have Vs4 := Lib.hid (DyV.mk sc0 sc1 sc2 sc3 sc4 sc5)
  first
  | go_region_held3 (fun w' => w'.cell? ⟨zs, 0, none⟩ = some (.bool (dbad dd)) ∧ w'.cell? ⟨zs, 1, none⟩ = some (.bool (decide (dman dd < 0))) ∧ w'.cell? ⟨zs, 2, none⟩ = some ((.slice a1 (nl (dman dd).natAbs) c1)) ∧ w'.cell? ⟨zs, 3, none⟩ = some (.int .i64 (dexp dd))) (first | (go_keep; done) | (go_simp; done))
      (first
        | (go_at_call 57; have xx := B7; refine (HCl _ a4 c4 a1 c1 (by repeat (with_reducible first | refine Mag.set ?_ (fun h => by have := M47 h; omega) _ _ | refine Mag.drew ?_ | refine Mag.alloc ?_ _ | refine Mag.drewN ?_ _ | exact M47)) (by repeat (with_reducible first | refine Mag.set ?_ (fun h => by have := M17 h; omega) _ _ | refine Mag.drew ?_ | refine Mag.alloc ?_ _ | refine Mag.drewN ?_ _ | exact M17)) (hT.below (have := Beh.mk B7; zbh))).out.mono ?_; rintro e w8 ⟨rfl, hb8⟩; have Vs8 : DyV w8 zs (dbad dd) (decide (dman dd < 0)) (.slice a1 (nl (dman dd).natAbs) c1) (dexp dd) := (Vs7.out.on.below hb8); (try clear sc0 sc1 sc2 sc3 sc4); obtain ⟨sc0, sc1, sc2, sc3, sc4, sc5⟩ := Vs8; have Vs8 := Lib.hid (DyV.mk sc0 sc1 sc2 sc3 sc4 sc5); have M18 : Mag w8 a1 (nl (dman dd).natAbs) c1 (dman dd).natAbs := Mag.below (by repeat (with_reducible first | refine Mag.set ?_ (fun h => by have := M17 h; omega) _ _ | refine Mag.drew ?_ | refine Mag.alloc ?_ _ | refine Mag.drewN ?_ _ | exact M17)) hb8; have M28 : Mag w8 a2 (nl (dman dl).natAbs) c2 (dman dl).natAbs := Mag.below (by repeat (with_reducible first | refine Mag.set ?_ (fun h => by have := M27 h; omega) _ _ | refine Mag.drew ?_ | refine Mag.alloc ?_ _ | refine Mag.drewN ?_ _ | exact M27)) hb8; have M38 : Mag w8 a3 (nl (dman dl).natAbs) c3 (dman dl).natAbs := Mag.below (by repeat (with_reducible first | refine Mag.set ?_ (fun h => by have := M37 h; omega) _ _ | refine Mag.drew ?_ | refine Mag.alloc ?_ _ | refine Mag.drewN ?_ _ | exact M37)) hb8; have M48 : Mag w8 a4 (nl (dman pl).natAbs) c4 (dman pl).natAbs := Mag.below (by repeat (with_reducible first | refine Mag.set ?_ (fun h => by have := M47 h; omega) _ _ | refine Mag.drew ?_ | refine Mag.alloc ?_ _ | refine Mag.drewN ?_ _ | exact M47)) hb8; have B8 := below_box (w := w) (have := Beh.mk B7; zbh) hb8; clear hb8; (try clear xx); (try clear Vs7); (try clear M17); (try clear M27); (try clear M37); (try clear M47); (try clear B7))
        | (go_at_call 43; have xx := B6; refine (HMl _ a2 c2 a3 c3 (by repeat (with_reducible first | refine Mag.set ?_ (fun h => by have := M26 h; omega) _ _ | refine Mag.drew ?_ | refine Mag.alloc ?_ _ | refine Mag.drewN ?_ _ | exact M26)) (by repeat (with_reducible first | refine Mag.set ?_ (fun h => by have := M36 h; omega) _ _ | refine Mag.drew ?_ | refine Mag.alloc ?_ _ | refine Mag.drewN ?_ _ | exact M36)) (hT.below (have := Beh.mk B6; zbh))).out.mono ?_; rintro e w7 ⟨a4, c4, rfl, M47, hb7, hf7⟩; have Vs7 : DyV w7 zs (dbad dd) (decide (dman dd < 0)) (.slice a1 (nl (dman dd).natAbs) c1) (dexp dd) := (Vs6.out.on.below hb7); (try clear sc0 sc1 sc2 sc3 sc4); obtain ⟨sc0, sc1, sc2, sc3, sc4, sc5⟩ := Vs7; have Vs7 := Lib.hid (DyV.mk sc0 sc1 sc2 sc3 sc4 sc5); have M17 : Mag w7 a1 (nl (dman dd).natAbs) c1 (dman dd).natAbs := Mag.below (by repeat (with_reducible first | refine Mag.set ?_ (fun h => by have := M16 h; omega) _ _ | refine Mag.drew ?_ | refine Mag.alloc ?_ _ | refine Mag.drewN ?_ _ | exact M16)) hb7; have M27 : Mag w7 a2 (nl (dman dl).natAbs) c2 (dman dl).natAbs := Mag.below (by repeat (with_reducible first | refine Mag.set ?_ (fun h => by have := M26 h; omega) _ _ | refine Mag.drew ?_ | refine Mag.alloc ?_ _ | refine Mag.drewN ?_ _ | exact M26)) hb7; have M37 : Mag w7 a3 (nl (dman dl).natAbs) c3 (dman dl).natAbs := Mag.below (by repeat (with_reducible first | refine Mag.set ?_ (fun h => by have := M36 h; omega) _ _ | refine Mag.drew ?_ | refine Mag.alloc ?_ _ | refine Mag.drewN ?_ _ | exact M36)) hb7; have B7 := below_box (w := w) (have := Beh.mk B6; zbh) hb7; clear hb7 hf7; (try clear xx); (try clear Vs6); (try clear M16); (try clear M26); (try clear M36); (try clear B6))
        | (go_at_call 41; have xx := B5; refine (HOl _ (hT.below (have := Beh.mk B5; zbh))).out.mono ?_; rintro e w6 ⟨a3, c3, rfl, M36, hb6, hf6⟩; have Vs6 : DyV w6 zs (dbad dd) (decide (dman dd < 0)) (.slice a1 (nl (dman dd).natAbs) c1) (dexp dd) := (Vs5.out.on.below hb6); (try clear sc0 sc1 sc2 sc3 sc4); obtain ⟨sc0, sc1, sc2, sc3, sc4, sc5⟩ := Vs6; have Vs6 := Lib.hid (DyV.mk sc0 sc1 sc2 sc3 sc4 sc5); have M16 : Mag w6 a1 (nl (dman dd).natAbs) c1 (dman dd).natAbs := Mag.below (by repeat (with_reducible first | refine Mag.set ?_ (fun h => by have := M15 h; omega) _ _ | refine Mag.drew ?_ | refine Mag.alloc ?_ _ | refine Mag.drewN ?_ _ | exact M15)) hb6; have M26 : Mag w6 a2 (nl (dman dl).natAbs) c2 (dman dl).natAbs := Mag.below (by repeat (with_reducible first | refine Mag.set ?_ (fun h => by have := M25 h; omega) _ _ | refine Mag.drew ?_ | refine Mag.alloc ?_ _ | refine Mag.drewN ?_ _ | exact M25)) hb6; have B6 := below_box (w := w) (have := Beh.mk B5; zbh) hb6; clear hb6 hf6; (try clear xx); (try clear Vs5); (try clear M15); (try clear M25); (try clear B5))
        | (go_at_call 41; have xx := B4; refine (HOl _ (hT.below (have := Beh.mk B4; zbh))).out.mono ?_; rintro e w5 ⟨a2, c2, rfl, M25, hb5, hf5⟩; have Vs5 : DyV w5 zs (dbad dd) (decide (dman dd < 0)) (.slice a1 (nl (dman dd).natAbs) c1) (dexp dd) := (Vs4.out.on.below hb5); (try clear sc0 sc1 sc2 sc3 sc4); obtain ⟨sc0, sc1, sc2, sc3, sc4, sc5⟩ := Vs5; have Vs5 := Lib.hid (DyV.mk sc0 sc1 sc2 sc3 sc4 sc5); have M15 : Mag w5 a1 (nl (dman dd).natAbs) c1 (dman dd).natAbs := Mag.below (by repeat (with_reducible first | refine Mag.set ?_ (fun h => by have := M14 h; omega) _ _ | refine Mag.drew ?_ | refine Mag.alloc ?_ _ | refine Mag.drewN ?_ _ | exact M14)) hb5; have B5 := below_box (w := w) (have := Beh.mk B4; zbh) hb5; clear hb5 hf5; (try clear xx); (try clear Vs4); (try clear M14); (try clear B4))
        | fail)
  | fail "region"
  all_goals (
    go_wp2_with fail
    refine (HW _ (hT.below (have := Beh.mk B8; zbh))).out.mono ?_
    rintro e w9 ⟨rfl, hb9⟩
    have Vs9 : DyV w9 zs (dbad dd) (decide (dman dd < 0)) (.slice a1 (nl (dman dd).natAbs) c1) (dexp dd) := (Vs8.out.on.below hb9)
    (try clear sc0 sc1 sc2 sc3 sc4)
    obtain ⟨sc0, sc1, sc2, sc3, sc4, sc5⟩ := Vs9
    have Vs9 := Lib.hid (DyV.mk sc0 sc1 sc2 sc3 sc4 sc5)
    have M19 : Mag w9 a1 (nl (dman dd).natAbs) c1 (dman dd).natAbs := Mag.below (by repeat (with_reducible first | refine Mag.set ?_ (fun h => by have := M18 h; omega) _ _ | refine Mag.drew ?_ | refine Mag.alloc ?_ _ | refine Mag.drewN ?_ _ | exact M18)) hb9
    have M29 : Mag w9 a2 (nl (dman dl).natAbs) c2 (dman dl).natAbs := Mag.below (by repeat (with_reducible first | refine Mag.set ?_ (fun h => by have := M28 h; omega) _ _ | refine Mag.drew ?_ | refine Mag.alloc ?_ _ | refine Mag.drewN ?_ _ | exact M28)) hb9
    have M39 : Mag w9 a3 (nl (dman dl).natAbs) c3 (dman dl).natAbs := Mag.below (by repeat (with_reducible first | refine Mag.set ?_ (fun h => by have := M38 h; omega) _ _ | refine Mag.drew ?_ | refine Mag.alloc ?_ _ | refine Mag.drewN ?_ _ | exact M38)) hb9
    have M49 : Mag w9 a4 (nl (dman pl).natAbs) c4 (dman pl).natAbs := Mag.below (by repeat (with_reducible first | refine Mag.set ?_ (fun h => by have := M48 h; omega) _ _ | refine Mag.drew ?_ | refine Mag.alloc ?_ _ | refine Mag.drewN ?_ _ | exact M48)) hb9
    have B9 := below_box (w := w) (have := Beh.mk B8; zbh) hb9
    clear hb9
    (try clear xx)
    (try clear Vs8)
    (try clear M18)
    (try clear M28)
    (try clear M38)
    (try clear M48)
    (try clear B8)
    go_wp2_with fail
    go_ret
    exact ⟨rfl, (have := Beh.mk B9; zbh)⟩)

set_option maxRecDepth 100000 in
set_option maxHeartbeats 20000000 in
theorem aroots_ok (w : World) (hT : Tab w) (a : Option Addr) (n cap : Nat) (X : Nat → Nat) (hX : Fls w a n cap X) (hn : ¬ 10 < n) (fa : allfin X n = true) (hi : Nat) (ehi : hi = froot (ddot X X n) 2) (hq : ¬ hi = 9218868437227405312) :
    Calls Tryz.prog 12 #[.slice a n cap] w fun o w' => o = .returned (.bool true) ∧ Below w.heap.size w w' := by
  have l1 := hX.lim
  have l2 := hX.fits
  have HW := fun W ht => Lib.hid (awakeA_any W ht)
  have HF := Lib.hid (rfinite_any w a n cap X hX)
  rw [fa] at HF
  have hfin := allfin_at fa
  obtain ⟨ev, hv⟩ := adot_val (X := X) (Y := X) (n := n) (by omega) hfin hfin
  obtain ⟨lo, elo⟩ : ∃ lo, lo = froot (ddot X X n) 1 := ⟨_, rfl⟩
  have hlaw := roots_law (S := dotI X X n) (lo := lo) (hi := hi) (dotI_self_nonneg X n) hv (by rw [← ev]; exact elo) (by rw [← ev]; exact ehi)
  rw [← ev] at hlaw hv
  have bd : dbad (ddot X X n) = false := by
    cases hd : ddot X X n with
    | none => exact absurd hd hv
    | some p => obtain ⟨z, f⟩ := p; rfl
  have hE : dotE X X n n = 0 := by unfold dotE; rw [if_neg (fun h => h rfl), fa]; rfl
  have hDD : dotD X X n n = ddot X X n := by unfold dotD; rw [hE]; rfl
  have HN1 := fun W ht h => Lib.hid (anormtwo_any W ht a n cap X h (by omega) 1)
  have HN2 := fun W ht h => Lib.hid (anormtwo_any W ht a n cap X h (by omega) 2)
  rw [← elo] at HN1
  rw [← ehi] at HN2
  have HDt := fun W ht h h' => Lib.hid (adot_any W ht a a n n cap cap X X h h' (by omega))
  rw [hE, hDD] at HDt
  have Nd := isN_dotD X X n n
  rw [hDD] at Nd
  have blo : lo < 18446744073709551616 := by rw [elo]; exact froot_lt2 _ _
  have bhi : hi < 18446744073709551616 := by rw [ehi]; exact froot_lt2 _ _
  generalize ddot X X n = dd at *
  obtain ⟨⟨k1, k2, k3⟩, k4⟩ := hlaw
  have HOl := fun W ht => Lib.hid (fof_any W lo blo ht)
  have Nl := isN_fof lo
  generalize fof lo = dl at *
  have HMl := fun W b1 q1 b2 q2 (h1 : Mag W b1 (nl (dman dl).natAbs) q1 (dman dl).natAbs) (h2 : Mag W b2 (nl (dman dl).natAbs) q2 (dman dl).natAbs) ht => Lib.hid (dmul_any W _ _ _ _ _ _ _ _ _ _ _ _ _ _ (dyin_of Nl h1) (dyin_of Nl h2) ht)
  have Np := isN_mul dl dl
  generalize dmul dl dl = pl at *
  have HCl := fun W b1 q1 b2 q2 (h1 : Mag W b1 (nl (dman pl).natAbs) q1 (dman pl).natAbs) (h2 : Mag W b2 (nl (dman dd).natAbs) q2 (dman dd).natAbs) ht => Lib.hid (dcmp_any W _ _ _ _ _ _ _ _ _ _ _ _ _ _ (dyin_of Np h1) (dyin_of Nd h2) ht)
  have o1 : (!dbad pl && !dbad dd) = true := by rw [k2, bd]; rfl
  rw [o1] at HCl
  generalize dcmp pl dd = v1 at *
  have g1 : decide (0 < v1) = false := decide_eq_false (by omega)
  rcases k4 with k4 | ⟨k5, k6, k7⟩
  · exact absurd k4 hq
  have HOh := fun W ht => Lib.hid (fof_any W hi bhi ht)
  have Nh := isN_fof hi
  generalize fof hi = dh at *
  have HMh := fun W b1 q1 b2 q2 (h1 : Mag W b1 (nl (dman dh).natAbs) q1 (dman dh).natAbs) (h2 : Mag W b2 (nl (dman dh).natAbs) q2 (dman dh).natAbs) ht => Lib.hid (dmul_any W _ _ _ _ _ _ _ _ _ _ _ _ _ _ (dyin_of Nh h1) (dyin_of Nh h2) ht)
  have Nq := isN_mul dh dh
  generalize dmul dh dh = ph at *
  have HCh := fun W b1 q1 b2 q2 (h1 : Mag W b1 (nl (dman dd).natAbs) q1 (dman dd).natAbs) (h2 : Mag W b2 (nl (dman ph).natAbs) q2 (dman ph).natAbs) ht => Lib.hid (dcmp_any W _ _ _ _ _ _ _ _ _ _ _ _ _ _ (dyin_of Nd h1) (dyin_of Nq h2) ht)
  have o2 : (!dbad dd && !dbad ph) = true := by rw [k6, bd]; rfl
  rw [o2] at HCh
  generalize dcmp dd ph = v2 at *
  have g2 : decide (v2 ≤ 0) = true := decide_eq_true k7
  have hq1 : ¬ (hi : Int) = 9218868437227405312 := by omega
  have hq2 : ((hi : Int) == 9218868437227405312) = false := by rw [beq_eq_false_iff_ne]; exact hq1
  generalize (hi : Int) = VH at *
  clear o2 k5 k6 k7 Nh Nq
  generalize (lo : Int) = VL at *
  have HX := Lib.hid hX
  clear o1 k1 k2 k3 elo ehi hE hDD ev hv bd Nd Nl Np blo bhi hfin fa hX
  go_enter Tryz.func12, Tryz.ntmps12
  go_wp2_with fail
  have B0 : Below w.heap.size w w := Below.refl _ _
  refine HF.out.mono ?_; rintro e w1 ⟨rfl, rfl⟩; go_wp2_with fail
  refine (HN1 _ (hT.below (have := Beh.mk B0; zbh)) (HX.out.below (have := Beh.mk B0; zbh))).out.mono ?_
  rintro e w1 ⟨rfl, hb1⟩
  have B1 := below_box (w := w) (have := Beh.mk B0; zbh) hb1
  clear hb1
  (try clear xx)
  (try clear B0)
  go_wp2_with fail
  refine (HN2 _ (hT.below (have := Beh.mk B1; zbh)) (HX.out.below (have := Beh.mk B1; zbh))).out.mono ?_
  rintro e w2 ⟨rfl, hb2⟩
  have B2 := below_box (w := w) (have := Beh.mk B1; zbh) hb2
  clear hb2
  (try clear xx)
  (try clear B1)
  go_wp2_with fail
  refine (HDt _ (hT.below (have := Beh.mk B2; zbh)) (HX.out.below (have := Beh.mk B2; zbh)) (HX.out.below (have := Beh.mk B2; zbh))).out.mono ?_
  rintro e w3 ⟨a1, c1, rfl, M13, hb3, hf3⟩
  have B3 := below_box (w := w) (have := Beh.mk B2; zbh) hb3
  clear hb3 hf3
  (try clear xx)
  (try clear B2)
  go_wp2_with fail
  have Vs4 := (DyV.made' w3 26 (dbad dd) (decide (dman dd < 0)) (.slice a1 (nl (dman dd).natAbs) c1) (dexp dd) (n := w3.heap.size) (by rfl))
  have M14 := (Mag.alloc M13 (.cells #[.bool (dbad dd), .bool (decide (dman dd < 0)), (.slice a1 (nl (dman dd).natAbs) c1), .int .i64 (dexp dd)] 26))
  have B4 : Below w.heap.size w (w3.alloc (.cells #[.bool (dbad dd), .bool (decide (dman dd < 0)), (.slice a1 (nl (dman dd).natAbs) c1), .int .i64 (dexp dd)] 26)) := (have := Beh.mk B3; zbh)
  have fr1s : 0 < (nl (dman dd).natAbs) → ab a1 ≠ w3.heap.size := fun h => by have := M13.old h; omega
  have gs : w.heap.size ≤ w3.heap.size := by have := B3.size; omega
  generalize (w3.alloc (.cells #[.bool (dbad dd), .bool (decide (dman dd < 0)), (.slice a1 (nl (dman dd).natAbs) c1), .int .i64 (dexp dd)] 26)) = w4 at Vs4 M14 B4 ⊢
  generalize w3.heap.size = zs at Vs4 fr1s gs ⊢
  (try clear sc0 sc1 sc2 sc3 sc4)
  obtain ⟨sc0, sc1, sc2, sc3, sc4, sc5⟩ := Vs4
  have Vs4 := Lib.hid (DyV.mk sc0 sc1 sc2 sc3 sc4 sc5)
  first
  | go_region_held3 (fun w' => w'.cell? ⟨zs, 0, none⟩ = some (.bool (dbad dd)) ∧ w'.cell? ⟨zs, 1, none⟩ = some (.bool (decide (dman dd < 0))) ∧ w'.cell? ⟨zs, 2, none⟩ = some ((.slice a1 (nl (dman dd).natAbs) c1)) ∧ w'.cell? ⟨zs, 3, none⟩ = some (.int .i64 (dexp dd))) (first | (go_keep; done) | (go_simp; done))
      (first
        | (go_at_call 57; have xx := B7; refine (HCl _ a4 c4 a1 c1 (by repeat (with_reducible first | refine Mag.set ?_ (fun h => by have := M47 h; omega) _ _ | refine Mag.drew ?_ | refine Mag.alloc ?_ _ | refine Mag.drewN ?_ _ | exact M47)) (by repeat (with_reducible first | refine Mag.set ?_ (fun h => by have := M17 h; omega) _ _ | refine Mag.drew ?_ | refine Mag.alloc ?_ _ | refine Mag.drewN ?_ _ | exact M17)) (hT.below (have := Beh.mk B7; zbh))).out.mono ?_; rintro e w8 ⟨rfl, hb8⟩; have Vs8 : DyV w8 zs (dbad dd) (decide (dman dd < 0)) (.slice a1 (nl (dman dd).natAbs) c1) (dexp dd) := (Vs7.out.on.below hb8); (try clear sc0 sc1 sc2 sc3 sc4); obtain ⟨sc0, sc1, sc2, sc3, sc4, sc5⟩ := Vs8; have Vs8 := Lib.hid (DyV.mk sc0 sc1 sc2 sc3 sc4 sc5); have M18 : Mag w8 a1 (nl (dman dd).natAbs) c1 (dman dd).natAbs := Mag.below (by repeat (with_reducible first | refine Mag.set ?_ (fun h => by have := M17 h; omega) _ _ | refine Mag.drew ?_ | refine Mag.alloc ?_ _ | refine Mag.drewN ?_ _ | exact M17)) hb8; have M28 : Mag w8 a2 (nl (dman dl).natAbs) c2 (dman dl).natAbs := Mag.below (by repeat (with_reducible first | refine Mag.set ?_ (fun h => by have := M27 h; omega) _ _ | refine Mag.drew ?_ | refine Mag.alloc ?_ _ | refine Mag.drewN ?_ _ | exact M27)) hb8; have M38 : Mag w8 a3 (nl (dman dl).natAbs) c3 (dman dl).natAbs := Mag.below (by repeat (with_reducible first | refine Mag.set ?_ (fun h => by have := M37 h; omega) _ _ | refine Mag.drew ?_ | refine Mag.alloc ?_ _ | refine Mag.drewN ?_ _ | exact M37)) hb8; have M48 : Mag w8 a4 (nl (dman pl).natAbs) c4 (dman pl).natAbs := Mag.below (by repeat (with_reducible first | refine Mag.set ?_ (fun h => by have := M47 h; omega) _ _ | refine Mag.drew ?_ | refine Mag.alloc ?_ _ | refine Mag.drewN ?_ _ | exact M47)) hb8; have B8 := below_box (w := w) (have := Beh.mk B7; zbh) hb8; clear hb8; (try clear xx); (try clear Vs7); (try clear M17); (try clear M27); (try clear M37); (try clear M47); (try clear B7))
        | (go_at_call 43; have xx := B6; refine (HMl _ a2 c2 a3 c3 (by repeat (with_reducible first | refine Mag.set ?_ (fun h => by have := M26 h; omega) _ _ | refine Mag.drew ?_ | refine Mag.alloc ?_ _ | refine Mag.drewN ?_ _ | exact M26)) (by repeat (with_reducible first | refine Mag.set ?_ (fun h => by have := M36 h; omega) _ _ | refine Mag.drew ?_ | refine Mag.alloc ?_ _ | refine Mag.drewN ?_ _ | exact M36)) (hT.below (have := Beh.mk B6; zbh))).out.mono ?_; rintro e w7 ⟨a4, c4, rfl, M47, hb7, hf7⟩; have Vs7 : DyV w7 zs (dbad dd) (decide (dman dd < 0)) (.slice a1 (nl (dman dd).natAbs) c1) (dexp dd) := (Vs6.out.on.below hb7); (try clear sc0 sc1 sc2 sc3 sc4); obtain ⟨sc0, sc1, sc2, sc3, sc4, sc5⟩ := Vs7; have Vs7 := Lib.hid (DyV.mk sc0 sc1 sc2 sc3 sc4 sc5); have M17 : Mag w7 a1 (nl (dman dd).natAbs) c1 (dman dd).natAbs := Mag.below (by repeat (with_reducible first | refine Mag.set ?_ (fun h => by have := M16 h; omega) _ _ | refine Mag.drew ?_ | refine Mag.alloc ?_ _ | refine Mag.drewN ?_ _ | exact M16)) hb7; have M27 : Mag w7 a2 (nl (dman dl).natAbs) c2 (dman dl).natAbs := Mag.below (by repeat (with_reducible first | refine Mag.set ?_ (fun h => by have := M26 h; omega) _ _ | refine Mag.drew ?_ | refine Mag.alloc ?_ _ | refine Mag.drewN ?_ _ | exact M26)) hb7; have M37 : Mag w7 a3 (nl (dman dl).natAbs) c3 (dman dl).natAbs := Mag.below (by repeat (with_reducible first | refine Mag.set ?_ (fun h => by have := M36 h; omega) _ _ | refine Mag.drew ?_ | refine Mag.alloc ?_ _ | refine Mag.drewN ?_ _ | exact M36)) hb7; have B7 := below_box (w := w) (have := Beh.mk B6; zbh) hb7; clear hb7 hf7; (try clear xx); (try clear Vs6); (try clear M16); (try clear M26); (try clear M36); (try clear B6))
        | (go_at_call 41; have xx := B5; refine (HOl _ (hT.below (have := Beh.mk B5; zbh))).out.mono ?_; rintro e w6 ⟨a3, c3, rfl, M36, hb6, hf6⟩; have Vs6 : DyV w6 zs (dbad dd) (decide (dman dd < 0)) (.slice a1 (nl (dman dd).natAbs) c1) (dexp dd) := (Vs5.out.on.below hb6); (try clear sc0 sc1 sc2 sc3 sc4); obtain ⟨sc0, sc1, sc2, sc3, sc4, sc5⟩ := Vs6; have Vs6 := Lib.hid (DyV.mk sc0 sc1 sc2 sc3 sc4 sc5); have M16 : Mag w6 a1 (nl (dman dd).natAbs) c1 (dman dd).natAbs := Mag.below (by repeat (with_reducible first | refine Mag.set ?_ (fun h => by have := M15 h; omega) _ _ | refine Mag.drew ?_ | refine Mag.alloc ?_ _ | refine Mag.drewN ?_ _ | exact M15)) hb6; have M26 : Mag w6 a2 (nl (dman dl).natAbs) c2 (dman dl).natAbs := Mag.below (by repeat (with_reducible first | refine Mag.set ?_ (fun h => by have := M25 h; omega) _ _ | refine Mag.drew ?_ | refine Mag.alloc ?_ _ | refine Mag.drewN ?_ _ | exact M25)) hb6; have B6 := below_box (w := w) (have := Beh.mk B5; zbh) hb6; clear hb6 hf6; (try clear xx); (try clear Vs5); (try clear M15); (try clear M25); (try clear B5))
        | (go_at_call 41; have xx := B4; refine (HOl _ (hT.below (have := Beh.mk B4; zbh))).out.mono ?_; rintro e w5 ⟨a2, c2, rfl, M25, hb5, hf5⟩; have Vs5 : DyV w5 zs (dbad dd) (decide (dman dd < 0)) (.slice a1 (nl (dman dd).natAbs) c1) (dexp dd) := (Vs4.out.on.below hb5); (try clear sc0 sc1 sc2 sc3 sc4); obtain ⟨sc0, sc1, sc2, sc3, sc4, sc5⟩ := Vs5; have Vs5 := Lib.hid (DyV.mk sc0 sc1 sc2 sc3 sc4 sc5); have M15 : Mag w5 a1 (nl (dman dd).natAbs) c1 (dman dd).natAbs := Mag.below (by repeat (with_reducible first | refine Mag.set ?_ (fun h => by have := M14 h; omega) _ _ | refine Mag.drew ?_ | refine Mag.alloc ?_ _ | refine Mag.drewN ?_ _ | exact M14)) hb5; have B5 := below_box (w := w) (have := Beh.mk B4; zbh) hb5; clear hb5 hf5; (try clear xx); (try clear Vs4); (try clear M14); (try clear B4))
        | fail)
  | fail "region"
  all_goals (
    go_wp2_with fail
    first
    | go_region_held3 (fun w' => w'.cell? ⟨zs, 0, none⟩ = some (.bool (dbad dd)) ∧ w'.cell? ⟨zs, 1, none⟩ = some (.bool (decide (dman dd < 0))) ∧ w'.cell? ⟨zs, 2, none⟩ = some ((.slice a1 (nl (dman dd).natAbs) c1)) ∧ w'.cell? ⟨zs, 3, none⟩ = some (.int .i64 (dexp dd))) (first | (go_keep; done) | (go_simp; done))
        (first
          | (go_at_call 57; have xx := B11; refine (HCh _ a1 c1 a7 c7 (by repeat (with_reducible first | refine Mag.set ?_ (fun h => by have := M111 h; omega) _ _ | refine Mag.drew ?_ | refine Mag.alloc ?_ _ | refine Mag.drewN ?_ _ | exact M111)) (by repeat (with_reducible first | refine Mag.set ?_ (fun h => by have := M711 h; omega) _ _ | refine Mag.drew ?_ | refine Mag.alloc ?_ _ | refine Mag.drewN ?_ _ | exact M711)) (hT.below (have := Beh.mk B11; zbh))).out.mono ?_; rintro e w12 ⟨rfl, hb12⟩; have Vs12 : DyV w12 zs (dbad dd) (decide (dman dd < 0)) (.slice a1 (nl (dman dd).natAbs) c1) (dexp dd) := (Vs11.out.on.below hb12); (try clear sc0 sc1 sc2 sc3 sc4); obtain ⟨sc0, sc1, sc2, sc3, sc4, sc5⟩ := Vs12; have Vs12 := Lib.hid (DyV.mk sc0 sc1 sc2 sc3 sc4 sc5); have M112 : Mag w12 a1 (nl (dman dd).natAbs) c1 (dman dd).natAbs := Mag.below (by repeat (with_reducible first | refine Mag.set ?_ (fun h => by have := M111 h; omega) _ _ | refine Mag.drew ?_ | refine Mag.alloc ?_ _ | refine Mag.drewN ?_ _ | exact M111)) hb12; have M212 : Mag w12 a2 (nl (dman dl).natAbs) c2 (dman dl).natAbs := Mag.below (by repeat (with_reducible first | refine Mag.set ?_ (fun h => by have := M211 h; omega) _ _ | refine Mag.drew ?_ | refine Mag.alloc ?_ _ | refine Mag.drewN ?_ _ | exact M211)) hb12; have M312 : Mag w12 a3 (nl (dman dl).natAbs) c3 (dman dl).natAbs := Mag.below (by repeat (with_reducible first | refine Mag.set ?_ (fun h => by have := M311 h; omega) _ _ | refine Mag.drew ?_ | refine Mag.alloc ?_ _ | refine Mag.drewN ?_ _ | exact M311)) hb12; have M412 : Mag w12 a4 (nl (dman pl).natAbs) c4 (dman pl).natAbs := Mag.below (by repeat (with_reducible first | refine Mag.set ?_ (fun h => by have := M411 h; omega) _ _ | refine Mag.drew ?_ | refine Mag.alloc ?_ _ | refine Mag.drewN ?_ _ | exact M411)) hb12; have M512 : Mag w12 a5 (nl (dman dh).natAbs) c5 (dman dh).natAbs := Mag.below (by repeat (with_reducible first | refine Mag.set ?_ (fun h => by have := M511 h; omega) _ _ | refine Mag.drew ?_ | refine Mag.alloc ?_ _ | refine Mag.drewN ?_ _ | exact M511)) hb12; have M612 : Mag w12 a6 (nl (dman dh).natAbs) c6 (dman dh).natAbs := Mag.below (by repeat (with_reducible first | refine Mag.set ?_ (fun h => by have := M611 h; omega) _ _ | refine Mag.drew ?_ | refine Mag.alloc ?_ _ | refine Mag.drewN ?_ _ | exact M611)) hb12; have M712 : Mag w12 a7 (nl (dman ph).natAbs) c7 (dman ph).natAbs := Mag.below (by repeat (with_reducible first | refine Mag.set ?_ (fun h => by have := M711 h; omega) _ _ | refine Mag.drew ?_ | refine Mag.alloc ?_ _ | refine Mag.drewN ?_ _ | exact M711)) hb12; have B12 := below_box (w := w) (have := Beh.mk B11; zbh) hb12; clear hb12; (try clear xx); (try clear Vs11); (try clear M111); (try clear M211); (try clear M311); (try clear M411); (try clear M511); (try clear M611); (try clear M711); (try clear B11))
          | (go_at_call 43; have xx := B10; refine (HMh _ a5 c5 a6 c6 (by repeat (with_reducible first | refine Mag.set ?_ (fun h => by have := M510 h; omega) _ _ | refine Mag.drew ?_ | refine Mag.alloc ?_ _ | refine Mag.drewN ?_ _ | exact M510)) (by repeat (with_reducible first | refine Mag.set ?_ (fun h => by have := M610 h; omega) _ _ | refine Mag.drew ?_ | refine Mag.alloc ?_ _ | refine Mag.drewN ?_ _ | exact M610)) (hT.below (have := Beh.mk B10; zbh))).out.mono ?_; rintro e w11 ⟨a7, c7, rfl, M711, hb11, hf11⟩; have Vs11 : DyV w11 zs (dbad dd) (decide (dman dd < 0)) (.slice a1 (nl (dman dd).natAbs) c1) (dexp dd) := (Vs10.out.on.below hb11); (try clear sc0 sc1 sc2 sc3 sc4); obtain ⟨sc0, sc1, sc2, sc3, sc4, sc5⟩ := Vs11; have Vs11 := Lib.hid (DyV.mk sc0 sc1 sc2 sc3 sc4 sc5); have M111 : Mag w11 a1 (nl (dman dd).natAbs) c1 (dman dd).natAbs := Mag.below (by repeat (with_reducible first | refine Mag.set ?_ (fun h => by have := M110 h; omega) _ _ | refine Mag.drew ?_ | refine Mag.alloc ?_ _ | refine Mag.drewN ?_ _ | exact M110)) hb11; have M211 : Mag w11 a2 (nl (dman dl).natAbs) c2 (dman dl).natAbs := Mag.below (by repeat (with_reducible first | refine Mag.set ?_ (fun h => by have := M210 h; omega) _ _ | refine Mag.drew ?_ | refine Mag.alloc ?_ _ | refine Mag.drewN ?_ _ | exact M210)) hb11; have M311 : Mag w11 a3 (nl (dman dl).natAbs) c3 (dman dl).natAbs := Mag.below (by repeat (with_reducible first | refine Mag.set ?_ (fun h => by have := M310 h; omega) _ _ | refine Mag.drew ?_ | refine Mag.alloc ?_ _ | refine Mag.drewN ?_ _ | exact M310)) hb11; have M411 : Mag w11 a4 (nl (dman pl).natAbs) c4 (dman pl).natAbs := Mag.below (by repeat (with_reducible first | refine Mag.set ?_ (fun h => by have := M410 h; omega) _ _ | refine Mag.drew ?_ | refine Mag.alloc ?_ _ | refine Mag.drewN ?_ _ | exact M410)) hb11; have M511 : Mag w11 a5 (nl (dman dh).natAbs) c5 (dman dh).natAbs := Mag.below (by repeat (with_reducible first | refine Mag.set ?_ (fun h => by have := M510 h; omega) _ _ | refine Mag.drew ?_ | refine Mag.alloc ?_ _ | refine Mag.drewN ?_ _ | exact M510)) hb11; have M611 : Mag w11 a6 (nl (dman dh).natAbs) c6 (dman dh).natAbs := Mag.below (by repeat (with_reducible first | refine Mag.set ?_ (fun h => by have := M610 h; omega) _ _ | refine Mag.drew ?_ | refine Mag.alloc ?_ _ | refine Mag.drewN ?_ _ | exact M610)) hb11; have B11 := below_box (w := w) (have := Beh.mk B10; zbh) hb11; clear hb11 hf11; (try clear xx); (try clear Vs10); (try clear M110); (try clear M210); (try clear M310); (try clear M410); (try clear M510); (try clear M610); (try clear B10))
          | (go_at_call 41; have xx := B9; refine (HOh _ (hT.below (have := Beh.mk B9; zbh))).out.mono ?_; rintro e w10 ⟨a6, c6, rfl, M610, hb10, hf10⟩; have Vs10 : DyV w10 zs (dbad dd) (decide (dman dd < 0)) (.slice a1 (nl (dman dd).natAbs) c1) (dexp dd) := (Vs9.out.on.below hb10); (try clear sc0 sc1 sc2 sc3 sc4); obtain ⟨sc0, sc1, sc2, sc3, sc4, sc5⟩ := Vs10; have Vs10 := Lib.hid (DyV.mk sc0 sc1 sc2 sc3 sc4 sc5); have M110 : Mag w10 a1 (nl (dman dd).natAbs) c1 (dman dd).natAbs := Mag.below (by repeat (with_reducible first | refine Mag.set ?_ (fun h => by have := M19 h; omega) _ _ | refine Mag.drew ?_ | refine Mag.alloc ?_ _ | refine Mag.drewN ?_ _ | exact M19)) hb10; have M210 : Mag w10 a2 (nl (dman dl).natAbs) c2 (dman dl).natAbs := Mag.below (by repeat (with_reducible first | refine Mag.set ?_ (fun h => by have := M29 h; omega) _ _ | refine Mag.drew ?_ | refine Mag.alloc ?_ _ | refine Mag.drewN ?_ _ | exact M29)) hb10; have M310 : Mag w10 a3 (nl (dman dl).natAbs) c3 (dman dl).natAbs := Mag.below (by repeat (with_reducible first | refine Mag.set ?_ (fun h => by have := M39 h; omega) _ _ | refine Mag.drew ?_ | refine Mag.alloc ?_ _ | refine Mag.drewN ?_ _ | exact M39)) hb10; have M410 : Mag w10 a4 (nl (dman pl).natAbs) c4 (dman pl).natAbs := Mag.below (by repeat (with_reducible first | refine Mag.set ?_ (fun h => by have := M49 h; omega) _ _ | refine Mag.drew ?_ | refine Mag.alloc ?_ _ | refine Mag.drewN ?_ _ | exact M49)) hb10; have M510 : Mag w10 a5 (nl (dman dh).natAbs) c5 (dman dh).natAbs := Mag.below (by repeat (with_reducible first | refine Mag.set ?_ (fun h => by have := M59 h; omega) _ _ | refine Mag.drew ?_ | refine Mag.alloc ?_ _ | refine Mag.drewN ?_ _ | exact M59)) hb10; have B10 := below_box (w := w) (have := Beh.mk B9; zbh) hb10; clear hb10 hf10; (try clear xx); (try clear Vs9); (try clear M19); (try clear M29); (try clear M39); (try clear M49); (try clear M59); (try clear B9))
          | (go_at_call 41; have xx := B8; refine (HOh _ (hT.below (have := Beh.mk B8; zbh))).out.mono ?_; rintro e w9 ⟨a5, c5, rfl, M59, hb9, hf9⟩; have Vs9 : DyV w9 zs (dbad dd) (decide (dman dd < 0)) (.slice a1 (nl (dman dd).natAbs) c1) (dexp dd) := (Vs8.out.on.below hb9); (try clear sc0 sc1 sc2 sc3 sc4); obtain ⟨sc0, sc1, sc2, sc3, sc4, sc5⟩ := Vs9; have Vs9 := Lib.hid (DyV.mk sc0 sc1 sc2 sc3 sc4 sc5); have M19 : Mag w9 a1 (nl (dman dd).natAbs) c1 (dman dd).natAbs := Mag.below (by repeat (with_reducible first | refine Mag.set ?_ (fun h => by have := M18 h; omega) _ _ | refine Mag.drew ?_ | refine Mag.alloc ?_ _ | refine Mag.drewN ?_ _ | exact M18)) hb9; have M29 : Mag w9 a2 (nl (dman dl).natAbs) c2 (dman dl).natAbs := Mag.below (by repeat (with_reducible first | refine Mag.set ?_ (fun h => by have := M28 h; omega) _ _ | refine Mag.drew ?_ | refine Mag.alloc ?_ _ | refine Mag.drewN ?_ _ | exact M28)) hb9; have M39 : Mag w9 a3 (nl (dman dl).natAbs) c3 (dman dl).natAbs := Mag.below (by repeat (with_reducible first | refine Mag.set ?_ (fun h => by have := M38 h; omega) _ _ | refine Mag.drew ?_ | refine Mag.alloc ?_ _ | refine Mag.drewN ?_ _ | exact M38)) hb9; have M49 : Mag w9 a4 (nl (dman pl).natAbs) c4 (dman pl).natAbs := Mag.below (by repeat (with_reducible first | refine Mag.set ?_ (fun h => by have := M48 h; omega) _ _ | refine Mag.drew ?_ | refine Mag.alloc ?_ _ | refine Mag.drewN ?_ _ | exact M48)) hb9; have B9 := below_box (w := w) (have := Beh.mk B8; zbh) hb9; clear hb9 hf9; (try clear xx); (try clear Vs8); (try clear M18); (try clear M28); (try clear M38); (try clear M48); (try clear B8))
          | fail)
    | fail "region"
    all_goals (
      go_wp2_with fail
      refine (HW _ (hT.below (have := Beh.mk B12; zbh))).out.mono ?_
      rintro e w13 ⟨rfl, hb13⟩
      have Vs13 : DyV w13 zs (dbad dd) (decide (dman dd < 0)) (.slice a1 (nl (dman dd).natAbs) c1) (dexp dd) := (Vs12.out.on.below hb13)
      (try clear sc0 sc1 sc2 sc3 sc4)
      obtain ⟨sc0, sc1, sc2, sc3, sc4, sc5⟩ := Vs13
      have Vs13 := Lib.hid (DyV.mk sc0 sc1 sc2 sc3 sc4 sc5)
      have M113 : Mag w13 a1 (nl (dman dd).natAbs) c1 (dman dd).natAbs := Mag.below (by repeat (with_reducible first | refine Mag.set ?_ (fun h => by have := M112 h; omega) _ _ | refine Mag.drew ?_ | refine Mag.alloc ?_ _ | refine Mag.drewN ?_ _ | exact M112)) hb13
      have M213 : Mag w13 a2 (nl (dman dl).natAbs) c2 (dman dl).natAbs := Mag.below (by repeat (with_reducible first | refine Mag.set ?_ (fun h => by have := M212 h; omega) _ _ | refine Mag.drew ?_ | refine Mag.alloc ?_ _ | refine Mag.drewN ?_ _ | exact M212)) hb13
      have M313 : Mag w13 a3 (nl (dman dl).natAbs) c3 (dman dl).natAbs := Mag.below (by repeat (with_reducible first | refine Mag.set ?_ (fun h => by have := M312 h; omega) _ _ | refine Mag.drew ?_ | refine Mag.alloc ?_ _ | refine Mag.drewN ?_ _ | exact M312)) hb13
      have M413 : Mag w13 a4 (nl (dman pl).natAbs) c4 (dman pl).natAbs := Mag.below (by repeat (with_reducible first | refine Mag.set ?_ (fun h => by have := M412 h; omega) _ _ | refine Mag.drew ?_ | refine Mag.alloc ?_ _ | refine Mag.drewN ?_ _ | exact M412)) hb13
      have M513 : Mag w13 a5 (nl (dman dh).natAbs) c5 (dman dh).natAbs := Mag.below (by repeat (with_reducible first | refine Mag.set ?_ (fun h => by have := M512 h; omega) _ _ | refine Mag.drew ?_ | refine Mag.alloc ?_ _ | refine Mag.drewN ?_ _ | exact M512)) hb13
      have M613 : Mag w13 a6 (nl (dman dh).natAbs) c6 (dman dh).natAbs := Mag.below (by repeat (with_reducible first | refine Mag.set ?_ (fun h => by have := M612 h; omega) _ _ | refine Mag.drew ?_ | refine Mag.alloc ?_ _ | refine Mag.drewN ?_ _ | exact M612)) hb13
      have M713 : Mag w13 a7 (nl (dman ph).natAbs) c7 (dman ph).natAbs := Mag.below (by repeat (with_reducible first | refine Mag.set ?_ (fun h => by have := M712 h; omega) _ _ | refine Mag.drew ?_ | refine Mag.alloc ?_ _ | refine Mag.drewN ?_ _ | exact M712)) hb13
      have B13 := below_box (w := w) (have := Beh.mk B12; zbh) hb13
      clear hb13
      (try clear xx)
      (try clear Vs12)
      (try clear M112)
      (try clear M212)
      (try clear M312)
      (try clear M412)
      (try clear M512)
      (try clear M612)
      (try clear M712)
      (try clear B12)
      go_wp2_with fail
      go_ret
      exact ⟨rfl, (have := Beh.mk B13; zbh)⟩))

theorem aroots_any (w : World) (hT : Tab w) (a : Option Addr) (n cap : Nat) (X : Nat → Nat) (hX : Fls w a n cap X) :
    Calls Tryz.prog 12 #[.slice a n cap] w fun o w' => o = .returned (.bool true) ∧ Below w.heap.size w w' := by
  by_cases hn : 10 < n
  · exact aroots_big w hT a n cap X hX hn
  · cases fa : allfin X n with
    | false => exact aroots_inf w hT a n cap X hX hn fa
    | true =>
      by_cases hq : froot (ddot X X n) 2 = 9218868437227405312
      · exact aroots_inf_ w hT a n cap X hX hn fa _ rfl hq
      · exact aroots_ok w hT a n cap X hX hn fa _ rfl hq

end Go.Proofs.YtmpcikkimcehnaaGreatDoor


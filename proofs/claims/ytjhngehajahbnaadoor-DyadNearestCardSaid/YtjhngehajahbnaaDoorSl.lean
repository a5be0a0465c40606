/-
  Walks: sparsekit.SlimDyad, Place; the laws' slim, same, bits.
-/
import Derived.Test.YtjhngehajahbnaaDoorRm
import Derived.Test.YtjhngehajahbnaaDoorKit
import Derived.Test.YtjhngehajahbnaaDoorBL
namespace Go.Proofs.YtjhngehajahbnaaDoor
open Go.RowKit Sp

/-- what slim answers -/
def slimB (n : Nat) (e : Int) : Bool := decide (n ≤ 20) && ((decide (-2000 ≤ e) && decide (e ≤ 2000)) || decide (131072 < e) || decide (e < -131072))

theorem slim_pow (x k : Nat) (h : x < B ^ k) : blen x ≤ 32 * k := blen_le (by rw [← Bpow_two]; exact h)
theorem slim_nrm {n x : Nat} {s bd : Bool} {e m f : Int} (hn : slimB n e = true) (hx : x < B ^ n) (h : nrmB bd (sgn s x) e = some (m, f)) : Slim m f := by
  cases bd with
  | true => cases h
  | false =>
    have h : nrm (sgn s x) e = some (m, f) := h
    simp only [slimB, Bool.and_eq_true, Bool.or_eq_true, decide_eq_true_eq] at hn
    obtain ⟨hn20, he⟩ := hn
    have hb : blen (sgn s x).natAbs ≤ 640 := by have := slim_pow x n hx; rw [sgn_natAbs]; omega
    by_cases h0 : sgn s x = 0
    · rw [h0, nrm_zero] at h; injection h with h; injection h with h1 h2; subst h1 h2; exact Or.inl ⟨rfl, rfl⟩
    · obtain ⟨t, ht, hf, hodd, h1, h2⟩ := nrm_some h0 h
      have hm0 : m ≠ 0 := fun hm => by rw [hm, Int.zero_mul] at ht; exact h0 ht
      have hbl : blen (sgn s x).natAbs = blen m.natAbs + t := by rw [ht, natAbs_mul_pow, blen_mul_pow (Int.natAbs_pos.2 hm0)]
      refine Or.inr ⟨hodd, by omega, ?_, ?_⟩ <;> omega

set_option maxRecDepth 100000 in
set_option maxHeartbeats 2000000 in
theorem slimDyad_any (w : World) (bd s : Bool) (a : Option Addr) (n cap : Nat) (e : Int) (hn : n ≤ 9223372036854775807) :
    Calls Tryd.prog 47 #[.agg #[.bool bd, .bool s, .slice a n cap, .int .i64 e], .int .i64 20, .int .i64 2000] w fun o w' => o = .returned (.bool (slimB n e)) ∧ Below w.heap.size w w' := by
  go_enter Tryd.func47, Tryd.ntmps47
  go_wp2
  all_goals (
    go_ret
    refine ⟨?_, (by repeat (with_reducible first | refine Below.setCell ?_ (by simp <;> omega) _ | refine Below.alloc ?_ (by simp <;> omega) _ | refine Below.drew ?_ | refine below_drewN ?_ _ | exact Below.refl _ _))⟩)
  all_goals exact congrArg (fun q => Ending.returned (.bool q)) (by unfold slimB; rw [Bool.eq_iff_iff]; simp <;> omega)

set_option maxRecDepth 100000 in
set_option maxHeartbeats 2000000 in
theorem slim_any (w : World) (bd s : Bool) (a : Option Addr) (n cap : Nat) (e : Int) (hn : n ≤ 9223372036854775807) (v : Bool) (hv : slimB n e = v) :
    Calls Tryd.prog 17 #[.agg #[.bool bd, .bool s, .slice a n cap, .int .i64 e]] w fun o w' => o = .returned (.bool v) ∧ Below w.heap.size w w' := by
  have HS := fun W => Lib.hid (slimDyad_any W bd s a n cap e hn)
  rw [hv] at HS
  clear hv
  go_enter Tryd.func17, Tryd.ntmps17
  go_wp2_with fail
  refine (HS _).out.mono ?_
  rintro e w1 ⟨rfl, hb⟩
  have hbw := below_box (w := w) (by repeat (with_reducible first | refine Below.setCell ?_ (by simp <;> omega) _ | refine Below.alloc ?_ (by simp <;> omega) _ | refine Below.drew ?_ | refine below_drewN ?_ _ | exact Below.refl _ _)) hb
  go_wp2_with fail
  go_ret
  exact ⟨rfl, (by have hszw := (hbw).size; repeat (with_reducible first | refine Below.setCell ?_ (by first | omega | (simp <;> omega)) _ | refine Below.alloc ?_ (by first | omega | (simp <;> omega)) _ | refine Below.drew ?_ | refine below_drewN ?_ _ | exact hbw))⟩

/-- a number's place -/
def placeI (a n : Int) : Int := a % 18446744073709551616 % n
set_option maxRecDepth 100000 in
set_option maxHeartbeats 2000000 in
theorem place_any (w : World) (a n : Int) (hn0 : 1 ≤ n) (hn1 : n ≤ 9223372036854775807) :
    Calls Tryd.prog 18 #[.int .i64 a, .int .i64 n] w fun o w' => o = .returned (.int .i64 (placeI a n)) ∧ w = w' := by
  have hw : IntKind.u64.wrap a = a % 18446744073709551616 := by rw [IntKind.wrap_u64]
  obtain ⟨u, hu⟩ : ∃ u, u = a % 18446744073709551616 := ⟨_, rfl⟩
  have hp : placeI a n = u % n := by unfold placeI; rw [← hu]
  have hu0 : 0 ≤ u := by omega
  have hu1 : u ≤ 18446744073709551615 := by omega
  rw [← hu] at hw
  rw [hp]
  have hr0 := Int.emod_nonneg u (show n ≠ 0 by omega)
  have hr1 := Int.emod_lt_of_pos u (show 0 < n by omega)
  clear hu hp
  go_enter Tryd.func18, Tryd.ntmps18
  go_wp2
  go_ret
  exact ⟨rfl, rfl⟩

theorem dNorm_in (w : World) {bd s : Bool} {a : Option Addr} {n cap : Nat} {e : Int} {d : Option (Int × Int)} (h : DyIn w bd s a n cap e d) (hT : Tab w) :
    Calls Tryd.prog 60 #[.agg #[.bool bd, .bool s, .slice a n cap, .int .i64 e]] w (RetDy w d) := by
  obtain ⟨x, h1, h2, h3, h4, h5, h6⟩ := h
  have := dNorm_any w bd s a n cap x e h1 h2 hT h3 (tz_lim h3) h4 h5
  rwa [h6] at this
theorem dyEq_dec (d d' : Option (Int × Int)) : dyEq (dbad d) (dbad d') (decide (dman d < 0)) (decide (dman d' < 0)) (dman d).natAbs (dman d').natAbs (dexp d) (dexp d') = decide (d = d') := by
  unfold dyEq
  rw [Bool.eq_iff_iff]
  cases d with
  | none => cases d' with
    | none => simp
    | some q => simp [dbad]
  | some p => cases d' with
    | none => simp [dbad]
    | some q =>
      obtain ⟨m, e⟩ := p
      obtain ⟨n, f⟩ := q
      have hs : (m < 0 ↔ n < 0) ∧ m.natAbs = n.natAbs ↔ m = n := by omega
      have h0 : (decide (m < 0) = decide (n < 0)) = (m < 0 ↔ n < 0) := propext decide_eq_decide
      show ((false == false) && ((e == f) && (decide (m < 0) == decide (n < 0) && decide (m.natAbs = n.natAbs)))) = true ↔ decide ((some (m, e) : Option (Int × Int)) = some (n, f)) = true
      simp only [beq_self_eq_true, Bool.true_and, Bool.and_eq_true, beq_iff_eq, decide_eq_true_eq, Option.some.injEq, Prod.mk.injEq]
      rw [h0, ← hs]
      constructor
      · rintro ⟨h1, h2, h3⟩; exact ⟨⟨h2, h3⟩, h1⟩
      · rintro ⟨⟨h2, h3⟩, h1⟩; exact ⟨h1, h2, h3⟩

set_option maxRecDepth 100000 in
set_option maxHeartbeats 2000000 in
theorem same_any (w : World) (bd s bd' s' : Bool) (a a' : Option Addr) (n n' cap cap' : Nat) (e e' : Int) (d d' : Option (Int × Int)) (hx : DyIn w bd s a n cap e d) (hy : DyIn w bd' s' a' n' cap' e' d') (hT : Tab w) (v : Bool) (hv : v = decide (d = d')) :
    Calls Tryd.prog 27 #[.agg #[.bool bd, .bool s, .slice a n cap, .int .i64 e], .agg #[.bool bd', .bool s', .slice a' n' cap', .int .i64 e']] w fun o w' => o = .returned (.bool v) ∧ Below w.heap.size w w' := by
  have HN := fun W h ht => Lib.hid (@dNorm_in W bd s a n cap e d h ht)
  have HM := fun W h ht => Lib.hid (@dNorm_in W bd' s' a' n' cap' e' d' h ht)
  have HK := fun W b b' c c' h h' => Lib.hid (kdyad_any W (dbad d) (dbad d') (decide (dman d < 0)) (decide (dman d' < 0)) b b' _ _ c c' _ _ (dexp d) (dexp d') h h' rfl rfl v (by rw [hv, dyEq_dec]))
  have e1 : ¬ w.heap.size + 1 = w.heap.size := by omega
  clear hv
  go_enter Tryd.func27, Tryd.ntmps27
  go_wp2_with fail
  have I0 := (DyV.made w 27 bd s (.slice a n cap) e).alloc (.cells #[.bool bd', .bool s', .slice a' n' cap', .int .i64 e'] 27)
  have I1 := DyV.made' (w.alloc (.cells #[.bool bd, .bool s, .slice a n cap, .int .i64 e] 27)) 27 bd' s' (.slice a' n' cap') e' (n := w.heap.size + 1) (by rw [World.size_alloc])
  have B0 : Below w.heap.size w ((w.alloc (.cells #[.bool bd, .bool s, .slice a n cap, .int .i64 e] 27)).alloc (.cells #[.bool bd', .bool s', .slice a' n' cap', .int .i64 e'] 27)) := (by repeat (with_reducible first | refine Below.setCell ?_ (by simp <;> omega) _ | refine Below.alloc ?_ (by simp <;> omega) _ | refine Below.drew ?_ | refine below_drewN ?_ _ | exact Below.refl _ _))
  generalize ((w.alloc (.cells #[.bool bd, .bool s, .slice a n cap, .int .i64 e] 27)).alloc (.cells #[.bool bd', .bool s', .slice a' n' cap', .int .i64 e'] 27)) = W0 at I0 I1 B0 ⊢
  generalize w.heap.size + 1 = b1 at I1 ⊢
  generalize hb0 : w.heap.size = b0 at I0 ⊢
  obtain ⟨xc0, xc1, xc2, xc3, xc4, xc5⟩ := I0
  obtain ⟨yc0, yc1, yc2, yc3, yc4, yc5⟩ := I1
  have Vx0 := Lib.hid (DyV.mk xc0 xc1 xc2 xc3 xc4 xc5)
  have Vy0 := Lib.hid (DyV.mk yc0 yc1 yc2 yc3 yc4 yc5)
  first
  | go_region_held3 (fun w' => w'.cell? ⟨b0, 0, none⟩ = some (.bool bd) ∧ w'.cell? ⟨b0, 1, none⟩ = some (.bool s) ∧ w'.cell? ⟨b0, 2, none⟩ = some ((.slice a n cap)) ∧ w'.cell? ⟨b0, 3, none⟩ = some (.int .i64 e) ∧ w'.cell? ⟨b1, 0, none⟩ = some (.bool bd') ∧ w'.cell? ⟨b1, 1, none⟩ = some (.bool s') ∧ w'.cell? ⟨b1, 2, none⟩ = some ((.slice a' n' cap')) ∧ w'.cell? ⟨b1, 3, none⟩ = some (.int .i64 e')) (first | (go_keep; done) | (go_simp; done))
      (first
        | (go_at_call 13; have xx := B2; refine (HK _ a1 a2 c1 c2 (by repeat (with_reducible first | refine Mag.set ?_ (fun h => by have := M12 h; omega) _ _ | refine Mag.drew ?_ | refine Mag.alloc ?_ _ | refine Mag.drewN ?_ _ | refine Mag.below ?_ (Below.drew (Below.refl _ _)) | refine Mag.below ?_ ((Below.refl _ _).alloc (Nat.le_refl _) _) | exact M12)) (by repeat (with_reducible first | refine Mag.set ?_ (fun h => by have := M22 h; omega) _ _ | refine Mag.drew ?_ | refine Mag.alloc ?_ _ | refine Mag.drewN ?_ _ | refine Mag.below ?_ (Below.drew (Below.refl _ _)) | refine Mag.below ?_ ((Below.refl _ _).alloc (Nat.le_refl _) _) | exact M22))).out.mono ?_; rintro e w3 ⟨rfl, hb3⟩; have Vx3 : DyV w3 b0 bd s (.slice a n cap) e := (by refine DyV.below ?_ hb3; (repeat (with_reducible first | refine DyV.drew ?_ | refine DyV.drewN ?_ _ | refine DyV.alloc ?_ _)); exact Vx2.out); obtain ⟨xc0, xc1, xc2, xc3, xc4, xc5⟩ := Vx3; have Vx3 := Lib.hid (DyV.mk xc0 xc1 xc2 xc3 xc4 xc5); have Vy3 : DyV w3 b1 bd' s' (.slice a' n' cap') e' := (by refine DyV.below ?_ hb3; (repeat (with_reducible first | refine DyV.drew ?_ | refine DyV.drewN ?_ _ | refine DyV.alloc ?_ _)); exact Vy2.out); obtain ⟨yc0, yc1, yc2, yc3, yc4, yc5⟩ := Vy3; have Vy3 := Lib.hid (DyV.mk yc0 yc1 yc2 yc3 yc4 yc5); have M13 : Mag w3 a1 (nl (dman d).natAbs) c1 (dman d).natAbs := Mag.below (by repeat (with_reducible first | refine Mag.set ?_ (fun h => by have := M12 h; omega) _ _ | refine Mag.drew ?_ | refine Mag.alloc ?_ _ | refine Mag.drewN ?_ _ | refine Mag.below ?_ (Below.drew (Below.refl _ _)) | refine Mag.below ?_ ((Below.refl _ _).alloc (Nat.le_refl _) _) | exact M12)) hb3; have M23 : Mag w3 a2 (nl (dman d').natAbs) c2 (dman d').natAbs := Mag.below (by repeat (with_reducible first | refine Mag.set ?_ (fun h => by have := M22 h; omega) _ _ | refine Mag.drew ?_ | refine Mag.alloc ?_ _ | refine Mag.drewN ?_ _ | refine Mag.below ?_ (Below.drew (Below.refl _ _)) | refine Mag.below ?_ ((Below.refl _ _).alloc (Nat.le_refl _) _) | exact M22)) hb3; have B3 := below_box (w := w) (by have hszw := (B2).size; repeat (with_reducible first | refine Below.setCell ?_ (by first | omega | (simp <;> omega)) _ | refine Below.alloc ?_ (by first | omega | (simp <;> omega)) _ | refine Below.drew ?_ | refine below_drewN ?_ _ | exact B2)) hb3; clear hb3)
        | (go_at_call 60; have xx := B1; refine (HM _ (hy.below (by have hszw := (B1).size; repeat (with_reducible first | refine Below.setCell ?_ (by first | omega | (simp <;> omega)) _ | refine Below.alloc ?_ (by first | omega | (simp <;> omega)) _ | refine Below.drew ?_ | refine below_drewN ?_ _ | exact B1))) (hT.below (by have hszw := (B1).size; repeat (with_reducible first | refine Below.setCell ?_ (by first | omega | (simp <;> omega)) _ | refine Below.alloc ?_ (by first | omega | (simp <;> omega)) _ | refine Below.drew ?_ | refine below_drewN ?_ _ | exact B1)))).out.mono ?_; rintro e w2 ⟨a2, c2, rfl, M22, hb2, hf2⟩; have Vx2 : DyV w2 b0 bd s (.slice a n cap) e := (by refine DyV.below ?_ hb2; (repeat (with_reducible first | refine DyV.drew ?_ | refine DyV.drewN ?_ _ | refine DyV.alloc ?_ _)); exact Vx1.out); obtain ⟨xc0, xc1, xc2, xc3, xc4, xc5⟩ := Vx2; have Vx2 := Lib.hid (DyV.mk xc0 xc1 xc2 xc3 xc4 xc5); have Vy2 : DyV w2 b1 bd' s' (.slice a' n' cap') e' := (by refine DyV.below ?_ hb2; (repeat (with_reducible first | refine DyV.drew ?_ | refine DyV.drewN ?_ _ | refine DyV.alloc ?_ _)); exact Vy1.out); obtain ⟨yc0, yc1, yc2, yc3, yc4, yc5⟩ := Vy2; have Vy2 := Lib.hid (DyV.mk yc0 yc1 yc2 yc3 yc4 yc5); have M12 : Mag w2 a1 (nl (dman d).natAbs) c1 (dman d).natAbs := Mag.below (by repeat (with_reducible first | refine Mag.set ?_ (fun h => by have := M11 h; omega) _ _ | refine Mag.drew ?_ | refine Mag.alloc ?_ _ | refine Mag.drewN ?_ _ | refine Mag.below ?_ (Below.drew (Below.refl _ _)) | refine Mag.below ?_ ((Below.refl _ _).alloc (Nat.le_refl _) _) | exact M11)) hb2; have B2 := below_box (w := w) (by have hszw := (B1).size; repeat (with_reducible first | refine Below.setCell ?_ (by first | omega | (simp <;> omega)) _ | refine Below.alloc ?_ (by first | omega | (simp <;> omega)) _ | refine Below.drew ?_ | refine below_drewN ?_ _ | exact B1)) hb2; clear hb2; clear hf2)
        | (go_at_call 60; refine (HN _ (hx.below (by have hszw := (B0).size; repeat (with_reducible first | refine Below.setCell ?_ (by first | omega | (simp <;> omega)) _ | refine Below.alloc ?_ (by first | omega | (simp <;> omega)) _ | refine Below.drew ?_ | refine below_drewN ?_ _ | exact B0))) (hT.below (by have hszw := (B0).size; repeat (with_reducible first | refine Below.setCell ?_ (by first | omega | (simp <;> omega)) _ | refine Below.alloc ?_ (by first | omega | (simp <;> omega)) _ | refine Below.drew ?_ | refine below_drewN ?_ _ | exact B0)))).out.mono ?_; rintro e w1 ⟨a1, c1, rfl, M11, hb1, hf1⟩; have Vx1 : DyV w1 b0 bd s (.slice a n cap) e := (by refine DyV.below ?_ hb1; (repeat (with_reducible first | refine DyV.drew ?_ | refine DyV.drewN ?_ _ | refine DyV.alloc ?_ _)); exact Vx0.out); obtain ⟨xc0, xc1, xc2, xc3, xc4, xc5⟩ := Vx1; have Vx1 := Lib.hid (DyV.mk xc0 xc1 xc2 xc3 xc4 xc5); have Vy1 : DyV w1 b1 bd' s' (.slice a' n' cap') e' := (by refine DyV.below ?_ hb1; (repeat (with_reducible first | refine DyV.drew ?_ | refine DyV.drewN ?_ _ | refine DyV.alloc ?_ _)); exact Vy0.out); obtain ⟨yc0, yc1, yc2, yc3, yc4, yc5⟩ := Vy1; have Vy1 := Lib.hid (DyV.mk yc0 yc1 yc2 yc3 yc4 yc5); have B1 := below_box (w := w) (by have hszw := (B0).size; repeat (with_reducible first | refine Below.setCell ?_ (by first | omega | (simp <;> omega)) _ | refine Below.alloc ?_ (by first | omega | (simp <;> omega)) _ | refine Below.drew ?_ | refine below_drewN ?_ _ | exact B0)) hb1; clear hb1; clear hf1)
        | fail)
  | fail "region"
  all_goals go_wp2_with fail
  all_goals (
    go_ret
    exact ⟨rfl, (by have hszw := (B3).size; repeat (with_reducible first | refine Below.setCell ?_ (by first | omega | (simp <;> omega)) _ | refine Below.alloc ?_ (by first | omega | (simp <;> omega)) _ | refine Below.drew ?_ | refine below_drewN ?_ _ | exact B3))⟩)

set_option maxRecDepth 100000 in
set_option maxHeartbeats 2000000 in
theorem bits_any (w : World) (bd s : Bool) (a : Option Addr) (n cap x : Nat) (e : Int) (hx : Mag w a n cap x) (hlim : n ≤ 1099511627776) :
    Calls Tryd.prog 26 #[.agg #[.bool bd, .bool s, .slice a n cap, .int .i64 e]] w fun o w' => o = .returned (.int .i64 (blen x)) ∧ Below w.heap.size w w' := by
  have HB := fun W h => Lib.hid (rbitlen_any W s a n cap x h hlim)
  go_enter Tryd.func26, Tryd.ntmps26
  go_wp2_with fail
  refine (HB _ (hx.below (by repeat (with_reducible first | refine Below.setCell ?_ (by simp <;> omega) _ | refine Below.alloc ?_ (by simp <;> omega) _ | refine Below.drew ?_ | refine below_drewN ?_ _ | exact Below.refl _ _)))).out.mono ?_
  rintro e w1 ⟨rfl, hb⟩
  have hbw := below_box (w := w) (by repeat (with_reducible first | refine Below.setCell ?_ (by simp <;> omega) _ | refine Below.alloc ?_ (by simp <;> omega) _ | refine Below.drew ?_ | refine below_drewN ?_ _ | exact Below.refl _ _)) hb
  go_wp2_with fail
  go_ret
  exact ⟨rfl, (by have hszw := (hbw).size; repeat (with_reducible first | refine Below.setCell ?_ (by first | omega | (simp <;> omega)) _ | refine Below.alloc ?_ (by first | omega | (simp <;> omega)) _ | refine Below.drew ?_ | refine below_drewN ?_ _ | exact hbw))⟩

end Go.Proofs.YtjhngehajahbnaaDoor


/-
  Walks: package dyad: FromInt, precise, Log2, Sub.
-/
import Derived.Test.YtjhngehajahbnaaDoorOpb
namespace Go.Proofs.YtjhngehajahbnaaDoor
open Go.RowKit Sp

set_option maxRecDepth 100000 in
set_option maxHeartbeats 2000000 in
theorem dfromInt_any (w : World) (n : Int) (hT : Tab w) (h0 : -9223372036854775808 ≤ n) (h1 : n ≤ 9223372036854775807) :
    Calls Tryd.prog 36 #[.int .i64 n] w (RetDy w (nrm n 0)) := by
  have hb : blen n.natAbs ≤ 64 := blen_le (by omega)
  have HI := fun W => Lib.hid (fromInt_any W n h0 h1)
  have HM := fun W b c h ht => Lib.hid (make_z W b c n 0 _ rfl h ht (by omega) (by omega) (by omega))
  generalize nrm n 0 = d at HM ⊢
  clear hb h0 h1
  go_enter Tryd.func36, Tryd.ntmps36
  go_wp2_with fail
  refine (HI _).out.mono ?_
  rintro e w1 ⟨a1, c1, rfl, hm1, hb, hf1⟩
  obtain ⟨hc1, hz1⟩ := bcell (hb.mono (show w.heap.size + 1 ≤ _ by simp))
  have hg1 : w.heap.size + 1 ≤ w1.heap.size := by have := hb.size; simpa using this
  have hbw := below_box (w := w) (by repeat (with_reducible first | refine Below.setCell ?_ (by simp <;> omega) _ | refine Below.alloc ?_ (by simp <;> omega) _ | refine Below.drew ?_ | refine below_drewN ?_ _ | exact Below.refl _ _)) hb
  go_wp2_with fail
  refine (HM _ a1 c1 hm1 (hT.below hbw)).out.mono ?_
  rintro e w2 ⟨a2, c2, rfl, hm2, hb2, hf2⟩
  obtain ⟨hc2, hz2⟩ := bcell (hb2.mono hg1)
  have hfr2 : 0 < nl (dman d).natAbs → w.heap.size + 1 ≤ ab a2 := fun h => by have := hf2 h; omega
  have hbw2 := below_box (w := w) hbw hb2
  clear hbw
  have hbw := hbw2
  go_wp2_with fail
  refine bodyPost_ret (v := .agg #[.bool (dbad d), .bool (decide (dman d < 0)), .slice a2 (nl (dman d).natAbs) c2, .int .i64 (dexp d)]) (by simp only [results, Tryd.results36]; go_simp) rfl ?_
  exact ⟨a2, c2, rfl, (by repeat (with_reducible first | refine Mag.set ?_ (fun h => by have := hfr2 h; omega) _ _ | refine Mag.drew ?_ | refine Mag.alloc ?_ _ | refine Mag.drewN ?_ _ | refine Mag.below ?_ (Below.drew (Below.refl _ _)) | refine Mag.below ?_ ((Below.refl _ _).alloc (Nat.le_refl _) _) | exact hm2)), (by have hszw := hbw.size; repeat (with_reducible first | refine Below.setCell ?_ (by first | omega | (simp <;> omega)) _ | refine Below.alloc ?_ (by first | omega | (simp <;> omega)) _ | refine Below.drew ?_ | refine below_drewN ?_ _ | exact hbw)), fun h => by have := hfr2 h; omega⟩

set_option maxRecDepth 100000 in
set_option maxHeartbeats 2000000 in
theorem precise_any (w : World) (p : Int) :
    Calls Tryd.prog 54 #[.int .i64 p] w fun o w' => o = .returned (.bool (prc p)) ∧ w = w' := by
  unfold prc
  cases h : decide (1 ≤ p)
  · have h' : ¬ 1 ≤ p := by simpa using h
    go_enter Tryd.func54, Tryd.ntmps54
    go_wp2_with fail
    go_ret
    exact ⟨rfl, rfl⟩
  · have h' : 1 ≤ p := by simpa using h
    go_enter Tryd.func54, Tryd.ntmps54
    go_wp2_with fail
    go_ret
    exact ⟨by simp, rfl⟩

/-- is a dyad a number other than zero -/
def dnz (d : Option (Int × Int)) : Bool := !dbad d && !decide (dman d = 0)

set_option maxRecDepth 100000 in
set_option maxHeartbeats 2000000 in
theorem dlog_bad (w : World) (bd s : Bool) (a : Option Addr) (n cap : Nat) (e : Int) (hx : DyIn w bd s a n cap e none) (hT : Tab w) :
    Calls Tryd.prog 15 #[.agg #[.bool bd, .bool s, .slice a n cap, .int .i64 e]] w fun o w' => o = .returned (.tuple #[.int .i64 0, .bool false]) ∧ Below w.heap.size w w' := by
  have HN := fun W h ht => Lib.hid (@norm_v W bd s a n cap e none h ht true 0 0 rfl rfl rfl)
  go_enter Tryd.func15, Tryd.ntmps15
  go_wp2_with fail
  refine (HN _ (hx.below (by repeat (with_reducible first | refine Below.setCell ?_ (by simp <;> omega) _ | refine Below.alloc ?_ (by simp <;> omega) _ | refine Below.drew ?_ | refine below_drewN ?_ _ | exact Below.refl _ _))) (hT.below (by repeat (with_reducible first | refine Below.setCell ?_ (by simp <;> omega) _ | refine Below.alloc ?_ (by simp <;> omega) _ | refine Below.drew ?_ | refine below_drewN ?_ _ | exact Below.refl _ _)))).out.mono ?_
  rintro e w1 ⟨a1, c1, rfl, hm1, hb, hf1⟩
  obtain ⟨hc1, hz1⟩ := bcell (hb.mono (show w.heap.size + 1 ≤ _ by simp))
  have hbw := below_box (w := w) (by repeat (with_reducible first | refine Below.setCell ?_ (by simp <;> omega) _ | refine Below.alloc ?_ (by simp <;> omega) _ | refine Below.drew ?_ | refine below_drewN ?_ _ | exact Below.refl _ _)) hb
  go_wp2_with fail
  refine bodyPost_ret2 (v := .tuple #[.int .i64 0, .bool false]) (by simp only [results, Tryd.results15]; go_simp) rfl ?_
  exact ⟨rfl, (by have hszw := hbw.size; repeat (with_reducible first | refine Below.setCell ?_ (by first | omega | (simp <;> omega)) _ | refine Below.alloc ?_ (by first | omega | (simp <;> omega)) _ | refine Below.drew ?_ | refine below_drewN ?_ _ | exact hbw))⟩

set_option maxRecDepth 100000 in
set_option maxHeartbeats 2000000 in
theorem dlog_zero (w : World) (bd s : Bool) (a : Option Addr) (n cap : Nat) (e f : Int) (hx : DyIn w bd s a n cap e (some (0, f))) (hT : Tab w) :
    Calls Tryd.prog 15 #[.agg #[.bool bd, .bool s, .slice a n cap, .int .i64 e]] w fun o w' => o = .returned (.tuple #[.int .i64 0, .bool false]) ∧ Below w.heap.size w w' := by
  have HN := fun W h ht => Lib.hid (@norm_v W bd s a n cap e (some (0, f)) h ht false 0 f rfl rfl rfl)
  obtain ⟨z, hz⟩ : ∃ z : Int, z = 0 := ⟨_, rfl⟩
  rw [← hz] at HN hx
  have HG := fun W b c h => Lib.hid (sign_z W b c z h)
  rw [show sg z = 0 by rw [hz]; rfl] at HG
  clear hz
  go_enter Tryd.func15, Tryd.ntmps15
  go_wp2_with fail
  refine (HN _ (hx.below (by repeat (with_reducible first | refine Below.setCell ?_ (by simp <;> omega) _ | refine Below.alloc ?_ (by simp <;> omega) _ | refine Below.drew ?_ | refine below_drewN ?_ _ | exact Below.refl _ _))) (hT.below (by repeat (with_reducible first | refine Below.setCell ?_ (by simp <;> omega) _ | refine Below.alloc ?_ (by simp <;> omega) _ | refine Below.drew ?_ | refine below_drewN ?_ _ | exact Below.refl _ _)))).out.mono ?_
  rintro e w1 ⟨a1, c1, rfl, hm1, hb, hf1⟩
  obtain ⟨hc1, hz1⟩ := bcell (hb.mono (show w.heap.size + 1 ≤ _ by simp))
  have hfr1 : 0 < nl z.natAbs → w.heap.size + 1 ≤ ab a1 := fun h => by have := hf1 h; simpa using this
  have hbw := below_box (w := w) (by repeat (with_reducible first | refine Below.setCell ?_ (by simp <;> omega) _ | refine Below.alloc ?_ (by simp <;> omega) _ | refine Below.drew ?_ | refine below_drewN ?_ _ | exact Below.refl _ _)) hb
  go_wp2_with fail
  refine (HG _ a1 c1 (by repeat (with_reducible first | refine Mag.set ?_ (fun h => by have := hfr1 h; omega) _ _ | refine Mag.drew ?_ | refine Mag.alloc ?_ _ | refine Mag.drewN ?_ _ | refine Mag.below ?_ (Below.drew (Below.refl _ _)) | refine Mag.below ?_ ((Below.refl _ _).alloc (Nat.le_refl _) _) | exact hm1))).out.mono ?_
  rintro e w2 ⟨rfl, hb2⟩
  have hbw2 := below_box (w := w) (by have hszw := hbw.size; repeat (with_reducible first | refine Below.setCell ?_ (by first | omega | (simp <;> omega)) _ | refine Below.alloc ?_ (by first | omega | (simp <;> omega)) _ | refine Below.drew ?_ | refine below_drewN ?_ _ | exact hbw)) hb2
  clear hbw
  have hbw := hbw2
  go_wp2_with fail
  refine bodyPost_ret2 (v := .tuple #[.int .i64 0, .bool false]) (by simp only [results, Tryd.results15]; go_simp) rfl ?_
  exact ⟨rfl, (by have hszw := hbw.size; repeat (with_reducible first | refine Below.setCell ?_ (by first | omega | (simp <;> omega)) _ | refine Below.alloc ?_ (by first | omega | (simp <;> omega)) _ | refine Below.drew ?_ | refine below_drewN ?_ _ | exact hbw))⟩

theorem bitlen_z (w : World) (a : Option Addr) (cap : Nat) (z : Int) (hm : Mag w a (nl z.natAbs) cap z.natAbs) (hl : nl z.natAbs ≤ 1099511627776) :
    Calls Tryd.prog 46 #[.agg #[.bool (decide (z < 0)), .slice a (nl z.natAbs) cap]] w fun e w' => e = .returned (.int .i64 (blen z.natAbs)) ∧ Below w.heap.size w w' :=
  bitlen_any w (decide (z < 0)) a _ cap _ hm hl

set_option maxRecDepth 100000 in
set_option maxHeartbeats 2000000 in
theorem dlog_nz (w : World) (bd s : Bool) (a : Option Addr) (n cap : Nat) (e z f k : Int) (hx : DyIn w bd s a n cap e (some (z, f))) (hz0 : z ≠ 0) (hT : Tab w) (hk : k = f + blen z.natAbs - 1) :
    Calls Tryd.prog 15 #[.agg #[.bool bd, .bool s, .slice a n cap, .int .i64 e]] w fun o w' => o = .returned (.tuple #[.int .i64 k, .bool true]) ∧ Below w.heap.size w w' := by
  obtain ⟨hbl, hf0, hf1⟩ := isN_bounds hx.isN
  simp only [dman, dexp, Option.getD_some] at hbl hf0 hf1
  have hl := nl_lim (Nat.le_trans hbl (by omega))
  have HN := fun W h ht => Lib.hid (@norm_v W bd s a n cap e (some (z, f)) h ht false z f rfl rfl rfl)
  have HG := fun W b c h => Lib.hid (sign_z W b c z h)
  have HB := fun W b c h => Lib.hid (bitlen_z W b c z h hl)
  obtain ⟨g, hg⟩ : ∃ g, g = sg z := ⟨_, rfl⟩
  rw [← hg] at HG
  have hg0 : decide (g = 0) = false := by
    subst hg; unfold sg cmpI; simp; split <;> (try split) <;> omega
  have hge : (g == 0) = false := by simpa using hg0
  have hwr : IntKind.i64.wrap (IntKind.i64.wrap (f + (blen z.natAbs : Int)) - 1) = k := by rw [IntKind.wrap_i64, IntKind.wrap_i64]; omega
  clear hg hk hz0
  go_enter Tryd.func15, Tryd.ntmps15
  go_wp2_with fail
  refine (HN _ (hx.below (by repeat (with_reducible first | refine Below.setCell ?_ (by simp <;> omega) _ | refine Below.alloc ?_ (by simp <;> omega) _ | refine Below.drew ?_ | refine below_drewN ?_ _ | exact Below.refl _ _))) (hT.below (by repeat (with_reducible first | refine Below.setCell ?_ (by simp <;> omega) _ | refine Below.alloc ?_ (by simp <;> omega) _ | refine Below.drew ?_ | refine below_drewN ?_ _ | exact Below.refl _ _)))).out.mono ?_
  rintro e w1 ⟨a1, c1, rfl, hm1, hb, hf1⟩
  obtain ⟨hc1, hz1⟩ := bcell (hb.mono (show w.heap.size + 1 ≤ _ by simp))
  have hg1 : w.heap.size + 1 ≤ w1.heap.size := by have := hb.size; simpa using this
  have hfr1 : 0 < nl z.natAbs → w.heap.size + 1 ≤ ab a1 := fun h => by have := hf1 h; simpa using this
  have hbw := below_box (w := w) (by repeat (with_reducible first | refine Below.setCell ?_ (by simp <;> omega) _ | refine Below.alloc ?_ (by simp <;> omega) _ | refine Below.drew ?_ | refine below_drewN ?_ _ | exact Below.refl _ _)) hb
  go_wp2_with fail
  refine (HG _ a1 c1 (by repeat (with_reducible first | refine Mag.set ?_ (fun h => by have := hfr1 h; omega) _ _ | refine Mag.drew ?_ | refine Mag.alloc ?_ _ | refine Mag.drewN ?_ _ | refine Mag.below ?_ (Below.drew (Below.refl _ _)) | refine Mag.below ?_ ((Below.refl _ _).alloc (Nat.le_refl _) _) | exact hm1))).out.mono ?_
  rintro e w2 ⟨rfl, hb2⟩
  obtain ⟨hc2, hz2⟩ := bcell (hb2.mono (show w.heap.size + 1 ≤ _ by simpa using hg1))
  have hm2 : Mag w2 a1 (nl z.natAbs) c1 z.natAbs := Mag.below (by repeat (with_reducible first | refine Mag.set ?_ (fun h => by have := hfr1 h; omega) _ _ | refine Mag.drew ?_ | refine Mag.alloc ?_ _ | refine Mag.drewN ?_ _ | refine Mag.below ?_ (Below.drew (Below.refl _ _)) | refine Mag.below ?_ ((Below.refl _ _).alloc (Nat.le_refl _) _) | exact hm1)) hb2
  have hbw2 := below_box (w := w) (by have hszw := hbw.size; repeat (with_reducible first | refine Below.setCell ?_ (by first | omega | (simp <;> omega)) _ | refine Below.alloc ?_ (by first | omega | (simp <;> omega)) _ | refine Below.drew ?_ | refine below_drewN ?_ _ | exact hbw)) hb2
  clear hbw
  have hbw := hbw2
  obtain ⟨q0, q1, q2, q3⟩ : w2.cell? ⟨w.heap.size, 0, none⟩ = some (.bool false) ∧ w2.cell? ⟨w.heap.size, 1, none⟩ = some (.bool (decide (z < 0))) ∧ w2.cell? ⟨w.heap.size, 2, none⟩ = some (.slice a1 (nl z.natAbs) c1) ∧ w2.cell? ⟨w.heap.size, 3, none⟩ = some (.int .i64 f) := by
    refine ⟨?_, ?_, ?_, ?_⟩ <;> go_simp
  clear hc1 hc2 hz1 hz2
  go_wp2_with fail
  go_region_held3 (fun w' => w'.cell? ⟨w.heap.size, 1, none⟩ = some (.bool (decide (z < 0))) ∧ w'.cell? ⟨w.heap.size, 2, none⟩ = some (.slice a1 (nl z.natAbs) c1) ∧ w'.cell? ⟨w.heap.size, 3, none⟩ = some (.int .i64 f)) (first | (go_keep; done) | (go_simp; done))
    (first | (go_at_call 46; refine (HB _ a1 c1 (by repeat (with_reducible first | refine Mag.set ?_ (fun h => by have := hfr1 h; omega) _ _ | refine Mag.drew ?_ | refine Mag.alloc ?_ _ | refine Mag.drewN ?_ _ | refine Mag.below ?_ (Below.drew (Below.refl _ _)) | refine Mag.below ?_ ((Below.refl _ _).alloc (Nat.le_refl _) _) | exact hm2))).out.mono ?_; rintro e w3 ⟨rfl, hb3⟩; obtain ⟨hc3, hz3⟩ := bcell (hb3.mono (show w.heap.size + 1 ≤ _ by have := hb2.size; simp at this ⊢; omega))))
  have hbw3 := below_box (w := w) (by have hszw := hbw.size; repeat (with_reducible first | refine Below.setCell ?_ (by first | omega | (simp <;> omega)) _ | refine Below.alloc ?_ (by first | omega | (simp <;> omega)) _ | refine Below.drew ?_ | refine below_drewN ?_ _ | exact hbw)) hb3
  clear hbw
  have hbw := hbw3
  go_wp2_with fail
  refine bodyPost_ret2 (v := .tuple #[.int .i64 k, .bool true]) (by simp only [results, Tryd.results15]; go_simp) rfl ?_
  exact ⟨rfl, (by have hszw := hbw.size; repeat (with_reducible first | refine Below.setCell ?_ (by first | omega | (simp <;> omega)) _ | refine Below.alloc ?_ (by first | omega | (simp <;> omega)) _ | refine Below.drew ?_ | refine below_drewN ?_ _ | exact hbw))⟩

theorem dlog_any (w : World) (bd s : Bool) (a : Option Addr) (n cap : Nat) (e : Int) (d : Option (Int × Int)) (hx : DyIn w bd s a n cap e d) (hT : Tab w) :
    Calls Tryd.prog 15 #[.agg #[.bool bd, .bool s, .slice a n cap, .int .i64 e]] w fun o w' => o = .returned (.tuple #[.int .i64 (dlog d), .bool (dnz d)]) ∧ Below w.heap.size w w' := by
  rcases d with _ | ⟨z, f⟩
  · exact dlog_bad w bd s a n cap e hx hT
  · by_cases h : z = 0
    · subst h
      exact dlog_zero w bd s a n cap e f hx hT
    · have e1 : dnz (some (z, f)) = true := by unfold dnz dman dbad; simp [h]
      have e2 : dlog (some (z, f)) = f + blen z.natAbs - 1 := by simp [dlog, h]
      rw [e1]
      exact dlog_nz w bd s a n cap e z f _ hx h hT e2

set_option maxRecDepth 100000 in
set_option maxHeartbeats 2000000 in
theorem dsub_any (w : World) (bd s bd' s' : Bool) (a a' : Option Addr) (n n' cap cap' : Nat) (e e' : Int) (d d' : Option (Int × Int)) (hx : DyIn w bd s a n cap e d) (hy : DyIn w bd' s' a' n' cap' e' d') (hT : Tab w) :
    Calls Tryd.prog 30 #[.agg #[.bool bd, .bool s, .slice a n cap, .int .i64 e], .agg #[.bool bd', .bool s', .slice a' n' cap', .int .i64 e']] w (RetDy w (dsub d d')) := by
  have HN := fun W h ht => Lib.hid (dneg_any W bd' s' a' n' cap' e' d' h ht)
  have hny : IsN (dneg d') := isN_neg hy.isN
  unfold dsub
  generalize dneg d' = g at HN hny ⊢
  have HA := fun W b c hx hm ht => Lib.hid (dadd_any W bd s (dbad g) (decide (dman g < 0)) a b n _ cap c e (dexp g) d g hx (dyin_of hny hm) ht)
  generalize dadd d g = v at HA ⊢
  have e1 : ¬ w.heap.size + 1 = w.heap.size := by omega
  have e2 : ¬ w.heap.size + 1 + 1 = w.heap.size := by omega
  have l2 : w.heap.size < w.heap.size + 1 + 1 := by omega
  go_enter Tryd.func30, Tryd.ntmps30
  go_wp2_with fail
  go_region_held3 (fun w' => w'.cell? ⟨w.heap.size, 0, none⟩ = some (.bool bd) ∧ w'.cell? ⟨w.heap.size, 1, none⟩ = some (.bool s) ∧ w'.cell? ⟨w.heap.size, 2, none⟩ = some (.slice a n cap) ∧ w'.cell? ⟨w.heap.size, 3, none⟩ = some (.int .i64 e)
      ∧ w'.cell? ⟨w.heap.size + 1, 0, none⟩ = some (.bool bd') ∧ w'.cell? ⟨w.heap.size + 1, 1, none⟩ = some (.bool s') ∧ w'.cell? ⟨w.heap.size + 1, 2, none⟩ = some (.slice a' n' cap') ∧ w'.cell? ⟨w.heap.size + 1, 3, none⟩ = some (.int .i64 e')) (first | (go_keep; done) | (go_simp; done))
    (first
      | (go_at_call 32; refine (HN _ (hy.below (by repeat (with_reducible first | refine Below.setCell ?_ (by simp <;> omega) _ | refine Below.alloc ?_ (by simp <;> omega) _ | refine Below.drew ?_ | refine below_drewN ?_ _ | exact Below.refl _ _))) (hT.below (by repeat (with_reducible first | refine Below.setCell ?_ (by simp <;> omega) _ | refine Below.alloc ?_ (by simp <;> omega) _ | refine Below.drew ?_ | refine below_drewN ?_ _ | exact Below.refl _ _)))).out.mono ?_; rintro e w1 ⟨a1, c1, rfl, hm1, hb1, hf1⟩; obtain ⟨hc1, hz1⟩ := bcell (hb1.mono (show w.heap.size + 3 ≤ _ by simp)); have hg1 : w.heap.size + 3 ≤ w1.heap.size := (by have := hb1.size; simpa using this); have hbw := below_box (w := w) (by repeat (with_reducible first | refine Below.setCell ?_ (by simp <;> omega) _ | refine Below.alloc ?_ (by simp <;> omega) _ | refine Below.drew ?_ | refine below_drewN ?_ _ | exact Below.refl _ _)) hb1)
      | (go_at_call 11; refine (HA _ a1 c1 (hx.below (by have hszw := hbw.size; repeat (with_reducible first | refine Below.setCell ?_ (by first | omega | (simp <;> omega)) _ | refine Below.alloc ?_ (by first | omega | (simp <;> omega)) _ | refine Below.drew ?_ | refine below_drewN ?_ _ | exact hbw))) (Mag.below hm1 (by repeat (with_reducible first | refine Below.setCell ?_ (by simp <;> omega) _ | refine Below.alloc ?_ (by simp <;> omega) _ | refine Below.drew ?_ | refine below_drewN ?_ _ | exact Below.refl _ _))) (hT.below (by have hszw := hbw.size; repeat (with_reducible first | refine Below.setCell ?_ (by first | omega | (simp <;> omega)) _ | refine Below.alloc ?_ (by first | omega | (simp <;> omega)) _ | refine Below.drew ?_ | refine below_drewN ?_ _ | exact hbw)))).out.mono ?_; rintro e w2 ⟨a2, c2, rfl, hm2, hb2, hf2⟩; obtain ⟨hc2, hz2⟩ := bcell (hb2.mono (show w.heap.size + 3 ≤ _ by simpa using hg1))))
  have hfr2 : 0 < nl (dman v).natAbs → w.heap.size + 3 ≤ ab a2 := fun h => by have := hf2 h; (try simp at this); omega
  have hbw2 := below_box (w := w) (by have hszw := hbw.size; repeat (with_reducible first | refine Below.setCell ?_ (by first | omega | (simp <;> omega)) _ | refine Below.alloc ?_ (by first | omega | (simp <;> omega)) _ | refine Below.drew ?_ | refine below_drewN ?_ _ | exact hbw)) hb2
  clear hbw
  have hbw := hbw2
  go_wp2_with fail
  refine bodyPost_ret (v := .agg #[.bool (dbad v), .bool (decide (dman v < 0)), .slice a2 (nl (dman v).natAbs) c2, .int .i64 (dexp v)]) (by simp only [results, Tryd.results30]; go_simp) rfl ?_
  exact ⟨a2, c2, rfl, (by repeat (with_reducible first | refine Mag.set ?_ (fun h => by have := hfr2 h; omega) _ _ | refine Mag.drew ?_ | refine Mag.alloc ?_ _ | refine Mag.drewN ?_ _ | refine Mag.below ?_ (Below.drew (Below.refl _ _)) | refine Mag.below ?_ ((Below.refl _ _).alloc (Nat.le_refl _) _) | exact hm2)), (by have hszw := hbw.size; repeat (with_reducible first | refine Below.setCell ?_ (by first | omega | (simp <;> omega)) _ | refine Below.alloc ?_ (by first | omega | (simp <;> omega)) _ | refine Below.drew ?_ | refine below_drewN ?_ _ | exact hbw)), fun h => by have := hfr2 h; omega⟩

end Go.Proofs.YtjhngehajahbnaaDoor

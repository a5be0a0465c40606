/-
  Walks: package dyad: aligned.
-/
import Derived.Test.YtjhngehajahbnaaDoorOpa
namespace Go.Proofs.YtjhngehajahbnaaDoor
open Go.RowKit Sp

def RetAl (w : World) (x y E : Int) (e : Ending) (w' : World) : Prop :=
  ∃ a c a' c', e = .returned (.tuple #[.agg #[.bool (decide (x < 0)), .slice a (nl x.natAbs) c], .agg #[.bool (decide (y < 0)), .slice a' (nl y.natAbs) c'], .int .i64 E]) ∧ Mag w' a (nl x.natAbs) c x.natAbs ∧ Mag w' a' (nl y.natAbs) c' y.natAbs ∧ Below w.heap.size w w' ∧ (0 < nl x.natAbs → w.heap.size ≤ ab a) ∧ (0 < nl y.natAbs → w.heap.size ≤ ab a')

theorem left_z (w : World) (a : Option Addr) (cap : Nat) (z k y : Int) (hy : y = z * 2 ^ k.toNat) (hm : Mag w a (nl z.natAbs) cap z.natAbs) (hl : nl z.natAbs ≤ 1099511627776) (h0 : 0 ≤ k) (h1 : k ≤ 1048576) :
    Calls Tryd.prog 48 #[.agg #[.bool (decide (z < 0)), .slice a (nl z.natAbs) cap], .int .i64 k] w (RetBig w y) := by
  have h := left_any w (decide (z < 0)) a _ cap _ k hm hl h0 h1
  rwa [sgn_self, show shl z k = y by rw [hy]; unfold shl; rw [if_pos h0]] at h

set_option maxRecDepth 100000 in
set_option maxHeartbeats 2000000 in
theorem aligned_core (w : World) (bd bd' : Bool) (a a' : Option Addr) (c c' : Nat) (z z' f f' E k k' x y : Int) (hx : Mag w a (nl z.natAbs) c z.natAbs) (hy : Mag w a' (nl z'.natAbs) c' z'.natAbs) (hl : nl z.natAbs ≤ 1099511627776) (hl' : nl z'.natAbs ≤ 1099511627776)
    (hE : min f f' = E) (hk : IntKind.i64.wrap (f - E) = k) (hk' : IntKind.i64.wrap (f' - E) = k') (h0 : 0 ≤ k) (h1 : k ≤ 1048576) (h0' : 0 ≤ k') (h1' : k' ≤ 1048576) (hxx : x = z * 2 ^ k.toNat) (hyy : y = z' * 2 ^ k'.toNat) :
    Calls Tryd.prog 42 #[.agg #[.bool bd, .bool (decide (z < 0)), .slice a (nl z.natAbs) c, .int .i64 f], .agg #[.bool bd', .bool (decide (z' < 0)), .slice a' (nl z'.natAbs) c', .int .i64 f']] w (RetAl w x y E) := by
  have HX := fun W h => Lib.hid (left_z W a c z k x hxx h hl h0 h1)
  have HY := fun W h => Lib.hid (left_z W a' c' z' k' y hyy h hl' h0' h1')
  have e1 : ¬ w.heap.size + 1 = w.heap.size := by omega
  have e2 : ¬ w.heap.size + 1 + 1 = w.heap.size := by omega
  have e3 : ¬ w.heap.size + 1 + 1 + 1 = w.heap.size := by omega
  clear h0 h1 h0' h1' hxx hyy
  go_enter Tryd.func42, Tryd.ntmps42
  go_wp2_with fail
  go_region_held3 (fun w' => w'.cell? ⟨w.heap.size, 1, none⟩ = some (.bool (decide (z < 0))) ∧ w'.cell? ⟨w.heap.size, 2, none⟩ = some (.slice a (nl z.natAbs) c) ∧ w'.cell? ⟨w.heap.size, 3, none⟩ = some (.int .i64 f)
      ∧ w'.cell? ⟨w.heap.size + 1, 1, none⟩ = some (.bool (decide (z' < 0))) ∧ w'.cell? ⟨w.heap.size + 1, 2, none⟩ = some (.slice a' (nl z'.natAbs) c') ∧ w'.cell? ⟨w.heap.size + 1, 3, none⟩ = some (.int .i64 f')) (first | (go_keep; done) | (go_simp; done))
    (first
      | (have hbw1x := hb1; go_at_call 48; refine (HY _ (hy.below (by have hszw := hbw.size; repeat (with_reducible first | refine Below.setCell ?_ (by first | omega | (simp <;> omega)) _ | refine Below.alloc ?_ (by first | omega | (simp <;> omega)) _ | refine Below.drew ?_ | refine below_drewN ?_ _ | exact hbw)))).out.mono ?_; rintro e w2 ⟨a2, c2, rfl, hm2, hb2, hf2⟩; obtain ⟨hc2, hz2⟩ := bcell (hb2.mono (show w.heap.size + 4 ≤ _ by simpa using hg1)))
      | (go_at_call 48; refine (HX _ (hx.below (by repeat (with_reducible first | refine Below.setCell ?_ (by simp <;> omega) _ | refine Below.alloc ?_ (by simp <;> omega) _ | refine Below.drew ?_ | refine below_drewN ?_ _ | exact Below.refl _ _)))).out.mono ?_; rintro e w1 ⟨a1, c1, rfl, hm1, hb1, hf1⟩; obtain ⟨hc1, hz1⟩ := bcell (hb1.mono (show w.heap.size + 4 ≤ _ by simp)); have hg1 : w.heap.size + 4 ≤ w1.heap.size := (by have := hb1.size; simpa using this); have hbw := below_box (w := w) (by repeat (with_reducible first | refine Below.setCell ?_ (by simp <;> omega) _ | refine Below.alloc ?_ (by simp <;> omega) _ | refine Below.drew ?_ | refine below_drewN ?_ _ | exact Below.refl _ _)) hb1)
      | fail)
  have hfr1 : 0 < nl x.natAbs → w.heap.size + 4 ≤ ab a1 := fun h => by have := hf1 h; (try simp at this); omega
  have hfr2 : 0 < nl y.natAbs → w.heap.size + 4 ≤ ab a2 := fun h => by have := hf2 h; (try simp at this); omega
  have hm1' : Mag w2 a1 (nl x.natAbs) c1 x.natAbs := Mag.below (by repeat (with_reducible first | refine Mag.set ?_ (fun h => by have := hfr1 h; omega) _ _ | refine Mag.drew ?_ | refine Mag.alloc ?_ _ | refine Mag.drewN ?_ _ | refine Mag.below ?_ (Below.drew (Below.refl _ _)) | refine Mag.below ?_ ((Below.refl _ _).alloc (Nat.le_refl _) _) | exact hm1)) hb2
  have hbw2 := below_box (w := w) (by have hszw := hbw.size; repeat (with_reducible first | refine Below.setCell ?_ (by first | omega | (simp <;> omega)) _ | refine Below.alloc ?_ (by first | omega | (simp <;> omega)) _ | refine Below.drew ?_ | refine below_drewN ?_ _ | exact hbw)) hb2
  clear hbw
  have hbw := hbw2
  go_wp2_with fail
  refine bodyPost_ret2 (v := .tuple #[.agg #[.bool (decide (x < 0)), .slice a1 (nl x.natAbs) c1], .agg #[.bool (decide (y < 0)), .slice a2 (nl y.natAbs) c2], .int .i64 E]) (by simp only [results, Tryd.results42]; go_simp) rfl ?_
  exact ⟨a1, c1, a2, c2, rfl, (by repeat (with_reducible first | refine Mag.set ?_ (fun h => by have := hfr1 h; omega) _ _ | refine Mag.drew ?_ | refine Mag.alloc ?_ _ | refine Mag.drewN ?_ _ | refine Mag.below ?_ (Below.drew (Below.refl _ _)) | refine Mag.below ?_ ((Below.refl _ _).alloc (Nat.le_refl _) _) | exact hm1')), (by repeat (with_reducible first | refine Mag.set ?_ (fun h => by have := hfr2 h; omega) _ _ | refine Mag.drew ?_ | refine Mag.alloc ?_ _ | refine Mag.drewN ?_ _ | refine Mag.below ?_ (Below.drew (Below.refl _ _)) | refine Mag.below ?_ ((Below.refl _ _).alloc (Nat.le_refl _) _) | exact hm2)), (by have hszw := hbw.size; repeat (with_reducible first | refine Below.setCell ?_ (by first | omega | (simp <;> omega)) _ | refine Below.alloc ?_ (by first | omega | (simp <;> omega)) _ | refine Below.drew ?_ | refine below_drewN ?_ _ | exact hbw)), fun h => by have := hfr1 h; omega, fun h => by have := hfr2 h; omega⟩

theorem aligned_any (w : World) (bd bd' : Bool) (a a' : Option Addr) (c c' : Nat) (z z' f f' : Int) (hx : Mag w a (nl z.natAbs) c z.natAbs) (hy : Mag w a' (nl z'.natAbs) c' z'.natAbs) (hl : nl z.natAbs ≤ 1099511627776) (hl' : nl z'.natAbs ≤ 1099511627776)
    (h0 : -65536 ≤ f) (h1 : f ≤ 65536) (h0' : -65536 ≤ f') (h1' : f' ≤ 65536) :
    Calls Tryd.prog 42 #[.agg #[.bool bd, .bool (decide (z < 0)), .slice a (nl z.natAbs) c, .int .i64 f], .agg #[.bool bd', .bool (decide (z' < 0)), .slice a' (nl z'.natAbs) c', .int .i64 f']] w (RetAl w (up z f (min f f')) (up z' f' (min f f')) (min f f')) :=
  aligned_core w bd bd' a a' c c' z z' f f' (min f f') (f - min f f') (f' - min f f') _ _ hx hy hl hl' rfl (by rw [IntKind.wrap_i64]; omega) (by rw [IntKind.wrap_i64]; omega) (by omega) (by omega) (by omega) (by omega) rfl rfl

end Go.Proofs.YtjhngehajahbnaaDoor

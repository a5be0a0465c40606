/-
  Walks: package dyad, round.go: Log2 of a real number, Of, cut.
-/
import Derived.Test.YtgicceiimciafaaGreatDoorZwBg
set_option maxRecDepth 100000
set_option maxHeartbeats 2000000
namespace Go.Proofs.YtgicceiimciafaaGreatDoor
open Go.RowKit Sp
def RetRe (w : World) (s : Bool) (x E : Int) (more : Bool) (e : Ending) (w' : World) : Prop :=
 ∃ a c, e = .returned (.agg #[.bool s, .bool (decide (x < 0)), .slice a (nl x.natAbs) c, .int .i64 E, .bool more]) ∧ Mag w' a (nl x.natAbs) c x.natAbs ∧ Below w.heap.size w w' ∧ (0 < nl x.natAbs → w.heap.size ≤ ab a)
theorem rlog2_any (w : World) (s more : Bool) (a : Option Addr) (c : Nat) (x E k : Int) (hx : Mag w a (nl x.natAbs) c x.natAbs) (hl : nl x.natAbs ≤ 1099511627776) (hk : IntKind.i64.wrap (IntKind.i64.wrap (E + (blen x.natAbs : Int)) - 1) = k) :
 Calls Tryz.prog 174 #[.agg #[.bool s, .bool (decide (x < 0)), .slice a (nl x.natAbs) c, .int .i64 E, .bool more]] w fun o w' => o = .returned (.int .i64 k) ∧ Below w.heap.size w w' := by
 have HB := fun W b c h => Lib.hid (bitlen_z W b c x h hl)
 go_enter Tryz.func174, Tryz.ntmps174
 go_wp2_with fail
 go_region_held3 (fun w' => w'.cell? ⟨w.heap.size, 1, none⟩ = some (.bool (decide (x < 0))) ∧ w'.cell? ⟨w.heap.size, 2, none⟩ = some (.slice a (nl x.natAbs) c) ∧ w'.cell? ⟨w.heap.size, 3, none⟩ = some (.int .i64 E)) (first | (go_keep; done) | (go_simp; done))
  (first | (go_at_call 136; refine (HB _ a c (hx.below zbh)).out.mono ?_; rintro e w3 ⟨rfl, hb3⟩; obtain ⟨hc3, hz3⟩ := bcell (hb3.mono (show w.heap.size + 1 ≤ _ by simp))))
 have hbw := below_box (w := w) zbh hb3
 go_wp2_with fail
 go_ret
 exact ⟨rfl, (have := Beh.mk hbw; zbh)⟩
theorem of_any (w : World) (bd : Bool) (a : Option Addr) (c : Nat) (z f y : Int) (hx : Mag w a (nl z.natAbs) c z.natAbs) (hl : nl z.natAbs ≤ 1099511627776) (hy : y = (z.natAbs : Int)) :
 Calls Tryz.prog 145 #[.agg #[.bool bd, .bool (decide (z < 0)), .slice a (nl z.natAbs) c, .int .i64 f]] w (RetRe w (decide (z < 0)) y f false) := by
 have HA := fun W b c h => Lib.hid (abs_z W b c z y hy h hl)
 clear hy
 have e1 : ¬ w.heap.size + 1 = w.heap.size := by omega
 go_enter Tryz.func145, Tryz.ntmps145
 go_wp2_with fail
 go_region_held3 (fun w' => w'.cell? ⟨w.heap.size, 1, none⟩ = some (.bool (decide (z < 0))) ∧ w'.cell? ⟨w.heap.size, 2, none⟩ = some (.slice a (nl z.natAbs) c) ∧ w'.cell? ⟨w.heap.size, 3, none⟩ = some (.int .i64 f)) (first | (go_keep; done) | (go_simp; done))
  (first | (go_at_call 176; refine (HA _ a c (hx.below zbh)).out.mono ?_; rintro e w1 ⟨a1, c1, rfl, hm1, hb1, hf1⟩; obtain ⟨hc1, hz1⟩ := bcell (hb1.mono (show w.heap.size + 2 ≤ _ by simp))))
 have hfr1 : 0 < nl y.natAbs → w.heap.size + 2 ≤ ab a1 := fun h => by have := hf1 h; (try simp at this); omega
 have hbw := below_box (w := w) zbh hb1
 go_wp2_with fail
 refine bodyPost_ret (v := .agg #[.bool (decide (z < 0)), .bool (decide (y < 0)), .slice a1 (nl y.natAbs) c1, .int .i64 f, .bool false]) (by simp only [results, Tryz.results145]; go_simp) rfl ?_
 exact ⟨a1, c1, rfl, (by repeat (with_reducible first | refine Mag.set ?_ (fun h => by have := hfr1 h; omega) _ _ | refine Mag.drew ?_ | refine Mag.alloc ?_ _ | refine Mag.drewN ?_ _ | refine Mag.below ?_ (Below.drew (Below.refl _ _)) | refine Mag.below ?_ ((Below.refl _ _).alloc (Nat.le_refl _) _) | exact hm1)), (by have hszw := hbw.size; repeat (with_reducible first | refine Below.setCell ?_ (by first | omega | (simp <;> omega)) _ | refine Below.alloc ?_ (by first | omega | (simp <;> omega)) _ | refine Below.drew ?_ | refine below_drewN ?_ _ | exact hbw)), fun h => by have := hfr1 h; omega⟩
def RetCut (w : World) (n c : Int) (ex : Bool) (e : Ending) (w' : World) : Prop :=
 ∃ a cap, e = .returned (.tuple #[.agg #[.bool (decide (n < 0)), .slice a (nl n.natAbs) cap], .int .i64 c, .bool ex]) ∧ Mag w' a (nl n.natAbs) cap n.natAbs ∧ Below w.heap.size w w' ∧ (0 < nl n.natAbs → w.heap.size ≤ ab a)
theorem cut_far (w : World) (s more : Bool) (a : Option Addr) (c : Nat) (x E k : Int) (hx : Mag w a (nl x.natAbs) c x.natAbs) (hl : nl x.natAbs ≤ 1099511627776) (hk : (blen x.natAbs : Int) < k) :
 Calls Tryz.prog 197 #[.agg #[.bool s, .bool (decide (x < 0)), .slice a (nl x.natAbs) c, .int .i64 E, .bool more], .int .i64 k] w (RetCut w 0 (-1) false) := by
 have HB := fun W b c h => Lib.hid (bitlen_z W b c x h hl)
 have e1 : ¬ w.heap.size + 1 = w.heap.size := by omega
 go_enter Tryz.func197, Tryz.ntmps197
 go_wp2_with fail
 refine (HB _ a c (hx.below zbh)).out.mono ?_
 rintro e w1 ⟨rfl, hb1⟩
 obtain ⟨hc1, hz1⟩ := bcell (hb1.mono (show w.heap.size + 2 ≤ _ by simp))
 have hbw := below_box (w := w) zbh hb1
 go_wp2_with fail
 refine bodyPost_ret2 (v := .tuple #[.agg #[.bool false, .slice none 0 0], .int .i64 (-1), .bool false]) (by simp only [results, Tryz.results197]; go_simp) rfl ?_
 exact ⟨none, 0, rfl, Mag.nil _, (have := Beh.mk hbw; zbh), nl0⟩
end Go.Proofs.YtgicceiimciafaaGreatDoor

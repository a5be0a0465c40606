/-
  Walks: package dyad, round.go: fixed, Round.
-/
import Derived.Test.YtjhngehajahbnaaDoorMu
namespace Go.Proofs.YtjhngehajahbnaaDoor
open Go.RowKit Sp

theorem multiple_any (w : World) (s more : Bool) (a : Option Addr) (c : Nat) (x : Nat) (E q mode v : Int) (hx : Mag w a (nl x) c x) (hx0 : 0 < x) (hxl : blen x ≤ 524288) (hq0 : E - 524288 ≤ q) (hq1 : q ≤ E + 524288) (_hE0 : -9223372036854 ≤ E) (_hE1 : E ≤ 9223372036854) (hTab : Tab w) (hv : v = sgn s (rmag s x E more q mode)) :
    Calls Tryd.prog 91 #[.agg #[.bool s, .bool false, .slice a (nl x) c, .int .i64 E, .bool more], .int .i64 q, .int .i64 mode] w (RetBig w v) := by
  by_cases hq : q ≤ E
  · refine multiple_core w s more a c x E q mode (E - q).toNat ((x * 2 ^ (E - q).toNat : Nat) : Int) (-1) v true (raw s (x * 2 ^ (E - q).toNat) (-1) true mode) hx hx0 (by omega) ?_ (by omega) (fun _ => ⟨by rw [IntKind.wrap_i64]; omega, rfl, rfl, rfl⟩) (fun h => absurd hq (by omega)) (Int.natCast_nonneg _) rfl ?_ hTab
    · show blen (x * 2 ^ (E - q).toNat) ≤ 1048576
      rw [blen_mul_pow hx0]; omega
    · rw [hv]; unfold rmag rax rdn raw
      simp only [if_pos hq, if_true]; rfl
  · refine multiple_core w s more a c x E q mode (q - E).toNat ((x / 2 ^ (q - E).toNat : Nat) : Int) _ v _ (raw s (x / 2 ^ (q - E).toNat) (rcm x more (q - E).toNat) (rex x more (q - E).toNat) mode) hx hx0 (by omega) ?_ (by omega) (fun h => absurd h hq) (fun _ => ⟨by rw [IntKind.wrap_i64]; omega, by omega, rfl, rfl, rfl⟩) (Int.natCast_nonneg _) rfl ?_ hTab
    · show blen (x / 2 ^ (q - E).toNat) ≤ 1048576
      exact Nat.le_trans (blen_mono (Nat.div_le_self _ _)) (by omega)
    · rw [hv]; unfold rmag rax rdn
      simp only [if_neg hq]; rfl

set_option maxRecDepth 100000 in
set_option maxHeartbeats 2000000 in
theorem fixed_core (w : World) (s more : Bool) (a : Option Addr) (c : Nat) (x : Nat) (E p mode q k v : Int) (d : Option (Int × Int)) (hx : Mag w a (nl x) c x) (hx0 : 0 < x) (hxl : blen x ≤ 524288) (hk : k = rlg x E) (hqq : q = k + 1 - p) (hq0 : E - 500000 ≤ q) (hq1 : q ≤ E + 524288) (hE0 : -9223372036854 ≤ E) (hE1 : E ≤ 9223372036854) (hp0 : 1 ≤ p) (hp1 : p ≤ 4096) (hTab : Tab w)
    (hv : v = sgn s (rmag s x E more q mode)) (hd : d = nrm v q) (hvl : blen v.natAbs ≤ 1048576) :
    Calls Tryd.prog 55 #[.agg #[.bool s, .bool false, .slice a (nl x) c, .int .i64 E, .bool more], .int .i64 p, .int .i64 mode] w (RetDy w d) := by
  have hkk : IntKind.i64.wrap (IntKind.i64.wrap (E + (blen x : Int)) - 1) = k := by rw [hk]; unfold rlg; rw [IntKind.wrap_i64, IntKind.wrap_i64]; omega
  have hk1 : IntKind.i64.wrap (IntKind.i64.wrap (k + 1) - p) = q := by rw [hqq, hk]; unfold rlg; rw [IntKind.wrap_i64, IntKind.wrap_i64]; omega
  have hk2 : wrap64 (wrap64 (k + 1) - p) = q := by rw [hqq, hk]; unfold rlg wrap64; omega
  have HL := fun W h => Lib.hid (rlog2_any W s more a c (x : Int) E k h (nl_lim (x := x) (by omega)) hkk)
  simp only [show decide ((x : Int) < 0) = false by simp, Int.natAbs_natCast] at HL
  have HM := fun W h ht => Lib.hid (multiple_any W s more a c x E q mode v h hx0 hxl (by omega) hq1 hE0 hE1 ht hv)
  have HD := fun W b c h ht => Lib.hid (make_z W b c v q d hd h ht hvl (by omega) (by omega))
  clear hkk hk hqq hq0 hq1 hE0 hE1 hp0 hp1 hv hd hvl hx0
  have e1 : ¬ w.heap.size + 1 = w.heap.size := by omega
  go_enter Tryd.func55, Tryd.ntmps55
  go_wp2_with fail
  refine (HL _ (hx.below (by repeat (with_reducible first | refine Below.setCell ?_ (by simp <;> omega) _ | refine Below.alloc ?_ (by simp <;> omega) _ | refine Below.drew ?_ | refine below_drewN ?_ _ | exact Below.refl _ _)))).out.mono ?_
  rintro e w1 ⟨rfl, hb1⟩
  obtain ⟨hc1, hz1⟩ := bcell (hb1.mono (show w.heap.size + 2 ≤ _ by simp))
  have hs1 := hb1.size
  (try simp at hs1)
  have hg1 : w.heap.size + 2 ≤ w1.heap.size := by omega
  have hbw := below_box (w := w) (by repeat (with_reducible first | refine Below.setCell ?_ (by simp <;> omega) _ | refine Below.alloc ?_ (by simp <;> omega) _ | refine Below.drew ?_ | refine below_drewN ?_ _ | exact Below.refl _ _)) hb1
  go_wp2_with fail
  refine (HM _ (hx.below hbw) (hTab.below hbw)).out.mono ?_
  rintro e w2 ⟨a2, c2, rfl, hm2, hb2, hf2⟩
  obtain ⟨hc2, hz2⟩ := bcell (hb2.mono hg1)
  have hs2 := hb2.size
  have hg2 : w.heap.size + 2 ≤ w2.heap.size := by omega
  have hbw2 := below_box (w := w) hbw hb2
  go_wp2_with fail
  refine (HD _ a2 c2 hm2 (hTab.below hbw2)).out.mono ?_
  rintro e w3 ⟨a3, c3, rfl, hm3, hb3, hf3⟩
  obtain ⟨hc3, hz3⟩ := bcell (hb3.mono hg2)
  have hfr3 : 0 < nl (dman d).natAbs → w.heap.size + 2 ≤ ab a3 := fun h => by have := hf3 h; omega
  have hbw3 := below_box (w := w) hbw2 hb3
  clear hbw
  have hbw := hbw3
  go_wp2_with fail
  refine bodyPost_ret (v := .agg #[.bool (dbad d), .bool (decide (dman d < 0)), .slice a3 (nl (dman d).natAbs) c3, .int .i64 (dexp d)]) (by simp only [results, Tryd.results55]; go_simp) rfl ?_
  exact ⟨a3, c3, rfl, (by repeat (with_reducible first | refine Mag.set ?_ (fun h => by have := hfr3 h; omega) _ _ | refine Mag.drew ?_ | refine Mag.alloc ?_ _ | refine Mag.drewN ?_ _ | refine Mag.below ?_ (Below.drew (Below.refl _ _)) | refine Mag.below ?_ ((Below.refl _ _).alloc (Nat.le_refl _) _) | exact hm3)), (by have hszw := hbw.size; repeat (with_reducible first | refine Below.setCell ?_ (by first | omega | (simp <;> omega)) _ | refine Below.alloc ?_ (by first | omega | (simp <;> omega)) _ | refine Below.drew ?_ | refine below_drewN ?_ _ | exact hbw)), fun h => by have := hfr3 h; omega⟩

theorem fixed_any (w : World) (s more : Bool) (a : Option Addr) (c : Nat) (x : Nat) (E p mode : Int) (hx : Mag w a (nl x) c x) (hx0 : 0 < x) (hxl : blen x ≤ 524287) (hE0 : -9223372036 ≤ E) (hE1 : E ≤ 9223372036) (hp : prc p = true) (hTab : Tab w) :
    Calls Tryd.prog 55 #[.agg #[.bool s, .bool false, .slice a (nl x) c, .int .i64 E, .bool more], .int .i64 p, .int .i64 mode] w (RetDy w (dfix s x E more p mode)) := by
  have hp' : 1 ≤ p ∧ p ≤ 4096 := by unfold prc at hp; simpa using hp
  have hq : rlg x E = E + blen x - 1 := rfl
  have hb := blen_pos hx0
  refine fixed_core w s more a c x E p mode (rlg x E + 1 - p) (rlg x E) _ _ hx hx0 (by omega) rfl rfl (by omega) (by omega) (by omega) (by omega) hp'.1 hp'.2 hTab rfl rfl ?_
  rw [sgn_natAbs]
  unfold rmag
  refine Nat.le_trans (blen_add_le _ _) ?_
  have h1 : blen (rdn x E (rlg x E + 1 - p)) ≤ 524288 := by
    unfold rdn; split
    · rw [blen_mul_pow hx0]; omega
    · exact Nat.le_trans (blen_mono (Nat.div_le_self _ _)) (by omega)
  have h2 : blen (if rax s x E more (rlg x E + 1 - p) mode = true then 1 else 0) ≤ 1 := by split <;> decide
  omega

end Go.Proofs.YtjhngehajahbnaaDoor

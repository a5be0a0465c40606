/-
  Walk: integer.root.
-/
import Derived.Test.YtjhngehajahbnaaDoorDivide
import Derived.Deep.LoopGhost
namespace Go.Proofs.YtjhngehajahbnaaDoor
open Go.RowKit Sp

set_option maxRecDepth 100000 in
set_option maxHeartbeats 2000000 in
/-- the square root, rounded down -/
theorem root_any (w : World) (a : Option Addr) (n cap x r : Nat) (hx : Mag w a n cap x) (hn : n = nl x) (hlim : n ≤ 17179869184) (h1 : r * r ≤ x) (h2 : x < (r + 1) * (r + 1)) :
    Calls Tryd.prog 107 #[.slice a n cap] w (RetNat w r) := by
  have l1 := hx.lim
  have l2 := hx.fits
  by_cases hn0 : n = 0
  · subst hn0
    have hx0 := hx.zero
    subst hx0
    have : r = 0 := by
      rcases Nat.eq_zero_or_pos r with h | h
      · exact h
      · have := Nat.mul_pos h h; omega
    subst this
    clear h1 h2 hlim hn
    go_enter Tryd.func107, Tryd.ntmps107
    go_wp2
    go_ret
    exact ⟨none, 0, rfl, Mag.nil w, Below.refl _ _, nl0⟩
  · have hn1 : ((n : Int) == 0) = false := by rw [beq_eq_false_iff_ne]; omega
    have hx0 : 0 < x := by
      rcases Nat.eq_zero_or_pos x with h | h
      · rw [h] at hn; exact absurd hn hn0
      · exact h
    have hbl : blen x ≤ 549755813888 := by
      have := lt_nl x
      rw [← hn, Bpow_two] at this
      have := blen_le this
      omega
    have hb0 : blen x ≤ 32 * n := by
      have := lt_nl x
      rw [← hn, Bpow_two] at this
      exact blen_le this
    have hr1 : 0 < r := by
      rcases Nat.eq_zero_or_pos r with h | h
      · rw [h] at h2; omega
      · exact h
    have H1 := Lib.hid h1
    have H2 := Lib.hid h2
    have HN := Lib.hid hn
    clear h1 h2 hn
    go_enter Tryd.func107, Tryd.ntmps107
    go_wp2_with (go_at_call 76; refine (length_any _ _ _ _ _ (hx.below ((Below.refl _ _).alloc (Nat.le_refl _) _)) HN.out (by omega)).mono ?_; rintro e w' ⟨rfl, rfl⟩)
    refine (up_any _ _ _ _ _ _ (Mag.one w 22 1 (by omega)) (by omega) (by omega) (by omega)).mono ?_
    rintro e w1 ⟨a1, c1, rfl, hm1, hb1, hf1⟩
    rw [Nat.one_mul, show (((blen x : Nat) : Int) + 1) / 2 = (((blen x + 1) / 2 : Nat) : Int) by omega, Int.toNat_natCast] at hm1 ⊢
    have hbb := ((Below.refl w.heap.size w).alloc (Nat.le_refl _) (.cells #[.int .u32 1] 22)).trans (hb1.mono (by rw [World.size_alloc]; omega))
    go_wp2_with fail
    have hX0 : nl (2 ^ ((blen x + 1) / 2)) ≤ n + 1 := nl_le (by rw [Bpow_two]; exact Nat.pow_lt_pow_right (by decide) (by omega))
    obtain ⟨X0, hX⟩ : ∃ X0, X0 = 2 ^ ((blen x + 1) / 2) := ⟨_, rfl⟩
    have hr0 : r ≤ X0 := by rw [hX]; exact root_start H1.out
    have hp0 : 0 < X0 := by rw [hX]; exact Nat.pow_pos (by decide)
    have hfr0 : w.heap.size ≤ ab a1 := by have := hf1 (by rw [Nat.one_mul, show (((blen x : Nat) : Int) + 1) / 2 = (((blen x + 1) / 2 : Nat) : Int) by omega, Int.toNat_natCast]; exact nl_pos (Nat.pow_pos (by decide))); rw [World.size_alloc] at this; omega
    rw [← hX] at hX0 hm1 ⊢
    clear hX
    go_loopg [3] X0 (fun k v wr => ∃ X a1 c1, v = .slice a1 (nl X) c1 ∧ Mag wr a1 (nl X) c1 X ∧ r ≤ X ∧ 0 < X ∧ nl X ≤ n + 1 ∧ k = X ∧ Below w.heap.size w wr ∧ w.heap.size ≤ ab a1)
    case atStart => exact ⟨X0, a1, c1, rfl, hm1, hr0, hp0, hX0, rfl, hbb, hfr0⟩
    case round =>
      obtain ⟨X, a2, c2, rfl, hm2, hrX, hX, hXl, rfl, hb2, hfr2⟩ := hrel
      have hxw := hx.below hb2
      have hq : nl (x / gk) ≤ n := by rw [HN.out]; exact nl_mono (Nat.div_le_self _ _)
      have hge := newton_ge H1.out hX
      have HGE := Lib.hid hge
      clear hge hm1 hbb hX0 hr0 hp0 hfr0
      go_wp2_with fail
      refine (divide_any _ _ _ _ _ _ _ _ _ hxw hm2 HN.out rfl (by omega) hX).mono ?_
      rintro e w3 ⟨a3, c3, a4, c4, rfl, hm3, hm4, hb3, _, _⟩
      have hm2' := hm2.below hb3
      have hz3 := hb3.size
      have hz2 := hb2.size
      go_wp2_with fail
      refine (plus_any _ _ _ _ _ _ _ _ _ hm2' hm3 (by omega) (by omega)).mono ?_
      rintro e w5 ⟨a5, c5, rfl, hm5, hb5, _⟩
      have hz5 := hb5.size
      have hs5 : nl (gk + x / gk) ≤ n + 2 := by
        refine nl_le ?_
        have i1 := lt_nl gk
        have i2 := lt_nl (x / gk)
        have i3 := Bpow_mono (m := nl gk) (n := n + 1) hXl
        have i4 := Bpow_mono (m := nl (x / gk)) (n := n + 1) (by omega)
        rw [Bpow_succ]
        have : B ^ (n + 1) * 2 ≤ B ^ (n + 1) * B := Nat.mul_le_mul_left _ (by decide)
        generalize x / gk = u at *
        omega
      go_wp2_with fail
      refine (down_any _ _ _ _ _ _ hm5 rfl (by omega) (by omega) (by omega) _ rfl).mono ?_
      rintro e w6 ⟨a6, c6, rfl, hm6, hb6, hf6⟩
      rw [show (1 : Int).toNat = 1 from rfl, Nat.pow_one] at hm6 hf6 ⊢
      have hm2'' := (hm2'.below hb5).below hb6
      have hz6 := hb6.size
      go_wp2_with fail
      refine (compare_any _ _ _ _ _ _ _ _ _ hm6 hm2'' rfl rfl).mono ?_
      rintro e w7 ⟨rfl, q, rfl⟩
      have hball := ((hb2.trans (hb3.mono hz2)).trans (hb5.mono (by omega))).trans (hb6.mono (by omega))
      obtain ⟨y, hy⟩ : ∃ y, y = (gk + x / gk) / 2 := ⟨_, rfl⟩
      rw [← hy] at hm6 ⊢
      have HY := Lib.hid hy
      clear hy
      by_cases hlt : y < gk
      · rw [cmpI_lt (by omega)]
        go_wp2_with fail
        go_roundg y
        case measure => exact hlt
        case rel => exact ⟨y, a6, c6, rfl, hm6.drewN q, by rw [HY.out]; exact HGE.out, Nat.lt_of_lt_of_le hr1 (by rw [HY.out]; exact HGE.out), Nat.le_trans (nl_mono (Nat.le_of_lt hlt)) hXl, rfl, below_drewN hball q, by have := hf6 (by rw [← HY.out]; exact nl_pos (Nat.lt_of_lt_of_le hr1 (by rw [HY.out]; exact HGE.out))); omega⟩
      · obtain ⟨k, hk, hk0⟩ : ∃ k : Int, cmpI y gk = k ∧ 0 ≤ k := ⟨_, rfl, cmpI_nonneg (by omega)⟩
        rw [hk]
        clear hk
        go_wp2_with fail
        go_ret
        have hst := newton_stop H2.out hrX hX (by rw [← HY.out]; omega)
        subst hst
        exact ⟨a2, c2, rfl, hm2''.drewN q, below_drewN hball q, fun _ => hfr2⟩
end Go.Proofs.YtjhngehajahbnaaDoor

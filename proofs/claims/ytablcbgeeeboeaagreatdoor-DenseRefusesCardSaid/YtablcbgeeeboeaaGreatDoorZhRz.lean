/-
  Walks: the reference's division of magnitudes: divMag.
-/
import Derived.Test.YtablcbgeeeboeaaGreatDoorZhRy
import Derived.Test.YtablcbgeeeboeaaGreatDoorZhRd
set_option maxRecDepth 100000
set_option maxHeartbeats 4000000
namespace Go.Proofs.YtablcbgeeeboeaaGreatDoor
open Go.RowKit Sp
theorem zHr (w : World) (a : Option Addr) (n cap x s : Nat) (hx : Mag w a n cap x) (hlim : n ≤ 1099511627776) (hs : s ≤ 1048576) :
 Calls Tryz.prog 111 #[.slice a n cap, .int .i64 s] w fun e w' => ∃ g c, e = .returned (.slice (some ⟨g, 0, none⟩) (s / 32 + n + 1) c) ∧ w.heap.size ≤ g ∧ RowC w' g (s / 32 + n + 1) c 96 (x * 2 ^ s) ∧ Below w.heap.size w w' := by
 have l1 := hx.lim
 have l2 := hx.fits
 have hmk := zBd 42 96 zCm zC8 ((s : Int) / 32) (by omega) (by omega)
 have HX := Lib.hid hx
 clear hx
 go_enter Tryz.func111, Tryz.ntmps111
 go_wp2
 clear hmk
 have hown0 : (w.alloc (.cells (madeCells #[.int .u32 0] (s / 32)) 96)).ownsRow w.heap.size 96 1 (.slice (some ⟨w.heap.size, 0, none⟩) (s / 32) (s / 32)) (s / 32) (zD1 (x * 2 ^ s) (s / 32)) := by
  have := World.ownsRow_lit (base := w.heap.size) (e := 96) (size := 1) w (madeCells #[.int .u32 0] (s / 32)) (s / 32) (Nat.le_refl _) (by unfold maxLen; omega) (by rw [size_madeCells, Nat.mul_one])
  have e : (madeCells #[.int .u32 0] (s / 32)).toList = zD1 (x * 2 ^ s) (s / 32) := by
   rw [toList_madeCells_one]
   refine List.ext_getElem? fun i => ?_
   rcases Nat.lt_or_ge i (s / 32) with h | h
   · rw [zCK h, zHn _ _ _ h]; simp [h]
   · rw [List.getElem?_eq_none (by simpa using h), List.getElem?_eq_none (by rw [zAE]; exact h)]
  rwa [e] at this
 go_loopw [5, 6, 7] (fun v c i wr => ∃ k : Nat, k ≤ n ∧ i = .int .i64 k ∧ c = .int .u64 (dig (x % B ^ k * 2 ^ s) (s / 32 + k) : Nat) ∧ wr.ownsRow w.heap.size 96 1 v (s / 32 + k) (zD1 (x * 2 ^ s) (s / 32 + k)) ∧ Below w.heap.size w wr) (fun _ _ i _ => n - (intOf i).toNat)
 case atStart => exact ⟨0, by omega, rfl, by rw [zAf, Nat.zero_mul, zCL]; rfl, hown0, (Below.refl _ _).alloc (Nat.le_refl _) _⟩
 case round =>
  clear hown0
  obtain ⟨k, hk, rfl, rfl, hown, hb⟩ := hrel
  have hx' := HX.out.below hb
  have hz := hb.size
  by_cases hlt : k < n
  · have c1 := hx'.cell k hlt
    have i1 := hx'.idx 42 und siz k hlt
    obtain ⟨w1, w2, w3, w4⟩ := zHo (x := x) (k := k) (s := s)
    have hor := zMB w3 w4
    have hd1 := zA6 x k
    obtain ⟨T, hT⟩ : ∃ T, T = dig (x % B ^ k * 2 ^ s) (s / 32 + k) + dig x k * 2 ^ (s % 32) := ⟨_, rfl⟩
    rw [← hT] at w1 w2 hor w4
    have H1 := Lib.hid w1
    have H2 := Lib.hid w2
    clear w1 w2 w3 hT
    have HD : Hid (((T : Nat) : Int) % 4294967296 = ((dig (x * 2 ^ s) (s / 32 + k) : Nat) : Int)) := by show _ = _; rw [← H1.out, zAW]; omega
    go_wp2_with (at_builtin; refine zAN 42 96 zCm zC8 rfl _ _ rfl w.heap.size _ (s / 32 + k) (x * 2 ^ s) rfl _ _ rfl (hown.alloc _) (World.cell?_alloc_new _ _ _ _) HD.out (by omega) (by rw [World.size_alloc]; omega) ?_; intro v1 w1 hown1 hb1)
    go_roundw
    case rel => exact ⟨k + 1, by omega, by go_num, by rw [← H2.out, zAW]; go_num, hown1, (hb.alloc hz _).trans hb1⟩
    case measure => simp [intOf]; omega
  · obtain rfl : k = n := by omega
    have hd1 := zA6 (x % B ^ k * 2 ^ s) (s / 32 + k)
    have HD : Hid (((dig (x % B ^ k * 2 ^ s) (s / 32 + k) : Nat) : Int) = ((dig (x * 2 ^ s) (s / 32 + k) : Nat) : Int)) := by show _ = _; rw [zA9 HX.out.lt]
    go_wp2_with (at_builtin; refine zAN 42 96 zCm zC8 rfl _ _ rfl w.heap.size _ (s / 32 + k) (x * 2 ^ s) rfl _ _ rfl (hown.alloc _) (World.cell?_alloc_new _ _ _ _) HD.out (by omega) (by rw [World.size_alloc]; omega) ?_; intro v1 w1 hown1 hb1)
    obtain ⟨g1, cp1, hv, hgb, hrc⟩ := zG0 hown1 (zMC HX.out.lt) (by omega)
    subst hv
    go_ret
    exact ⟨g1, cp1, rfl, hgb, hrc, (hb.alloc hz _).trans hb1⟩
def zFE (w : World) (z r : Nat) (e : Ending) (w' : World) : Prop :=
 ∃ a cap a' cap', e = .returned (.tuple #[.slice a (nl z) cap, .slice a' (nl r) cap']) ∧ Mag w' a (nl z) cap z ∧ Mag w' a' (nl r) cap' r ∧ Below w.heap.size w w'
theorem zIu (w : World) (a a' : Option Addr) (n m cap cap' x y : Nat) (hx : Mag w a n cap x) (hy : Mag w a' m cap' y) (hn : n = nl x) (hm : m = nl y) (hxy : x < y) :
 Calls Tryz.prog 184 #[.slice a n cap, .slice a' m cap'] w (zFE w (x / y) (x % y)) := by
 have hcmp := zAT (m := (x : Int)) (n := (y : Int)) (by omega)
 have HC := fun W h h' => Lib.hid (zD9 W a a' n m cap cap' x y h h' hn hm)
 rw [hcmp] at HC
 rw [Nat.div_eq_of_lt hxy, Nat.mod_eq_of_lt hxy]
 subst hn
 clear hcmp hxy hm
 go_enter Tryz.func184, Tryz.ntmps184
 go_wp2_with (go_at_call 109; refine (HC _ hx hy).out.mono ?_; rintro e w' ⟨rfl, q, rfl⟩)
 go_ret2
 exact ⟨none, 0, a, cap, rfl, Mag.nil _, hx.drewN q, below_drewN (Below.refl _ _) q⟩
theorem zN3 {U n : Nat} (hn : 0 < n) (hU : U < B ^ (n + 1)) : U / B ^ (n - 1) = dig U n * B + dig U (n - 1) := by
 obtain ⟨p, rfl⟩ : ∃ p, n = p + 1 := ⟨n - 1, by omega⟩
 rw [show p + 1 - 1 = p by omega]
 have h1 : dig U (p + 1) = U / B ^ p / B := by
  unfold dig
  rw [zAc, ← Nat.div_div_eq_div_mul, Nat.mod_eq_of_lt]
  rw [Nat.div_div_eq_div_mul, ← zAc, Nat.div_lt_iff_lt_mul (zAl _), Nat.mul_comm, ← zAc]; exact hU
 rw [h1]
 unfold dig
 have := Nat.div_add_mod (U / B ^ p) B
 rw [Nat.mul_comm] at this
 exact this.symm
theorem zLY {U v n vt : Nat} (hv : 0 < v) (hn : 0 < n) (hU : U < B ^ (n + 1)) (hUv : U < v * B) (hvt : vt = dig v (n - 1)) (h0 : 0 < vt) : U / v ≤ min ((dig U n * B + dig U (n - 1)) / vt) 4294967295 := by
 have h4 : dig v (n - 1) ≤ v / B ^ (n - 1) := Nat.mod_le _ _
 have h1 : vt * B ^ (n - 1) ≤ v := by
  rw [hvt]
  exact Nat.le_trans (Nat.mul_le_mul_right (B ^ (n - 1)) h4) (Nat.div_mul_le_self v _)
 have h2 : U / v ≤ (dig U n * B + dig U (n - 1)) / vt := by
  rw [← zN3 hn hU, Nat.div_div_eq_div_mul, Nat.mul_comm]
  exact Nat.div_le_div_left h1 (Nat.mul_pos h0 (zAl _))
 have h3 : U / v < B := by
  rw [Nat.div_lt_iff_lt_mul hv, Nat.mul_comm]; exact hUv
 rw [zAW] at h3
 generalize U / v = t at h2 h3 ⊢
 generalize (dig U n * B + dig U (n - 1)) / vt = s at h2 ⊢
 omega
theorem zKn {U v Q : Nat} (h1 : U / v ≤ Q) (h2 : Q * v ≤ U) (hv : 0 < v) : Q = U / v := by
 exact Nat.le_antisymm ((Nat.le_div_iff_mul_le hv).2 h2) h1
theorem zIF {U v Q : Nat} (h2 : ¬ Q * v ≤ U) (hv : 0 < v) : U / v ≤ Q - 1 ∧ 0 < Q := by
 have : U / v < Q := by
  rcases Nat.lt_or_ge (U / v) Q with h | h
  · exact h
  · exact absurd ((Nat.le_div_iff_mul_le hv).1 h) h2
 generalize U / v = t at this ⊢
 omega
theorem zNb {Z j v : Nat} : Z - Z / B ^ j / v * v * B ^ j = Z % B ^ j + Z / B ^ j % v * B ^ j := by
 have h := zHl (Z := Z) (j := j) (P := Z / B ^ j / v * v) (Nat.div_mul_le_self _ _)
 rw [← h]
 congr 2
 have := Nat.div_add_mod (Z / B ^ j) v
 rw [Nat.mul_comm] at this
 omega
theorem zIt (w : World) (a a' : Option Addr) (n m cap cap' x y : Nat) (hx : Mag w a m cap x) (hy : Mag w a' n cap' y) (hm : m = nl x) (hn : n = nl y) (hlim : m ≤ 549755813887) (hxy : y ≤ x) (hy0 : 0 < y) :
 Calls Tryz.prog 184 #[.slice a m cap, .slice a' n cap'] w (zFE w (x / y) (x % y)) := by
 have hnm : n ≤ m := by rw [hn, hm]; exact zAR hxy
 have hn0 : 0 < n := by rw [hn]; exact zBB hy0
 have l1 := hx.lim
 have l2 := hx.fits
 have l3 := hy.lim
 have l4 := hy.fits
 have HC := fun W h h' => Lib.hid (zD9 W a a' m n cap cap' x y h h' hm hn)
 obtain ⟨k, hk, hk0⟩ : ∃ k : Int, zAr x y = k ∧ 0 ≤ k := ⟨_, rfl, zBw (by omega)⟩
 rw [hk] at HC
 have hkd : decide (k < 0) = false := by simp; omega
 have ct := hy.cell (n - 1) (by omega)
 have it := hy.idx' (P := Tryz.prog) 42 und siz (n - 1) (by omega) ((n : Int) - 1) (by omega)
 have hdt := zA6 y (n - 1)
 have htop : dig y (n - 1) ≠ 0 := by rw [hn]; exact zH7 hy0
 have hbt : zA4 (dig y (n - 1)) ≤ 32 := zAq (by omega)
 have hbt1 : 1 ≤ zA4 (dig y (n - 1)) := zCp (Nat.pos_of_ne_zero htop)
 obtain ⟨s, hs⟩ : ∃ s, s + zA4 (dig y (n - 1)) = 32 := ⟨32 - zA4 (dig y (n - 1)), by omega⟩
 have hsI : (32 : Int) - (zA4 (dig y (n - 1)) : Int) = ((s : Nat) : Int) := by omega
 have hlead := fun W => zEh W (dig y (n - 1)) hdt
 simp only [hsI] at hlead
 have hs31 : s ≤ 31 := by omega
 have hs0 : s / 32 = 0 := by omega
 have hscale := zE2 hy0 s (by rw [← hn]; exact hs)
 rw [← hn] at hscale
 obtain ⟨v, hv⟩ : ∃ v, v = y * 2 ^ s := ⟨_, rfl⟩
 rw [← hv] at hscale
 have hlt := zFU hx.lt hs31 hscale.2 hn0 (show n ≤ m + 1 by omega)
 have hvB : v < B ^ n := by rw [← hscale.1]; exact zEB v
 have HS1 := fun W h => Lib.hid (zHr W a m cap x s h (by omega) (by omega))
 have HS2 := fun W h => Lib.hid (zHr W a' n cap' y s h (by omega) (by omega))
 rw [hs0, Nat.zero_add] at HS1 HS2
 rw [← hv] at HS2
 have HN := Lib.hid hn
 have HM := Lib.hid hm
 have HL := Lib.hid hlead
 have HV := Lib.hid hv
 have HS := Lib.hid hscale
 have HLT := Lib.hid hlt
 have HVB := Lib.hid hvB
 have HY0 := Lib.hid hy0
 have hmk := zBd 42 96 zCm zC8 ((m : Int) - n + 1) (by omega) (by omega)
 have hne : (((m + 1 : Nat) : Int) == ((m : Nat) : Int)) = false := by rw [beq_eq_false_iff_ne]; omega
 have hne' : (((m : Nat) : Int) + 1 == ((m : Nat) : Int)) = false := by rw [beq_eq_false_iff_ne]; omega
 clear hk hn hm hlead hv hscale hlt hsI hs hvB hy0 hs0
 go_enter Tryz.func184, Tryz.ntmps184
 go_wp2_with (first | (go_at_call 109; refine (HC _ hx hy).out.mono ?_; rintro e w' ⟨rfl, q, rfl⟩) | (go_at_call 191; refine (HL.out _).mono ?_; rintro e w' ⟨rfl, rfl⟩))
 first
 | go_region_with
  (first
   | (go_at_call 111; have xx := B1; refine (HS2 _ (hy.below (have := Beh.mk B1; zbh))).out.mono ?_; rintro e w2 ⟨g2, c2, rfl, hg2, hr2, hb2⟩; have hf2 := hr2.fit; have hl2 := hr2.lim; have hn2 : n ≤ c2 := (by omega); have B2 := zA0 (w := w) (have := Beh.mk B1; zbh) hb2)
   | (go_at_call 111; refine (HS1 _ (hx.below zbh)).out.mono ?_; rintro e w1 ⟨g1, c1, rfl, hg1, hr1, hb1⟩; have B1 := zA0 (w := w) zbh hb1)
   | fail)
 | fail "region"
 all_goals (
  have hvt0 := HS.out.2
  have Mv := hr2.mag.take n (by omega)
  rw [zA9 HVB.out] at Mv
  have hr1' := hr1.below hb2 hr1.old
  have hg12 : g1 ≠ g2 := by have := hr1.old; omega
  have hu1 := HLT.out
  have l5 := hr1.lim
  have l6 := hr1.fit
  have lo1 := hr1'.old
  have lo2 := hr2.old
  have hgw : w.heap.size ≤ g1 := by have := B1.size; (try simp at hg1); omega
  go_wp2_with fail
  clear hmk
  have hrq := Row.made w2 (m - n + 1) 96 (by omega)
  have hbq : Below w2.heap.size w2 (w2.alloc (.cells (madeCells #[.int .u32 0] (m - n + 1)) 96)) := (Below.refl _ _).alloc (Nat.le_refl _) _
  have hru := hr1'.below hbq lo1
  have Mv3 := Mv.below hbq
  have hb4 := zA0 (w := w) B2 hbq
  have hgq : w2.heap.size ≠ g1 := by omega
  have hw2 := B2.size
  have hva : 0 < n → ab (some (⟨g2, 0, none⟩ : Addr)) ≠ g1 := fun _ => by rw [zAo]; omega
  go_loopw [11] (fun i wr => ∃ k Z K : Nat, k ≤ m - n + 1 ∧ i = .int .i64 ((k : Int) - 1) ∧ RowC wr g1 (m + 1) c1 96 Z ∧ Row wr w2.heap.size (m - n + 1) 96 (K * B ^ k) ∧ Z + K * B ^ k * v = x * 2 ^ s ∧ Z < v * B ^ k ∧ Mag wr (some ⟨g2, 0, none⟩) n c2 v ∧ Below w.heap.size w wr) (fun i _ => (intOf i + 1).toNat)
  case atStart => exact ⟨m - n + 1, x * 2 ^ s, 0, Nat.le_refl _, congrArg (Value.int .i64) (by omega), hru, by rw [Nat.zero_mul]; exact hrq, by rw [Nat.zero_mul, Nat.zero_mul, Nat.add_zero], by rw [show m - n + 1 = m + 1 - n by omega]; exact HLT.out.1, Mv3, hb4⟩
  case round =>
   clear hrq hru Mv3 hb4 Mv hr1' hbq hr1 hr2 hb1 hb2 B1
   obtain ⟨k, Z, K, hk, rfl, hru', hrq', hZ, hZv, hmv', hb'⟩ := hrel
   have HZ := Lib.hid hZ
   have HZV := Lib.hid hZv
   clear hZ hZv
   by_cases h0 : 0 < k
   · obtain ⟨j, rfl⟩ : ∃ j, k = j + 1 := ⟨k - 1, by omega⟩
     have hj1 : ((j + 1 : Nat) : Int) - 1 = (j : Int) := by omega
     rw [hj1]
     clear hj1
     have hv0 : 0 < v := by
      rcases Nat.eq_zero_or_pos v with h | h
      · have := HZV.out; rw [h, Nat.zero_mul] at this; omega
      · exact h
     have hR := zGu (K := K) hv0 HZV.out
     obtain ⟨U, hUe⟩ : ∃ U, U = Z / B ^ j := ⟨_, rfl⟩
     rw [← hUe] at hR
     have hUn : U < B ^ (n + 1) := by
      rw [zAc]; exact Nat.lt_of_lt_of_le hR.2.1 (Nat.mul_le_mul_right _ (Nat.le_of_lt HVB.out))
     have hZl : Z < B ^ (j + n + 1) := by
      refine Nat.lt_of_lt_of_le HZV.out ?_
      have e : B ^ (j + n + 1) = B ^ n * B ^ (j + 1) := by rw [← zAs]; congr 1; omega
      rw [e]
      exact Nat.mul_le_mul_right _ (Nat.le_of_lt HVB.out)
     obtain ⟨vt, hvt⟩ : ∃ vt, vt = dig v (n - 1) := ⟨_, rfl⟩
     have hvt1 : 2147483648 ≤ vt := by rw [hvt]; exact hvt0
     have hvtl : vt < 4294967296 := by rw [hvt]; exact zA6 v _
     have hgh := zLY hv0 hn0 hUn hR.2.1 hvt (by omega)
     have e1 : dig U n = dig Z (j + n) := by rw [hUe, zD2, Nat.add_comm]
     have e2 : dig U (n - 1) = dig Z (j + n - 1) := by rw [hUe, zD2]; congr 1; omega
     rw [e1, e2] at hgh
     have ct := hru'.cell (j + n) (by omega)
     have cs := hru'.cell (j + n - 1) (by omega)
     have is := hru'.mag.idx' (P := Tryz.prog) 42 und siz (j + n - 1) (by omega) ((j : Int) + n - 1) (by omega)
     have cv := hmv'.cell (n - 1) (by omega)
     have iv := hmv'.idx' (P := Tryz.prog) 42 und siz (n - 1) (by omega) ((n : Int) - 1) (by omega)
     simp only [zAo, zAO, Nat.zero_add] at is cv iv
     rw [← hvt] at cv
     have hd1 := zA6 Z (j + n)
     have hd0 := zA6 Z (j + n - 1)
     generalize dig Z (j + n) = d1 at ct hgh hd1
     generalize dig Z (j + n - 1) = d0 at cs hgh hd0
     have hor := zFl (r := d1) (d := d0) hd1 hd0
     have b1 : (1 : Int) ≤ (vt : Int) := by omega
     have b2 : (0 : Int) ≤ (d1 : Int) * 4294967296 + (d0 : Nat) := by omega
     have b3 : (d1 : Int) * 4294967296 + (d0 : Nat) ≤ 18446744073709551615 := by omega
     have HGH := Lib.hid hgh
     have HR := Lib.hid hR
     have HUE := Lib.hid hUe
     have HZL := Lib.hid hZl
     clear hgh hR hUe hvt e1 e2 hUn hZl
     go_wp2_with fail
     first
     | go_quiet (fail)
     | fail "quiet"
     all_goals go_wp2_with fail
     clear ct cs is cv iv hor b1 b2 b3
     obtain ⟨wo, rfl⟩ : ∃ wo : World, wo = wr := ⟨_, rfl⟩
     have hru0 := hru'.drewN nq
     have hon0 : wo.grownBy (wo.drewN nq) (some g1) := zEM (zBk _ _) _
     go_loopw [13] (fun gs wi => ∃ Gs : Nat, gs = .int .u64 Gs ∧ U / v ≤ Gs ∧ Gs ≤ 4294967295 ∧ RowC wi g1 (m + 1) c1 96 Z ∧ wo.grownBy wi (some g1)) (fun gs _ => (intOf gs).toNat)
     case atStart =>
      refine ⟨min ((d1 * B + d0) / vt) 4294967295, congrArg (Value.int .u64) ?_, HGH.out, Nat.min_le_right _ _, hru0, hon0⟩
      rw [zAW]
      have ea : (((d1 * 4294967296 + d0) / vt : Nat) : Int) = ((d1 : Int) * 4294967296 + d0) / vt := by rw [Int.natCast_ediv]; congr 1
      rw [← ea]
      generalize (d1 * 4294967296 + d0) / vt = t
      omega
     case round =>
      clear hru0 hon0
      obtain ⟨Gs, rfl, hge, hle, hrui, hon⟩ := hrel
      have hmvi := hmv'.only hon (by rw [zAo]; omega)
      obtain ⟨b, hb⟩ : ∃ b, b = decide (Gs * v ≤ Z / B ^ j) := ⟨_, rfl⟩
      have HT := Lib.hid (zJo wr g1 (m + 1) c1 n c2 j Gs v Z (some ⟨g2, 0, none⟩) hrui (by omega) (by omega) hmvi hva hle HZL.out b hb)
      have HGE := Lib.hid hge
      by_cases hit : Gs * v ≤ U
      · have hbt : b = true := by rw [hb, ← HUE.out]; simpa using hit
        have hq := zKn hge hit hv0
        rw [hbt] at HT
        have HQ := Lib.hid hq
        clear hb hbt hit hq hge
        go_wp2_with fail
        refine HT.out.mono ?_
        rintro e w5 ⟨rfl, hr5, hon5⟩
        have hr5 : RowC w5 g1 (m + 1) c1 96 (Z - Gs * v * B ^ j) := by simpa using hr5
        have hon6 := zBP hon hon5
        have hrq5 := hrq'.only hon6 hgq
        have cq := hrq5.cell j (by omega)
        have fq := hrq5.free j
        go_wp2_with fail
        go_roundw
        case rel =>
         have hb5 := Sp.Below.of_only hb' hon6 (by have := hb'.size; omega) (by omega)
         have hqB : U / v < 4294967296 := by have := HQ.out; omega
         have hqe : ((Gs : Nat) : Int) % 4294967296 = ((Gs : Nat) : Int) := by omega
         refine ⟨j, Z % B ^ j + Z / B ^ j % v * B ^ j, K * B + U / v, by omega, rfl, ?_, ?_, ?_, ?_, ?_, hb5.setCell (by show _ ≤ w2.heap.size; omega) _⟩
         · rw [← zNb, ← HUE.out, ← HQ.out]
           exact hr5.below ((Below.refl w2.heap.size w5).setCell (Nat.le_refl _) _) (by omega)
         · rw [← zDo, ← HQ.out]
           (try rw [hqe])
           exact hrq5.store j Gs (by omega) (by omega)
         · have h := HR.out.2.2.2
           rw [HUE.out] at h ⊢
           rw [h, HZ.out]
         · have h := HR.out.2.2.1
           rw [HUE.out] at h
           exact h
         · exact (hmv'.only hon6 (by rw [zAo]; omega)).below' ((Below.refl w2.heap.size w5).setCell (Nat.le_refl _) _) (fun _ => by rw [zAo]; omega)
        case measure => simp [intOf]
      · have hbt : b = false := by rw [hb, ← HUE.out]; simpa using hit
        have hq := zIF hit hv0
        rw [hbt] at HT
        have HQ := Lib.hid hq.1
        have hG0 := hq.2
        clear hb hbt hit hq hge
        go_wp2_with fail
        refine HT.out.mono ?_
        rintro e w5 ⟨rfl, hr5, hon5⟩
        have hr5 : RowC w5 g1 (m + 1) c1 96 Z := by simpa using hr5
        go_wp2_with fail
        go_roundw
        case rel =>
         exact ⟨Gs - 1, by go_num, HQ.out, by omega, hr5, zBP hon hon5⟩
        case measure => simp [intOf]; omega
   · obtain rfl : k = 0 := by omega
     rw [Nat.pow_zero, Nat.mul_one] at hrq'
     have hZ := HZ.out
     have hZv := HZV.out
     rw [Nat.pow_zero, Nat.mul_one] at hZ hZv
     have hD := zHU HV.out hZv hZ
     have hzl : nl Z ≤ 549755813888 := by have := zAB hru'.lt; omega
     have hms := hru'.mag
     have hqs := hrq'.mag
     have HT1 := fun W h => Lib.hid (zAL W (some ⟨g1, 0, none⟩) (m + 1) c1 Z h (by omega))
     have HSH := fun W b c h => Lib.hid (zF9 W b (nl Z) c Z s h (by omega) (by omega) _ rfl)
     generalize decide (Z % 2 ^ s ≠ 0) = lb at HSH
     have hz : Z / 2 ^ s = x % y := by rw [hD.2, Nat.mul_div_cancel _ (Nat.pow_pos (by decide))]
     rw [hz] at HSH
     have HT2 := fun W h => Lib.hid (zAL W (some ⟨w2.heap.size, 0, none⟩) (m - n + 1) (m - n + 1) K h (by omega))
     rw [hD.1] at HT2 hqs
     have hr0 : x % y < 4294967296 ∨ True := Or.inr trivial
     have HT3 := fun W b l c h (hl : l ≤ nl Z) => Lib.hid (zAL W b l c (x % y) h (by omega))
     clear hZ hZv hD hz hr0
     go_wp2_with fail
     refine (HT1 _ hms).out.mono ?_
     rintro e w5 ⟨a5, c5, rfl, M5, hb5, hf5⟩
     have B5 := zA0 (w := w) hb' hb5
     have hqs5 := hqs.below hb5
     go_wp2_with fail
     refine (HSH _ a5 c5 M5).out.mono ?_
     rintro e w6 ⟨a6, n6, c6, rfl, M6, hn6, hb6, hf6⟩
     have B6 := zA0 (w := w) B5 hb6
     have hqs6 := hqs5.below hb6
     go_wp2_with fail
     refine (HT2 _ hqs6).out.mono ?_
     rintro e w7 ⟨a7, c7, rfl, M7, hb7, hf7⟩
     have B7 := zA0 (w := w) B6 hb7
     have M67 := M6.below hb7
     go_wp2_with fail
     refine (HT3 _ a6 n6 c6 M67 hn6).out.mono ?_
     rintro e w8 ⟨a8, c8, rfl, M8, hb8, hf8⟩
     have B8 := zA0 (w := w) B7 hb8
     have M78 := M7.below hb8
     go_wp2_with fail
     go_ret2
     exact ⟨a7, c7, a8, c8, rfl, M78, M8, B8⟩)
theorem zJI (w : World) (a a' : Option Addr) (n m cap cap' x y : Nat) (hx : Mag w a m cap x) (hy : Mag w a' n cap' y) (hm : m = nl x) (hn : n = nl y) (hlim : m ≤ 549755813887) (hy0 : 0 < y) :
 Calls Tryz.prog 184 #[.slice a m cap, .slice a' n cap'] w (zFE w (x / y) (x % y)) := by
 rcases Nat.lt_or_ge x y with h | h
 · exact zIu w a a' m n cap cap' x y hx hy hm hn h
 · exact zIt w a a' n m cap cap' x y hx hy hm hn hlim h hy0
end Go.Proofs.YtablcbgeeeboeaaGreatDoor

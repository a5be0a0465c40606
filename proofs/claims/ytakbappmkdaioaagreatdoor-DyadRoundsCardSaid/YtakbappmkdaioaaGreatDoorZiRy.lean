/-
  Walks: the reference's division of magnitudes: shl (a row of its own), take.
-/
import Derived.Test.YtakbappmkdaioaaGreatDoorZiRq
namespace Go.Proofs.YtakbappmkdaioaaGreatDoor
open Go.RowKit Sp

/-- a row of the call's own: block g, cap limbs, of which the first n read as z -/
structure RowC (w : World) (g n cap : Nat) (e : TypeId) (z : Nat) : Prop where
  lt : z < B ^ n
  fit : n ≤ cap
  lim : cap ≤ 9223372036854775807
  row : ∃ cur : Array Value, w.heap[g]? = some (.cells cur e (0, 0)) ∧ cur.size = cap ∧ ∀ i, i < n → cur[i]? = some (.int .u32 (dig z i))
theorem RowC.old {w : World} {g n cap : Nat} {e : TypeId} {z : Nat} (h : RowC w g n cap e z) : g < w.heap.size := by
  obtain ⟨cur, hc, _⟩ := h.row
  exact (Array.getElem?_eq_some_iff.1 hc).1
theorem RowC.cell {w : World} {g n cap : Nat} {e : TypeId} {z : Nat} (h : RowC w g n cap e z) (i : Nat) (hi : i < n) : w.cell? ⟨g, i, none⟩ = some (.int .u32 (dig z i)) := by
  obtain ⟨cur, hc, hs, hd⟩ := h.row
  rw [cell_of_row w g i cur e (0, 0) hc]; exact hd i hi
theorem RowC.free {w : World} {g n cap : Nat} {e : TypeId} {z : Nat} (h : RowC w g n cap e z) (i : Nat) : w.frozen? ⟨g, i, none⟩ = false := by
  obtain ⟨cur, hc, hs, hd⟩ := h.row
  exact frozen_of_row w g i cur e hc
theorem RowC.store {w : World} {g n cap : Nat} {e : TypeId} {z : Nat} (h : RowC w g n cap e z) (i d : Nat) (hi : i < n) (hd : d < 4294967296) :
    RowC (w.setCell ⟨g, i, none⟩ (.int .u32 d)) g n cap e (setd z i d) := by
  obtain ⟨cur, hc, hs, hdig⟩ := h.row
  have hf := h.fit
  refine ⟨setd_lt hd hi h.lt, h.fit, h.lim, cur.setIfInBounds i (.int .u32 d), heap_setCell_same w g i cur e _ hc, by simpa using hs, fun k hk => ?_⟩
  by_cases hki : k = i
  · subst hki; rw [dig_setd_same _ _ _ hd, Array.getElem?_setIfInBounds_self_of_lt (by omega)]
  · rw [dig_setd_other hd hki, Array.getElem?_setIfInBounds_ne (Ne.symm hki)]; exact hdig k hk
theorem RowC.below {B' : Nat} {w w' : World} {g n cap : Nat} {e : TypeId} {z : Nat} (h : RowC w g n cap e z) (hb : Below B' w w') (hg : g < B') : RowC w' g n cap e z := by
  obtain ⟨cur, hc, hs, hd⟩ := h.row
  exact ⟨h.lt, h.fit, h.lim, cur, by rw [hb.block g hg]; exact hc, hs, hd⟩
theorem RowC.mag {w : World} {g n cap : Nat} {e : TypeId} {z : Nat} (h : RowC w g n cap e z) : Mag w (some ⟨g, 0, none⟩) n cap z :=
  ⟨h.lt, h.fit, h.lim, fun _ => rfl, fun i hi => by rw [ab_some, ao_some, Nat.zero_add]; exact h.cell i hi, fun _ => h.old⟩
theorem RowC.drewN {w : World} {g n cap : Nat} {e : TypeId} {z : Nat} (h : RowC w g n cap e z) (q : Nat) : RowC (w.drewN q) g n cap e z := ⟨h.lt, h.fit, h.lim, h.row⟩
theorem rowC_of_owns {w : World} {base : Nat} {e : TypeId} {v : Value} {n z : Nat} (h : w.ownsRow base e 1 v n (digs z n)) (hz : z < B ^ n) (hn : 0 < n) :
    ∃ g cap, v = .slice (some ⟨g, 0, none⟩) n cap ∧ base ≤ g ∧ RowC w g n cap e z := by
  rcases h.2 with ⟨_, h0⟩ | ⟨g, cap, cur, rfl, hbg, hg, hnc, hcm, hcs, htake⟩
  · omega
  · refine ⟨g, cap, rfl, hbg, hz, hnc, by simp only [maxLen] at hcm; omega, cur, hg, by rw [hcs, Nat.mul_one], fun i hi => ?_⟩
    have h1 : (digs z n)[i]? = some (.int .u32 (dig z i)) := digs_get hi
    rw [← htake, List.getElem?_take, if_pos (by omega)] at h1
    simpa using h1

/-- one step of a product by a number Q -/
def pc (Q V k : Nat) : Nat := Q * (V % B ^ k) / B ^ k
theorem pc_zero (Q V : Nat) : pc Q V 0 = 0 := by unfold pc; rw [mod_zero_pow, Nat.mul_zero, Nat.zero_div]
theorem pc_step (Q V k : Nat) : (pc Q V k + Q * dig V k) % B = dig (Q * V) k ∧ (pc Q V k + Q * dig V k) / B = pc Q V (k + 1) := by
  have h1 : pc Q V k + Q * dig V k = Q * (V % B ^ (k + 1)) / B ^ k := by
    unfold pc
    rw [mod_succ, Nat.mul_add, ← Nat.mul_assoc, Nat.add_mul_div_right _ _ (Bpow_pos k)]
  rw [h1]
  refine ⟨?_, by unfold pc; rw [Nat.div_div_eq_div_mul, ← Bpow_succ]⟩
  have h2 : Q * V = Q * (V % B ^ (k + 1)) + Q * (V / B ^ (k + 1)) * B * B ^ k := by
    have := Nat.mod_add_div V (B ^ (k + 1))
    conv => lhs; rw [← this]
    rw [Nat.mul_add, Bpow_succ, Nat.mul_comm (B ^ k * B) (V / _), ← Nat.mul_assoc, ← Nat.mul_assoc]
    congr 1
    rw [Nat.mul_assoc (Q * _), Nat.mul_assoc (Q * _), Nat.mul_comm (B ^ k) B]
  unfold dig
  rw [h2, Nat.add_mul_div_right _ _ (Bpow_pos k), Nat.add_mul_mod_self_right]
theorem pc_lt {Q V k : Nat} (hQ : 0 < Q) : pc Q V k < Q := by
  unfold pc
  rw [Nat.div_lt_iff_lt_mul (Bpow_pos k)]
  exact Nat.mul_lt_mul_of_pos_left (mod_lt' V k) hQ
theorem pc_le {Q V k : Nat} (hQ : Q ≤ 4294967295) : pc Q V k ≤ 4294967295 := by
  rcases Nat.eq_zero_or_pos Q with h | h
  · subst h; unfold pc; simp
  · have := pc_lt (V := V) (k := k) h; omega
theorem pc_top {Q V n : Nat} (hV : V < B ^ n) (hQ : Q ≤ 4294967295) : pc Q V n = dig (Q * V) n := by
  have h := pc_le (V := V) (k := n) hQ
  have e : pc Q V n = Q * V / B ^ n := by unfold pc; rw [mod_of_lt hV]
  unfold dig
  rw [← e, Nat.mod_eq_of_lt]
  rw [B_eq]; omega
theorem dig_div (Z j k : Nat) : dig (Z / B ^ j) k = dig Z (k + j) := by
  unfold dig; rw [Nat.div_div_eq_div_mul, ← Bpow_add, Nat.add_comm j k]
/-- the rest when the product is taken off, around B^(n+1) -/
theorem take_plain {U P n : Nat} (hU : U < B ^ (n + 1)) (hP : P < B ^ (n + 1)) :
    ∃ X d, P + d = X ∧ d < B ^ (n + 1) ∧ (∀ k, k ≤ n → dig X k = dig U k) ∧ car P d (n + 1) = (if P ≤ U then 0 else 1) ∧ (P ≤ U → d = U - P) := by
  by_cases h : P ≤ U
  · refine ⟨U, U - P, by omega, by omega, fun _ _ => rfl, ?_, fun _ => rfl⟩
    rw [if_pos h]; unfold car
    rw [mod_of_lt hP, mod_of_lt (by omega : U - P < B ^ (n + 1)), show P + (U - P) = U by omega]
    exact Nat.div_eq_of_lt hU
  · refine ⟨U + B ^ (n + 1), U + B ^ (n + 1) - P, by omega, by omega, fun k hk => ?_, ?_, fun h' => absurd h' h⟩
    · rw [← dig_mod (x := U + B ^ (n + 1)) (show k < n + 1 by omega), Nat.add_mod_right, mod_of_lt hU]
    · rw [if_neg h]; unfold car
      rw [mod_of_lt hP, mod_of_lt (by omega : U + B ^ (n + 1) - P < B ^ (n + 1)), show P + (U + B ^ (n + 1) - P) = U + 1 * B ^ (n + 1) by omega, Nat.add_mul_div_right _ _ (Bpow_pos _), Nat.div_eq_of_lt hU]
/-- the copy's stages -/
def tmid (Z j d k : Nat) : Nat := Z % B ^ j + (d % B ^ k + Z / B ^ j / B ^ k * B ^ k) * B ^ j
theorem tmid_zero (Z j d : Nat) : tmid Z j d 0 = Z := by
  unfold tmid
  rw [mod_zero_pow, Nat.pow_zero, Nat.div_one, Nat.mul_one, Nat.zero_add]
  have := Nat.mod_add_div Z (B ^ j)
  rw [Nat.mul_comm] at this; exact this
theorem tmid_succ (Z j d k : Nat) : setd (tmid Z j d k) (j + k) (dig d k) = tmid Z j d (k + 1) := by
  unfold tmid
  rw [setd_hi (mod_lt' Z j)]
  congr 2
  have h1 : (d % B ^ k + Z / B ^ j / B ^ k * B ^ k) % B ^ k = d % B ^ k := by rw [Nat.add_mul_mod_self_right, Nat.mod_mod]
  have h2 : (d % B ^ k + Z / B ^ j / B ^ k * B ^ k) / B ^ (k + 1) = Z / B ^ j / B ^ (k + 1) := by
    rw [Bpow_succ, ← Nat.div_div_eq_div_mul, Nat.add_mul_div_right _ _ (Bpow_pos k), Nat.div_eq_of_lt (mod_lt' d k), Nat.zero_add, Nat.div_div_eq_div_mul]
  unfold setd
  rw [h1, h2, mod_succ]
theorem tmid_top {Z j d n : Nat} (hZ : Z < B ^ (j + n + 1)) (hd : d < B ^ (n + 1)) : tmid Z j d (n + 1) = Z % B ^ j + d * B ^ j := by
  unfold tmid
  have : Z / B ^ j < B ^ (n + 1) := by rw [Nat.div_lt_iff_lt_mul (Bpow_pos j), ← Bpow_add, show n + 1 + j = j + n + 1 by omega]; exact hZ
  rw [mod_of_lt hd, Nat.div_eq_of_lt this, Nat.zero_mul, Nat.add_zero]

theorem take_end0 {Z R U P E A C : Nat} (h1 : R + A = Z) (h2 : C ≤ A) (hA : A = U * E) (hC : C = P * E) : R + (U - P) * E = Z - P * E := by
  rw [Nat.sub_mul, ← hA, ← hC]; omega
theorem take_end {Z j P : Nat} (h : P ≤ Z / B ^ j) : Z % B ^ j + (Z / B ^ j - P) * B ^ j = Z - P * B ^ j :=
  take_end0 (by rw [Nat.mul_comm (Z / B ^ j)]; exact Nat.mod_add_div Z _) (Nat.mul_le_mul_right (B ^ j) h) rfl rfl

set_option maxRecDepth 100000 in
set_option maxHeartbeats 4000000 in
theorem rtake_any (w : World) (g N cu n cv j Q V Z : Nat) (av : Option Addr) (hrow : RowC w g N cu 87 Z) (hN : j + n + 1 ≤ N) (hlim : N ≤ 549755813888) (hv : Mag w av n cv V) (hva : 0 < n → ab av ≠ g) (hQ : Q ≤ 4294967295) (hZ : Z < B ^ (j + n + 1)) (b : Bool) (hb : b = decide (Q * V ≤ Z / B ^ j)) :
    Calls Tryz.prog 283 #[.slice (some ⟨g, 0, none⟩) N cu, .slice av n cv, .int .i64 j, .int .u64 Q] w fun e w' =>
      e = .returned (.bool b) ∧ RowC w' g N cu 87 (if b then Z - Q * V * B ^ j else Z) ∧ w.grownBy w' (some g) := by
  have hmk := make_len 22 87 infU undU ((n : Int) + 1) (by omega) (by omega)
  have l1 := hv.lim
  have l2 := hv.fits
  have l3 := hrow.lim
  have l4 := hrow.fit
  have lg := hrow.old
  have hU : Z / B ^ j < B ^ (n + 1) := by rw [Nat.div_lt_iff_lt_mul (Bpow_pos j), ← Bpow_add, show n + 1 + j = j + n + 1 by omega]; exact hZ
  have hP : Q * V < B ^ (n + 1) := by
    rw [Bpow_succ, Nat.mul_comm (B ^ n) B]
    have hQB : Q < B := by rw [B_eq]; omega
    exact Nat.mul_lt_mul'' hQB hv.lt
  obtain ⟨X, d, hX, hd, hXd, hcar, hdd⟩ := take_plain hU hP
  obtain ⟨U, hUe⟩ : ∃ U, U = Z / B ^ j := ⟨_, rfl⟩
  have hXU : ∀ k, k ≤ n → dig X k = dig Z (k + j) := fun k hk => by rw [hXd k hk, dig_div]
  obtain ⟨P, hPe⟩ : ∃ P, P = Q * V := ⟨_, rfl⟩
  rw [← hPe] at hX hcar hb hdd
  rw [← hUe] at hcar hb hdd
  have HUE := Lib.hid hUe
  have HX := Lib.hid hX
  have HXU := Lib.hid hXU
  have HCAR := Lib.hid hcar
  have HB := Lib.hid hb
  have HDD := Lib.hid hdd
  have HD := Lib.hid hd
  have HZ := Lib.hid hZ
  have HPE := Lib.hid hPe
  clear hX hXU hcar hb hdd hd hZ hPe hXd hU hP hUe
  go_enter Tryz.func283, Tryz.ntmps283
  go_wp2
  clear hmk
  have hrow0 := Row.made w (n + 1) 87 (by omega)
  have hbm : Below w.heap.size w (w.alloc (.cells (madeCells #[.int .u32 0] (n + 1)) 87)) := (Below.refl _ _).alloc (Nat.le_refl _) _
  go_loopw [11, 12, 13] (fun br ca i wr => ∃ k : Nat, k ≤ n + 1 ∧ i = .int .i64 k ∧ br = .int .u64 (car P d k : Nat) ∧ (∃ cc : Nat, ca = .int .u64 cc ∧ cc ≤ 4294967295 ∧ (k ≤ n → cc = pc Q V k)) ∧ Row wr w.heap.size (n + 1) 87 (d % B ^ k) ∧ Below w.heap.size w wr) (fun _ _ i _ => n + 1 - (intOf i).toNat)
  case atStart => exact ⟨0, by omega, rfl, by rw [car_zero]; rfl, ⟨0, rfl, by omega, fun _ => (pc_zero _ _).symm⟩, by rw [mod_zero_pow]; exact hrow0, hbm⟩
  case round =>
    clear hrow0 hbm
    obtain ⟨k, hk, rfl, rfl, ⟨cc, rfl, hcc, hcp⟩, hro, hbw⟩ := hrel
    have HCP := Lib.hid hcp
    clear hcp
    have hv' := hv.below hbw
    have hr' := hrow.below hbw lg
    have hc1 := car_le P d k
    by_cases hkn : k ≤ n
    · have c2 := hr'.cell (k + j) (by omega)
      rw [← HXU.out k hkn] at c2
      have hd2 := dig_lt X k
      have c3 := hro.cell k (by omega)
      have f3 := hro.free k
      have HS1 := Lib.hid (sub_word X P d k HX.out).1
      have HS2 := Lib.hid (rsub_word X P d k HX.out)
      have hsd : setd (d % B ^ k) k (dig d k) = d % B ^ (k + 1) := by rw [setd_zero (mod_lt' d k), mod_succ]
      have HSD := Lib.hid hsd
      clear hsd
      by_cases hlt : k < n
      · have c1 := hv'.cell k hlt
        have i1 := hv'.idx 22 und siz k hlt
        have hd1 := dig_lt V k
        have hps := pc_step Q V k
        rw [← HCP.out hkn, ← HPE.out] at hps
        obtain ⟨m1, m2⟩ := mul_carry (x := Q) (y := dig V k) (z := 0) (c := cc) (by omega) hd1 (by omega) (by omega)
        have m2' : (cc : Int) + (Q : Int) * ((dig V k : Nat) : Int) < 18446744073709551616 := by rw [← Int.natCast_mul]; omega
        have m0 : (0 : Int) ≤ (Q : Int) * ((dig V k : Nat) : Int) := by rw [← Int.natCast_mul]; omega
        obtain ⟨T, hT⟩ : ∃ T : Nat, T = cc + Q * dig V k := ⟨_, rfl⟩
        have hTI : ((T : Nat) : Int) = (cc : Int) + (Q : Int) * ((dig V k : Nat) : Int) := by rw [hT]; simp
        rw [← hT] at hps
        have hTL : ((T : Nat) : Int) % 4294967296 = ((dig P k : Nat) : Int) := by rw [← hps.1, B_eq]; omega
        have hTD : ((T : Nat) : Int) / 4294967296 = ((pc Q V (k + 1) : Nat) : Int) := by rw [← hps.2, B_eq]; omega
        have hpl := pc_le (V := V) (k := k + 1) hQ
        have HTI := Lib.hid hTI
        have HTL := Lib.hid hTL
        have HTD := Lib.hid hTD
        clear m1 m2 hT hTI hps hTL hTD
        go_wp2
        go_roundw
        case rel =>
          refine ⟨k + 1, by omega, by go_num, ?_, ⟨pc Q V (k + 1), ?_, hpl, fun _ => rfl⟩, ?_, hbw.setCell (Nat.le_refl _) _⟩
          · rw [← HTI.out, HTL.out, HS2.out]
          · rw [← HTI.out, HTD.out]
          · rw [← HTI.out, HTL.out, HS1.out, ← HSD.out]
            exact hro.store k (dig d k) (by omega) (dig_lt d k)
        case measure => simp [intOf]; omega
      · obtain rfl : k = n := by omega
        have hcd : cc = dig P k := by rw [HCP.out hkn, HPE.out]; exact pc_top hv.lt hQ
        have hd3 := dig_lt P k
        subst hcd
        have hz : ((dig P k : Nat) : Int) / 4294967296 = 0 := by omega
        have hy : ((dig P k : Nat) : Int) % 4294967296 = ((dig P k : Nat) : Int) := by omega
        have hlt' : decide (k < k) = false := by simp
        go_wp2
        go_roundw
        case rel =>
          refine ⟨k + 1, by omega, by go_num, ?_, ⟨0, rfl, by omega, fun h => absurd h (by omega)⟩, ?_, hbw.setCell (Nat.le_refl _) _⟩
          · rw [HS2.out]
          · rw [HS1.out, ← HSD.out]
            exact hro.store k (dig d k) (by omega) (dig_lt d k)
        case measure => simp [intOf]
    · obtain rfl : k = n + 1 := by omega
      rw [mod_of_lt HD.out] at hro
      have hcar := HCAR.out
      have hon : w.grownBy wr (some g) := ⟨hbw.os, hbw.tape, hbw.output, hbw.size, fun b h _ => hbw.block b h⟩
      have hsz := hbw.size
      by_cases hPU : P ≤ U
      · rw [if_pos hPU] at hcar
        have hbt : b = true := by rw [HB.out]; simpa using hPU
        subst hbt
        have hdv := HDD.out hPU
        have HPU := Lib.hid hPU
        clear hPU
        have HDV := Lib.hid hdv
        clear hdv
        rw [hcar]
        clear hcar
        obtain ⟨wo, rfl⟩ : ∃ wo : World, wo = wr := ⟨_, rfl⟩
        go_wp2
        go_loopw [15] (fun i wi => ∃ q : Nat, q ≤ n + 1 ∧ i = .int .i64 q ∧ RowC wi g N cu 87 (tmid Z j d q) ∧ Row wi w.heap.size (n + 1) 87 d ∧ w.grownBy wi (some g)) (fun i _ => n + 1 - (intOf i).toNat)
        case atStart => exact ⟨0, by omega, rfl, by rw [tmid_zero]; exact hr', hro, hon⟩
        case round =>
          clear hr' hro hon
          obtain ⟨q, hq, rfl, hru, hro, hon⟩ := hrel
          by_cases hqn : q ≤ n
          · have c1 := hro.cell q (by omega)
            have c2 := hru.cell (q + j) (by omega)
            have f2 := hru.free (q + j)
            go_wp2
            go_roundw
            case rel =>
              refine ⟨q + 1, by omega, by go_num, ?_, ?_, only_set hon _ _⟩
              · rw [← tmid_succ, Nat.add_comm j q]
                exact hru.store (q + j) (dig d q) (by omega) (dig_lt d q)
              · exact hro.only (only_set (only_refl _ g) _ _) (by omega)
            case measure => simp [intOf]; (try omega)
          · obtain rfl : q = n + 1 := by omega
            rw [tmid_top HZ.out HD.out] at hru
            have he : Z % B ^ j + d * B ^ j = Z - P * B ^ j := by
              rw [HDV.out, HUE.out]
              exact take_end (by rw [← HUE.out]; exact HPU.out)
            go_wp2
            go_ret
            refine ⟨rfl, ?_, hon⟩
            have hru2 := hru
            rw [he, HPE.out] at hru2
            exact hru2
      · rw [if_neg hPU] at hcar
        have hbt : b = false := by rw [HB.out]; simpa using hPU
        subst hbt
        rw [hcar]
        clear hcar
        go_wp2
        go_ret
        exact ⟨rfl, hr', hon⟩
end Go.Proofs.YtakbappmkdaioaaGreatDoor


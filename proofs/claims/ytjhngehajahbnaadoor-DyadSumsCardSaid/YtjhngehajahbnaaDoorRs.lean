/-
  Walks: the reference's package sparseref01: shl, shr, Shift.
-/
import Derived.Test.YtjhngehajahbnaaDoorRf
import Derived.Test.YtjhngehajahbnaaDoorSome
namespace Go.Proofs.YtjhngehajahbnaaDoor
open Go.RowKit Sp

/-- A call's result: a slice that reads as z, not longer than m. -/
def RetLimbs (w : World) (z m : Nat) (e : Ending) (w' : World) : Prop :=
  ∃ a n cap, e = .returned (.slice a n cap) ∧ Mag w' a n cap z ∧ n ≤ m ∧ Below w.heap.size w w' ∧ (0 < n → w.heap.size ≤ ab a)

theorem shl_word {x k s : Nat} : 
    (dig (x % B ^ k * 2 ^ s) (s / 32 + k) + dig x k * 2 ^ (s % 32)) % B = dig (x * 2 ^ s) (s / 32 + k) ∧
    (dig (x % B ^ k * 2 ^ s) (s / 32 + k) + dig x k * 2 ^ (s % 32)) / B = dig (x % B ^ (k + 1) * 2 ^ s) (s / 32 + (k + 1)) ∧
    dig (x % B ^ k * 2 ^ s) (s / 32 + k) ||| dig x k * 2 ^ (s % 32) = dig (x % B ^ k * 2 ^ s) (s / 32 + k) + dig x k * 2 ^ (s % 32) ∧
    dig (x % B ^ k * 2 ^ s) (s / 32 + k) + dig x k * 2 ^ (s % 32) < 18446744073709551616 := by
  obtain ⟨Z, hZ⟩ : ∃ Z, Z = x % B ^ k * 2 ^ s := ⟨_, rfl⟩
  rw [← hZ]
  obtain ⟨h1, h2⟩ := up_carry hZ
  obtain ⟨h3, h4, h5⟩ := up_limb (x := x) (k := k) (s := s)
  have hor := or_add (z := dig Z (s / 32 + k)) (u := dig x k * 2 ^ (s % 32)) h1 ⟨dig x k, Nat.mul_comm _ _⟩
  have h6 : 2 ^ (s % 32) ≤ 2147483648 := Nat.pow_le_pow_right (n := 2) (by omega) (show s % 32 ≤ 31 by omega)
  have h7 : dig x k * 2 ^ (s % 32) ≤ 4294967295 * 2147483648 := Nat.mul_le_mul (by have := dig_lt x k; omega) h6
  have hT : dig Z (s / 32 + k) + dig x k * 2 ^ (s % 32) < 18446744073709551616 := by omega
  have e1 : x % B ^ (k + 1) * 2 ^ s = Z + dig x k * 2 ^ (s % 32) * B ^ (s / 32 + k) := by
    rw [mod_succ, Nat.add_mul, ← hZ, Bpow_add, two_split s]; grind
  have e2 : Z = Z % B ^ (s / 32 + k) + dig Z (s / 32 + k) * B ^ (s / 32 + k) := by
    conv => lhs; rw [← mod_of_lt h2]
    exact mod_succ _ _
  have e3 : x % B ^ (k + 1) * 2 ^ s = Z % B ^ (s / 32 + k) + (dig Z (s / 32 + k) + dig x k * 2 ^ (s % 32)) * B ^ (s / 32 + k) := by
    rw [e1, Nat.add_mul]; omega
  have e4 : x * 2 ^ s = x % B ^ (k + 1) * 2 ^ s + (x / B ^ (k + 1) * 2 ^ (s % 32)) * B ^ (s / 32 + k + 1) := by
    conv => lhs; rw [← Nat.div_add_mod x (B ^ (k + 1))]
    rw [Nat.add_mul, Nat.add_comm]
    congr 1
    rw [two_split s, show s / 32 + k + 1 = (k + 1) + s / 32 by omega, Bpow_add]; grind
  have hm := mod_lt' Z (s / 32 + k)
  have d0 := dig_hi (h := dig Z (s / 32 + k) + dig x k * 2 ^ (s % 32)) (k := 0) hm
  have d1 := dig_hi (h := dig Z (s / 32 + k) + dig x k * 2 ^ (s % 32)) (k := 1) hm
  rw [← e3] at d0 d1
  generalize dig Z (s / 32 + k) + dig x k * 2 ^ (s % 32) = T at *
  refine ⟨?_, ?_, hor, ?_⟩
  · rw [e4, dig_lo (show s / 32 + k < s / 32 + k + 1 by omega), show s / 32 + k = s / 32 + k + 0 by omega, d0]
    unfold dig; rw [Nat.pow_zero, Nat.div_one]
  · rw [show s / 32 + (k + 1) = s / 32 + k + 1 by omega, d1]
    unfold dig; rw [Nat.pow_one, Nat.mod_eq_of_lt]
    rw [Nat.div_lt_iff_lt_mul B_pos, B_eq]; omega
  · exact hT
theorem shl_zero (x s i : Nat) (h : i < s / 32) : dig (x * 2 ^ s) i = 0 := by
  have : x * 2 ^ s = 0 + x * 2 ^ (s % 32) * B ^ (s / 32) := by rw [two_split s]; grind
  rw [this, dig_lo h, dig_zero]
theorem shl_lt {x n s : Nat} (h : x < B ^ n) : x * 2 ^ s < B ^ (s / 32 + n + 1) := by
  have := (up_carry (x := x) (k := n) (s := s) rfl).2
  rwa [mod_of_lt h] at this
theorem shl_or {c d k : Nat} (h : c ||| d * 2 ^ k = c + d * 2 ^ k) (hlt : c + d * 2 ^ k < 18446744073709551616) :
    Go.bits .or .u64 (c : Int) (IntKind.u64.wrap ((d : Int) * 2 ^ k)) = ((c + d * 2 ^ k : Nat) : Int) := by
  have e : ((d : Nat) : Int) * 2 ^ k = ((d * 2 ^ k : Nat) : Int) := by simp
  rw [e, wrap_u64_nat (by omega), u64_or_nat _ _ (by omega) (by omega), h]

set_option maxRecDepth 100000 in
set_option maxHeartbeats 2000000 in
/-- the limbs of x 2^s -/
theorem rshl_any (w : World) (a : Option Addr) (n cap x s : Nat) (hx : Mag w a n cap x) (hlim : n ≤ 1099511627776) (hs : s ≤ 1048576) :
    Calls Tryd.prog 83 #[.slice a n cap, .int .i64 s] w (RetLimbs w (x * 2 ^ s) (s / 32 + n + 1)) := by
  have l1 := hx.lim
  have l2 := hx.fits
  have hmk := make_len 23 22 infU undU ((s : Int) / 32) (by omega) (by omega)
  have HX := Lib.hid hx
  clear hx
  go_enter Tryd.func83, Tryd.ntmps83
  go_wp2
  clear hmk
  have hown0 : (w.alloc (.cells (madeCells #[.int .u32 0] (s / 32)) 22)).ownsRow w.heap.size 22 1 (.slice (some ⟨w.heap.size, 0, none⟩) (s / 32) (s / 32)) (s / 32) (digs (x * 2 ^ s) (s / 32)) := by
    have := World.ownsRow_lit (base := w.heap.size) (e := 22) (size := 1) w (madeCells #[.int .u32 0] (s / 32)) (s / 32) (Nat.le_refl _) (by unfold maxLen; omega) (by rw [size_madeCells, Nat.mul_one])
    have e : (madeCells #[.int .u32 0] (s / 32)).toList = digs (x * 2 ^ s) (s / 32) := by
      rw [toList_madeCells_one]
      refine List.ext_getElem? fun i => ?_
      rcases Nat.lt_or_ge i (s / 32) with h | h
      · rw [digs_get h, shl_zero _ _ _ h]; simp [h]
      · rw [List.getElem?_eq_none (by simpa using h), List.getElem?_eq_none (by rw [digs_length]; exact h)]
    rwa [e] at this
  go_loopw [5, 6, 7] (fun v c i wr => ∃ k : Nat, k ≤ n ∧ i = .int .i64 k ∧ c = .int .u64 (dig (x % B ^ k * 2 ^ s) (s / 32 + k) : Nat) ∧ wr.ownsRow w.heap.size 22 1 v (s / 32 + k) (digs (x * 2 ^ s) (s / 32 + k)) ∧ Below w.heap.size w wr) (fun _ _ i _ => n - (intOf i).toNat)
  case atStart => exact ⟨0, by omega, rfl, by rw [mod_zero_pow, Nat.zero_mul, dig_zero]; rfl, hown0, (Below.refl _ _).alloc (Nat.le_refl _) _⟩
  case round =>
    clear hown0
    obtain ⟨k, hk, rfl, rfl, hown, hb⟩ := hrel
    have hx' := HX.out.below hb
    have hz := hb.size
    by_cases hlt : k < n
    · have c1 := hx'.cell k hlt
      have i1 := hx'.idx 23 und siz k hlt
      obtain ⟨w1, w2, w3, w4⟩ := shl_word (x := x) (k := k) (s := s)
      have hor := shl_or w3 w4
      have hd1 := dig_lt x k
      obtain ⟨T, hT⟩ : ∃ T, T = dig (x % B ^ k * 2 ^ s) (s / 32 + k) + dig x k * 2 ^ (s % 32) := ⟨_, rfl⟩
      rw [← hT] at w1 w2 hor w4
      have H1 := Lib.hid w1
      have H2 := Lib.hid w2
      clear w1 w2 w3 hT
      have HD : Hid (((T : Nat) : Int) % 4294967296 = ((dig (x * 2 ^ s) (s / 32 + k) : Nat) : Int)) := by show _ = _; rw [← H1.out, B_eq]; omega
      go_wp2_with (at_builtin; refine app_u32 23 22 infU undU rfl _ _ rfl w.heap.size _ (s / 32 + k) (x * 2 ^ s) rfl _ _ rfl (hown.alloc _) (World.cell?_alloc_new _ _ _ _) HD.out (by omega) (by rw [World.size_alloc]; omega) ?_; intro v1 w1 hown1 hb1)
      go_roundw
      case rel => exact ⟨k + 1, by omega, by go_num, by rw [← H2.out, B_eq]; go_num, hown1, (hb.alloc hz _).trans hb1⟩
      case measure => simp [intOf]; omega
    · obtain rfl : k = n := by omega
      have hd1 := dig_lt (x % B ^ k * 2 ^ s) (s / 32 + k)
      have HD : Hid (((dig (x % B ^ k * 2 ^ s) (s / 32 + k) : Nat) : Int) = ((dig (x * 2 ^ s) (s / 32 + k) : Nat) : Int)) := by show _ = _; rw [mod_of_lt HX.out.lt]
      go_wp2_with (at_builtin; refine app_u32 23 22 infU undU rfl _ _ rfl w.heap.size _ (s / 32 + k) (x * 2 ^ s) rfl _ _ rfl (hown.alloc _) (World.cell?_alloc_new _ _ _ _) HD.out (by omega) (by rw [World.size_alloc]; omega) ?_; intro v1 w1 hown1 hb1)
      obtain ⟨a1, cp1, hv, hm1, hfr⟩ := mag_of_owns hown1 (shl_lt HX.out.lt)
      subst hv
      go_ret
      exact ⟨a1, _, cp1, rfl, hm1, Nat.le_refl _, (hb.alloc hz _).trans hb1, hfr⟩

/-- A call's two results: a slice that reads as z, and a bool. -/
def RetShr (w : World) (z : Nat) (b : Bool) (m : Nat) (e : Ending) (w' : World) : Prop :=
  ∃ a n cap, e = .returned (.tuple #[.slice a n cap, .bool b]) ∧ Mag w' a n cap z ∧ n ≤ m ∧ Below w.heap.size w w' ∧ (0 < n → w.heap.size ≤ ab a)

set_option maxRecDepth 100000 in
set_option maxHeartbeats 2000000 in
/-- the limbs of x / 2^s, and whether a bit was lost -/
theorem rshr_any (w : World) (a : Option Addr) (n cap x s : Nat) (hx : Mag w a n cap x) (hlim : n ≤ 1099511627776) (hs : s ≤ 1048576) (b : Bool) (hb : b = decide (x % 2 ^ s ≠ 0)) :
    Calls Tryd.prog 84 #[.slice a n cap, .int .i64 s] w (RetShr w (x / 2 ^ s) b n) := by
  have l1 := hx.lim
  have l2 := hx.fits
  obtain ⟨q, hq⟩ : ∃ q, q = s / 32 := ⟨_, rfl⟩
  obtain ⟨r, hr⟩ : ∃ r, r = s % 32 := ⟨_, rfl⟩
  have hr32 : r < 32 := by omega
  have hq1 : q ≤ 32768 := by omega
  have hqI : (s : Int) / 32 = (q : Int) := by omega
  have hrI : (s : Int) % 32 = (r : Int) := by omega
  have hlost := lost_iff x s
  have hword := down_word x s
  have hword0 := down_word0 x s
  have hdd := fun i => dig_div x s i
  rw [← hq, ← hr] at hlost
  simp only [← hq, ← hr] at hword hword0
  have HLO := Lib.hid hlost
  have HW1 := Lib.hid hword
  have HW0 := Lib.hid hword0
  have HB := Lib.hid hb
  have hlt2 : n ≤ q → x < 2 ^ s := fun h => by
    refine Nat.lt_of_lt_of_le hx.lt ?_
    rw [Bpow_two]; exact Nat.pow_le_pow_right (by omega) (by omega)
  have hdl : q < n → x / 2 ^ s < B ^ (n - q) := fun h => by
    rw [Nat.div_lt_iff_lt_mul (Nat.pow_pos (by decide))]
    refine Nat.lt_of_lt_of_le hx.lt ?_
    rw [two_split s, ← hq, ← hr, Nat.mul_comm (2 ^ r), ← Nat.mul_assoc, ← Bpow_add, show n - q + q = n by omega]
    exact Nat.le_mul_of_pos_right _ (Nat.pow_pos (by decide))
  have HL2 := Lib.hid hlt2
  have HDL := Lib.hid hdl
  have HX := Lib.hid hx
  clear hx hlost hword hword0 hdd hb hlt2 hdl hq hr
  go_enter Tryd.func84, Tryd.ntmps84
  go_wp2
  go_loop [6, 7] (fun l i => ∃ (k : Nat) (L : Bool), k ≤ q ∧ k ≤ n ∧ i = .int .i64 k ∧ l = .bool L ∧ L = decide (x % B ^ k ≠ 0)) (fun _ i => n - (intOf i).toNat)
  case atStart => exact ⟨0, false, by omega, by omega, rfl, rfl, by rw [mod_zero_pow]; rfl⟩
  case round =>
    obtain ⟨k, L, hkq, hkn, rfl, rfl, hL⟩ := hrel
    have HL := Lib.hid hL
    clear hL
    by_cases hin : k < q ∧ k < n
    · obtain ⟨hk1, hk2⟩ := hin
      have c1 := HX.out.cell k hk2
      have i1 := HX.out.idx 23 und siz k hk2
      cases L with
      | true =>
        go_wp2
        go_round
        case rel => exact ⟨k + 1, true, by omega, by omega, by go_num, rfl, by
          have h0 : x % B ^ k ≠ 0 := by have := HL.out; simpa using this.symm
          rw [mod_succ]; symm; rw [decide_eq_true_eq]
          exact Nat.ne_of_gt (Nat.lt_of_lt_of_le (Nat.pos_of_ne_zero h0) (Nat.le_add_right _ _))⟩
        case measure => simp [intOf]; omega
      | false =>
        go_wp2
        go_round
        case rel => exact ⟨k + 1, _, by omega, by omega, by go_num, rfl, by
          have h0 : x % B ^ k = 0 := by have := HL.out; simpa using this.symm
          have hp := Bpow_pos k
          rw [mod_succ, h0, Nat.zero_add]
          by_cases hd : dig x k = 0
          · rw [hd]; simp
          · have : dig x k * B ^ k ≠ 0 := Nat.mul_ne_zero hd (by omega)
            rw [decide_eq_true this, bne_iff_ne]; omega⟩
        case measure => simp [intOf]; omega
    · by_cases hA : n ≤ q
      · obtain rfl : k = n := by omega
        have hAI : decide ((q : Int) < (k : Int)) = false := by simp; omega
        have hbL : L = b := by
          have h1 := HL.out
          have h2 := HX.out.lt
          rw [mod_of_lt h2] at h1
          rw [h1, HB.out, Nat.mod_eq_of_lt (HL2.out hA)]
        subst hbL
        go_wp2
        all_goals (
          go_loopw [6, 8, 10] (fun l v i wr => l = .bool L ∧ v = .slice none 0 0 ∧ i = .int .i64 q ∧ wr = w) (fun _ _ i _ => (intOf i).toNat)
          case atStart => exact ⟨rfl, rfl, rfl, rfl⟩
          case round =>
            obtain ⟨rfl, rfl, rfl, rfl⟩ := hrel
            go_wp2
            go_ret2
            rw [Nat.div_eq_of_lt (HL2.out hA)]
            exact ⟨none, 0, 0, rfl, Mag.nil _, by omega, Below.refl _ _, by omega⟩)
      · obtain rfl : k = q := by omega
        have hBI : decide ((k : Int) < (n : Int)) = true := by simp; omega
        have hown0 := World.ownsRow_nil w w.heap.size 22 1
        have HH := Lib.hid hA
        clear hA hin
        go_wp2
        go_loopw [6, 8, 10] (fun l v i wr => ∃ (j t : Nat) (L' : Bool), t = k + j ∧ t ≤ n ∧ i = .int .i64 t ∧ l = .bool L' ∧ L' = (if j = 0 then L else b) ∧ wr.ownsRow w.heap.size 22 1 v j (digs (x / 2 ^ s) j) ∧ Below w.heap.size w wr) (fun _ _ i _ => n - (intOf i).toNat)
        case atStart => exact ⟨0, k, L, by omega, by omega, rfl, rfl, rfl, hown0, Below.refl _ _⟩
        case round =>
          clear hown0
          obtain ⟨j, t, L', ht, htn, rfl, rfl, hL', hown, hb⟩ := hrel
          have HT := Lib.hid ht
          have HL' := Lib.hid hL'
          clear ht hL'
          have hx' := HX.out.below hb
          have hz := hb.size
          by_cases hlt : t < n
          · have c1 := hx'.cell t hlt
            have i1 := hx'.idx 23 und siz t hlt
            have hd1 := dig_lt x t
            by_cases hj : j = 0
            · subst hj
              have hlb := low_bits hd1 hr32
              obtain ⟨u, hu⟩ : ∃ u, u = dig x t % 2 ^ r := ⟨_, rfl⟩
              rw [← hu] at hlb
              have HU := Lib.hid hu
              have hll : L' = L := by have := HL'.out; rwa [if_pos rfl] at this
              subst hll
              have hlo : x % 2 ^ s ≠ 0 ↔ x % B ^ k ≠ 0 ∨ u ≠ 0 := by have h1 := HLO.out; have h2 := HT.out; rw [Nat.add_zero] at h2; rw [hu, h2]; exact h1
              have HLL := Lib.hid hlo
              clear hu hlo
              have htk : ((t : Int) == (k : Int)) = true := by rw [beq_iff_eq]; have := HT.out; omega
              by_cases hu0 : u = 0
              · have hu1 : ((u : Int) != 0) = false := by subst hu0; rfl
                have hlb' : Hid (L' = b) := by
                  show _ = _
                  have h1 := HL.out
                  rw [h1, HB.out]; exact decide_eq_decide.2 ⟨fun h => HLL.out.2 (.inl h), fun h => (HLL.out.1 h).elim id (fun h2 => absurd hu0 h2)⟩
                clear hu0
                by_cases hnx : t + 1 < n
                · have c2 := hx'.cell (t + 1) hnx
                  have i2 := hx'.idx' 23 und siz (t + 1) hnx ((t : Int) + 1) (by omega)
                  have hd2 := dig_lt x (t + 1)
                  have HD : Hid (Go.bits .or .u64 (dig x t : Nat) ((dig x (t + 1) : Nat) * 4294967296) / 2 ^ r % 4294967296 = ((dig (x / 2 ^ s) 0 : Nat) : Int)) := by
                    have h1 := HW1.out 0; rw [← HT.out] at h1; exact h1
                  go_wp2
                  go_quiet (fail)
                  go_wp2_with (at_builtin; refine app_u32 23 22 infU undU rfl _ _ rfl w.heap.size _ 0 (x / 2 ^ s) rfl _ _ rfl (World.ownsRow.alloc (w := wr.drewN nq) hown _) (World.cell?_alloc_new _ _ _ _) HD.out (by have := HT.out; omega) (Nat.le_trans hz (by rw [World.size_alloc]; exact Nat.le_succ _)) ?_; intro v1 w1 hown1 hb1)
                  go_roundw
                  case rel => exact ⟨1, t + 1, L', by have := HT.out; omega, by omega, by go_num, rfl, by rw [if_neg (by omega)]; exact hlb'.out, hown1, ((below_drewN hb nq).alloc hz _).trans hb1⟩
                  case measure => simp [intOf]; omega
                · have HD : Hid (((dig x t : Nat) : Int) / 2 ^ r % 4294967296 = ((dig (x / 2 ^ s) 0 : Nat) : Int)) := by
                    have h1 := HW0.out 0; rw [← HT.out] at h1; exact h1 (dig_of_lt HX.out.lt (by omega))
                  go_wp2
                  go_quiet (fail)
                  go_wp2_with (at_builtin; refine app_u32 23 22 infU undU rfl _ _ rfl w.heap.size _ 0 (x / 2 ^ s) rfl _ _ rfl (World.ownsRow.alloc (w := wr.drewN nq) hown _) (World.cell?_alloc_new _ _ _ _) HD.out (by have := HT.out; omega) (Nat.le_trans hz (by rw [World.size_alloc]; exact Nat.le_succ _)) ?_; intro v1 w1 hown1 hb1)
                  go_roundw
                  case rel => exact ⟨1, t + 1, L', by have := HT.out; omega, by omega, by go_num, rfl, by rw [if_neg (by omega)]; exact hlb'.out, hown1, ((below_drewN hb nq).alloc hz _).trans hb1⟩
                  case measure => simp [intOf]; omega
              · have hu1 : ((u : Int) != 0) = true := by rw [bne_iff_ne]; omega
                have hlb' : Hid (true = b) := by show _ = _; rw [HB.out]; symm; exact decide_eq_true (HLL.out.2 (.inr hu0))
                clear hu0
                by_cases hnx : t + 1 < n
                · have c2 := hx'.cell (t + 1) hnx
                  have i2 := hx'.idx' 23 und siz (t + 1) hnx ((t : Int) + 1) (by omega)
                  have hd2 := dig_lt x (t + 1)
                  have HD : Hid (Go.bits .or .u64 (dig x t : Nat) ((dig x (t + 1) : Nat) * 4294967296) / 2 ^ r % 4294967296 = ((dig (x / 2 ^ s) 0 : Nat) : Int)) := by
                    have h1 := HW1.out 0; rw [← HT.out] at h1; exact h1
                  go_wp2
                  go_quiet (fail)
                  go_wp2_with (at_builtin; refine app_u32 23 22 infU undU rfl _ _ rfl w.heap.size _ 0 (x / 2 ^ s) rfl _ _ rfl (World.ownsRow.alloc (w := wr.drewN nq) hown _) (World.cell?_alloc_new _ _ _ _) HD.out (by have := HT.out; omega) (Nat.le_trans hz (by rw [World.size_alloc]; exact Nat.le_succ _)) ?_; intro v1 w1 hown1 hb1)
                  go_roundw
                  case rel => exact ⟨1, t + 1, true, by have := HT.out; omega, by omega, by go_num, rfl, by rw [if_neg (by omega)]; exact hlb'.out, hown1, ((below_drewN hb nq).alloc hz _).trans hb1⟩
                  case measure => simp [intOf]; omega
                · have HD : Hid (((dig x t : Nat) : Int) / 2 ^ r % 4294967296 = ((dig (x / 2 ^ s) 0 : Nat) : Int)) := by
                    have h1 := HW0.out 0; rw [← HT.out] at h1; exact h1 (dig_of_lt HX.out.lt (by omega))
                  go_wp2
                  go_quiet (fail)
                  go_wp2_with (at_builtin; refine app_u32 23 22 infU undU rfl _ _ rfl w.heap.size _ 0 (x / 2 ^ s) rfl _ _ rfl (World.ownsRow.alloc (w := wr.drewN nq) hown _) (World.cell?_alloc_new _ _ _ _) HD.out (by have := HT.out; omega) (Nat.le_trans hz (by rw [World.size_alloc]; exact Nat.le_succ _)) ?_; intro v1 w1 hown1 hb1)
                  go_roundw
                  case rel => exact ⟨1, t + 1, true, by have := HT.out; omega, by omega, by go_num, rfl, by rw [if_neg (by omega)]; exact hlb'.out, hown1, ((below_drewN hb nq).alloc hz _).trans hb1⟩
                  case measure => simp [intOf]; omega
            · have hne : ((t : Int) == (k : Int)) = false := by rw [beq_eq_false_iff_ne]; have := HT.out; omega
              have hlb' : Hid (L' = b) := by show _ = _; have h1 := HL'.out; rwa [if_neg hj] at h1
              by_cases hnx : t + 1 < n
              · have c2 := hx'.cell (t + 1) hnx
                have i2 := hx'.idx' 23 und siz (t + 1) hnx ((t : Int) + 1) (by omega)
                have hd2 := dig_lt x (t + 1)
                have HD : Hid (Go.bits .or .u64 (dig x t : Nat) ((dig x (t + 1) : Nat) * 4294967296) / 2 ^ r % 4294967296 = ((dig (x / 2 ^ s) j : Nat) : Int)) := by
                  have h1 := HW1.out j; rw [← HT.out] at h1; exact h1
                go_wp2
                go_quiet (fail)
                go_wp2_with (at_builtin; refine app_u32 23 22 infU undU rfl _ _ rfl w.heap.size _ j (x / 2 ^ s) rfl _ _ rfl (World.ownsRow.alloc (w := wr.drewN nq) hown _) (World.cell?_alloc_new _ _ _ _) HD.out (by have := HT.out; omega) (Nat.le_trans hz (by rw [World.size_alloc]; exact Nat.le_succ _)) ?_; intro v1 w1 hown1 hb1)
                go_roundw
                case rel => exact ⟨j + 1, t + 1, L', by have := HT.out; omega, by omega, by go_num, rfl, by rw [if_neg (by omega)]; exact hlb'.out, hown1, ((below_drewN hb nq).alloc hz _).trans hb1⟩
                case measure => simp [intOf]; omega
              · have HD : Hid (((dig x t : Nat) : Int) / 2 ^ r % 4294967296 = ((dig (x / 2 ^ s) j : Nat) : Int)) := by
                  have h1 := HW0.out j; rw [← HT.out] at h1; exact h1 (dig_of_lt HX.out.lt (by omega))
                go_wp2
                go_quiet (fail)
                go_wp2_with (at_builtin; refine app_u32 23 22 infU undU rfl _ _ rfl w.heap.size _ j (x / 2 ^ s) rfl _ _ rfl (World.ownsRow.alloc (w := wr.drewN nq) hown _) (World.cell?_alloc_new _ _ _ _) HD.out (by have := HT.out; omega) (Nat.le_trans hz (by rw [World.size_alloc]; exact Nat.le_succ _)) ?_; intro v1 w1 hown1 hb1)
                go_roundw
                case rel => exact ⟨j + 1, t + 1, L', by have := HT.out; omega, by omega, by go_num, rfl, by rw [if_neg (by omega)]; exact hlb'.out, hown1, ((below_drewN hb nq).alloc hz _).trans hb1⟩
                case measure => simp [intOf]; omega
          · obtain rfl : t = n := by omega
            have hbL : L' = b := by
              have h1 := HL'.out
              have h2 := HT.out
              have h3 := HH.out
              rwa [if_neg (by omega)] at h1
            subst hbL
            have hlim2 := HDL.out (by have := HH.out; omega)
            rw [show t - k = j by have := HT.out; omega] at hlim2
            obtain ⟨a1, cp1, hv, hm1, hfr⟩ := mag_of_owns hown hlim2
            subst hv
            go_wp2
            go_ret2
            exact ⟨a1, j, cp1, rfl, hm1, by have := HT.out; omega, hb, hfr⟩

end Go.Proofs.YtjhngehajahbnaaDoor

/-
  Walks: package integer: FromInt, Shift, DivMod, Sqrt.
-/
import Derived.Test.YtjhngehajahbnaaDoorTz
namespace Go.Proofs.YtjhngehajahbnaaDoor
open Go.RowKit Sp

theorem limbs2 (k : Nat) : k % 4294967296 + k / 4294967296 * B = k := by rw [B_eq]; omega

theorem two_int (k : Nat) (hk : k ≤ 18446744073709551615) (W : World) : Mag (W.alloc (.cells #[.int .u32 ((k : Int) % 4294967296), .int .u32 ((k : Int) / 4294967296)] 22)) (some ⟨W.heap.size, 0, none⟩) 2 2 k := by
  have hm := Mag.two W 22 (k % 4294967296) (k / 4294967296) (by omega) (by omega)
  rw [limbs2] at hm
  exact hm

set_option maxRecDepth 100000 in
set_option maxHeartbeats 2000000 in
theorem fromInt_nat (w : World) (k : Nat) (hk : k ≤ 9223372036854775807) :
    Calls Tryd.prog 64 #[.int .i64 k] w (RetBig w (sgn false k)) := by
  have HM := Lib.hid (two_int k (by omega))
  have hlt : decide ((k : Int) < 0) = false := by simp
  go_enter Tryd.func64, Tryd.ntmps64
  go_wp2_with fail
  have hm := HM.out (w.alloc (.cells #[.bool false, .slice none 0 0] 25))
  rw [World.size_alloc] at hm
  refine (big_any _ _ _ _ _ _ hm).mono ?_
  rintro e w2 ⟨a2, c2, rfl, hm2, hb, hf2⟩
  obtain ⟨hc2, hz2⟩ := bcell (hb.mono (show w.heap.size + 2 ≤ _ by simp))
  go_wp2_with fail
  refine bodyPost_ret (v := .agg #[.bool (false && decide (0 < k)), .slice a2 (nl k) c2]) (by simp [results, Tryd.results64, go_sem, hc2]) rfl ?_
  refine ret_sgn hm2 (fun h => ?_) (below_box (by repeat (first | exact Below.refl _ _ | refine Below.drew ?_ | refine below_drewN ?_ _ | refine Below.alloc ?_ (by simp <;> omega) _ | refine Below.setCell ?_ (by simp <;> omega) _)) hb) (by omega)
  rw [hf2 h, ab_some]; simp

set_option maxRecDepth 100000 in
set_option maxHeartbeats 2000000 in
theorem fromInt_neg (w : World) (k : Nat) (hk0 : 1 ≤ k) (hk : k ≤ 9223372036854775808) :
    Calls Tryd.prog 64 #[.int .i64 (-(k : Int))] w (RetBig w (sgn true k)) := by
  have HM := Lib.hid (two_int k (by omega))
  have e1 : IntKind.u64.wrap (-(k : Int)) = 18446744073709551616 - k := by rw [IntKind.wrap_u64]; omega
  have e2 : IntKind.u64.wrap (-(18446744073709551616 - (k : Int))) = k := by rw [IntKind.wrap_u64]; omega
  go_enter Tryd.func64, Tryd.ntmps64
  go_wp2_with fail
  have hm := HM.out (w.alloc (.cells #[.bool false, .slice none 0 0] 25))
  rw [World.size_alloc] at hm
  refine (big_any _ _ _ _ _ _ hm).mono ?_
  rintro e w2 ⟨a2, c2, rfl, hm2, hb, hf2⟩
  obtain ⟨hc2, hz2⟩ := bcell (hb.mono (show w.heap.size + 2 ≤ _ by simp))
  go_wp2_with fail
  refine bodyPost_ret (v := .agg #[.bool (true && decide (0 < k)), .slice a2 (nl k) c2]) (by simp [results, Tryd.results64, go_sem, hc2]; omega) rfl ?_
  refine ret_sgn hm2 (fun h => ?_) (below_box (by repeat (first | exact Below.refl _ _ | refine Below.drew ?_ | refine below_drewN ?_ _ | refine Below.alloc ?_ (by simp <;> omega) _ | refine Below.setCell ?_ (by simp <;> omega) _)) hb) (by omega)
  rw [hf2 h, ab_some]; simp

theorem fromInt_any (w : World) (n : Int) (h0 : -9223372036854775808 ≤ n) (h1 : n ≤ 9223372036854775807) :
    Calls Tryd.prog 64 #[.int .i64 n] w (RetBig w n) := by
  rcases Int.lt_or_le n 0 with h | h
  · obtain ⟨k, hk⟩ : ∃ k : Nat, n = -(k : Int) := ⟨n.natAbs, by omega⟩
    subst hk
    exact fromInt_neg w k (by omega) (by omega)
  · obtain ⟨k, rfl⟩ := Int.eq_ofNat_of_zero_le h
    exact fromInt_nat w k (by omega)

/-- A call's two results: an integer, and an error's number. -/
def RetBigE (w : World) (z err : Int) (e : Ending) (w' : World) : Prop :=
  ∃ a cap, e = .returned (.tuple #[.agg #[.bool (decide (z < 0)), .slice a (nl z.natAbs) cap], .int .i64 err]) ∧ Mag w' a (nl z.natAbs) cap z.natAbs ∧ Below w.heap.size w w' ∧ (0 < nl z.natAbs → w.heap.size ≤ ab a)

theorem ret_sgnE {w w2 : World} {s : Bool} {x : Nat} {a2 : Option Addr} {c2 g : Nat} {u u' : Value} {z err : Int} (hz : z = sgn s x) (hm : Mag w2 a2 (nl x) c2 x) (hfr : 0 < nl x → g < ab a2) (hb : Below w.heap.size w w2) (hg : w.heap.size ≤ g) :
    RetBigE w z err (.returned (.tuple #[.agg #[.bool (s && decide (0 < x)), .slice a2 (nl x) c2], .int .i64 err])) ((w2.setCell ⟨g, 0, none⟩ u).setCell ⟨g, 1, none⟩ u') := by
  subst hz
  obtain ⟨a, c, he, hm', hb', hf'⟩ := ret_sgn (s := s) (u := u) (u' := u') hm hfr hb hg
  injection he with he
  refine ⟨a, c, ?_, hm', hb', hf'⟩
  rw [← he]

theorem bodyPost_ret2 {P : Program} {fn : Func} {R : Ending → World → Prop} {a : Act} {w : World} {v : Value}
    (hr : (results fn a.tmps).run P w = .ok v w) (hd : a.defers = []) (hR : R (.returned v) w) : bodyPost P fn R .ret a w := ⟨hd, v, hr, hR⟩

set_option maxRecDepth 100000 in
set_option maxHeartbeats 2000000 in
theorem shift_up (w : World) (s : Bool) (a : Option Addr) (n cap x k : Nat) (hx : Mag w a n cap x) (hlim : n ≤ 1099511627776) (hk : k ≤ 1048576) :
    Calls Tryd.prog 63 #[.agg #[.bool s, .slice a n cap], .int .i64 k] w (RetBigE w (sgn s (x * 2 ^ k)) 0) := by
  have nx := nl_le hx.lt
  have t1 : decide ((k : Int) < -1048576) = false := by simp <;> omega
  have t2 : decide ((1048576 : Int) < (k : Int)) = false := by simp <;> omega
  have t3 : decide ((0 : Int) ≤ (k : Int)) = true := by simp
  have e2 : ¬ w.heap.size + 1 = w.heap.size := by omega
  go_enter Tryd.func63, Tryd.ntmps63
  go_wp2_with (go_at_call 70; refine (trim_any _ _ _ _ _ (hx.below (by repeat (first | exact Below.refl _ _ | refine Below.drew ?_ | refine below_drewN ?_ _ | refine Below.alloc ?_ (by simp <;> omega) _ | refine Below.setCell ?_ (by simp <;> omega) _)))).mono ?_; rintro e w' ⟨rfl, rfl⟩)
  go_region_held3 (fun w' => w'.cell? ⟨w.heap.size, 0, none⟩ = some (.bool s)) (first | go_keep)
    (first | (go_at_call 96; refine (up_any _ _ _ _ _ _ (hx.below (by repeat (first | exact Below.refl _ _ | refine Below.drew ?_ | refine below_drewN ?_ _ | refine Below.alloc ?_ (by simp <;> omega) _ | refine Below.setCell ?_ (by simp <;> omega) _))).trim (by omega) (by omega) (by omega)).mono ?_; rintro e w1 ⟨a1, c1, rfl, hm1, hb1, hf1⟩; rw [Int.toNat_natCast] at hm1 hf1 ⊢; obtain ⟨hc1, hz1⟩ := bcell (hb1.mono (show w.heap.size + 2 ≤ _ by simp))) | (go_at_call 71; refine (big_any _ _ _ _ _ _ hm1).mono ?_; rintro e w2 ⟨a2, c2, rfl, hm2, hb2, hf2⟩; have hb := hb1.trans (hb2.mono hb1.size); obtain ⟨hc2, hz2⟩ := bcell (hb.mono (show w.heap.size + 2 ≤ _ by simp))))
  go_wp2_with fail
  refine bodyPost_ret2 (v := .tuple #[.agg #[.bool (s && decide (0 < x * 2 ^ k)), .slice a2 (nl (x * 2 ^ k)) c2], .int .i64 0]) (by simp [results, Tryd.results63, go_sem, hc2]) rfl ?_
  refine ret_sgnE rfl hm2 (fun h => ?_) (below_box (by repeat (first | exact Below.refl _ _ | refine Below.drew ?_ | refine below_drewN ?_ _ | refine Below.alloc ?_ (by simp <;> omega) _ | refine Below.setCell ?_ (by simp <;> omega) _)) hb) (by omega)
  rw [hf2 h]
  have := hf1 h
  simp at this; omega

theorem floor_neg (x k : Nat) : (-(x : Int)) / 2 ^ k = -((x / 2 ^ k : Nat) : Int) - (if x % 2 ^ k ≠ 0 then 1 else 0) := by
  have hp : 0 < 2 ^ k := Nat.pow_pos (by decide)
  have h := Nat.div_add_mod x (2 ^ k)
  have hm := Nat.mod_lt x hp
  rw [← pow_cast]
  generalize 2 ^ k = p at *
  generalize x / p = q at *
  generalize x % p = r at *
  have hpI : (0 : Int) < (p : Int) := by omega
  subst h
  simp only [Int.natCast_add, Int.natCast_mul]
  split
  · rename_i hr
    have e : -((p : Int) * q + r) = (-(q : Int) - 1) * p + (p - r) := by grind
    rw [e, Int.add_comm, Int.add_mul_ediv_right _ _ (by omega), Int.ediv_eq_zero_of_lt (by omega) (by omega)]
    omega
  · rename_i hr
    have : r = 0 := by simpa using hr
    subst this
    have e : -((p : Int) * q + (0 : Nat)) = (-(q : Int)) * p := by grind
    rw [e, Int.mul_ediv_cancel _ (by omega)]
    omega

/-- 2^k times z, rounded down. -/
def shl (z k : Int) : Int := if 0 ≤ k then z * 2 ^ k.toNat else z / 2 ^ (-k).toNat

theorem shl_up (s : Bool) (x k : Nat) : shl (sgn s x) k = sgn s (x * 2 ^ k) := by
  unfold shl sgn
  rw [if_pos (by omega), Int.toNat_natCast]
  cases s <;> simp [Int.neg_mul]

theorem shl_down_pos (x k : Nat) (hk : 0 < k) : shl (sgn false x) (-(k : Int)) = sgn false (x / 2 ^ k) := by
  unfold shl sgn
  rw [if_neg (by omega), Int.neg_neg, Int.toNat_natCast]
  simp

theorem shl_down_neg (x k : Nat) (hk : 0 < k) : shl (sgn true x) (-(k : Int)) = sgn true (x / 2 ^ k + if x % 2 ^ k ≠ 0 then 1 else 0) := by
  unfold shl sgn
  rw [if_neg (by omega), Int.neg_neg, Int.toNat_natCast]
  simp only [if_true]
  rw [floor_neg]
  split <;> simp <;> omega

set_option maxRecDepth 100000 in
set_option maxHeartbeats 2000000 in
theorem shift_down (w : World) (s : Bool) (a : Option Addr) (n cap x k y : Nat) (b : Bool) (hx : Mag w a n cap x) (hlim : n ≤ 1099511627776) (hk0 : 0 < k) (hk : k ≤ 1048576) (hb : b = decide (x % 2 ^ k ≠ 0)) (hsb : (s && b) = false) (hy : y = x / 2 ^ k) :
    Calls Tryd.prog 63 #[.agg #[.bool s, .slice a n cap], .int .i64 (-(k : Int))] w (RetBigE w (sgn s y) 0) := by
  have nx := nl_le hx.lt
  have t1 : decide (-(k : Int) < -1048576) = false := by simp <;> omega
  have t2 : decide ((1048576 : Int) < -(k : Int)) = false := by simp <;> omega
  have t3 : decide ((0 : Int) ≤ -(k : Int)) = false := by simp <;> omega
  have HD := fun W h => Lib.hid (down_any W a (nl x) cap x (k : Int) h rfl (by omega) (by omega) (by omega) b (by rw [Int.toNat_natCast]; exact hb))
  rw [Int.toNat_natCast, ← hy] at HD
  clear hb hy
  have e2 : ¬ w.heap.size + 1 = w.heap.size := by omega
  have hbs : s = true → b = false := fun h => by rw [h] at hsb; simpa using hsb
  go_enter Tryd.func63, Tryd.ntmps63
  go_wp2_with (first | (go_at_call 70; refine (trim_any _ _ _ _ _ (hx.below (by repeat (first | exact Below.refl _ _ | refine Below.drew ?_ | refine below_drewN ?_ _ | refine Below.alloc ?_ (by simp <;> omega) _ | refine Below.setCell ?_ (by simp <;> omega) _)))).mono ?_; rintro e w' ⟨rfl, rfl⟩) | (go_at_call 97; refine (HD _ (hx.below (by repeat (first | exact Below.refl _ _ | refine Below.drew ?_ | refine below_drewN ?_ _ | refine Below.alloc ?_ (by simp <;> omega) _ | refine Below.setCell ?_ (by simp <;> omega) _))).trim).out.mono ?_; rintro e w1 ⟨a1, c1, rfl, hm1, hb1, hf1⟩; obtain ⟨hc1, hz1⟩ := bcell (hb1.mono (show w.heap.size + 2 ≤ _ by simp))))
  all_goals
    refine (big_any _ _ _ _ _ _ hm1).mono ?_
    rintro e w2 ⟨a2, c2, rfl, hm2, hb2, hf2⟩
    have hb := hb1.trans (hb2.mono hb1.size)
    obtain ⟨hc2, hz2⟩ := bcell (hb.mono (show w.heap.size + 2 ≤ _ by simp))
    go_wp2_with fail
  · refine bodyPost_ret2 (v := .tuple #[.agg #[.bool (true && decide (0 < y)), .slice a2 (nl y) c2], .int .i64 0]) (by simp [results, Tryd.results63, go_sem, hc2]) rfl ?_
    refine ret_sgnE (by rw [show s = true by assumption]) hm2 (fun h => ?_) (below_box (by repeat (first | exact Below.refl _ _ | refine Below.drew ?_ | refine below_drewN ?_ _ | refine Below.alloc ?_ (by simp <;> omega) _ | refine Below.setCell ?_ (by simp <;> omega) _)) hb) (by omega)
    rw [hf2 h]
    have := hf1 h
    simp at this; omega
  · refine bodyPost_ret2 (v := .tuple #[.agg #[.bool (false && decide (0 < y)), .slice a2 (nl y) c2], .int .i64 0]) (by simp [results, Tryd.results63, go_sem, hc2]) rfl ?_
    refine ret_sgnE (by cases s <;> simp_all) hm2 (fun h => ?_) (below_box (by repeat (first | exact Below.refl _ _ | refine Below.drew ?_ | refine below_drewN ?_ _ | refine Below.alloc ?_ (by simp <;> omega) _ | refine Below.setCell ?_ (by simp <;> omega) _)) hb) (by omega)
    rw [hf2 h]
    have := hf1 h
    simp at this; omega

set_option maxRecDepth 100000 in
set_option maxHeartbeats 2000000 in
/-- .. of a negative number that loses a bit -/
theorem shift_lost (w : World) (a : Option Addr) (n cap x k y : Nat) (hx : Mag w a n cap x) (hlim : n ≤ 1099511627776) (hk0 : 0 < k) (hk : k ≤ 1048576) (hb : true = decide (x % 2 ^ k ≠ 0)) (hy : y = x / 2 ^ k) :
    Calls Tryd.prog 63 #[.agg #[.bool true, .slice a n cap], .int .i64 (-(k : Int))] w (RetBigE w (sgn true (y + 1)) 0) := by
  have nx := nl_le hx.lt
  have ny : nl y ≤ nl x := by rw [hy]; exact nl_mono (Nat.div_le_self _ _)
  have t1 : decide (-(k : Int) < -1048576) = false := by simp <;> omega
  have t2 : decide ((1048576 : Int) < -(k : Int)) = false := by simp <;> omega
  have t3 : decide ((0 : Int) ≤ -(k : Int)) = false := by simp <;> omega
  have HD := fun W h => Lib.hid (down_any W a (nl x) cap x (k : Int) h rfl (by omega) (by omega) (by omega) true (by rw [Int.toNat_natCast]; exact hb))
  rw [Int.toNat_natCast, ← hy] at HD
  clear hb hy
  have e2 : ¬ w.heap.size + 1 = w.heap.size := by omega
  go_enter Tryd.func63, Tryd.ntmps63
  go_wp2_with (first | (go_at_call 70; refine (trim_any _ _ _ _ _ (hx.below (by repeat (first | exact Below.refl _ _ | refine Below.drew ?_ | refine below_drewN ?_ _ | refine Below.alloc ?_ (by simp <;> omega) _ | refine Below.setCell ?_ (by simp <;> omega) _)))).mono ?_; rintro e w' ⟨rfl, rfl⟩) | (go_at_call 97; refine (HD _ (hx.below (by repeat (first | exact Below.refl _ _ | refine Below.drew ?_ | refine below_drewN ?_ _ | refine Below.alloc ?_ (by simp <;> omega) _ | refine Below.setCell ?_ (by simp <;> omega) _))).trim).out.mono ?_; rintro e w0 ⟨a0, c0, rfl, hm0, hb0, hf0⟩; obtain ⟨hc0, hz0⟩ := bcell (hb0.mono (show w.heap.size + 2 ≤ _ by simp))))
  have hone : Below w0.heap.size w0 (w0.alloc (.cells #[.int .u32 1] 22)) := (Below.refl _ _).alloc (Nat.le_refl _) _
  refine (plus_any _ _ _ _ _ _ _ _ _ (hm0.below hone) (Mag.one w0 22 1 (by omega)) (by omega) (by omega)).mono ?_
  rintro e w1 ⟨a1, c1, rfl, hm1, hb1', hf1'⟩
  have hb1 := hb0.trans ((hone.trans (hb1'.mono hone.size)).mono hb0.size)
  have hf1 : 0 < nl (y + 1) → w.heap.size + 2 ≤ ab a1 := fun h => by
    have h1 := hf1' h
    have h2 := hone.size
    have h3 := hb0.size
    simp at h1 h2 h3
    omega
  obtain ⟨hc1, hz1⟩ := bcell (hb1.mono (show w.heap.size + 2 ≤ _ by simp))
  go_wp2_with fail
  refine (big_any _ _ _ _ _ _ hm1).mono ?_
  rintro e w2 ⟨a2, c2, rfl, hm2, hb2, hf2⟩
  have hb := hb1.trans (hb2.mono hb1.size)
  obtain ⟨hc2, hz2⟩ := bcell (hb.mono (show w.heap.size + 2 ≤ _ by simp))
  go_wp2_with fail
  refine bodyPost_ret2 (v := .tuple #[.agg #[.bool (true && decide (0 < y + 1)), .slice a2 (nl (y + 1)) c2], .int .i64 0]) (by simp [results, Tryd.results63, go_sem, hc2]) rfl ?_
  refine ret_sgnE rfl hm2 (fun h => ?_) (below_box (by repeat (first | exact Below.refl _ _ | refine Below.drew ?_ | refine below_drewN ?_ _ | refine Below.alloc ?_ (by simp <;> omega) _ | refine Below.setCell ?_ (by simp <;> omega) _)) hb) (by omega)
  rw [hf2 h]
  have := hf1 h
  omega

/-- a 2^k, rounded down -/
theorem shift_any (w : World) (s : Bool) (a : Option Addr) (n cap x : Nat) (k : Int) (hx : Mag w a n cap x) (hlim : n ≤ 1099511627776) (h0 : -1048576 ≤ k) (h1 : k ≤ 1048576) :
    Calls Tryd.prog 63 #[.agg #[.bool s, .slice a n cap], .int .i64 k] w (RetBigE w (shl (sgn s x) k) 0) := by
  rcases Int.lt_or_le k 0 with h | h
  · obtain ⟨j, hj⟩ : ∃ j : Nat, k = -(j : Int) := ⟨k.natAbs, by omega⟩
    subst hj
    cases s
    · rw [shl_down_pos x j (by omega)]
      exact shift_down w false a n cap x j _ _ hx hlim (by omega) (by omega) rfl rfl rfl
    · rw [shl_down_neg x j (by omega)]
      by_cases hb : x % 2 ^ j ≠ 0
      · rw [if_pos hb]
        exact shift_lost w a n cap x j _ hx hlim (by omega) (by omega) (by rw [decide_eq_true hb]) rfl
      · rw [if_neg hb, Nat.add_zero]
        exact shift_down w true a n cap x j _ _ hx hlim (by omega) (by omega) (decide_eq_false hb).symm rfl rfl
  · obtain ⟨j, rfl⟩ := Int.eq_ofNat_of_zero_le h
    rw [shl_up]
    exact shift_up w s a n cap x j hx hlim (by omega)

end Go.Proofs.YtjhngehajahbnaaDoor

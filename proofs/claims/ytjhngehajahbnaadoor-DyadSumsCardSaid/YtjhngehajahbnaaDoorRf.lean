/-
  Walks: the reference's package sparseref01: trim, make1, Norm, Abs, Neg.
-/
import Derived.Test.YtjhngehajahbnaaDoorShift
namespace Go.Proofs.YtjhngehajahbnaaDoor
open Go.RowKit Sp

set_option maxRecDepth 100000 in
set_option maxHeartbeats 2000000 in
/-- a copy without leading zeros -/
theorem rtrim_any (w : World) (a : Option Addr) (n cap x : Nat) (hx : Mag w a n cap x) (hlim : n ≤ 1099511627776) :
    Calls Tryd.prog 78 #[.slice a n cap] w (RetNat w x) := by
  have l1 := hx.lim
  have l2 := hx.fits
  have hlt0 := hx.lt
  have HX := Lib.hid hx
  clear hx
  go_enter Tryd.func78, Tryd.ntmps78
  go_wp2
  go_loop [3] (fun t => ∃ k : Nat, k ≤ n ∧ x < B ^ k ∧ t = .int .i64 k) (fun t => (intOf t).toNat)
  case atStart => exact ⟨n, Nat.le_refl _, hlt0, rfl⟩
  case round =>
    obtain ⟨m, hk, htop, rfl⟩ := hrel
    have HT := Lib.hid htop
    clear htop hlt0
    by_cases h0 : 0 < m
    · obtain ⟨j, rfl⟩ : ∃ j, m = j + 1 := ⟨m - 1, by omega⟩
      have c1 := HX.out.cell j (by omega)
      have i1 := HX.out.idx 23 und siz j (by omega)
      go_wp2
      · have hd := beq0_true (by assumption : (((dig x j : Nat) : Int) == 0) = true)
        go_round
        case rel => exact ⟨j, by omega, lt_of_dig_zero HT.out hd, rfl⟩
        case measure => simp [intOf]
      · have hd := beq0_false (by assumption : (((dig x j : Nat) : Int) == 0) = false)
        have HN := Lib.hid (nl_of_dig HT.out hd)
        clear c1 i1 hd
        have hown0 := World.ownsRow_nil w w.heap.size 22 1
        go_loopw [4, 5] (fun v i wr => ∃ k : Nat, k ≤ j + 1 ∧ i = .int .i64 k ∧ wr.ownsRow w.heap.size 22 1 v k (digs x k) ∧ Below w.heap.size w wr) (fun _ i _ => j + 1 - (intOf i).toNat)
        case atStart => exact ⟨0, by omega, rfl, hown0, Below.refl _ _⟩
        case round =>
          clear hown0
          obtain ⟨k, hk', rfl, hown, hb⟩ := hrel
          have hx' := HX.out.below hb
          by_cases hlt : k < j + 1
          · have c1 := hx'.cell k (by omega)
            have i1 := hx'.idx 23 und siz k (by omega)
            have hz := hb.size
            go_wp2_with (at_builtin; refine app_u32 23 22 infU undU rfl _ _ rfl w.heap.size _ k x rfl _ _ rfl (hown.alloc _) (World.cell?_alloc_new _ _ _ _) rfl (by omega) (by rw [World.size_alloc]; omega) ?_; intro v1 w1 hown1 hb1)
            go_roundw
            case rel => exact ⟨k + 1, by omega, by go_num, hown1, (hb.alloc hz _).trans hb1⟩
            case measure => simp [intOf]; omega
          · obtain rfl : k = j + 1 := by omega
            obtain ⟨a1, cp1, hv, hm1, hfr⟩ := mag_of_owns hown HT.out
            subst hv
            go_wp2
            go_ret
            unfold RetNat
            rw [HN.out]
            exact ⟨a1, cp1, rfl, hm1, hb, hfr⟩
    · obtain rfl : m = 0 := by omega
      have HN := Lib.hid (show nl x = 0 by have h1 := HT.out; simp at h1; rw [h1]; rfl)
      go_wp2
      have hown0 := World.ownsRow_nil w w.heap.size 22 1
      go_loopw [4, 5] (fun v i wr => ∃ k : Nat, k ≤ 0 ∧ i = .int .i64 k ∧ wr.ownsRow w.heap.size 22 1 v k (digs x k) ∧ Below w.heap.size w wr) (fun _ i _ => 0 - (intOf i).toNat)
      case atStart => exact ⟨0, by omega, rfl, hown0, Below.refl _ _⟩
      case round =>
        clear hown0
        obtain ⟨k, hk', rfl, hown, hb⟩ := hrel
        have hx' := HX.out.below hb
        by_cases hlt : k < 0
        · exact absurd hlt (Nat.not_lt_zero k)
        · obtain rfl : k = 0 := by omega
          obtain ⟨a1, cp1, hv, hm1, hfr⟩ := mag_of_owns hown HT.out
          subst hv
          go_wp2
          go_ret
          unfold RetNat
          rw [HN.out]
          exact ⟨a1, cp1, rfl, hm1, hb, hfr⟩

theorem nl_lt_iff (x : Nat) : decide (0 < nl x) = decide (0 < x) :=
  decide_eq_decide.2 ⟨fun h => Nat.pos_of_ne_zero (fun h0 => by rw [h0] at h; exact absurd h (by decide)), nl_pos⟩

set_option maxRecDepth 100000 in
set_option maxHeartbeats 2000000 in
theorem rmake1_any (w : World) (s : Bool) (a : Option Addr) (n cap x : Nat) (hx : Mag w a n cap x) (hlim : n ≤ 1099511627776) :
    Calls Tryd.prog 79 #[.bool s, .slice a n cap] w (RetBig w (sgn s x)) := by
  have HR := fun W h => Lib.hid (rtrim_any W a n cap x h hlim)
  have hnl := nl_lt_iff x
  have HNL := Lib.hid hnl
  clear hnl
  cases s
  all_goals (
    go_enter Tryd.func79, Tryd.ntmps79
    go_wp2_with fail
    refine (HR _ (hx.below (by repeat (with_reducible first | refine Below.setCell ?_ (by simp <;> omega) _ | refine Below.alloc ?_ (by simp <;> omega) _ | refine Below.drew ?_ | refine below_drewN ?_ _ | exact Below.refl _ _)))).out.mono ?_
    rintro e w1 ⟨a1, c1, rfl, hm1, hb, hf1⟩
    obtain ⟨hc1, hz1⟩ := bcell (hb.mono (show w.heap.size + 1 ≤ _ by simp))
    have hfr1 : 0 < nl x → w.heap.size + 1 ≤ ab a1 := fun h => by have := hf1 h; simpa using this
    have hbw := below_box (w := w) (by repeat (with_reducible first | refine Below.setCell ?_ (by simp <;> omega) _ | refine Below.alloc ?_ (by simp <;> omega) _ | refine Below.drew ?_ | refine below_drewN ?_ _ | exact Below.refl _ _)) hb
    go_wp2_with fail)
  · refine bodyPost_ret (v := .agg #[.bool (false && decide (0 < x)), .slice a1 (nl x) c1]) (by simp only [results, Tryd.results79]; go_simp) rfl ?_
    exact ret_sgn hm1 (fun h => by have := hfr1 h; omega) hbw (Nat.le_refl _)
  · refine bodyPost_ret (v := .agg #[.bool (decide (0 < nl x)), .slice a1 (nl x) c1]) (by simp only [results, Tryd.results79]; go_simp) rfl ?_
    rw [show decide (0 < nl x) = (true && decide (0 < x)) from HNL.out]
    exact ret_sgn hm1 (fun h => by have := hfr1 h; omega) hbw (Nat.le_refl _)

set_option maxRecDepth 100000 in
set_option maxHeartbeats 2000000 in
theorem rnorm_any (w : World) (s : Bool) (a : Option Addr) (n cap x : Nat) (hx : Mag w a n cap x) (hlim : n ≤ 1099511627776) :
    Calls Tryd.prog 77 #[.agg #[.bool s, .slice a n cap]] w (RetBig w (sgn s x)) := by
  have HR := fun W h => Lib.hid (rmake1_any W s a n cap x h hlim)
  generalize sgn s x = z at HR ⊢
  go_enter Tryd.func77, Tryd.ntmps77
  go_wp2_with fail
  refine (HR _ (hx.below (by repeat (with_reducible first | refine Below.setCell ?_ (by simp <;> omega) _ | refine Below.alloc ?_ (by simp <;> omega) _ | refine Below.drew ?_ | refine below_drewN ?_ _ | exact Below.refl _ _)))).out.mono ?_
  rintro e w1 ⟨a1, c1, rfl, hm1, hb, hf1⟩
  obtain ⟨hc1, hz1⟩ := bcell (hb.mono (show w.heap.size + 2 ≤ _ by simp))
  have hfr1 : 0 < nl z.natAbs → w.heap.size + 2 ≤ ab a1 := fun h => by have := hf1 h; simpa using this
  have hbw := below_box (w := w) (by repeat (with_reducible first | refine Below.setCell ?_ (by simp <;> omega) _ | refine Below.alloc ?_ (by simp <;> omega) _ | refine Below.drew ?_ | refine below_drewN ?_ _ | exact Below.refl _ _)) hb
  go_wp2_with fail
  refine bodyPost_ret (v := .agg #[.bool (decide (z < 0)), .slice a1 (nl z.natAbs) c1]) (by simp only [results, Tryd.results77]; go_simp) rfl ?_
  exact ret_big hm1 (fun h => by have := hfr1 h; omega) hbw (by omega)

set_option maxRecDepth 100000 in
set_option maxHeartbeats 2000000 in
theorem rabs_any (w : World) (s : Bool) (a : Option Addr) (n cap x : Nat) (hx : Mag w a n cap x) (hlim : n ≤ 1099511627776) :
    Calls Tryd.prog 88 #[.agg #[.bool s, .slice a n cap]] w (RetBig w (sgn false x)) := by
  have HR := fun W h => Lib.hid (rmake1_any W false a n cap x h hlim)
  generalize sgn false x = z at HR ⊢
  go_enter Tryd.func88, Tryd.ntmps88
  go_wp2_with fail
  refine (HR _ (hx.below (by repeat (with_reducible first | refine Below.setCell ?_ (by simp <;> omega) _ | refine Below.alloc ?_ (by simp <;> omega) _ | refine Below.drew ?_ | refine below_drewN ?_ _ | exact Below.refl _ _)))).out.mono ?_
  rintro e w1 ⟨a1, c1, rfl, hm1, hb, hf1⟩
  obtain ⟨hc1, hz1⟩ := bcell (hb.mono (show w.heap.size + 2 ≤ _ by simp))
  have hfr1 : 0 < nl z.natAbs → w.heap.size + 2 ≤ ab a1 := fun h => by have := hf1 h; simpa using this
  have hbw := below_box (w := w) (by repeat (with_reducible first | refine Below.setCell ?_ (by simp <;> omega) _ | refine Below.alloc ?_ (by simp <;> omega) _ | refine Below.drew ?_ | refine below_drewN ?_ _ | exact Below.refl _ _)) hb
  go_wp2_with fail
  refine bodyPost_ret (v := .agg #[.bool (decide (z < 0)), .slice a1 (nl z.natAbs) c1]) (by simp only [results, Tryd.results88]; go_simp) rfl ?_
  exact ret_big hm1 (fun h => by have := hfr1 h; omega) hbw (by omega)

set_option maxRecDepth 100000 in
set_option maxHeartbeats 2000000 in
theorem rsign_any (w : World) (s : Bool) (a : Option Addr) (n cap x : Nat) (hx : Mag w a n cap x) (hlim : n ≤ 1099511627776) :
    Calls Tryd.prog 50 #[.agg #[.bool s, .slice a n cap]] w fun e w' => e = .returned (.int .i64 (sg (sgn s x))) ∧ Below w.heap.size w w' := by
  have HR := fun W h => Lib.hid (rnorm_any W s a n cap x h hlim)
  generalize sgn s x = z at HR ⊢
  rcases Int.lt_trichotomy z 0 with hz | hz | hz
  · have hn1 : (((nl z.natAbs : Nat) : Int) == 0) = false := by rw [beq_eq_false_iff_ne]; have := nl_pos (x := z.natAbs) (by omega); omega
    have hz1 : decide (z < 0) = true := by simpa using hz
    rw [sg_neg hz]
    go_enter Tryd.func50, Tryd.ntmps50
    go_wp2_with fail
    refine (HR _ (hx.below (by repeat (with_reducible first | refine Below.setCell ?_ (by simp <;> omega) _ | refine Below.alloc ?_ (by simp <;> omega) _ | refine Below.drew ?_ | refine below_drewN ?_ _ | exact Below.refl _ _)))).out.mono ?_
    rintro e w1 ⟨a1, c1, rfl, hm1, hb, hf1⟩
    obtain ⟨hc1, hzz1⟩ := bcell (hb.mono (show w.heap.size + 1 ≤ _ by simp))
    have hbw := below_box (w := w) (by repeat (with_reducible first | refine Below.setCell ?_ (by simp <;> omega) _ | refine Below.alloc ?_ (by simp <;> omega) _ | refine Below.drew ?_ | refine below_drewN ?_ _ | exact Below.refl _ _)) hb
    go_wp2_with fail
    go_ret
    exact ⟨rfl, (by have hszw := hbw.size; repeat (with_reducible first | refine Below.setCell ?_ (by first | omega | (simp <;> omega)) _ | refine Below.alloc ?_ (by first | omega | (simp <;> omega)) _ | refine Below.drew ?_ | refine below_drewN ?_ _ | exact hbw))⟩
  · have hn1 : (((nl z.natAbs : Nat) : Int) == 0) = true := by rw [hz]; rfl
    rw [show sg z = 0 by rw [hz]; rfl]
    clear hz
    go_enter Tryd.func50, Tryd.ntmps50
    go_wp2_with fail
    refine (HR _ (hx.below (by repeat (with_reducible first | refine Below.setCell ?_ (by simp <;> omega) _ | refine Below.alloc ?_ (by simp <;> omega) _ | refine Below.drew ?_ | refine below_drewN ?_ _ | exact Below.refl _ _)))).out.mono ?_
    rintro e w1 ⟨a1, c1, rfl, hm1, hb, hf1⟩
    obtain ⟨hc1, hzz1⟩ := bcell (hb.mono (show w.heap.size + 1 ≤ _ by simp))
    have hbw := below_box (w := w) (by repeat (with_reducible first | refine Below.setCell ?_ (by simp <;> omega) _ | refine Below.alloc ?_ (by simp <;> omega) _ | refine Below.drew ?_ | refine below_drewN ?_ _ | exact Below.refl _ _)) hb
    go_wp2_with fail
    go_ret
    exact ⟨rfl, (by have hszw := hbw.size; repeat (with_reducible first | refine Below.setCell ?_ (by first | omega | (simp <;> omega)) _ | refine Below.alloc ?_ (by first | omega | (simp <;> omega)) _ | refine Below.drew ?_ | refine below_drewN ?_ _ | exact hbw))⟩
  · have hn1 : (((nl z.natAbs : Nat) : Int) == 0) = false := by rw [beq_eq_false_iff_ne]; have := nl_pos (x := z.natAbs) (by omega); omega
    have hz1 : decide (z < 0) = false := by simp; omega
    rw [sg_pos hz]
    go_enter Tryd.func50, Tryd.ntmps50
    go_wp2_with fail
    refine (HR _ (hx.below (by repeat (with_reducible first | refine Below.setCell ?_ (by simp <;> omega) _ | refine Below.alloc ?_ (by simp <;> omega) _ | refine Below.drew ?_ | refine below_drewN ?_ _ | exact Below.refl _ _)))).out.mono ?_
    rintro e w1 ⟨a1, c1, rfl, hm1, hb, hf1⟩
    obtain ⟨hc1, hzz1⟩ := bcell (hb.mono (show w.heap.size + 1 ≤ _ by simp))
    have hbw := below_box (w := w) (by repeat (with_reducible first | refine Below.setCell ?_ (by simp <;> omega) _ | refine Below.alloc ?_ (by simp <;> omega) _ | refine Below.drew ?_ | refine below_drewN ?_ _ | exact Below.refl _ _)) hb
    go_wp2_with fail
    go_ret
    exact ⟨rfl, (by have hszw := hbw.size; repeat (with_reducible first | refine Below.setCell ?_ (by first | omega | (simp <;> omega)) _ | refine Below.alloc ?_ (by first | omega | (simp <;> omega)) _ | refine Below.drew ?_ | refine below_drewN ?_ _ | exact hbw))⟩

set_option maxRecDepth 100000 in
set_option maxHeartbeats 2000000 in
theorem rbitlen_any (w : World) (s : Bool) (a : Option Addr) (n cap x : Nat) (hx : Mag w a n cap x) (hlim : n ≤ 1099511627776) :
    Calls Tryd.prog 59 #[.agg #[.bool s, .slice a n cap]] w fun e w' => e = .returned (.int .i64 (blen x)) ∧ Below w.heap.size w w' := by
  have HR := fun W h => Lib.hid (rtrim_any W a n cap x h hlim)
  have hnn := nl_le hx.lt
  by_cases hx0 : x = 0
  · have hn1 : (((nl x : Nat) : Int) == 0) = true := by rw [hx0]; rfl
    rw [show blen x = 0 by rw [hx0]; rfl]
    clear hx0
    go_enter Tryd.func59, Tryd.ntmps59
    go_wp2_with fail
    refine (HR _ (hx.below (by repeat (with_reducible first | refine Below.setCell ?_ (by simp <;> omega) _ | refine Below.alloc ?_ (by simp <;> omega) _ | refine Below.drew ?_ | refine below_drewN ?_ _ | exact Below.refl _ _)))).out.mono ?_
    rintro e w1 ⟨a1, c1, rfl, hm1, hb, hf1⟩
    have hbw := below_box (w := w) (by repeat (with_reducible first | refine Below.setCell ?_ (by simp <;> omega) _ | refine Below.alloc ?_ (by simp <;> omega) _ | refine Below.drew ?_ | refine below_drewN ?_ _ | exact Below.refl _ _)) hb
    go_wp2_with fail
    go_ret
    exact ⟨rfl, (by have hszw := hbw.size; repeat (with_reducible first | refine Below.setCell ?_ (by first | omega | (simp <;> omega)) _ | refine Below.alloc ?_ (by first | omega | (simp <;> omega)) _ | refine Below.drew ?_ | refine below_drewN ?_ _ | exact hbw))⟩
  · have hp := Nat.pos_of_ne_zero hx0
    have hnp := nl_pos hp
    obtain ⟨j, hj⟩ : ∃ j, nl x = j + 1 := ⟨nl x - 1, by omega⟩
    have hbt := blen_top hp
    rw [hj, Nat.add_sub_cancel] at hbt
    have HBT := Lib.hid hbt
    have HJ := Lib.hid hj
    have hn1 : (((j + 1 : Nat) : Int) == 0) = false := by rw [beq_eq_false_iff_ne]; omega
    have hd := dig_lt x j
    have HL := fun W => Lib.hid (len32_any W (dig x j) hd)
    have hbl : blen (dig x j) ≤ 32 := blen_le hd
    rw [hj] at hnn
    clear hbt hj hnp hp hx0
    go_enter Tryd.func59, Tryd.ntmps59
    go_wp2_with fail
    refine (HR _ (hx.below (by repeat (with_reducible first | refine Below.setCell ?_ (by simp <;> omega) _ | refine Below.alloc ?_ (by simp <;> omega) _ | refine Below.drew ?_ | refine below_drewN ?_ _ | exact Below.refl _ _)))).out.mono ?_
    rintro e w1 ⟨a1, c1, rfl, hm1, hb, hf1⟩
    rw [HJ.out] at hm1 ⊢
    have l1 := hm1.lim
    have l2 := hm1.fits
    have k1 := hm1.cell j (by omega)
    have i1 := hm1.idx 23 und siz j (by omega)
    have hbw := below_box (w := w) (by repeat (with_reducible first | refine Below.setCell ?_ (by simp <;> omega) _ | refine Below.alloc ?_ (by simp <;> omega) _ | refine Below.drew ?_ | refine below_drewN ?_ _ | exact Below.refl _ _)) hb
    go_wp2_with fail
    refine (HL _).out.mono ?_
    rintro e w' ⟨rfl, rfl⟩
    go_wp2_with fail
    go_ret
    refine ⟨?_, (by have hszw := hbw.size; repeat (with_reducible first | refine Below.setCell ?_ (by first | omega | (simp <;> omega)) _ | refine Below.alloc ?_ (by first | omega | (simp <;> omega)) _ | refine Below.drew ?_ | refine below_drewN ?_ _ | exact hbw))⟩
    rw [HBT.out]
    exact congrArg (fun q => Ending.returned (.int .i64 q)) (by simp <;> omega)

set_option maxRecDepth 100000 in
set_option maxHeartbeats 2000000 in
/-- the zeros at the end of an integer -/
theorem rtrailing_any (w : World) (ht : Tab w) (s : Bool) (a : Option Addr) (n cap x : Nat) (hx : Mag w a n cap x) (hlim : n ≤ 1099511627776) :
    Calls Tryd.prog 87 #[.agg #[.bool s, .slice a n cap]] w fun e w' => e = .returned (.int .i64 (tz x)) ∧ Below w.heap.size w w' := by
  have HR := fun W h => Lib.hid (rtrim_any W a n cap x h hlim)
  have hnn : nl x ≤ 1099511627776 := Nat.le_trans (nl_le hx.lt) hlim
  go_enter Tryd.func87, Tryd.ntmps87
  go_wp2_with fail
  refine (HR _ (hx.below (by repeat (with_reducible first | refine Below.setCell ?_ (by simp <;> omega) _ | refine Below.alloc ?_ (by simp <;> omega) _ | refine Below.drew ?_ | refine below_drewN ?_ _ | exact Below.refl _ _)))).out.mono ?_
  rintro e w1 ⟨a1, c1, rfl, hx1, hb, hf1⟩
  have hbw := below_box (w := w) (by repeat (with_reducible first | refine Below.setCell ?_ (by simp <;> omega) _ | refine Below.alloc ?_ (by simp <;> omega) _ | refine Below.drew ?_ | refine below_drewN ?_ _ | exact Below.refl _ _)) hb
  have ht1 := ht.below hbw
  have HB := Lib.hid hbw
  have l1 := hx1.lim
  have l2 := hx1.fits
  clear hf1 hb hbw
  generalize nl x = m at *
  go_wp2
  go_loop [4] (fun i => ∃ k : Nat, k ≤ m ∧ i = .int .i64 k ∧ x % B ^ k = 0) (fun i => m - (intOf i).toNat)
  case atStart => exact ⟨0, by omega, rfl, mod_zero_pow x⟩
  case round =>
    obtain ⟨k, hk, rfl, hz⟩ := hrel
    have HZ := Lib.hid hz
    clear hz
    by_cases hlt : k < m
    · have k1 := hx1.cell k hlt
      have i1 := hx1.idx 23 und siz k hlt
      have hd1 := dig_lt x k
      by_cases hd0 : dig x k = 0
      · have hd2 : (((dig x k : Nat) : Int) != 0) = false := by rw [hd0]; rfl
        go_wp2
        go_round
        case rel => exact ⟨k + 1, by omega, by go_num, by rw [mod_succ, HZ.out, hd0, Nat.zero_mul]⟩
        case measure => simp [intOf]; omega
      · have hd2 : (((dig x k : Nat) : Int) != 0) = true := by rw [bne_iff_ne]; omega
        have htz : tz (dig x k) < 32 := (and_neg (Nat.pos_of_ne_zero hd0) hd1).2
        have HR := Lib.hid (tz_dig HZ.out hd0)
        have HC := Lib.hid (tz32_any _ (dig x k) ht1 (Nat.pos_of_ne_zero hd0) hd1)
        go_wp2_with (go_at_call 99; refine HC.out.mono ?_; rintro e w' ⟨rfl, rfl⟩)
        go_ret
        refine ⟨?_, HB.out⟩
        rw [HR.out]
        exact congrArg (fun q => Ending.returned (.int .i64 q)) (by simp <;> omega)
    · obtain rfl : k = m := by omega
      go_wp2
      go_ret
      have hx0 : x = 0 := by rw [← mod_of_lt hx1.lt]; exact HZ.out
      subst hx0
      exact ⟨rfl, HB.out⟩

end Go.Proofs.YtjhngehajahbnaaDoor

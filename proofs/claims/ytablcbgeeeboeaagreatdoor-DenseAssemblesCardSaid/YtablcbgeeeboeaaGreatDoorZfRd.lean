/-
  Walks: package float: the parts of a float and the functions of its bits.
-/
import Derived.Test.YtablcbgeeeboeaaGreatDoorZfFP
import Derived.Test.YtablcbgeeeboeaaGreatDoorZfBf
set_option maxHeartbeats 400000
namespace Go.Proofs.YtablcbgeeeboeaaGreatDoor
open Go.RowKit Sp
theorem fparts_any (w : World) (f : Nat) : Calls Tryz.prog 117 #[.int .u64 f] w fun e w' => e = .returned (.tuple #[.int .i64 (fE f : Nat), .int .u64 (fR f : Nat)]) ∧ w = w' := by
 have h1 := bits_E f
 have h2 := bits_R f
 have h3 := fE_lt f
 have h4 : IntKind.i64.wrap ((fE f : Nat) : Int) = (fE f : Nat) := by rw [IntKind.wrap_i64]; omega
 generalize ((fE f : Nat) : Int) = E at *
 generalize ((fR f : Nat) : Int) = R at *
 go_enter Tryz.func117, Tryz.ntmps117
 go_wp2
 refine bodyPost_ret (v := .tuple #[.int .i64 E, .int .u64 R]) (by simp only [results, Tryz.results117]; go_simp) rfl ?_
 exact ⟨rfl, rfl⟩
theorem fsign_any (w : World) (f : Nat) (hf : f < 18446744073709551616) : Calls Tryz.prog 127 #[.int .u64 f] w fun e w' => e = .returned (.bool (fS f)) ∧ w = w' := by
 have h1 := bits_sign hf
 cases hs : fS f <;> rw [hs] at h1 <;>
 · simp only [if_true, Bool.false_eq_true, if_false] at h1
   go_enter Tryz.func127, Tryz.ntmps127
   go_wp2
   go_ret
   exact ⟨by simp, rfl⟩
theorem fsigned_any (w : World) (c : Nat) (s : Bool) (hc : c < 9223372036854775808) : Calls Tryz.prog 161 #[.int .u64 c, .bool s] w fun e w' => e = .returned (.int .u64 (fsgn s c : Nat)) ∧ w = w' := by
 have h1 := bits_or_sign hc
 cases s
 · go_enter Tryz.func161, Tryz.ntmps161
   go_wp2
   go_ret
   exact ⟨rfl, rfl⟩
 · generalize ((fsgn true c : Nat) : Int) = v at *
   go_enter Tryz.func161, Tryz.ntmps161
   go_wp2
   go_ret
   exact ⟨by simp, rfl⟩
theorem fkind_ER (f : Nat) : fkind f = if fE f = 2047 then (if fR f = 0 then 2 else 3) else if fE f = 0 then (if fR f = 0 then 0 else 1) else 1 := by
 have h1 := fnan_E f
 have h2 := finf_E f
 have h3 := fzero_E f
 unfold fkind
 rw [h1, h2, h3]
 by_cases a : fE f = 2047 <;> by_cases b : fR f = 0 <;> by_cases c : fE f = 0 <;> simp [a, b, c] <;> omega
theorem fkind_any (w : World) (f : Nat) : Calls Tryz.prog 94 #[.int .u64 f] w fun e w' => e = .returned (.int .i64 (fkind f)) ∧ w = w' := by
 have HP := fun W => Lib.hid (fparts_any W f)
 have hk := fkind_ER f
 have a1 : (((fE f : Nat) : Int) == 2047) = decide (fE f = 2047) := by rw [Bool.eq_iff_iff]; simp; omega
 have a2 : (((fE f : Nat) : Int) == 0) = decide (fE f = 0) := by rw [Bool.eq_iff_iff]; simp
 have a3 : (((fR f : Nat) : Int) == 0) = decide (fR f = 0) := by rw [Bool.eq_iff_iff]; simp
 have a4 : (((fR f : Nat) : Int) != 0) = !decide (fR f = 0) := by unfold bne; rw [a3]
 generalize fkind f = k at *
 generalize ((fE f : Nat) : Int) = E at *
 generalize ((fR f : Nat) : Int) = R at *
 by_cases a : fE f = 2047
 · rw [decide_eq_true a] at a1
   rw [if_pos a] at hk
   by_cases b : fR f = 0
   · rw [decide_eq_true b] at a3 a4
     rw [if_pos b] at hk
     subst hk
     clear a b a2 a3
     go_enter Tryz.func94, Tryz.ntmps94
     go_wp2_with fail
     refine (HP _).out.mono ?_
     rintro e w1 ⟨rfl, rfl⟩
     go_wp2_with fail
     go_ret
     exact ⟨rfl, rfl⟩
   · rw [decide_eq_false b] at a3 a4
     rw [if_neg b] at hk
     subst hk
     clear a b a2 a3
     go_enter Tryz.func94, Tryz.ntmps94
     go_wp2_with fail
     refine (HP _).out.mono ?_
     rintro e w1 ⟨rfl, rfl⟩
     go_wp2_with fail
     go_ret
     exact ⟨rfl, rfl⟩
 · rw [decide_eq_false a] at a1
   rw [if_neg a] at hk
   by_cases c : fE f = 0
   · rw [decide_eq_true c] at a2
     rw [if_pos c] at hk
     by_cases b : fR f = 0
     · rw [decide_eq_true b] at a3
       rw [if_pos b] at hk
       subst hk
       clear a b c a4
       go_enter Tryz.func94, Tryz.ntmps94
       go_wp2_with fail
       refine (HP _).out.mono ?_
       rintro e w1 ⟨rfl, rfl⟩
       go_wp2_with fail
       go_ret
       exact ⟨rfl, rfl⟩
     · rw [decide_eq_false b] at a3
       rw [if_neg b] at hk
       subst hk
       clear a b c a4
       go_enter Tryz.func94, Tryz.ntmps94
       go_wp2_with fail
       refine (HP _).out.mono ?_
       rintro e w1 ⟨rfl, rfl⟩
       go_wp2_with fail
       go_ret
       exact ⟨rfl, rfl⟩
   · rw [decide_eq_false c] at a2
     rw [if_neg c] at hk
     subst hk
     clear a c a3 a4
     go_enter Tryz.func94, Tryz.ntmps94
     go_wp2_with fail
     refine (HP _).out.mono ?_
     rintro e w1 ⟨rfl, rfl⟩
     go_wp2_with fail
     go_ret
     exact ⟨rfl, rfl⟩
theorem fkind_eqs (f : Nat) : (fkind f == 3) = fnan f ∧ (fkind f == 2) = finf f ∧ (fkind f == 0) = fzero f := by
 have h1 := fnan_E f
 have h2 := finf_E f
 have h3 := fzero_E f
 rw [fkind_ER, h1, h2, h3]
 by_cases a : fE f = 2047 <;> by_cases b : fR f = 0 <;> by_cases c : fE f = 0 <;> simp [a, b, c] <;> omega
theorem ffin_any (w : World) (f : Nat) : Calls Tryz.prog 69 #[.int .u64 f] w fun e w' => e = .returned (.bool (ffin f)) ∧ w = w' := by
 have HP := fun W => Lib.hid (fparts_any W f)
 have hk : (((fE f : Nat) : Int) != 2047) = ffin f := by rw [ffin_E, Bool.eq_iff_iff]; simp; omega
 generalize ((fE f : Nat) : Int) = E at *
 go_enter Tryz.func69, Tryz.ntmps69
 go_wp2_with fail
 refine (HP _).out.mono ?_
 rintro e w1 ⟨rfl, rfl⟩
 go_wp2_with fail
 go_ret
 exact ⟨by simp, rfl⟩
end Go.Proofs.YtablcbgeeeboeaaGreatDoor
set_option maxRecDepth 100000
set_option maxHeartbeats 2000000
namespace Go.Proofs.YtablcbgeeeboeaaGreatDoor
open Go.RowKit Sp
def FRow (w : World) (g n : Nat) (L : Nat → Nat) : Prop := ∀ i, i < n → w.cell? ⟨g, i, none⟩ = some (.int .u64 (L i : Nat))
theorem FRow.drewN {w : World} {g n : Nat} {L : Nat → Nat} (h : FRow w g n L) (q : Nat) : FRow (w.drewN q) g n L := h
def nanL (L : Nat → Nat) : Nat → Bool
 | 0 => false
 | n + 1 => nanL L n || fnan (L n)
theorem nanL_true {L : Nat → Nat} : ∀ {n i : Nat}, i < n → fnan (L i) = true → nanL L n = true
 | 0, i, h, _ => by omega
 | n + 1, i, h, hi => by
  rcases Nat.lt_or_eq_of_le (Nat.le_of_lt_succ h) with h1 | h1
  · unfold nanL; rw [nanL_true h1 hi]; rfl
  · subst h1; unfold nanL; rw [hi, Bool.or_true]
theorem fnan_any (w : World) (g n : Nat) (L : Nat → Nat) (hn : n ≤ 1000) (hc : FRow w g n L) :
 Calls Tryz.prog 132 #[.slice (some ⟨g, 0, none⟩) n n] w fun e w' => e = .returned (.bool (nanL L n)) ∧ w = w' := by
 have HK := fun f => Lib.hid (fkind_any w f)
 go_enter Tryz.func132, Tryz.ntmps132
 go_wp2
 go_loop [7] (fun i => ∃ k : Nat, k ≤ n ∧ i = .int .i64 k ∧ nanL L k = false) (fun i => n - (intOf i).toNat)
 case atStart => exact ⟨0, Nat.zero_le _, rfl, rfl⟩
 case round =>
  obtain ⟨k, hk, rfl, hL⟩ := hrel
  have HL := Lib.hid hL
  clear hL
  by_cases h0 : k < n
  · have c1 := hc k h0
    have he := (fkind_eqs (L k)).1
    have hs : nanL L (k + 1) = fnan (L k) := by show (nanL L k || fnan (L k)) = _; rw [HL.out, Bool.false_or]
    have HS := Lib.hid hs
    clear hs
    generalize hy : L k = y at c1 he
    have HY := Lib.hid hy
    have HK1 := HK y
    generalize fkind y = z at HK1 he
    clear hc HK hy
    cases hb : fnan y with
    | true =>
     rw [hb] at he
     go_wp2_with fail
     refine HK1.out.mono ?_
     rintro e w1 ⟨rfl, rfl⟩
     go_wp2_with fail
     go_ret
     exact ⟨Eq.trans (show _ = Ending.returned (.bool true) from rfl) (by rw [nanL_true h0 (by rw [HY.out]; exact hb)]), rfl⟩
    | false =>
     rw [hb] at he
     go_wp2_with fail
     refine HK1.out.mono ?_
     rintro e w1 ⟨rfl, rfl⟩
     go_wp2_with fail
     go_round
     case rel => exact ⟨k + 1, by omega, by go_num, by rw [HS.out, HY.out]; exact hb⟩
     case measure => simp [intOf]; omega
  · obtain rfl : k = n := by omega
    go_wp2
    go_ret
    exact ⟨Eq.trans (show _ = Ending.returned (.bool false) from rfl) (by rw [HL.out]), rfl⟩
theorem nan1 (w : World) (g a : Nat) (h0 : w.cell? ⟨g, 0, none⟩ = some (.int .u64 a)) :
 Calls Tryz.prog 132 #[.slice (some ⟨g, 0, none⟩) 1 1] w fun e w' => e = .returned (.bool (fnan a)) ∧ w = w' := by
 have h := fnan_any w g 1 (fun _ => a) (by decide) (fun i hi => by obtain rfl : i = 0 := by omega
                                                                   exact h0)
 have e : nanL (fun _ => a) 1 = fnan a := by simp [nanL]
 rwa [e] at h
theorem fabs_any (w : World) (f : Nat) (hf : f < 18446744073709551616) : Calls Tryz.prog 83 #[.int .u64 f] w fun e w' => e = .returned (.int .u64 (fabs f : Nat)) ∧ Below w.heap.size w w' := by
 have h1 := bits_abs hf
 cases hn : fnan f with
 | true =>
  have hv : fabs f = fNaN := by unfold fabs; rw [if_pos hn]
  have hv : ((fabs f : Nat) : Int) = 9221120237041090560 := by rw [hv]; rfl
  generalize ((fabs f : Nat) : Int) = v at *
  go_enter Tryz.func83, Tryz.ntmps83
  go_wp2_with fail
  refine (nan1 _ _ f (by go_simp)).mono ?_
  rw [hn]
  rintro e w1 ⟨rfl, rfl⟩
  go_wp2_with fail
  go_ret
  exact ⟨by rw [hv]; rfl, zbh⟩
 | false =>
  have hv : fabs f = fM f := by unfold fabs; rw [if_neg (by rw [hn]; decide)]
  rw [← hv] at h1
  generalize ((fabs f : Nat) : Int) = v at *
  clear hv
  go_enter Tryz.func83, Tryz.ntmps83
  go_wp2_with fail
  refine (nan1 _ _ f (by go_simp)).mono ?_
  rw [hn]
  rintro e w1 ⟨rfl, rfl⟩
  go_wp2_with fail
  go_ret
  exact ⟨by rw [← h1]; rfl, zbh⟩
theorem mode_dec (mode : Int) (s : Bool) : fover s mode = if (mode == 3 || (mode == 1 && !s) || (mode == 2 && s)) then fsgn s fMax else fsgn s fInf := by
 unfold fover
 by_cases h3 : mode = 3
 · subst h3; simp
 · by_cases h1 : mode = 1
   · subst h1; cases s <;> simp
   · by_cases h2 : mode = 2
     · subst h2; cases s <;> simp
     · cases s <;> simp [h1, h2, h3]
theorem fover_any (w : World) (mode : Int) (s : Bool) : Calls Tryz.prog 162 #[.bool s, .int .i64 mode] w fun e w' => e = .returned (.int .u64 (fover s mode : Nat)) ∧ w = w' := by
 have hv := mode_dec mode s
 have HM := fun W => Lib.hid (show Calls Tryz.prog 161 #[.int .u64 9218868437227405311, .bool s] W fun e w' => e = .returned (.int .u64 (fsgn s fMax : Nat)) ∧ W = w' from fsigned_any W fMax s (by decide))
 have HI := fun W => Lib.hid (show Calls Tryz.prog 161 #[.int .u64 9218868437227405312, .bool s] W fun e w' => e = .returned (.int .u64 (fsgn s fInf : Nat)) ∧ W = w' from fsigned_any W fInf s (by decide))
 rw [hv]
 clear hv
 cases hb : (mode == 3 || (mode == 1 && !s) || (mode == 2 && s)) with
 | true =>
  simp only [if_true]
  generalize ((fsgn s fMax : Nat) : Int) = v at *
  cases h3 : (mode == 3) <;> cases h1 : (mode == 1) <;> cases h2 : (mode == 2) <;> cases s <;> rw [h3, h1, h2] at hb <;> first
  | (exfalso; revert hb; decide)
  | (clear hb
     go_enter Tryz.func162, Tryz.ntmps162
     go_wp2_with fail
     refine (HM _).out.mono ?_
     rintro e w1 ⟨rfl, rfl⟩
     go_wp2_with fail
     go_ret
     exact ⟨rfl, rfl⟩)
 | false =>
  simp only [Bool.false_eq_true, if_false]
  generalize ((fsgn s fInf : Nat) : Int) = v at *
  cases h3 : (mode == 3) <;> cases h1 : (mode == 1) <;> cases h2 : (mode == 2) <;> cases s <;> rw [h3, h1, h2] at hb <;> first
  | (exfalso; revert hb; decide)
  | (clear hb
     go_enter Tryz.func162, Tryz.ntmps162
     go_wp2_with fail
     refine (HI _).out.mono ?_
     rintro e w1 ⟨rfl, rfl⟩
     go_wp2_with fail
     go_ret
     exact ⟨rfl, rfl⟩)
end Go.Proofs.YtablcbgeeeboeaaGreatDoor
set_option maxRecDepth 100000
set_option maxHeartbeats 2000000
namespace Go.Proofs.YtablcbgeeeboeaaGreatDoor
open Go.RowKit Sp
theorem raddm_any (w : World) (a a' : Option Addr) (n m cap cap' x y N : Nat) (hx : Mag w a n cap x) (hy : Mag w a' m cap' y) (hN : N = max n m) (hlim : N ≤ 1099511627776) :
 Calls Tryz.prog 108 #[.slice a n cap, .slice a' m cap'] w (RetLimbs w (x + y) (N + 1)) := by
 have hmx : max (n : Int) (m : Int) = (N : Int) := by omega
 have hxN : x < B ^ N := Nat.lt_of_lt_of_le hx.lt (Bpow_mono (by omega))
 have hyN : y < B ^ N := Nat.lt_of_lt_of_le hy.lt (Bpow_mono (by omega))
 have lx1 := hx.lim
 have lx2 := hx.fits
 have ly1 := hy.lim
 have ly2 := hy.fits
 have HX := Lib.hid hx
 have HY := Lib.hid hy
 have HXN := Lib.hid hxN
 have HYN := Lib.hid hyN
 have HNN := Lib.hid hN
 clear hx hy hxN hyN hN
 go_enter Tryz.func108, Tryz.ntmps108
 go_wp2
 have hown0 := World.ownsRow_nil w w.heap.size 96 1
 go_loopw [5, 6, 7] (fun v c i wr => ∃ k : Nat, k ≤ N ∧ i = .int .i64 k ∧ c = .int .u64 (car x y k) ∧ wr.ownsRow w.heap.size 96 1 v k (digs (x + y) k) ∧ Below w.heap.size w wr) (fun _ _ i _ => N - (intOf i).toNat)
 case atStart => exact ⟨0, by omega, rfl, by rw [car_zero]; rfl, hown0, Below.refl _ _⟩
 case round =>
  clear hown0
  obtain ⟨k, hk, rfl, rfl, hown, hb⟩ := hrel
  have hx' := HX.out.below hb
  have hy' := HY.out.below hb
  have hz := hb.size
  have hc1 := car_le x y k
  by_cases hlt : k < N
  · have hlt' : decide ((k : Int) < (N : Int)) = true := by simpa using hlt
    by_cases hxk : k < n
    · by_cases hyk : k < m
      · have c1 := hx'.cell k hxk
        have i1 := hx'.idx 42 und siz k hxk
        have hd1 := dig_lt x k
        have c2 := hy'.cell k hyk
        have i2 := hy'.idx 42 und siz k hyk
        have hd2 := dig_lt y k
        have HD : Hid ((((car x y k : Nat) : Int) + dig x k + dig y k) % 4294967296 = ((dig (x + y) k : Nat) : Int)) := by show _ = _; rw [dig_add, B_eq]; omega
        have HC : Hid (car x y (k + 1) = (car x y k + dig x k + dig y k) / B) := by show _ = _; rw [car_succ]; congr 1; omega
        go_wp2_with (at_builtin; refine app_u32 42 96 infU undU rfl _ _ rfl w.heap.size _ k (x + y) rfl _ _ rfl (hown.alloc _) (World.cell?_alloc_new _ _ _ _) HD.out (by omega) (by rw [World.size_alloc]; omega) ?_; intro v1 w1 hown1 hb1)
        go_roundw
        case rel => exact ⟨k + 1, by omega, by go_num, by rw [HC.out, B_eq]; go_num, hown1, (hb.alloc hz _).trans hb1⟩
        case measure => simp [intOf]; omega
      · have c1 := hx'.cell k hxk
        have i1 := hx'.idx 42 und siz k hxk
        have hd1 := dig_lt x k
        have hy2 : dig y k = 0 := dig_of_lt HY.out.lt (by omega)
        have HD : Hid ((((car x y k : Nat) : Int) + dig x k) % 4294967296 = ((dig (x + y) k : Nat) : Int)) := by show _ = _; rw [dig_add, hy2, B_eq]; omega
        have HC : Hid (car x y (k + 1) = (car x y k + dig x k) / B) := by show _ = _; rw [car_succ, hy2]; congr 1; omega
        clear hy2
        go_wp2_with (at_builtin; refine app_u32 42 96 infU undU rfl _ _ rfl w.heap.size _ k (x + y) rfl _ _ rfl (hown.alloc _) (World.cell?_alloc_new _ _ _ _) HD.out (by omega) (by rw [World.size_alloc]; omega) ?_; intro v1 w1 hown1 hb1)
        go_roundw
        case rel => exact ⟨k + 1, by omega, by go_num, by rw [HC.out, B_eq]; go_num, hown1, (hb.alloc hz _).trans hb1⟩
        case measure => simp [intOf]; omega
    · have hyk : k < m := by have := HNN.out; omega
      have hx2 : dig x k = 0 := dig_of_lt HX.out.lt (by omega)
      have c2 := hy'.cell k hyk
      have i2 := hy'.idx 42 und siz k hyk
      have hd2 := dig_lt y k
      have HD : Hid ((((car x y k : Nat) : Int) + dig y k) % 4294967296 = ((dig (x + y) k : Nat) : Int)) := by show _ = _; rw [dig_add, hx2, B_eq]; omega
      have HC : Hid (car x y (k + 1) = (car x y k + dig y k) / B) := by show _ = _; rw [car_succ, hx2]; congr 1; omega
      clear hx2
      go_wp2_with (at_builtin; refine app_u32 42 96 infU undU rfl _ _ rfl w.heap.size _ k (x + y) rfl _ _ rfl (hown.alloc _) (World.cell?_alloc_new _ _ _ _) HD.out (by omega) (by rw [World.size_alloc]; omega) ?_; intro v1 w1 hown1 hb1)
      go_roundw
      case rel => exact ⟨k + 1, by omega, by go_num, by rw [HC.out, B_eq]; go_num, hown1, (hb.alloc hz _).trans hb1⟩
      case measure => simp [intOf]; omega
  · obtain rfl : k = N := by omega
    have HD : Hid (((car x y k : Nat) : Int) = ((dig (x + y) k : Nat) : Int)) := by
     show _ = _; rw [car_top HXN.out HYN.out]
    have hlt' : decide ((k : Int) < (k : Int)) = false := by simp
    go_wp2_with (at_builtin; refine app_u32 42 96 infU undU rfl _ _ rfl w.heap.size _ k (x + y) rfl _ _ rfl (hown.alloc _) (World.cell?_alloc_new _ _ _ _) HD.out (by omega) (by rw [World.size_alloc]; omega) ?_; intro v1 w1 hown1 hb1)
    obtain ⟨a1, cp1, hv, hm1, hfr⟩ := mag_of_owns hown1 (Sp.add_lt HXN.out HYN.out (Nat.le_refl _))
    subst hv
    go_ret
    exact ⟨a1, _, cp1, rfl, hm1, Nat.le_refl _, (hb.alloc hz _).trans hb1, hfr⟩
theorem rsub_word (x y d k : Nat) (h : y + d = x) :
 IntKind.u64.wrap (IntKind.u64.wrap ((dig x k : Int) - (car y d k : Nat)) - (dig y k : Nat)) / 9223372036854775808 = ((car y d (k + 1) : Nat) : Int) := by
 subst h
 obtain ⟨h1, h2⟩ := sub_dig y d k
 have h3 := car_le y d k
 have h5 := dig_lt y k
 have h6 := dig_lt (y + d) k
 simp only [IntKind.wrap_u64]
 rw [h2]
 split <;> omega
theorem rsub_word0 (x y d k : Nat) (h : y + d = x) (h0 : dig y k = 0) :
 IntKind.u64.wrap ((dig x k : Int) - (car y d k : Nat)) / 9223372036854775808 = ((car y d (k + 1) : Nat) : Int) := by
 subst h
 obtain ⟨h1, h2⟩ := sub_dig y d k
 have h3 := car_le y d k
 have h6 := dig_lt (y + d) k
 rw [h0] at h2
 simp only [IntKind.wrap_u64]
 rw [h2]
 split <;> omega
theorem rsubm_any (w : World) (a a' : Option Addr) (n m cap cap' x y d : Nat) (hx : Mag w a n cap x) (hy : Mag w a' m cap' y) (hd : y + d = x) (hlim : n ≤ 1099511627776) :
 Calls Tryz.prog 110 #[.slice a n cap, .slice a' m cap'] w (RetLimbs w d n) := by
 have HX := Lib.hid hx
 have HY := Lib.hid hy
 have HDD := Lib.hid hd
 have ly1 := hy.lim
 have ly2 := hy.fits
 clear hx hy hd
 go_enter Tryz.func110, Tryz.ntmps110
 go_wp2
 have hown0 := World.ownsRow_nil w w.heap.size 96 1
 go_loopw [5, 6, 7] (fun v c i wr => ∃ k : Nat, k ≤ n ∧ i = .int .i64 k ∧ c = .int .u64 (car y d k) ∧ wr.ownsRow w.heap.size 96 1 v k (digs d k) ∧ Below w.heap.size w wr) (fun _ _ i _ => n - (intOf i).toNat)
 case atStart => exact ⟨0, by omega, rfl, by rw [car_zero]; rfl, hown0, Below.refl _ _⟩
 case round =>
  clear hown0
  obtain ⟨k, hk, rfl, rfl, hown, hb⟩ := hrel
  have hx' := HX.out.below hb
  have hy' := HY.out.below hb
  have hz := hb.size
  have hc1 := car_le y d k
  by_cases hlt : k < n
  · have c1 := hx'.cell k hlt
    have i1 := hx'.idx 42 und siz k hlt
    have hd1 := dig_lt x k
    by_cases hkm : k < m
    · have c2 := hy'.cell k hkm
      have i2 := hy'.idx 42 und siz k hkm
      have hd2 := dig_lt y k
      have HD := Lib.hid (sub_word x y d k HDD.out).1
      have HC := Lib.hid (rsub_word x y d k HDD.out)
      go_wp2_with (at_builtin; refine app_u32 42 96 infU undU rfl _ _ rfl w.heap.size _ k (d) rfl _ _ rfl (hown.alloc _) (World.cell?_alloc_new _ _ _ _) HD.out (by omega) (by rw [World.size_alloc]; omega) ?_; intro v1 w1 hown1 hb1)
      go_roundw
      case rel => exact ⟨k + 1, by omega, by go_num, by rw [HC.out], hown1, (hb.alloc hz _).trans hb1⟩
      case measure => simp [intOf]; omega
    · have hy2 : dig y k = 0 := dig_of_lt HY.out.lt (by omega)
      have HD := Lib.hid (sub_word0 x y d k HDD.out hy2).1
      have HC := Lib.hid (rsub_word0 x y d k HDD.out hy2)
      clear hy2
      go_wp2_with (at_builtin; refine app_u32 42 96 infU undU rfl _ _ rfl w.heap.size _ k (d) rfl _ _ rfl (hown.alloc _) (World.cell?_alloc_new _ _ _ _) HD.out (by omega) (by rw [World.size_alloc]; omega) ?_; intro v1 w1 hown1 hb1)
      go_roundw
      case rel => exact ⟨k + 1, by omega, by go_num, by rw [HC.out], hown1, (hb.alloc hz _).trans hb1⟩
      case measure => simp [intOf]; omega
  · obtain rfl : k = n := by omega
    have hdl : d < B ^ k := Nat.lt_of_le_of_lt (by have := HDD.out; omega) HX.out.lt
    obtain ⟨a1, cp1, hv, hm1, hfr⟩ := mag_of_owns hown hdl
    subst hv
    go_wp2
    go_ret
    exact ⟨a1, k, cp1, rfl, hm1, Nat.le_refl _, hb, hfr⟩
theorem rcmpm_any (w : World) (a a' : Option Addr) (n m cap cap' x y : Nat) (hx : Mag w a n cap x) (hy : Mag w a' m cap' y) (hn : n = nl x) (hm : m = nl y) :
 Calls Tryz.prog 109 #[.slice a n cap, .slice a' m cap'] w fun e w' => e = .returned (.int .i64 (cmpI x y)) ∧ ∃ q, w' = w.drewN q := by
 have l1 := hx.lim
 have l2 := hy.lim
 have l3 := hx.fits
 have l4 := hy.fits
 by_cases hnm : n = m
 · subst hnm
   clear hn hm
   go_enter Tryz.func109, Tryz.ntmps109
   go_wp2
   go_loopw [5] (fun t wr => ∃ k : Nat, k ≤ n ∧ x / B ^ k = y / B ^ k ∧ t = .int .i64 ((k : Int) - 1) ∧ ∃ q, wr = w.drewN q) (fun t _ => (intOf t + 1).toNat)
   case atStart => exact ⟨n, Nat.le_refl _, by rw [Nat.div_eq_of_lt hx.lt, Nat.div_eq_of_lt hy.lt], rfl, 0, rfl⟩
   case round =>
    obtain ⟨k, hk, hq, rfl, q, rfl⟩ := hrel
    have HQ := Lib.hid hq
    clear hq
    by_cases h0 : 0 < k
    · obtain ⟨j, rfl⟩ : ∃ j, k = j + 1 := ⟨k - 1, by omega⟩
      have c1 := hx.cell j (by omega)
      have c2 := hy.cell j (by omega)
      have i1 := hx.idx 42 und siz j (by omega)
      have i2 := hy.idx 42 und siz j (by omega)
      go_wp2
      go_quiet (fail)
      go_wp2
      · have hd := bne_true (by assumption : (((dig x j : Nat) : Int) != ((dig y j : Nat) : Int)) = true)
        have hcd := cmp_dig HQ.out hd
        have HCD := Lib.hid hcd
        clear hcd
        go_quiet (fail)
        go_wp2
        · go_ret
          refine ⟨?_, _, by rw [World.drewN_drewN, World.drewN_drewN]⟩
          rw [← HCD.out, cmpI_lt (by first | assumption | omega)]
          rfl
        · go_ret
          refine ⟨?_, _, by rw [World.drewN_drewN, World.drewN_drewN]⟩
          rw [← HCD.out, cmpI_gt (by omega)]
          rfl
      · have hd := bne_false (by assumption : (((dig x j : Nat) : Int) != ((dig y j : Nat) : Int)) = false)
        go_roundw
        case rel => exact ⟨j, by omega, div_dig HQ.out hd, rfl, _, rfl⟩
        case measure => simp [intOf]
    · obtain rfl : k = 0 := by omega
      go_wp2
      go_ret
      refine ⟨?_, _, rfl⟩
      have : x = y := by have := HQ.out; simpa using this
      rw [this, cmpI_eq rfl]
      rfl
 · have hnm' : ((n : Int) != (m : Int)) = true := by rw [bne_iff_ne]; omega
   have hc := cmp_nl (x := x) (y := y) (by omega)
   rw [← hn, ← hm] at hc
   have HC := Lib.hid hc
   clear hn hm hc
   by_cases hlt : n < m
   · have hl : decide ((n : Int) < (m : Int)) = true := by simpa using hlt
     go_enter Tryz.func109, Tryz.ntmps109
     go_wp2
     go_ret
     refine ⟨?_, 0, rfl⟩
     rw [← HC.out, cmpI_lt (by omega)]
     rfl
   · have hl : decide ((n : Int) < (m : Int)) = false := by simp; omega
     go_enter Tryz.func109, Tryz.ntmps109
     go_wp2
     go_ret
     refine ⟨?_, 0, rfl⟩
     rw [← HC.out, cmpI_gt (by omega)]
     rfl
end Go.Proofs.YtablcbgeeeboeaaGreatDoor

/-
  Walks: package float: the parts of a float and the functions of its bits.
-/
import Derived.Test.YtablcbgeeeboeaaGreatDoorZhFP
import Derived.Test.YtablcbgeeeboeaaGreatDoorZhBf
set_option maxHeartbeats 400000
namespace Go.Proofs.YtablcbgeeeboeaaGreatDoor
open Go.RowKit Sp
theorem zBu (w : World) (f : Nat) : Calls Tryz.prog 117 #[.int .u64 f] w fun e w' => e = .returned (.tuple #[.int .i64 (fE f : Nat), .int .u64 (fR f : Nat)]) ∧ w = w' := by
 have h1 := zHZ f
 have h2 := zL5 f
 have h3 := zEo f
 have h4 : IntKind.i64.wrap ((fE f : Nat) : Int) = (fE f : Nat) := by rw [IntKind.wrap_i64]; omega
 generalize ((fE f : Nat) : Int) = E at *
 generalize ((fR f : Nat) : Int) = R at *
 go_enter Tryz.func117, Tryz.ntmps117
 go_wp2
 refine bodyPost_ret (v := .tuple #[.int .i64 E, .int .u64 R]) (by simp only [results, Tryz.results117]; go_simp) rfl ?_
 exact ⟨rfl, rfl⟩
theorem zDg (w : World) (f : Nat) (hf : f < 18446744073709551616) : Calls Tryz.prog 127 #[.int .u64 f] w fun e w' => e = .returned (.bool (fS f)) ∧ w = w' := by
 have h1 := zGy hf
 cases hs : fS f <;> rw [hs] at h1 <;>
 · simp only [if_true, Bool.false_eq_true, if_false] at h1
   go_enter Tryz.func127, Tryz.ntmps127
   go_wp2
   go_ret
   exact ⟨by simp, rfl⟩
theorem zBW (w : World) (c : Nat) (s : Bool) (hc : c < 9223372036854775808) : Calls Tryz.prog 161 #[.int .u64 c, .bool s] w fun e w' => e = .returned (.int .u64 (zCH s c : Nat)) ∧ w = w' := by
 have h1 := zDM hc
 cases s
 · go_enter Tryz.func161, Tryz.ntmps161
   go_wp2
   go_ret
   exact ⟨rfl, rfl⟩
 · generalize ((zCH true c : Nat) : Int) = v at *
   go_enter Tryz.func161, Tryz.ntmps161
   go_wp2
   go_ret
   exact ⟨by simp, rfl⟩
theorem zHR (f : Nat) : zFy f = if fE f = 2047 then (if fR f = 0 then 2 else 3) else if fE f = 0 then (if fR f = 0 then 0 else 1) else 1 := by
 have h1 := zMQ f
 have h2 := zMS f
 have h3 := zKr f
 unfold zFy
 rw [h1, h2, h3]
 by_cases a : fE f = 2047 <;> by_cases b : fR f = 0 <;> by_cases c : fE f = 0 <;> simp [a, b, c] <;> omega
theorem zKz (w : World) (f : Nat) : Calls Tryz.prog 94 #[.int .u64 f] w fun e w' => e = .returned (.int .i64 (zFy f)) ∧ w = w' := by
 have HP := fun W => Lib.hid (zBu W f)
 have hk := zHR f
 have a1 : (((fE f : Nat) : Int) == 2047) = decide (fE f = 2047) := by rw [Bool.eq_iff_iff]; simp; omega
 have a2 : (((fE f : Nat) : Int) == 0) = decide (fE f = 0) := by rw [Bool.eq_iff_iff]; simp
 have a3 : (((fR f : Nat) : Int) == 0) = decide (fR f = 0) := by rw [Bool.eq_iff_iff]; simp
 have a4 : (((fR f : Nat) : Int) != 0) = !decide (fR f = 0) := by unfold bne; rw [a3]
 generalize zFy f = k at *
 generalize ((fE f : Nat) : Int) = E at *
 generalize ((fR f : Nat) : Int) = R at *
 by_cases a : fE f = 2047
 · rw [decide_eq_true a] at a1
   rw [if_pos a] at hk
   by_cases b : fR f = 0
   · rw [decide_eq_true b] at a3 a4
     rw [if_pos b] at hk
     subst hk
     clear a b a2 a3
     go_enter Tryz.func94, Tryz.ntmps94
     go_wp2_with fail
     refine (HP _).out.mono ?_
     rintro e w1 ⟨rfl, rfl⟩
     go_wp2_with fail
     go_ret
     exact ⟨rfl, rfl⟩
   · rw [decide_eq_false b] at a3 a4
     rw [if_neg b] at hk
     subst hk
     clear a b a2 a3
     go_enter Tryz.func94, Tryz.ntmps94
     go_wp2_with fail
     refine (HP _).out.mono ?_
     rintro e w1 ⟨rfl, rfl⟩
     go_wp2_with fail
     go_ret
     exact ⟨rfl, rfl⟩
 · rw [decide_eq_false a] at a1
   rw [if_neg a] at hk
   by_cases c : fE f = 0
   · rw [decide_eq_true c] at a2
     rw [if_pos c] at hk
     by_cases b : fR f = 0
     · rw [decide_eq_true b] at a3
       rw [if_pos b] at hk
       subst hk
       clear a b c a4
       go_enter Tryz.func94, Tryz.ntmps94
       go_wp2_with fail
       refine (HP _).out.mono ?_
       rintro e w1 ⟨rfl, rfl⟩
       go_wp2_with fail
       go_ret
       exact ⟨rfl, rfl⟩
     · rw [decide_eq_false b] at a3
       rw [if_neg b] at hk
       subst hk
       clear a b c a4
       go_enter Tryz.func94, Tryz.ntmps94
       go_wp2_with fail
       refine (HP _).out.mono ?_
       rintro e w1 ⟨rfl, rfl⟩
       go_wp2_with fail
       go_ret
       exact ⟨rfl, rfl⟩
   · rw [decide_eq_false c] at a2
     rw [if_neg c] at hk
     subst hk
     clear a c a3 a4
     go_enter Tryz.func94, Tryz.ntmps94
     go_wp2_with fail
     refine (HP _).out.mono ?_
     rintro e w1 ⟨rfl, rfl⟩
     go_wp2_with fail
     go_ret
     exact ⟨rfl, rfl⟩
theorem zKy (f : Nat) : (zFy f == 3) = zP6 f ∧ (zFy f == 2) = zP7 f ∧ (zFy f == 0) = zCY f := by
 have h1 := zMQ f
 have h2 := zMS f
 have h3 := zKr f
 rw [zHR, h1, h2, h3]
 by_cases a : fE f = 2047 <;> by_cases b : fR f = 0 <;> by_cases c : fE f = 0 <;> simp [a, b, c] <;> omega
theorem zFz (w : World) (f : Nat) : Calls Tryz.prog 69 #[.int .u64 f] w fun e w' => e = .returned (.bool (zB0 f)) ∧ w = w' := by
 have HP := fun W => Lib.hid (zBu W f)
 have hk : (((fE f : Nat) : Int) != 2047) = zB0 f := by rw [zDh, Bool.eq_iff_iff]; simp; omega
 generalize ((fE f : Nat) : Int) = E at *
 go_enter Tryz.func69, Tryz.ntmps69
 go_wp2_with fail
 refine (HP _).out.mono ?_
 rintro e w1 ⟨rfl, rfl⟩
 go_wp2_with fail
 go_ret
 exact ⟨by simp, rfl⟩
end Go.Proofs.YtablcbgeeeboeaaGreatDoor
set_option maxRecDepth 100000
set_option maxHeartbeats 2000000
namespace Go.Proofs.YtablcbgeeeboeaaGreatDoor
open Go.RowKit Sp
def FRow (w : World) (g n : Nat) (L : Nat → Nat) : Prop := ∀ i, i < n → w.cell? ⟨g, i, none⟩ = some (.int .u64 (L i : Nat))
theorem FRow.drewN {w : World} {g n : Nat} {L : Nat → Nat} (h : FRow w g n L) (q : Nat) : FRow (w.drewN q) g n L := h
theorem zHG (mode : Int) (s : Bool) : zCP s mode = if (mode == 3 || (mode == 1 && !s) || (mode == 2 && s)) then zCH s zMT else zCH s zKC := by
 unfold zCP
 by_cases h3 : mode = 3
 · subst h3; simp
 · by_cases h1 : mode = 1
   · subst h1; cases s <;> simp
   · by_cases h2 : mode = 2
     · subst h2; cases s <;> simp
     · cases s <;> simp [h1, h2, h3]
theorem zGq (w : World) (mode : Int) (s : Bool) : Calls Tryz.prog 162 #[.bool s, .int .i64 mode] w fun e w' => e = .returned (.int .u64 (zCP s mode : Nat)) ∧ w = w' := by
 have hv := zHG mode s
 have HM := fun W => Lib.hid (show Calls Tryz.prog 161 #[.int .u64 9218868437227405311, .bool s] W fun e w' => e = .returned (.int .u64 (zCH s zMT : Nat)) ∧ W = w' from zBW W zMT s (by decide))
 have HI := fun W => Lib.hid (show Calls Tryz.prog 161 #[.int .u64 9218868437227405312, .bool s] W fun e w' => e = .returned (.int .u64 (zCH s zKC : Nat)) ∧ W = w' from zBW W zKC s (by decide))
 rw [hv]
 clear hv
 cases hb : (mode == 3 || (mode == 1 && !s) || (mode == 2 && s)) with
 | true =>
  simp only [if_true]
  generalize ((zCH s zMT : Nat) : Int) = v at *
  cases h3 : (mode == 3) <;> cases h1 : (mode == 1) <;> cases h2 : (mode == 2) <;> cases s <;> rw [h3, h1, h2] at hb <;> first
  | (exfalso; revert hb; decide)
  | (clear hb
     go_enter Tryz.func162, Tryz.ntmps162
     go_wp2_with fail
     refine (HM _).out.mono ?_
     rintro e w1 ⟨rfl, rfl⟩
     go_wp2_with fail
     go_ret
     exact ⟨rfl, rfl⟩)
 | false =>
  simp only [Bool.false_eq_true, if_false]
  generalize ((zCH s zKC : Nat) : Int) = v at *
  cases h3 : (mode == 3) <;> cases h1 : (mode == 1) <;> cases h2 : (mode == 2) <;> cases s <;> rw [h3, h1, h2] at hb <;> first
  | (exfalso; revert hb; decide)
  | (clear hb
     go_enter Tryz.func162, Tryz.ntmps162
     go_wp2_with fail
     refine (HI _).out.mono ?_
     rintro e w1 ⟨rfl, rfl⟩
     go_wp2_with fail
     go_ret
     exact ⟨rfl, rfl⟩)
end Go.Proofs.YtablcbgeeeboeaaGreatDoor
set_option maxRecDepth 100000
set_option maxHeartbeats 2000000
namespace Go.Proofs.YtablcbgeeeboeaaGreatDoor
open Go.RowKit Sp
theorem zJM (w : World) (a a' : Option Addr) (n m cap cap' x y N : Nat) (hx : Mag w a n cap x) (hy : Mag w a' m cap' y) (hN : N = max n m) (hlim : N ≤ 1099511627776) :
 Calls Tryz.prog 108 #[.slice a n cap, .slice a' m cap'] w (zE0 w (x + y) (N + 1)) := by
 have hmx : max (n : Int) (m : Int) = (N : Int) := by omega
 have hxN : x < B ^ N := Nat.lt_of_lt_of_le hx.lt (zBn (by omega))
 have hyN : y < B ^ N := Nat.lt_of_lt_of_le hy.lt (zBn (by omega))
 have lx1 := hx.lim
 have lx2 := hx.fits
 have ly1 := hy.lim
 have ly2 := hy.fits
 have HX := Lib.hid hx
 have HY := Lib.hid hy
 have HXN := Lib.hid hxN
 have HYN := Lib.hid hyN
 have HNN := Lib.hid hN
 clear hx hy hxN hyN hN
 go_enter Tryz.func108, Tryz.ntmps108
 go_wp2
 have hown0 := World.ownsRow_nil w w.heap.size 96 1
 go_loopw [5, 6, 7] (fun v c i wr => ∃ k : Nat, k ≤ N ∧ i = .int .i64 k ∧ c = .int .u64 (car x y k) ∧ wr.ownsRow w.heap.size 96 1 v k (zD1 (x + y) k) ∧ Below w.heap.size w wr) (fun _ _ i _ => N - (intOf i).toNat)
 case atStart => exact ⟨0, by omega, rfl, by rw [zCM]; rfl, hown0, Below.refl _ _⟩
 case round =>
  clear hown0
  obtain ⟨k, hk, rfl, rfl, hown, hb⟩ := hrel
  have hx' := HX.out.below hb
  have hy' := HY.out.below hb
  have hz := hb.size
  have hc1 := zC5 x y k
  by_cases hlt : k < N
  · have hlt' : decide ((k : Int) < (N : Int)) = true := by simpa using hlt
    by_cases hxk : k < n
    · by_cases hyk : k < m
      · have c1 := hx'.cell k hxk
        have i1 := hx'.idx 42 und siz k hxk
        have hd1 := zA6 x k
        have c2 := hy'.cell k hyk
        have i2 := hy'.idx 42 und siz k hyk
        have hd2 := zA6 y k
        have HD : Hid ((((car x y k : Nat) : Int) + dig x k + dig y k) % 4294967296 = ((dig (x + y) k : Nat) : Int)) := by show _ = _; rw [zCn, zAW]; omega
        have HC : Hid (car x y (k + 1) = (car x y k + dig x k + dig y k) / B) := by show _ = _; rw [zC4]; congr 1; omega
        go_wp2_with (at_builtin; refine zAN 42 96 zCm zC8 rfl _ _ rfl w.heap.size _ k (x + y) rfl _ _ rfl (hown.alloc _) (World.cell?_alloc_new _ _ _ _) HD.out (by omega) (by rw [World.size_alloc]; omega) ?_; intro v1 w1 hown1 hb1)
        go_roundw
        case rel => exact ⟨k + 1, by omega, by go_num, by rw [HC.out, zAW]; go_num, hown1, (hb.alloc hz _).trans hb1⟩
        case measure => simp [intOf]; omega
      · have c1 := hx'.cell k hxk
        have i1 := hx'.idx 42 und siz k hxk
        have hd1 := zA6 x k
        have hy2 : dig y k = 0 := zAM HY.out.lt (by omega)
        have HD : Hid ((((car x y k : Nat) : Int) + dig x k) % 4294967296 = ((dig (x + y) k : Nat) : Int)) := by show _ = _; rw [zCn, hy2, zAW]; omega
        have HC : Hid (car x y (k + 1) = (car x y k + dig x k) / B) := by show _ = _; rw [zC4, hy2]; congr 1; omega
        clear hy2
        go_wp2_with (at_builtin; refine zAN 42 96 zCm zC8 rfl _ _ rfl w.heap.size _ k (x + y) rfl _ _ rfl (hown.alloc _) (World.cell?_alloc_new _ _ _ _) HD.out (by omega) (by rw [World.size_alloc]; omega) ?_; intro v1 w1 hown1 hb1)
        go_roundw
        case rel => exact ⟨k + 1, by omega, by go_num, by rw [HC.out, zAW]; go_num, hown1, (hb.alloc hz _).trans hb1⟩
        case measure => simp [intOf]; omega
    · have hyk : k < m := by have := HNN.out; omega
      have hx2 : dig x k = 0 := zAM HX.out.lt (by omega)
      have c2 := hy'.cell k hyk
      have i2 := hy'.idx 42 und siz k hyk
      have hd2 := zA6 y k
      have HD : Hid ((((car x y k : Nat) : Int) + dig y k) % 4294967296 = ((dig (x + y) k : Nat) : Int)) := by show _ = _; rw [zCn, hx2, zAW]; omega
      have HC : Hid (car x y (k + 1) = (car x y k + dig y k) / B) := by show _ = _; rw [zC4, hx2]; congr 1; omega
      clear hx2
      go_wp2_with (at_builtin; refine zAN 42 96 zCm zC8 rfl _ _ rfl w.heap.size _ k (x + y) rfl _ _ rfl (hown.alloc _) (World.cell?_alloc_new _ _ _ _) HD.out (by omega) (by rw [World.size_alloc]; omega) ?_; intro v1 w1 hown1 hb1)
      go_roundw
      case rel => exact ⟨k + 1, by omega, by go_num, by rw [HC.out, zAW]; go_num, hown1, (hb.alloc hz _).trans hb1⟩
      case measure => simp [intOf]; omega
  · obtain rfl : k = N := by omega
    have HD : Hid (((car x y k : Nat) : Int) = ((dig (x + y) k : Nat) : Int)) := by
     show _ = _; rw [zHb HXN.out HYN.out]
    have hlt' : decide ((k : Int) < (k : Int)) = false := by simp
    go_wp2_with (at_builtin; refine zAN 42 96 zCm zC8 rfl _ _ rfl w.heap.size _ k (x + y) rfl _ _ rfl (hown.alloc _) (World.cell?_alloc_new _ _ _ _) HD.out (by omega) (by rw [World.size_alloc]; omega) ?_; intro v1 w1 hown1 hb1)
    obtain ⟨a1, cp1, hv, hm1, hfr⟩ := zAU hown1 (Sp.add_lt HXN.out HYN.out (Nat.le_refl _))
    subst hv
    go_ret
    exact ⟨a1, _, cp1, rfl, hm1, Nat.le_refl _, (hb.alloc hz _).trans hb1, hfr⟩
theorem zFW (x y d k : Nat) (h : y + d = x) :
 IntKind.u64.wrap (IntKind.u64.wrap ((dig x k : Int) - (car y d k : Nat)) - (dig y k : Nat)) / 9223372036854775808 = ((car y d (k + 1) : Nat) : Int) := by
 subst h
 obtain ⟨h1, h2⟩ := zF6 y d k
 have h3 := zC5 y d k
 have h5 := zA6 y k
 have h6 := zA6 (y + d) k
 simp only [IntKind.wrap_u64]
 rw [h2]
 split <;> omega
theorem zIl (x y d k : Nat) (h : y + d = x) (h0 : dig y k = 0) :
 IntKind.u64.wrap ((dig x k : Int) - (car y d k : Nat)) / 9223372036854775808 = ((car y d (k + 1) : Nat) : Int) := by
 subst h
 obtain ⟨h1, h2⟩ := zF6 y d k
 have h3 := zC5 y d k
 have h6 := zA6 (y + d) k
 rw [h0] at h2
 simp only [IntKind.wrap_u64]
 rw [h2]
 split <;> omega
theorem zFV (w : World) (a a' : Option Addr) (n m cap cap' x y d : Nat) (hx : Mag w a n cap x) (hy : Mag w a' m cap' y) (hd : y + d = x) (hlim : n ≤ 1099511627776) :
 Calls Tryz.prog 110 #[.slice a n cap, .slice a' m cap'] w (zE0 w d n) := by
 have HX := Lib.hid hx
 have HY := Lib.hid hy
 have HDD := Lib.hid hd
 have ly1 := hy.lim
 have ly2 := hy.fits
 clear hx hy hd
 go_enter Tryz.func110, Tryz.ntmps110
 go_wp2
 have hown0 := World.ownsRow_nil w w.heap.size 96 1
 go_loopw [5, 6, 7] (fun v c i wr => ∃ k : Nat, k ≤ n ∧ i = .int .i64 k ∧ c = .int .u64 (car y d k) ∧ wr.ownsRow w.heap.size 96 1 v k (zD1 d k) ∧ Below w.heap.size w wr) (fun _ _ i _ => n - (intOf i).toNat)
 case atStart => exact ⟨0, by omega, rfl, by rw [zCM]; rfl, hown0, Below.refl _ _⟩
 case round =>
  clear hown0
  obtain ⟨k, hk, rfl, rfl, hown, hb⟩ := hrel
  have hx' := HX.out.below hb
  have hy' := HY.out.below hb
  have hz := hb.size
  have hc1 := zC5 y d k
  by_cases hlt : k < n
  · have c1 := hx'.cell k hlt
    have i1 := hx'.idx 42 und siz k hlt
    have hd1 := zA6 x k
    by_cases hkm : k < m
    · have c2 := hy'.cell k hkm
      have i2 := hy'.idx 42 und siz k hkm
      have hd2 := zA6 y k
      have HD := Lib.hid (zF5 x y d k HDD.out).1
      have HC := Lib.hid (zFW x y d k HDD.out)
      go_wp2_with (at_builtin; refine zAN 42 96 zCm zC8 rfl _ _ rfl w.heap.size _ k (d) rfl _ _ rfl (hown.alloc _) (World.cell?_alloc_new _ _ _ _) HD.out (by omega) (by rw [World.size_alloc]; omega) ?_; intro v1 w1 hown1 hb1)
      go_roundw
      case rel => exact ⟨k + 1, by omega, by go_num, by rw [HC.out], hown1, (hb.alloc hz _).trans hb1⟩
      case measure => simp [intOf]; omega
    · have hy2 : dig y k = 0 := zAM HY.out.lt (by omega)
      have HD := Lib.hid (zFJ x y d k HDD.out hy2).1
      have HC := Lib.hid (zIl x y d k HDD.out hy2)
      clear hy2
      go_wp2_with (at_builtin; refine zAN 42 96 zCm zC8 rfl _ _ rfl w.heap.size _ k (d) rfl _ _ rfl (hown.alloc _) (World.cell?_alloc_new _ _ _ _) HD.out (by omega) (by rw [World.size_alloc]; omega) ?_; intro v1 w1 hown1 hb1)
      go_roundw
      case rel => exact ⟨k + 1, by omega, by go_num, by rw [HC.out], hown1, (hb.alloc hz _).trans hb1⟩
      case measure => simp [intOf]; omega
  · obtain rfl : k = n := by omega
    have hdl : d < B ^ k := Nat.lt_of_le_of_lt (by have := HDD.out; omega) HX.out.lt
    obtain ⟨a1, cp1, hv, hm1, hfr⟩ := zAU hown hdl
    subst hv
    go_wp2
    go_ret
    exact ⟨a1, k, cp1, rfl, hm1, Nat.le_refl _, hb, hfr⟩
theorem zD9 (w : World) (a a' : Option Addr) (n m cap cap' x y : Nat) (hx : Mag w a n cap x) (hy : Mag w a' m cap' y) (hn : n = nl x) (hm : m = nl y) :
 Calls Tryz.prog 109 #[.slice a n cap, .slice a' m cap'] w fun e w' => e = .returned (.int .i64 (zAr x y)) ∧ ∃ q, w' = w.drewN q := by
 have l1 := hx.lim
 have l2 := hy.lim
 have l3 := hx.fits
 have l4 := hy.fits
 by_cases hnm : n = m
 · subst hnm
   clear hn hm
   go_enter Tryz.func109, Tryz.ntmps109
   go_wp2
   go_loopw [5] (fun t wr => ∃ k : Nat, k ≤ n ∧ x / B ^ k = y / B ^ k ∧ t = .int .i64 ((k : Int) - 1) ∧ ∃ q, wr = w.drewN q) (fun t _ => (intOf t + 1).toNat)
   case atStart => exact ⟨n, Nat.le_refl _, by rw [Nat.div_eq_of_lt hx.lt, Nat.div_eq_of_lt hy.lt], rfl, 0, rfl⟩
   case round =>
    obtain ⟨k, hk, hq, rfl, q, rfl⟩ := hrel
    have HQ := Lib.hid hq
    clear hq
    by_cases h0 : 0 < k
    · obtain ⟨j, rfl⟩ : ∃ j, k = j + 1 := ⟨k - 1, by omega⟩
      have c1 := hx.cell j (by omega)
      have c2 := hy.cell j (by omega)
      have i1 := hx.idx 42 und siz j (by omega)
      have i2 := hy.idx 42 und siz j (by omega)
      go_wp2
      go_quiet (fail)
      go_wp2
      · have hd := zFC (by assumption : (((dig x j : Nat) : Int) != ((dig y j : Nat) : Int)) = true)
        have hcd := zKY HQ.out hd
        have HCD := Lib.hid hcd
        clear hcd
        go_quiet (fail)
        go_wp2
        · go_ret
          refine ⟨?_, _, by rw [World.drewN_drewN, World.drewN_drewN]⟩
          rw [← HCD.out, zAT (by first | assumption | omega)]
          rfl
        · go_ret
          refine ⟨?_, _, by rw [World.drewN_drewN, World.drewN_drewN]⟩
          rw [← HCD.out, zB1 (by omega)]
          rfl
      · have hd := zEr (by assumption : (((dig x j : Nat) : Int) != ((dig y j : Nat) : Int)) = false)
        go_roundw
        case rel => exact ⟨j, by omega, zKI HQ.out hd, rfl, _, rfl⟩
        case measure => simp [intOf]
    · obtain rfl : k = 0 := by omega
      go_wp2
      go_ret
      refine ⟨?_, _, rfl⟩
      have : x = y := by have := HQ.out; simpa using this
      rw [this, zBZ rfl]
      rfl
 · have hnm' : ((n : Int) != (m : Int)) = true := by rw [bne_iff_ne]; omega
   have hc := zMW (x := x) (y := y) (by omega)
   rw [← hn, ← hm] at hc
   have HC := Lib.hid hc
   clear hn hm hc
   by_cases hlt : n < m
   · have hl : decide ((n : Int) < (m : Int)) = true := by simpa using hlt
     go_enter Tryz.func109, Tryz.ntmps109
     go_wp2
     go_ret
     refine ⟨?_, 0, rfl⟩
     rw [← HC.out, zAT (by omega)]
     rfl
   · have hl : decide ((n : Int) < (m : Int)) = false := by simp; omega
     go_enter Tryz.func109, Tryz.ntmps109
     go_wp2
     go_ret
     refine ⟨?_, 0, rfl⟩
     rw [← HC.out, zB1 (by omega)]
     rfl
end Go.Proofs.YtablcbgeeeboeaaGreatDoor

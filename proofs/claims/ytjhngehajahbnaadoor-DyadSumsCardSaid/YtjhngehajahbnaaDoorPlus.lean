/-
  Walks: integer.plus.
-/
import Derived.Test.YtjhngehajahbnaaDoorLimbs
namespace Go.Proofs.YtjhngehajahbnaaDoor
open Go.RowKit Sp

theorem infU : (Tryd.prog.info? 22).map (fun i => (i.zero, i.size, i.bytes)) = some (some (.int .u32 0), 1, 4) := by kernel_rfl
theorem undU : Tryd.prog.underlying 23 = some (.slice 22) := by kernel_rfl

set_option maxRecDepth 100000 in
set_option maxHeartbeats 400000 in
/-- The one order: a is not shorter. -/
theorem plus_ge (w : World) (a a' : Option Addr) (n m cap cap' x y : Nat) (hx : Mag w a n cap x) (hy : Mag w a' m cap' y) (hnm : m ≤ n) (hlim : n ≤ 1099511627776) :
    Calls Tryd.prog 72 #[.slice a n cap, .slice a' m cap'] w (RetNat w (x + y)) := by
  have hlt0 : decide (n < m) = false := by simp; omega
  have hmk := make_cap 23 22 infU undU ((n : Int) + 1) (by omega) (by omega)
  go_enter Tryd.func72, Tryd.ntmps72
  go_wp2
  clear hmk
  have hown0 := World.ownsRow_made (base := w.heap.size) (e := 22) (size := 1) w (madeCells #[.int .u32 0] (n + 1)) (n + 1) (Nat.le_refl _) (by unfold maxLen; omega) (by rw [size_madeCells, Nat.mul_one])
  go_loopw [5, 6, 23] (fun v c i wr => ∃ k : Nat, k ≤ n ∧ i = .int .i64 k ∧ c = .int .u64 (car x y k) ∧ wr.ownsRow w.heap.size 22 1 v k (digs (x + y) k) ∧ Below w.heap.size w wr) (fun _ _ i _ => n - (intOf i).toNat)
  case atStart => exact ⟨0, by omega, rfl, by rw [car_zero]; rfl, hown0, (Below.refl _ _).alloc (Nat.le_refl _) _⟩
  case round =>
    clear hown0
    obtain ⟨k, hk, rfl, rfl, hown, hb⟩ := hrel
    by_cases hlt : k < n
    · have hx' := hx.below hb
      have c1 := hx'.cell k hlt
      have i1 := hx'.idx 23 und siz k hlt
      have hc1 := car_le x y k
      have hd1 := dig_lt x k
      by_cases hkm : k < m
      · have hy' := hy.below hb
        have c2 := hy'.cell k hkm
        have i2 := hy'.idx 23 und siz k hkm
        have hd2 := dig_lt y k
        have HD : Hid (((dig x k : Int) + car x y k + dig y k) % 4294967296 = ((dig (x + y) k : Nat) : Int)) := by show _ = _; rw [dig_add, B_eq]; omega
        have hz := hb.size
        go_wp2_with (at_builtin; refine app_u32 23 22 infU undU rfl _ _ rfl w.heap.size _ k (x + y) rfl _ _ rfl (hown.alloc _) (World.cell?_alloc_new _ _ _ _) HD.out (by omega) (by rw [World.size_alloc]; omega) ?_; intro v1 w1 hown1 hb1)
        go_roundw
        case rel => exact ⟨k + 1, by omega, by go_num, by rw [car_succ, B_eq]; go_num, hown1, (hb.alloc hz _).trans hb1⟩
        case measure => simp [intOf]; omega
      · have hy2 : dig y k = 0 := dig_of_lt hy.lt (by omega)
        have HD : Hid (((dig x k : Int) + car x y k) % 4294967296 = ((dig (x + y) k : Nat) : Int)) := by show _ = _; rw [dig_add, hy2, B_eq]; omega
        have hz := hb.size
        have HC : Hid (car x y (k + 1) = (dig x k + car x y k) / B) := by show _ = _; rw [car_succ, hy2]; rfl
        clear hy2
        go_wp2_with (at_builtin; refine app_u32 23 22 infU undU rfl _ _ rfl w.heap.size _ k (x + y) rfl _ _ rfl (hown.alloc _) (World.cell?_alloc_new _ _ _ _) HD.out (by omega) (by rw [World.size_alloc]; omega) ?_; intro v1 w1 hown1 hb1)
        go_roundw
        case rel => exact ⟨k + 1, by omega, by go_num, by rw [HC.out, B_eq]; go_num, hown1, (hb.alloc hz _).trans hb1⟩
        case measure => simp [intOf]; omega
    · obtain rfl : k = n := by omega
      have hz := hb.size
      have hc1 := car_le x y k
      have HD : Hid (((car x y k : Nat) : Int) = ((dig (x + y) k : Nat) : Int)) := by
        show _ = _; rw [car_top hx.lt (Nat.lt_of_lt_of_le hy.lt (Bpow_mono hnm))]
      go_wp2_with (at_builtin; refine app_u32 23 22 infU undU rfl _ _ rfl w.heap.size _ k (x + y) rfl _ _ rfl (hown.alloc _) (World.cell?_alloc_new _ _ _ _) HD.out (by omega) (by rw [World.size_alloc]; omega) ?_; intro v1 w1 hown1 hb1)
      obtain ⟨a1, cp1, hv, hm1, hfr⟩ := mag_of_owns hown1 (add_lt hx.lt hy.lt hnm)
      rw [hv]
      refine (trim_any _ _ _ _ _ hm1).mono ?_
      rintro e w' ⟨rfl, rfl⟩
      go_wp2
      go_ret
      exact ⟨a1, cp1, rfl, hm1.trim, (hb.alloc hz _).trans hb1, fun _ => hfr (by omega)⟩

set_option maxRecDepth 100000 in
set_option maxHeartbeats 400000 in
/-- The other order: the first is shorter; they are exchanged. -/
theorem plus_lt (w : World) (a a' : Option Addr) (n m cap cap' x y : Nat) (hx : Mag w a n cap x) (hy : Mag w a' m cap' y) (hnm' : m < n) (hlim : n ≤ 1099511627776) :
    Calls Tryd.prog 72 #[.slice a' m cap', .slice a n cap] w (RetNat w (x + y)) := by
  have hnm : m ≤ n := by omega
  have hlt0 : decide (m < n) = true := by simp; omega
  have hmk := make_cap 23 22 infU undU ((n : Int) + 1) (by omega) (by omega)
  go_enter Tryd.func72, Tryd.ntmps72
  go_wp2
  clear hmk
  have hown0 := World.ownsRow_made (base := w.heap.size) (e := 22) (size := 1) w (madeCells #[.int .u32 0] (n + 1)) (n + 1) (Nat.le_refl _) (by unfold maxLen; omega) (by rw [size_madeCells, Nat.mul_one])
  go_loopw [5, 6, 23] (fun v c i wr => ∃ k : Nat, k ≤ n ∧ i = .int .i64 k ∧ c = .int .u64 (car x y k) ∧ wr.ownsRow w.heap.size 22 1 v k (digs (x + y) k) ∧ Below w.heap.size w wr) (fun _ _ i _ => n - (intOf i).toNat)
  case atStart => exact ⟨0, by omega, rfl, by rw [car_zero]; rfl, hown0, (Below.refl _ _).alloc (Nat.le_refl _) _⟩
  case round =>
    clear hown0
    obtain ⟨k, hk, rfl, rfl, hown, hb⟩ := hrel
    by_cases hlt : k < n
    · have hx' := hx.below hb
      have c1 := hx'.cell k hlt
      have i1 := hx'.idx 23 und siz k hlt
      have hc1 := car_le x y k
      have hd1 := dig_lt x k
      by_cases hkm : k < m
      · have hy' := hy.below hb
        have c2 := hy'.cell k hkm
        have i2 := hy'.idx 23 und siz k hkm
        have hd2 := dig_lt y k
        have HD : Hid (((dig x k : Int) + car x y k + dig y k) % 4294967296 = ((dig (x + y) k : Nat) : Int)) := by show _ = _; rw [dig_add, B_eq]; omega
        have hz := hb.size
        go_wp2_with (at_builtin; refine app_u32 23 22 infU undU rfl _ _ rfl w.heap.size _ k (x + y) rfl _ _ rfl (hown.alloc _) (World.cell?_alloc_new _ _ _ _) HD.out (by omega) (by rw [World.size_alloc]; omega) ?_; intro v1 w1 hown1 hb1)
        go_roundw
        case rel => exact ⟨k + 1, by omega, by go_num, by rw [car_succ, B_eq]; go_num, hown1, (hb.alloc hz _).trans hb1⟩
        case measure => simp [intOf]; omega
      · have hy2 : dig y k = 0 := dig_of_lt hy.lt (by omega)
        have HD : Hid (((dig x k : Int) + car x y k) % 4294967296 = ((dig (x + y) k : Nat) : Int)) := by show _ = _; rw [dig_add, hy2, B_eq]; omega
        have hz := hb.size
        have HC : Hid (car x y (k + 1) = (dig x k + car x y k) / B) := by show _ = _; rw [car_succ, hy2]; rfl
        clear hy2
        go_wp2_with (at_builtin; refine app_u32 23 22 infU undU rfl _ _ rfl w.heap.size _ k (x + y) rfl _ _ rfl (hown.alloc _) (World.cell?_alloc_new _ _ _ _) HD.out (by omega) (by rw [World.size_alloc]; omega) ?_; intro v1 w1 hown1 hb1)
        go_roundw
        case rel => exact ⟨k + 1, by omega, by go_num, by rw [HC.out, B_eq]; go_num, hown1, (hb.alloc hz _).trans hb1⟩
        case measure => simp [intOf]; omega
    · obtain rfl : k = n := by omega
      have hz := hb.size
      have hc1 := car_le x y k
      have HD : Hid (((car x y k : Nat) : Int) = ((dig (x + y) k : Nat) : Int)) := by
        show _ = _; rw [car_top hx.lt (Nat.lt_of_lt_of_le hy.lt (Bpow_mono hnm))]
      go_wp2_with (at_builtin; refine app_u32 23 22 infU undU rfl _ _ rfl w.heap.size _ k (x + y) rfl _ _ rfl (hown.alloc _) (World.cell?_alloc_new _ _ _ _) HD.out (by omega) (by rw [World.size_alloc]; omega) ?_; intro v1 w1 hown1 hb1)
      obtain ⟨a1, cp1, hv, hm1, hfr⟩ := mag_of_owns hown1 (add_lt hx.lt hy.lt hnm)
      rw [hv]
      refine (trim_any _ _ _ _ _ hm1).mono ?_
      rintro e w' ⟨rfl, rfl⟩
      go_wp2
      go_ret
      exact ⟨a1, cp1, rfl, hm1.trim, (hb.alloc hz _).trans hb1, fun _ => hfr (by omega)⟩

/-- a + b -/
theorem plus_any (w : World) (a a' : Option Addr) (n m cap cap' x y : Nat) (hx : Mag w a n cap x) (hy : Mag w a' m cap' y) (hn : n ≤ 1099511627776) (hm : m ≤ 1099511627776) :
    Calls Tryd.prog 72 #[.slice a n cap, .slice a' m cap'] w (RetNat w (x + y)) := by
  rcases Nat.lt_or_ge n m with h | h
  · rw [Nat.add_comm]; exact plus_lt w a' a m n cap' cap y x hy hx h hm
  · exact plus_ge w a a' n m cap cap' x y hx hy h hn

end Go.Proofs.YtjhngehajahbnaaDoor

/-
  Walks: the reference's integers: mulMag, Mul.
-/
import Derived.Test.YtakbappmkdaioaaGreatDoorZiRk
namespace Go.Proofs.YtakbappmkdaioaaGreatDoor
open Go.RowKit Sp

set_option maxRecDepth 100000 in
set_option maxHeartbeats 2000000 in
theorem rmulm_any (w : World) (a a' : Option Addr) (n m cap cap' x y : Nat) (hx : Mag w a n cap x) (hy : Mag w a' m cap' y) (hn : n ≤ 549755813888) (hm : m ≤ 549755813888) :
    Calls Tryz.prog 269 #[.slice a n cap, .slice a' m cap'] w (RetLimbs w (x * y) (n + m)) := by
  have hmk := make_len 22 87 infU undU ((n : Int) + m) (by omega) (by omega)
  go_enter Tryz.func269, Tryz.ntmps269
  go_wp2
  clear hmk
  have hrow0 := Row.made w (n + m) 87 (by omega)
  go_loopw [6] (fun i wr => ∃ k : Nat, k ≤ n ∧ i = .int .i64 k ∧ Row wr w.heap.size (n + m) 87 (x % B ^ k * y) ∧ Below w.heap.size w wr) (fun i _ => n - (intOf i).toNat)
  case atStart => exact ⟨0, by omega, rfl, by rw [mod_zero_pow, Nat.zero_mul]; exact hrow0, (Below.refl _ _).alloc (Nat.le_refl _) _⟩
  case round =>
    clear hrow0
    obtain ⟨k, hk, rfl, hrow, hb⟩ := hrel
    by_cases hlt : k < n
    · have hx' := hx.below hb
      have c1 := hx'.cell k hlt
      have i1 := hx'.idx 22 und siz k hlt
      have hd1 := dig_lt x k
      obtain ⟨wo, rfl⟩ : ∃ wo : World, wo = wr := ⟨_, rfl⟩
      go_wp2
      clear c1 i1
      go_loopw [7, 8] (fun c j wi => ∃ q Z cc : Nat, q ≤ m ∧ j = .int .i64 q ∧ c = .int .u64 cc ∧ cc < 4294967296 ∧ Row wi w.heap.size (n + m) 87 Z ∧ Z < B ^ (k + m) ∧
        Z + cc * B ^ (k + q) = x % B ^ k * y + dig x k * (y % B ^ q) * B ^ k ∧ Below w.heap.size w wi) (fun _ j _ => m - (intOf j).toNat)
      case atStart =>
        refine ⟨0, x % B ^ k * y, 0, by omega, rfl, rfl, by omega, hrow, ?_, ?_, hb⟩
        · rw [Bpow_add]; exact Nat.mul_lt_mul'' (mod_lt' x k) hy.lt
        · rw [mod_zero_pow]; simp
      case round =>
        obtain ⟨q, Z, cc, hq, rfl, rfl, hcc, hrowi, hZ, hinv, hbi⟩ := hrel
        have HI := Lib.hid hinv
        clear hinv hx'
        by_cases hqm : q < m
        · have hx'' := hx.below hbi
          have c1 := hx''.cell k hlt
          have i1 := hx''.idx 22 und siz k hlt
          have hy' := hy.below hbi
          have c2 := hy'.cell q hqm
          have i2 := hy'.idx 22 und siz q hqm
          have hd2 := dig_lt y q
          have hd3 := dig_lt Z (k + q)
          have c3 := hrowi.cell (k + q) (by omega)
          have f3 := hrowi.free (k + q)
          obtain ⟨m1, m2⟩ := mul_carry hd1 hd2 hd3 hcc
          rw [← Int.ofNat_le, Int.natCast_mul] at m2
          have m1' : (cc : Int) + ((dig x k : Nat) : Int) * (dig y q : Nat) + (dig Z (k + q) : Nat) < 18446744073709551616 := by rw [← Int.natCast_mul]; omega
          have m0 : (0 : Int) ≤ ((dig x k : Nat) : Int) * (dig y q : Nat) := by rw [← Int.natCast_mul]; omega
          clear m1
          obtain ⟨T, hT⟩ : ∃ T : Nat, T = dig x k * dig y q + dig Z (k + q) + cc := ⟨_, rfl⟩
          have hTI : ((T : Nat) : Int) = (cc : Nat) + ((dig x k : Nat) : Int) * (dig y q : Nat) + (dig Z (k + q) : Nat) := by rw [hT]; simp; omega
          have hTB : T / B < 4294967296 := by rw [Nat.div_lt_iff_lt_mul B_pos, B_eq]; omega
          have HTI := Lib.hid hTI
          have HT := Lib.hid hT
          clear hTI hT
          have HTB := Lib.hid hTB
          clear hTB
          go_wp2
          all_goals go_quiet (fail)
          all_goals go_wp2
          go_roundw
          case rel =>
            refine ⟨q + 1, setd Z (k + q) (T % B), T / B, by omega, by go_num, ?_, HTB.out, ?_, setd_lt (Nat.mod_lt _ B_pos) (by omega) hZ, mul_round HT.out HI.out, (show Below w.heap.size w (wr.drewN _) from ⟨hbi.os, hbi.tape, hbi.output, hbi.size, hbi.block⟩).setCell (Nat.le_refl _) _⟩
            · rw [← HTI.out, B_eq]; rfl
            · rw [← HTI.out]; exact (hrowi.drewN _).store (k + q) (T % B) (by omega) (Nat.mod_lt _ B_pos)
          case measure => simp [intOf]; omega
        · obtain rfl : q = m := by omega
          have c3 := hrowi.cell (k + q) (by omega)
          have f3 := hrowi.free (k + q)
          go_wp2
          go_roundw
          case rel => exact ⟨k + 1, by omega, by go_num, by rw [← mul_row hy.lt HI.out hZ]; exact hrowi.store (k + q) cc (by omega) hcc, hbi.setCell (Nat.le_refl _) _⟩
          case measure => simp [intOf]; omega
    · obtain rfl : k = n := by omega
      rw [mod_of_lt hx.lt] at hrow
      go_wp2
      go_ret
      exact ⟨_, _, _, rfl, hrow.mag, Nat.le_refl _, hb, fun _ => Nat.le_refl _⟩

end Go.Proofs.YtakbappmkdaioaaGreatDoor


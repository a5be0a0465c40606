/-
  Walks: the reference's integers: Neg, Sub, FromInt.
  Walks: the reference's integers: mulMag, Mul.
-/
import Derived.Test.YtgicceiimciafaaGreatDoorZwBf
import Derived.Test.YtgicceiimciafaaGreatDoorZwRD
set_option maxRecDepth 100000
set_option maxHeartbeats 2000000
namespace Go.Proofs.YtgicceiimciafaaGreatDoor
open Go.RowKit Sp
theorem rfromInt_nat (w : World) (k : Nat) (hk : k ≤ 9223372036854775807) :
 Calls Tryz.prog 128 #[.int .i64 k] w (RetBig w (sgn false k)) := by
 have HM := Lib.hid (two_int k (by omega))
 have hlt : decide ((k : Int) < 0) = false := by simp
 have HR := fun W b (h : Mag W b 2 2 k) => Lib.hid (rmake1_any W false b 2 2 k h (by decide))
 generalize sgn false k = z at HR ⊢
 go_enter Tryz.func128, Tryz.ntmps128
 go_wp2_with fail
 have hm := HM.out (w.alloc (.cells #[.bool false, .slice none 0 0] 32))
 rw [World.size_alloc] at hm
 refine (HR _ _ hm).out.mono ?_
 rintro e w1 ⟨a1, c1, rfl, hm1, hb, hf1⟩
 obtain ⟨hc1, hz1⟩ := bcell (hb.mono (show w.heap.size + 2 ≤ _ by simp))
 have hfr1 : 0 < nl z.natAbs → w.heap.size + 2 ≤ ab a1 := fun h => by have := hf1 h; simpa using this
 have hbw := below_box (w := w) zbh hb
 go_wp2_with fail
 refine bodyPost_ret (v := .agg #[.bool (decide (z < 0)), .slice a1 (nl z.natAbs) c1]) (by simp only [results, Tryz.results128]; go_simp) rfl ?_
 exact ret_big hm1 (fun h => by have := hfr1 h; omega) hbw (by omega)
theorem rfromInt_neg (w : World) (k : Nat) (hk0 : 1 ≤ k) (hk : k ≤ 9223372036854775808) :
 Calls Tryz.prog 128 #[.int .i64 (-(k : Int))] w (RetBig w (sgn true k)) := by
 have HM := Lib.hid (two_int k (by omega))
 have hlt : decide (-(k : Int) < 0) = true := by simp; omega
 have e0 : IntKind.u64.wrap (-(k : Int)) = 18446744073709551616 - k := by rw [IntKind.wrap_u64]; omega
 have e1 : IntKind.i64.wrap (-(k : Int) + 1) = -((k : Int) - 1) := by rw [IntKind.wrap_i64]; omega
 have e2 : wrap64 (-(k : Int) + 1) = -((k : Int) - 1) := by unfold wrap64; omega
 have e3 : IntKind.i64.wrap (-(-((k : Int) - 1))) = (k : Int) - 1 := by rw [IntKind.wrap_i64]; omega
 have e4 : IntKind.u64.wrap ((k : Int) - 1) = (k : Int) - 1 := by rw [IntKind.wrap_u64]; omega
 have e5 : IntKind.u64.wrap ((k : Int) - 1 + 1) = k := by rw [IntKind.wrap_u64]; omega
 have HR := fun W b (h : Mag W b 2 2 k) => Lib.hid (rmake1_any W true b 2 2 k h (by decide))
 generalize sgn true k = z at HR ⊢
 go_enter Tryz.func128, Tryz.ntmps128
 go_wp2_with fail
 have hm := HM.out (w.alloc (.cells #[.bool false, .slice none 0 0] 32))
 rw [World.size_alloc] at hm
 refine (HR _ _ hm).out.mono ?_
 rintro e w1 ⟨a1, c1, rfl, hm1, hb, hf1⟩
 obtain ⟨hc1, hz1⟩ := bcell (hb.mono (show w.heap.size + 2 ≤ _ by simp))
 have hfr1 : 0 < nl z.natAbs → w.heap.size + 2 ≤ ab a1 := fun h => by have := hf1 h; simpa using this
 have hbw := below_box (w := w) zbh hb
 go_wp2_with fail
 refine bodyPost_ret (v := .agg #[.bool (decide (z < 0)), .slice a1 (nl z.natAbs) c1]) (by simp only [results, Tryz.results128]; go_simp) rfl ?_
 exact ret_big hm1 (fun h => by have := hfr1 h; omega) hbw (by omega)
theorem rfromInt_any (w : World) (n : Int) (h0 : -9223372036854775808 ≤ n) (h1 : n ≤ 9223372036854775807) :
 Calls Tryz.prog 128 #[.int .i64 n] w (RetBig w n) := by
 rcases Int.lt_or_le n 0 with h | h
 · obtain ⟨k, hk⟩ : ∃ k : Nat, n = -(k : Int) := ⟨n.natAbs, by omega⟩
   subst hk
   exact rfromInt_neg w k (by omega) (by omega)
 · obtain ⟨k, rfl⟩ := Int.eq_ofNat_of_zero_le h
   exact rfromInt_nat w k (by omega)
end Go.Proofs.YtgicceiimciafaaGreatDoor

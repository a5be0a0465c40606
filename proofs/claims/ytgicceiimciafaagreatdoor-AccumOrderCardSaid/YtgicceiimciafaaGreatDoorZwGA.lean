/-
  Walks: package float: the parts of a float and the functions of its bits.
  Walks: package float: NaNs, signs, comparison, neighbours.
-/
import Derived.Test.YtgicceiimciafaaGreatDoorZwFP
import Derived.Test.YtgicceiimciafaaGreatDoorZwBf
set_option maxRecDepth 100000
set_option maxHeartbeats 2000000
namespace Go.Proofs.YtgicceiimciafaaGreatDoor
open Go.RowKit Sp
theorem fparts_any (w : World) (f : Nat) : Calls Tryz.prog 93 #[.int .u64 f] w fun e w' => e = .returned (.tuple #[.int .i64 (fE f : Nat), .int .u64 (fR f : Nat)]) ∧ w = w' := by
 have h1 := bits_E f
 have h2 := bits_R f
 have h3 := fE_lt f
 have h4 : IntKind.i64.wrap ((fE f : Nat) : Int) = (fE f : Nat) := by rw [IntKind.wrap_i64]; omega
 generalize ((fE f : Nat) : Int) = E at *
 generalize ((fR f : Nat) : Int) = R at *
 go_enter Tryz.func93, Tryz.ntmps93
 go_wp2
 refine bodyPost_ret (v := .tuple #[.int .i64 E, .int .u64 R]) (by simp only [results, Tryz.results93]; go_simp) rfl ?_
 exact ⟨rfl, rfl⟩
theorem fsign_any (w : World) (f : Nat) (hf : f < 18446744073709551616) : Calls Tryz.prog 95 #[.int .u64 f] w fun e w' => e = .returned (.bool (fS f)) ∧ w = w' := by
 have h1 := bits_sign hf
 cases hs : fS f <;> rw [hs] at h1 <;>
 · simp only [if_true, Bool.false_eq_true, if_false] at h1
   go_enter Tryz.func95, Tryz.ntmps95
   go_wp2
   go_ret
   exact ⟨by simp, rfl⟩
theorem fsigned_any (w : World) (c : Nat) (s : Bool) (hc : c < 9223372036854775808) : Calls Tryz.prog 112 #[.int .u64 c, .bool s] w fun e w' => e = .returned (.int .u64 (fsgn s c : Nat)) ∧ w = w' := by
 have h1 := bits_or_sign hc
 cases s
 · go_enter Tryz.func112, Tryz.ntmps112
   go_wp2
   go_ret
   exact ⟨rfl, rfl⟩
 · generalize ((fsgn true c : Nat) : Int) = v at *
   go_enter Tryz.func112, Tryz.ntmps112
   go_wp2
   go_ret
   exact ⟨by simp, rfl⟩
theorem fkind_ER (f : Nat) : fkind f = if fE f = 2047 then (if fR f = 0 then 2 else 3) else if fE f = 0 then (if fR f = 0 then 0 else 1) else 1 := by
 have h1 := fnan_E f
 have h2 := finf_E f
 have h3 := fzero_E f
 unfold fkind
 rw [h1, h2, h3]
 by_cases a : fE f = 2047 <;> by_cases b : fR f = 0 <;> by_cases c : fE f = 0 <;> simp [a, b, c] <;> omega
theorem fkind_any (w : World) (f : Nat) : Calls Tryz.prog 110 #[.int .u64 f] w fun e w' => e = .returned (.int .i64 (fkind f)) ∧ w = w' := by
 have HP := fun W => Lib.hid (fparts_any W f)
 have hk := fkind_ER f
 have a1 : (((fE f : Nat) : Int) == 2047) = decide (fE f = 2047) := by rw [Bool.eq_iff_iff]; simp; omega
 have a2 : (((fE f : Nat) : Int) == 0) = decide (fE f = 0) := by rw [Bool.eq_iff_iff]; simp
 have a3 : (((fR f : Nat) : Int) == 0) = decide (fR f = 0) := by rw [Bool.eq_iff_iff]; simp
 have a4 : (((fR f : Nat) : Int) != 0) = !decide (fR f = 0) := by unfold bne; rw [a3]
 generalize fkind f = k at *
 generalize ((fE f : Nat) : Int) = E at *
 generalize ((fR f : Nat) : Int) = R at *
 by_cases a : fE f = 2047
 · rw [decide_eq_true a] at a1
   rw [if_pos a] at hk
   by_cases b : fR f = 0
   · rw [decide_eq_true b] at a3 a4
     rw [if_pos b] at hk
     subst hk
     clear a b a2 a3
     go_enter Tryz.func110, Tryz.ntmps110
     go_wp2_with fail
     refine (HP _).out.mono ?_
     rintro e w1 ⟨rfl, rfl⟩
     go_wp2_with fail
     go_ret
     exact ⟨rfl, rfl⟩
   · rw [decide_eq_false b] at a3 a4
     rw [if_neg b] at hk
     subst hk
     clear a b a2 a3
     go_enter Tryz.func110, Tryz.ntmps110
     go_wp2_with fail
     refine (HP _).out.mono ?_
     rintro e w1 ⟨rfl, rfl⟩
     go_wp2_with fail
     go_ret
     exact ⟨rfl, rfl⟩
 · rw [decide_eq_false a] at a1
   rw [if_neg a] at hk
   by_cases c : fE f = 0
   · rw [decide_eq_true c] at a2
     rw [if_pos c] at hk
     by_cases b : fR f = 0
     · rw [decide_eq_true b] at a3
       rw [if_pos b] at hk
       subst hk
       clear a b c a4
       go_enter Tryz.func110, Tryz.ntmps110
       go_wp2_with fail
       refine (HP _).out.mono ?_
       rintro e w1 ⟨rfl, rfl⟩
       go_wp2_with fail
       go_ret
       exact ⟨rfl, rfl⟩
     · rw [decide_eq_false b] at a3
       rw [if_neg b] at hk
       subst hk
       clear a b c a4
       go_enter Tryz.func110, Tryz.ntmps110
       go_wp2_with fail
       refine (HP _).out.mono ?_
       rintro e w1 ⟨rfl, rfl⟩
       go_wp2_with fail
       go_ret
       exact ⟨rfl, rfl⟩
   · rw [decide_eq_false c] at a2
     rw [if_neg c] at hk
     subst hk
     clear a c a3 a4
     go_enter Tryz.func110, Tryz.ntmps110
     go_wp2_with fail
     refine (HP _).out.mono ?_
     rintro e w1 ⟨rfl, rfl⟩
     go_wp2_with fail
     go_ret
     exact ⟨rfl, rfl⟩
theorem fkind_eqs (f : Nat) : (fkind f == 3) = fnan f ∧ (fkind f == 2) = finf f ∧ (fkind f == 0) = fzero f := by
 have h1 := fnan_E f
 have h2 := finf_E f
 have h3 := fzero_E f
 rw [fkind_ER, h1, h2, h3]
 by_cases a : fE f = 2047 <;> by_cases b : fR f = 0 <;> by_cases c : fE f = 0 <;> simp [a, b, c] <;> omega
theorem finf_any (w : World) (f : Nat) : Calls Tryz.prog 101 #[.int .u64 f] w fun e w' => e = .returned (.bool (finf f)) ∧ w = w' := by
 have HP := fun W => Lib.hid (fkind_any W f)
 have hk := (fkind_eqs f).2.1
 generalize fkind f = k at *
 go_enter Tryz.func101, Tryz.ntmps101
 go_wp2_with fail
 refine (HP _).out.mono ?_
 rintro e w1 ⟨rfl, rfl⟩
 go_wp2_with fail
 go_ret
 exact ⟨by simp, rfl⟩
theorem fzero_any (w : World) (f : Nat) : Calls Tryz.prog 102 #[.int .u64 f] w fun e w' => e = .returned (.bool (fzero f)) ∧ w = w' := by
 have HP := fun W => Lib.hid (fkind_any W f)
 have hk := (fkind_eqs f).2.2
 generalize fkind f = k at *
 go_enter Tryz.func102, Tryz.ntmps102
 go_wp2_with fail
 refine (HP _).out.mono ?_
 rintro e w1 ⟨rfl, rfl⟩
 go_wp2_with fail
 go_ret
 exact ⟨by simp, rfl⟩
theorem ffin_any (w : World) (f : Nat) : Calls Tryz.prog 50 #[.int .u64 f] w fun e w' => e = .returned (.bool (ffin f)) ∧ w = w' := by
 have HP := fun W => Lib.hid (fparts_any W f)
 have hk : (((fE f : Nat) : Int) != 2047) = ffin f := by rw [ffin_E, Bool.eq_iff_iff]; simp; omega
 generalize ((fE f : Nat) : Int) = E at *
 go_enter Tryz.func50, Tryz.ntmps50
 go_wp2_with fail
 refine (HP _).out.mono ?_
 rintro e w1 ⟨rfl, rfl⟩
 go_wp2_with fail
 go_ret
 exact ⟨by simp, rfl⟩
def FRow (w : World) (g n : Nat) (L : Nat → Nat) : Prop := ∀ i, i < n → w.cell? ⟨g, i, none⟩ = some (.int .u64 (L i : Nat))
theorem FRow.drewN {w : World} {g n : Nat} {L : Nat → Nat} (h : FRow w g n L) (q : Nat) : FRow (w.drewN q) g n L := h
def nanL (L : Nat → Nat) : Nat → Bool
 | 0 => false
 | n + 1 => nanL L n || fnan (L n)
theorem nanL_true {L : Nat → Nat} : ∀ {n i : Nat}, i < n → fnan (L i) = true → nanL L n = true
 | 0, i, h, _ => by omega
 | n + 1, i, h, hi => by
  rcases Nat.lt_or_eq_of_le (Nat.le_of_lt_succ h) with h1 | h1
  · unfold nanL; rw [nanL_true h1 hi]; rfl
  · subst h1; unfold nanL; rw [hi, Bool.or_true]
theorem fnan_any (w : World) (g n : Nat) (L : Nat → Nat) (hn : n ≤ 1000) (hc : FRow w g n L) :
 Calls Tryz.prog 97 #[.slice (some ⟨g, 0, none⟩) n n] w fun e w' => e = .returned (.bool (nanL L n)) ∧ w = w' := by
 have HK := fun f => Lib.hid (fkind_any w f)
 go_enter Tryz.func97, Tryz.ntmps97
 go_wp2
 go_loop [7] (fun i => ∃ k : Nat, k ≤ n ∧ i = .int .i64 k ∧ nanL L k = false) (fun i => n - (intOf i).toNat)
 case atStart => exact ⟨0, Nat.zero_le _, rfl, rfl⟩
 case round =>
  obtain ⟨k, hk, rfl, hL⟩ := hrel
  have HL := Lib.hid hL
  clear hL
  by_cases h0 : k < n
  · have c1 := hc k h0
    have he := (fkind_eqs (L k)).1
    have hs : nanL L (k + 1) = fnan (L k) := by show (nanL L k || fnan (L k)) = _; rw [HL.out, Bool.false_or]
    have HS := Lib.hid hs
    clear hs
    generalize hy : L k = y at c1 he
    have HY := Lib.hid hy
    have HK1 := HK y
    generalize fkind y = z at HK1 he
    clear hc HK hy
    cases hb : fnan y with
    | true =>
     rw [hb] at he
     go_wp2_with fail
     refine HK1.out.mono ?_
     rintro e w1 ⟨rfl, rfl⟩
     go_wp2_with fail
     go_ret
     exact ⟨Eq.trans (show _ = Ending.returned (.bool true) from rfl) (by rw [nanL_true h0 (by rw [HY.out]; exact hb)]), rfl⟩
    | false =>
     rw [hb] at he
     go_wp2_with fail
     refine HK1.out.mono ?_
     rintro e w1 ⟨rfl, rfl⟩
     go_wp2_with fail
     go_round
     case rel => exact ⟨k + 1, by omega, by go_num, by rw [HS.out, HY.out]; exact hb⟩
     case measure => simp [intOf]; omega
  · obtain rfl : k = n := by omega
    go_wp2
    go_ret
    exact ⟨Eq.trans (show _ = Ending.returned (.bool false) from rfl) (by rw [HL.out]), rfl⟩
theorem nan2 (w : World) (g a b : Nat) (h0 : w.cell? ⟨g, 0, none⟩ = some (.int .u64 a)) (h1 : w.cell? ⟨g, 1, none⟩ = some (.int .u64 b)) :
 Calls Tryz.prog 97 #[.slice (some ⟨g, 0, none⟩) 2 2] w fun e w' => e = .returned (.bool (fnan a || fnan b)) ∧ w = w' := by
 have h := fnan_any w g 2 (fun i => if i = 0 then a else b) (by decide) (fun i hi => by
  rcases (show i = 0 ∨ i = 1 by omega) with rfl | rfl
  · exact h0
  · exact h1)
 have e : nanL (fun i => if i = 0 then a else b) 2 = (fnan a || fnan b) := by simp [nanL]
 rwa [e] at h
theorem fnothing_any (w : World) (mode : Int) : Calls Tryz.prog 104 #[.int .i64 mode] w fun e w' => e = .returned (.int .u64 (fnothing mode : Nat)) ∧ w = w' := by
 have hm : (mode == 1) = decide (mode = 1) := by rw [Bool.eq_iff_iff]; simp
 have hv : fnothing mode = fsgn (mode == 1) 0 := by unfold fnothing; rw [hm]
 have HS := fun W => Lib.hid (show Calls Tryz.prog 112 #[.int .u64 0, .bool (mode == 1)] W fun e w' => e = .returned (.int .u64 (fsgn (mode == 1) 0 : Nat)) ∧ W = w' from fsigned_any W 0 (mode == 1) (by decide))
 rw [hv]
 clear hv hm
 generalize ((fsgn (mode == 1) 0 : Nat) : Int) = v at *
 go_enter Tryz.func104, Tryz.ntmps104
 go_wp2_with fail
 refine (HS _).out.mono ?_
 rintro e w1 ⟨rfl, rfl⟩
 go_wp2_with fail
 go_ret
 exact ⟨rfl, rfl⟩
theorem mode_dec (mode : Int) (s : Bool) : fover s mode = if (mode == 3 || (mode == 1 && !s) || (mode == 2 && s)) then fsgn s fMax else fsgn s fInf := by
 unfold fover
 by_cases h3 : mode = 3
 · subst h3; simp
 · by_cases h1 : mode = 1
   · subst h1; cases s <;> simp
   · by_cases h2 : mode = 2
     · subst h2; cases s <;> simp
     · cases s <;> simp [h1, h2, h3]
theorem fover_any (w : World) (mode : Int) (s : Bool) : Calls Tryz.prog 178 #[.bool s, .int .i64 mode] w fun e w' => e = .returned (.int .u64 (fover s mode : Nat)) ∧ w = w' := by
 have hv := mode_dec mode s
 have HM := fun W => Lib.hid (show Calls Tryz.prog 112 #[.int .u64 9218868437227405311, .bool s] W fun e w' => e = .returned (.int .u64 (fsgn s fMax : Nat)) ∧ W = w' from fsigned_any W fMax s (by decide))
 have HI := fun W => Lib.hid (show Calls Tryz.prog 112 #[.int .u64 9218868437227405312, .bool s] W fun e w' => e = .returned (.int .u64 (fsgn s fInf : Nat)) ∧ W = w' from fsigned_any W fInf s (by decide))
 rw [hv]
 clear hv
 cases hb : (mode == 3 || (mode == 1 && !s) || (mode == 2 && s)) with
 | true =>
  simp only [if_true]
  generalize ((fsgn s fMax : Nat) : Int) = v at *
  cases h3 : (mode == 3) <;> cases h1 : (mode == 1) <;> cases h2 : (mode == 2) <;> cases s <;> rw [h3, h1, h2] at hb <;> first
  | (exfalso; revert hb; decide)
  | (clear hb
     go_enter Tryz.func178, Tryz.ntmps178
     go_wp2_with fail
     refine (HM _).out.mono ?_
     rintro e w1 ⟨rfl, rfl⟩
     go_wp2_with fail
     go_ret
     exact ⟨rfl, rfl⟩)
 | false =>
  simp only [Bool.false_eq_true, if_false]
  generalize ((fsgn s fInf : Nat) : Int) = v at *
  cases h3 : (mode == 3) <;> cases h1 : (mode == 1) <;> cases h2 : (mode == 2) <;> cases s <;> rw [h3, h1, h2] at hb <;> first
  | (exfalso; revert hb; decide)
  | (clear hb
     go_enter Tryz.func178, Tryz.ntmps178
     go_wp2_with fail
     refine (HI _).out.mono ?_
     rintro e w1 ⟨rfl, rfl⟩
     go_wp2_with fail
     go_ret
     exact ⟨rfl, rfl⟩)
end Go.Proofs.YtgicceiimciafaaGreatDoor

/-
  What the laws need beyond the slice Zf.
-/
import Derived.WalkKit
import Derived.Lib.Hide
import Derived.Deep.QuietTactic
import Derived.Laws.CopyOwn
import Derived.WalkLawsBesides
import Derived.WalkSpells
import Derived.BigQuiet
import Derived.Lib.Strings
import Derived.Lib.Slices
import Derived.Lib.Small
import Derived.Lib.Walk
import Derived.Lib.BitFns
import Derived.Deep.DeepCutAuto
import Derived.Deep.CutBlock
import Derived.Deep.LoopGhost
import Derived.Deep.RegionHeld3
import Derived.ProofKit
import Derived.OpenShut
import Derived.Carry
import Derived.Laws.LoneSync
import Derived.Deep.DeepHandedRow
import Derived.Lib.LaidTab
import Derived.Deep.RegionWith
import Derived.Laws.EntriesVeiled
import Derived.Test.YtakbappmkdaioaaGreatDoorZfBa
import Derived.Test.YtakbappmkdaioaaGreatDoorZfBb
import Derived.Test.YtakbappmkdaioaaGreatDoorZfBc
import Derived.Test.YtakbappmkdaioaaGreatDoorZfBd
import Derived.Test.YtakbappmkdaioaaGreatDoorZfOpen
import Derived.Test.YtakbappmkdaioaaGreatDoorZfBe
import Derived.Test.YtakbappmkdaioaaGreatDoorZfBf
import Derived.Test.YtakbappmkdaioaaGreatDoorZfBL
import Derived.Test.YtakbappmkdaioaaGreatDoorZfFP
import Derived.Test.YtakbappmkdaioaaGreatDoorZfGa
import Derived.Test.YtakbappmkdaioaaGreatDoorZfGc
import Derived.Test.YtakbappmkdaioaaGreatDoorZfIP
import Derived.Test.YtakbappmkdaioaaGreatDoorZfJA
import Derived.Test.YtakbappmkdaioaaGreatDoorZfCm
import Derived.Test.YtakbappmkdaioaaGreatDoorZfRm
import Derived.Test.YtakbappmkdaioaaGreatDoorZfCs
import Derived.Test.YtakbappmkdaioaaGreatDoorZfGi
import Derived.Test.YtakbappmkdaioaaGreatDoorZfBg
import Derived.Test.YtakbappmkdaioaaGreatDoorZfRa
import Derived.Test.YtakbappmkdaioaaGreatDoorZfBh
import Derived.Test.YtakbappmkdaioaaGreatDoorZfGr
import Derived.Test.YtakbappmkdaioaaGreatDoorZfGo
import Derived.Test.YtakbappmkdaioaaGreatDoorZfGq
import Derived.Test.YtakbappmkdaioaaGreatDoorZfRd
import Derived.Test.YtakbappmkdaioaaGreatDoorZfRe
import Derived.Test.YtakbappmkdaioaaGreatDoorZfRk
import Derived.Test.YtakbappmkdaioaaGreatDoorZfRq
import Derived.Test.YtakbappmkdaioaaGreatDoorZfRt
import Derived.Test.YtakbappmkdaioaaGreatDoorZfRx
import Derived.Test.YtakbappmkdaioaaGreatDoorZfS3
import Derived.Test.YtakbappmkdaioaaGreatDoorZfRat
import Derived.Test.YtakbappmkdaioaaGreatDoorZfQuo
import Derived.Test.YtakbappmkdaioaaGreatDoorZfGt
import Derived.Test.YtakbappmkdaioaaGreatDoorZfGm
import Derived.Test.YtakbappmkdaioaaGreatDoorZfGs
import Derived.Test.YtakbappmkdaioaaGreatDoorZfGw
import Derived.Test.YtakbappmkdaioaaGreatDoorZfPFa
import Derived.Test.YtakbappmkdaioaaGreatDoorZfPFb
import Derived.Test.YtakbappmkdaioaaGreatDoorZfPFc
namespace Go.Proofs.YtakbappmkdaioaaGreatDoor
open Go.RowKit Sp

/-! ### dyads: an integer and an exponent; none: the bad one -/
end Go.Proofs.YtakbappmkdaioaaGreatDoor

namespace Go.Proofs.YtakbappmkdaioaaGreatDoor
open Go.RowKit Sp

/-! ### normal dyads -/
theorem blen_nz {m : Int} (h : m ≠ 0) : 1 ≤ blen m.natAbs := blen_pos (Int.natAbs_pos.2 h)
/-! ### the operations -/
def dscale : Option (Int × Int) → Int → Option (Int × Int)
  | some (m, e), n => nrm m (e + max (min n 262144) (-262144))
  | none, _ => none
def dlog : Option (Int × Int) → Int
  | some (m, e) => if m = 0 then 0 else e + blen m.natAbs - 1
  | none => 0

/-! ### a real number x (and a little more, if more) in units of 2^E, rounded to multiples of 2^q -/
end Go.Proofs.YtakbappmkdaioaaGreatDoor

namespace Go.Proofs.YtakbappmkdaioaaGreatDoor
open Go.RowKit Sp

end Go.Proofs.YtakbappmkdaioaaGreatDoor

namespace Sp
open Go Go.RowKit
end Sp

namespace Go.Proofs.YtakbappmkdaioaaGreatDoor
open Go.RowKit Sp

end Go.Proofs.YtakbappmkdaioaaGreatDoor

namespace Go.Proofs.YtakbappmkdaioaaGreatDoor
open Go.RowKit Sp

end Go.Proofs.YtakbappmkdaioaaGreatDoor

namespace Go.Proofs.YtakbappmkdaioaaGreatDoor
open Go.RowKit Sp

/-! ### the parts of a float -/
def fneg (f : Nat) : Nat := if fnan f then fNaN else fsgn (!fS f) (fM f)
def fabs (f : Nat) : Nat := if fnan f then fNaN else fM f

theorem fM_lt (f : Nat) : fM f < 9223372036854775808 := Nat.mod_lt _ (by decide)
theorem fsgn_lt {s : Bool} {c : Nat} (h : c < 9223372036854775808) : fsgn s c < 18446744073709551616 := by unfold fsgn; split <;> omega
/-! ### values, in units of 2^-1074; the codes go on without end -/
/-! ### rounding -/
/-! ### the functions of two and three floats -/
def fplace (f : Nat) : Int := sgn (fS f) (fM f)
def fcmpv (a b : Nat) : Int := if fnan a || fnan b then 0 else cmpI (fplace a) (fplace b)
def fcmpok (a b : Nat) : Bool := !(fnan a || fnan b)
def fup (f : Nat) : Nat := if fnan f then fNaN else if f = fInf then f else if fzero f then 1 else if fS f then f - 1 else f + 1
def fdown (f : Nat) : Nat := fneg (fup (fneg f))

end Go.Proofs.YtakbappmkdaioaaGreatDoor

namespace Go.Proofs.YtakbappmkdaioaaGreatDoor
open Go.RowKit Sp

/-! ### a positive real number x by its comparisons: cx j compares x with j 2^-1075 -/
end Go.Proofs.YtakbappmkdaioaaGreatDoor

namespace Go.Proofs.YtakbappmkdaioaaGreatDoor
open Go.RowKit Sp

/-! ### the quotient of two floats' values -/
/-! ### the root of a float's value -/
end Go.Proofs.YtakbappmkdaioaaGreatDoor

namespace Go.Proofs.YtakbappmkdaioaaGreatDoor
open Go.RowKit Sp

/-! ### cutting at the greatest float -/
/-! ### the order of floats -/
theorem fplace_eq (f : Nat) : fplace f = if fS f then -(fM f : Int) else (fM f : Int) := by unfold fplace sgn; cases fS f <;> rfl
theorem fplace_zero : fplace 0 = 0 := by decide
/-! ### numbers that are floats -/
theorem fz_le {f g : Nat} : fz f ≤ fz g ↔ fplace f ≤ fplace g := by
  unfold fz fplace sgn
  have h1 := @fzN_le_iff (fM f) (fM g)
  have h2 := @fzN_le_iff (fM g) (fM f)
  have z1 := @fzN_le_iff (fM f) 0
  have z2 := @fzN_le_iff (fM g) 0
  rw [fzN_zero] at z1 z2
  cases fS f <;> cases fS g <;> simp <;> omega

/-! ### sums -/
end Go.Proofs.YtakbappmkdaioaaGreatDoor

namespace Go.Proofs.YtakbappmkdaioaaGreatDoor
open Go.RowKit Sp

/-! ### FloatMonotone -/
theorem f_cases (f : Nat) : fnan f = true ∨ (fnan f = false ∧ finf f = true ∧ ffin f = false ∧ fzero f = false) ∨ (fnan f = false ∧ finf f = false ∧ ffin f = true) := by
  unfold fnan finf ffin fzero
  by_cases h1 : 9218868437227405312 < fM f
  · left; simpa using h1
  · by_cases h2 : fM f = 9218868437227405312
    · right; left; simp; omega
    · right; right; simp; omega
/-! ### FloatEnclose -/
end Go.Proofs.YtakbappmkdaioaaGreatDoor

namespace Go.Proofs.YtakbappmkdaioaaGreatDoor
open Go.RowKit Sp

/-! ### FloatNeighbours -/
theorem fneg_lt (f : Nat) : fneg f < 18446744073709551616 := by
  unfold fneg; split
  · decide
  · exact fsgn_lt (fM_lt f)
theorem fup_lt {f : Nat} (h : f < 18446744073709551616) : fup f < 18446744073709551616 := by
  unfold fup
  split
  · decide
  · split
    · exact h
    · split
      · decide
      · split
        · omega
        · rename_i hs
          have : ¬ 9223372036854775808 ≤ f := by unfold fS at hs; simpa using hs
          omega
/-! ### FloatCommutes -/
/-! ### FloatMirrors -/
theorem dman_fof {a : Nat} (h : ffin a = true) : dman (fof a) = 0 ↔ fzero a = true := by
  rw [fof_fin h, dman_zero (fof_some h), fz_zero]; unfold fzero; simp
/-! ### FloatSpecial -/
/-! ### what awake computes -/
end Go.Proofs.YtakbappmkdaioaaGreatDoor

namespace Go.Proofs.YtakbappmkdaioaaGreatDoor
open Go.RowKit Sp

/-! ### FloatSterbenz -/
theorem dbad_nn {d : Option (Int × Int)} : dbad d = false ↔ d ≠ none := by cases d <;> simp [dbad]
/-! ### FloatHalves -/
end Go.Proofs.YtakbappmkdaioaaGreatDoor

namespace Go.Proofs.YtakbappmkdaioaaGreatDoor
open Go.RowKit Sp

theorem nat_join63 {c : Nat} (h : c < 9223372036854775808) : c ^^^ 9223372036854775808 = c + 9223372036854775808 := by
  have e : (9223372036854775808 : Nat) = 2 ^ 63 := by decide
  rw [e, Nat.add_comm c]
  apply Nat.eq_of_testBit_eq
  intro i
  rw [Nat.testBit_xor, Nat.testBit_two_pow]
  rcases Nat.lt_trichotomy i 63 with hi | hi | hi
  · rw [Nat.testBit_two_pow_add_gt hi, decide_eq_false (by omega), Bool.xor_false]
  · subst hi; rw [Nat.testBit_two_pow_add_eq, decide_eq_true rfl, Bool.xor_true]
  · have h1 : 2 ^ 64 ≤ 2 ^ i := Nat.pow_le_pow_right (by decide) hi
    rw [Nat.testBit_lt_two_pow (show c < 2 ^ i by omega), Nat.testBit_lt_two_pow (show 2 ^ 63 + c < 2 ^ i by omega), decide_eq_false (by omega)]; rfl
theorem bits_xor_sign {f : Nat} (h : f < 18446744073709551616) : Go.bits .xor .u64 (f : Int) 9223372036854775808 = ((fsgn (!fS f) (fM f) : Nat) : Int) := by
  have h1 := u64_xor_nat f 9223372036854775808 h (by decide)
  refine Eq.trans h1 (congrArg _ ?_)
  have e := fsgn_self h
  have hM := fM_lt f
  generalize fM f = g at *
  cases hs : fS f with
  | false => rw [hs] at e; have e : g = f := e; rw [← e, nat_join63 hM]; rfl
  | true =>
    rw [hs] at e
    have e : g + 9223372036854775808 = f := e
    rw [← e, ← nat_join63 hM, Nat.xor_assoc, Nat.xor_self, Nat.xor_zero]; rfl
theorem bits_abs {f : Nat} (h : f < 18446744073709551616) : Go.bits .andNot .u64 (f : Int) 9223372036854775808 = ((fM f : Nat) : Int) := by
  have h1 := u64_andNot_nat f 9223372036854775808 h (by decide)
  refine Eq.trans h1 (congrArg _ ?_)
  exact Nat.and_two_pow_sub_one_eq_mod f 63
end Go.Proofs.YtakbappmkdaioaaGreatDoor

namespace Go.Proofs.YtakbappmkdaioaaGreatDoor
open Go.RowKit Sp

/-! ### quotients -/
/-! ### roots -/
/-! ### floats -/
end Go.Proofs.YtakbappmkdaioaaGreatDoor

namespace Go.Proofs.YtakbappmkdaioaaGreatDoor
open Go.RowKit Sp

set_option maxHeartbeats 400000 in
theorem ffin_any (w : World) (f : Nat) : Calls Tryz.prog 54 #[.int .u64 f] w fun e w' => e = .returned (.bool (ffin f)) ∧ w = w' := by
  have HP := fun W => Lib.hid (fparts_any W f)
  have hk : (((fE f : Nat) : Int) != 2047) = ffin f := by rw [ffin_E, Bool.eq_iff_iff]; simp; omega
  generalize ((fE f : Nat) : Int) = E at *
  go_enter Tryz.func54, Tryz.ntmps54
  go_wp2_with fail
  refine (HP _).out.mono ?_
  rintro e w1 ⟨rfl, rfl⟩
  go_wp2_with fail
  go_ret
  exact ⟨by simp, rfl⟩

end Go.Proofs.YtakbappmkdaioaaGreatDoor

namespace Go.Proofs.YtakbappmkdaioaaGreatDoor
open Go.RowKit Sp

theorem nan1 (w : World) (g a : Nat) (h0 : w.cell? ⟨g, 0, none⟩ = some (.int .u64 a)) :
    Calls Tryz.prog 162 #[.slice (some ⟨g, 0, none⟩) 1 1] w fun e w' => e = .returned (.bool (fnan a)) ∧ w = w' := by
  have h := fnan_any w g 1 (fun _ => a) (by decide) (fun i hi => by obtain rfl : i = 0 := by omega
                                                                    exact h0)
  have e : nanL (fun _ => a) 1 = fnan a := by simp [nanL]
  rwa [e] at h
set_option maxRecDepth 100000 in
set_option maxHeartbeats 2000000 in
theorem fneg_any (w : World) (f : Nat) (hf : f < 18446744073709551616) : Calls Tryz.prog 56 #[.int .u64 f] w fun e w' => e = .returned (.int .u64 (fneg f : Nat)) ∧ Below w.heap.size w w' := by
  have h1 := bits_xor_sign hf
  cases hn : fnan f with
  | true =>
    have hv : fneg f = fNaN := by unfold fneg; rw [if_pos hn]
    have hv : ((fneg f : Nat) : Int) = 9221120237041090560 := by rw [hv]; rfl
    generalize ((fneg f : Nat) : Int) = v at *
    go_enter Tryz.func56, Tryz.ntmps56
    go_wp2_with fail
    refine (nan1 _ _ f (by go_simp)).mono ?_
    rw [hn]
    rintro e w1 ⟨rfl, rfl⟩
    go_wp2_with fail
    go_ret
    exact ⟨by rw [hv]; rfl, zbh⟩
  | false =>
    have hv : fneg f = fsgn (!fS f) (fM f) := by unfold fneg; rw [if_neg (by rw [hn]; decide)]
    rw [← hv] at h1
    generalize ((fneg f : Nat) : Int) = v at *
    clear hv
    go_enter Tryz.func56, Tryz.ntmps56
    go_wp2_with fail
    refine (nan1 _ _ f (by go_simp)).mono ?_
    rw [hn]
    rintro e w1 ⟨rfl, rfl⟩
    go_wp2_with fail
    go_ret
    exact ⟨by rw [← h1]; rfl, zbh⟩

set_option maxRecDepth 100000 in
set_option maxHeartbeats 2000000 in
theorem fabs_any (w : World) (f : Nat) (hf : f < 18446744073709551616) : Calls Tryz.prog 58 #[.int .u64 f] w fun e w' => e = .returned (.int .u64 (fabs f : Nat)) ∧ Below w.heap.size w w' := by
  have h1 := bits_abs hf
  cases hn : fnan f with
  | true =>
    have hv : fabs f = fNaN := by unfold fabs; rw [if_pos hn]
    have hv : ((fabs f : Nat) : Int) = 9221120237041090560 := by rw [hv]; rfl
    generalize ((fabs f : Nat) : Int) = v at *
    go_enter Tryz.func58, Tryz.ntmps58
    go_wp2_with fail
    refine (nan1 _ _ f (by go_simp)).mono ?_
    rw [hn]
    rintro e w1 ⟨rfl, rfl⟩
    go_wp2_with fail
    go_ret
    exact ⟨by rw [hv]; rfl, zbh⟩
  | false =>
    have hv : fabs f = fM f := by unfold fabs; rw [if_neg (by rw [hn]; decide)]
    rw [← hv] at h1
    generalize ((fabs f : Nat) : Int) = v at *
    clear hv
    go_enter Tryz.func58, Tryz.ntmps58
    go_wp2_with fail
    refine (nan1 _ _ f (by go_simp)).mono ?_
    rw [hn]
    rintro e w1 ⟨rfl, rfl⟩
    go_wp2_with fail
    go_ret
    exact ⟨by rw [← h1]; rfl, zbh⟩

set_option maxRecDepth 100000 in
set_option maxHeartbeats 2000000 in
theorem fplace_any (w : World) (f : Nat) (hf : f < 18446744073709551616) : Calls Tryz.prog 163 #[.int .u64 f] w fun e w' => e = .returned (.int .i64 (fplace f)) ∧ w = w' := by
  have h1 := bits_abs hf
  have hM := fM_lt f
  have h2 : IntKind.i64.wrap ((fM f : Nat) : Int) = (fM f : Nat) := by rw [IntKind.wrap_i64]; omega
  have h3 : IntKind.i64.wrap (-((fM f : Nat) : Int)) = -((fM f : Nat) : Int) := by rw [IntKind.wrap_i64]; omega
  have HS := fun W => Lib.hid (fsign_any W f hf)
  rw [fplace_eq]
  clear hM
  generalize ((fM f : Nat) : Int) = m at *
  cases hs : fS f with
  | true =>
    rw [hs] at HS
    rw [if_pos rfl]
    go_enter Tryz.func163, Tryz.ntmps163
    go_wp2_with fail
    refine (HS _).out.mono ?_
    rintro e w1 ⟨rfl, rfl⟩
    go_wp2_with fail
    go_ret
    exact ⟨rfl, rfl⟩
  | false =>
    rw [hs] at HS
    rw [if_neg (by decide)]
    go_enter Tryz.func163, Tryz.ntmps163
    go_wp2_with fail
    refine (HS _).out.mono ?_
    rintro e w1 ⟨rfl, rfl⟩
    go_wp2_with fail
    go_ret
    exact ⟨rfl, rfl⟩

set_option maxRecDepth 100000 in
set_option maxHeartbeats 2000000 in
theorem fcmp_nan (w : World) (a b : Nat) (hn : (fnan a || fnan b) = true) :
    Calls Tryz.prog 48 #[.int .u64 a, .int .u64 b] w fun e w' => e = .returned (.tuple #[.int .i64 0, .bool false]) ∧ Below w.heap.size w w' := by
  go_enter Tryz.func48, Tryz.ntmps48
  go_wp2_with fail
  refine (nan2 _ _ a b (by go_simp) (by go_simp)).mono ?_
  rw [hn]
  rintro e w1 ⟨rfl, rfl⟩
  go_wp2_with fail
  refine bodyPost_ret (v := .tuple #[.int .i64 0, .bool false]) (by simp only [results, Tryz.results48]; go_simp) rfl ?_
  exact ⟨rfl, zbh⟩

set_option maxRecDepth 100000 in
set_option maxHeartbeats 2000000 in
theorem fcmp_ok (w : World) (a b : Nat) (ha : a < 18446744073709551616) (hb : b < 18446744073709551616) (hn : (fnan a || fnan b) = false) :
    Calls Tryz.prog 48 #[.int .u64 a, .int .u64 b] w fun e w' => e = .returned (.tuple #[.int .i64 (cmpI (fplace a) (fplace b)), .bool true]) ∧ Below w.heap.size w w' := by
  have HA := fun W => Lib.hid (fplace_any W a ha)
  have HB := fun W => Lib.hid (fplace_any W b hb)
  generalize fplace a = x at *
  generalize fplace b = y at *
  have HN := fun W g h h' => Lib.hid (nan2 W g a b h h')
  rw [hn] at HN
  clear hn ha hb
  rcases Int.lt_trichotomy x y with h | h | h
  · rw [cmpI_lt h]
    have h1 : decide (x < y) = true := by simpa using h
    clear h
    go_enter Tryz.func48, Tryz.ntmps48
    go_wp2_with fail
    refine (HN _ _ (by go_simp) (by go_simp)).out.mono ?_
    rintro e w1 ⟨rfl, rfl⟩
    go_wp2_with fail
    refine (HA _).out.mono ?_
    rintro e w1 ⟨rfl, rfl⟩
    go_wp2_with fail
    refine (HB _).out.mono ?_
    rintro e w1 ⟨rfl, rfl⟩
    go_wp2_with fail
    refine bodyPost_ret (v := .tuple #[.int .i64 (-1), .bool true]) (by simp only [results, Tryz.results48]; go_simp) rfl ?_
    exact ⟨rfl, zbh⟩
  · rw [cmpI_eq h]
    have h1 : decide (x < y) = false := by simp; omega
    have h2 : decide (y < x) = false := by simp; omega
    clear h
    go_enter Tryz.func48, Tryz.ntmps48
    go_wp2_with fail
    refine (HN _ _ (by go_simp) (by go_simp)).out.mono ?_
    rintro e w1 ⟨rfl, rfl⟩
    go_wp2_with fail
    refine (HA _).out.mono ?_
    rintro e w1 ⟨rfl, rfl⟩
    go_wp2_with fail
    refine (HB _).out.mono ?_
    rintro e w1 ⟨rfl, rfl⟩
    go_wp2_with fail
    refine bodyPost_ret (v := .tuple #[.int .i64 0, .bool true]) (by simp only [results, Tryz.results48]; go_simp) rfl ?_
    exact ⟨rfl, zbh⟩
  · rw [cmpI_gt h]
    have h1 : decide (x < y) = false := by simp; omega
    have h2 : decide (y < x) = true := by simpa using h
    clear h
    go_enter Tryz.func48, Tryz.ntmps48
    go_wp2_with fail
    refine (HN _ _ (by go_simp) (by go_simp)).out.mono ?_
    rintro e w1 ⟨rfl, rfl⟩
    go_wp2_with fail
    refine (HA _).out.mono ?_
    rintro e w1 ⟨rfl, rfl⟩
    go_wp2_with fail
    refine (HB _).out.mono ?_
    rintro e w1 ⟨rfl, rfl⟩
    go_wp2_with fail
    refine bodyPost_ret (v := .tuple #[.int .i64 1, .bool true]) (by simp only [results, Tryz.results48]; go_simp) rfl ?_
    exact ⟨rfl, zbh⟩

theorem fcmp_any (w : World) (a b : Nat) (ha : a < 18446744073709551616) (hb : b < 18446744073709551616) :
    Calls Tryz.prog 48 #[.int .u64 a, .int .u64 b] w fun e w' => e = .returned (.tuple #[.int .i64 (fcmpv a b), .bool (fcmpok a b)]) ∧ Below w.heap.size w w' := by
  unfold fcmpv fcmpok
  cases hn : (fnan a || fnan b) with
  | true => exact fcmp_nan w a b hn
  | false => exact fcmp_ok w a b ha hb hn

end Go.Proofs.YtakbappmkdaioaaGreatDoor

namespace Go.Proofs.YtakbappmkdaioaaGreatDoor
open Go.RowKit Sp
set_option linter.unusedSimpArgs false

/-! ### what the functions compute -/
/-! ### bounds of 64 bits -/
/-! ### places -/
/-! ### directed roundings -/
end Go.Proofs.YtakbappmkdaioaaGreatDoor

namespace Go.Proofs.YtakbappmkdaioaaGreatDoor
open Go.RowKit Sp
set_option linter.unusedSimpArgs false

/-! ### sums -/
/-! ### products; where there is none it is zero -/
theorem fz_sign (f : Nat) : (fz f < 0 ↔ fplace f < 0) ∧ (0 < fz f ↔ 0 < fplace f) ∧ (fz f = 0 ↔ fplace f = 0) := by
  have z0 : fz 0 = 0 := by decide
  have h1 := @fz_le f 0
  have h2 := @fz_le 0 f
  rw [z0, fplace_zero] at h1 h2
  omega
theorem zero_place (f : Nat) : fzero f = true ↔ fplace f = 0 := by
  unfold fzero; rw [decide_eq_true_eq, fplace_eq]; split <;> omega
end Go.Proofs.YtakbappmkdaioaaGreatDoor

namespace Go.Proofs.YtakbappmkdaioaaGreatDoor
open Go.RowKit Sp
set_option linter.unusedSimpArgs false

/-! ### quotients; where there is none it is zero -/
end Go.Proofs.YtakbappmkdaioaaGreatDoor

namespace Go.Proofs.YtakbappmkdaioaaGreatDoor
open Go.RowKit Sp
set_option linter.unusedSimpArgs false

/-! ### results between whose bounds two values lie -/
/-! ### sums -/
/-! ### products -/
/-! ### quotients -/
end Go.Proofs.YtakbappmkdaioaaGreatDoor

namespace Go.Proofs.YtakbappmkdaioaaGreatDoor
open Go.RowKit Sp
set_option linter.unusedSimpArgs false

/-! ### absolute values -/
/-! ### squares -/
/-! ### hulls and intersections -/
/-! ### IntervalPoints -/
/-! ### IntervalHolds -/
end Go.Proofs.YtakbappmkdaioaaGreatDoor

namespace Go.Proofs.YtakbappmkdaioaaGreatDoor
open Go.RowKit Sp
set_option linter.unusedSimpArgs false

/-! ### IntervalWhole -/
/-! ### IntervalMiddle -/
/-! ### IntervalUndone: sums -/
/-! ### IntervalUndone: quotients -/
/-! ### IntervalUndone: roots of squares -/
end Go.Proofs.YtakbappmkdaioaaGreatDoor

namespace Go.Proofs.YtakbappmkdaioaaGreatDoor
open Go.RowKit Sp
set_option linter.unusedSimpArgs false

end Go.Proofs.YtakbappmkdaioaaGreatDoor

namespace Go.Proofs.YtakbappmkdaioaaGreatDoor
open Go.RowKit Sp

section
variable {W : World} {v s : Bool} {a : Option Addr} {n cap : Nat} {e : Int} {d : Option (Int × Int)}
end

/-- the value that a dyad reads as -/
theorem frd {P : Program} {f : FuncId} {args : Array Value} {W : World} {d : Option (Int × Int)} (hd : IsN d) (h : Calls P f args W (RetDy W d)) :
    Calls P f args W fun e w' => ∃ a c, e = .returned (.agg #[.bool (dbad d), .bool (decide (dman d < 0)), .slice a (nl (dman d).natAbs) c, .int .i64 (dexp d)]) ∧
      DI w' (dbad d) (decide (dman d < 0)) a (nl (dman d).natAbs) c (dexp d) d ∧ From W w' :=
  h.mono fun _ _ ⟨a, c, he, hm, hb, _⟩ => ⟨a, c, he, ⟨dyin_of hd hm⟩, ⟨hb⟩⟩

end Go.Proofs.YtakbappmkdaioaaGreatDoor

namespace Go.Proofs.YtakbappmkdaioaaGreatDoor
open Go.RowKit Sp

end Go.Proofs.YtakbappmkdaioaaGreatDoor

namespace Go.Proofs.YtakbappmkdaioaaGreatDoor
open Go.RowKit Sp

section
variable {W : World} {a : Option Addr} {n c x : Nat}
end
section
variable {W : World} {b : Nat} {s : Bool} {sl : Value}
end
section
variable {W : World} {b g i : Nat} {s : Bool} {sl : Value} {v : Value}
end
section
variable {W : World} {b i : Nat} {v : Value}
end
/-- a call that leaves the world as it was -/
theorem frw {P : Program} {f : FuncId} {args : Array Value} {W : World} {v : Value} (h : Calls P f args W fun e w' => e = .returned v ∧ W = w') : Calls P f args W fun e w' => e = .returned v ∧ From W w' :=
  h.mono fun _ _ ⟨he, hw⟩ => ⟨he, ⟨hw ▸ Below.refl _ _⟩⟩
/-- a dyad that is returned, its memory told -/
theorem frI {P : Program} {f : FuncId} {args : Array Value} {W : World} {d : Option (Int × Int)} (h : Calls P f args W (RetDy W d)) :
    Calls P f args W fun e w' => ∃ a c, e = .returned (.agg #[.bool (dbad d), .bool (decide (dman d < 0)), .slice a (nl (dman d).natAbs) c, .int .i64 (dexp d)]) ∧ BI w' a (nl (dman d).natAbs) c (dman d).natAbs ∧ From W w' :=
  h.mono fun _ _ ⟨a, c, he, hm, hb, _⟩ => ⟨a, c, he, ⟨hm⟩, ⟨hb⟩⟩
end Go.Proofs.YtakbappmkdaioaaGreatDoor

namespace Go.Proofs.YtakbappmkdaioaaGreatDoor
open Go.RowKit Sp


section
variable {W : World} {v s : Bool} {a : Option Addr} {n cap : Nat} {e : Int} {d : Option (Int × Int)}
end
theorem frs {P : Program} {f : FuncId} {args : Array Value} {W : World} {d : Option (Int × Int)} (hd : IsN d) (h : Calls P f args W (RetDy W d)) :
    Calls P f args W fun e w' => ∃ a c, e = .returned (.agg #[.bool (dbad d), .bool (decide (dman d < 0)), .slice a (nl (dman d).natAbs) c, .int .i64 (dexp d)]) ∧
      DS w' (dbad d) (decide (dman d < 0)) a (nl (dman d).natAbs) c (dexp d) d ∧ From W w' :=
  h.mono fun _ _ ⟨a, c, he, hm, hb, _⟩ => ⟨a, c, he, ⟨dys_of hd hm⟩, ⟨hb⟩⟩
end Go.Proofs.YtakbappmkdaioaaGreatDoor

namespace Go.Proofs.YtakbappmkdaioaaGreatDoor
open Go.RowKit Sp

set_option maxRecDepth 100000 in
set_option maxHeartbeats 2000000 in
theorem fup_any (w : World) (f : Nat) (hf : f < 18446744073709551616) : Calls Tryz.prog 62 #[.int .u64 f] w fun e w' => e = .returned (.int .u64 (fup f : Nat)) ∧ Below w.heap.size w w' := by
  have HN := fun W g h => Lib.hid (nan1 W g f h)
  have HZ := fun W => Lib.hid (fzero_any W f)
  have HS := fun W => Lib.hid (fsign_any W f hf)
  have hi : ((f : Int) == 9218868437227405312) = decide (f = fInf) := by rw [Bool.eq_iff_iff, beq_iff_eq, decide_eq_true_eq]; unfold fInf; omega
  cases hn : fnan f with
  | true =>
    have hv : ((fup f : Nat) : Int) = 9221120237041090560 := by unfold fup; rw [if_pos hn]; rfl
    rw [hn] at HN
    rw [hv]
    clear hv hn hi
    go_enter Tryz.func62, Tryz.ntmps62
    go_wp2_with fail
    refine (HN _ _ (by go_simp)).out.mono ?_
    rintro e w1 ⟨rfl, rfl⟩
    go_wp2_with fail
    go_ret
    exact ⟨rfl, zbh⟩
  | false =>
    rw [hn] at HN
    by_cases h1 : f = fInf
    · have hv : fup f = f := by unfold fup; rw [if_neg (by rw [hn]; decide), if_pos h1]
      rw [decide_eq_true h1] at hi
      rw [hv]
      clear hv hn h1
      go_enter Tryz.func62, Tryz.ntmps62
      go_wp2_with fail
      refine (HN _ _ (by go_simp)).out.mono ?_
      rintro e w1 ⟨rfl, rfl⟩
      go_wp2_with fail
      go_ret
      exact ⟨rfl, zbh⟩
    · rw [decide_eq_false h1] at hi
      cases hz : fzero f with
      | true =>
        have hv : ((fup f : Nat) : Int) = 1 := by unfold fup; rw [if_neg (by rw [hn]; decide), if_neg h1, if_pos hz]; rfl
        rw [hz] at HZ
        rw [hv]
        clear hv hn h1 hz
        go_enter Tryz.func62, Tryz.ntmps62
        go_wp2_with fail
        refine (HN _ _ (by go_simp)).out.mono ?_
        rintro e w1 ⟨rfl, rfl⟩
        go_wp2_with fail
        refine (HZ _).out.mono ?_
        rintro e w1 ⟨rfl, rfl⟩
        go_wp2_with fail
        go_ret
        exact ⟨rfl, zbh⟩
      | false =>
        rw [hz] at HZ
        cases hs : fS f with
        | true =>
          have hw : IntKind.u64.wrap ((f : Int) - 1) = ((fup f : Nat) : Int) := by
            have : 9223372036854775808 ≤ f := by unfold fS at hs; simpa using hs
            unfold fup; rw [if_neg (by rw [hn]; decide), if_neg h1, if_neg (by rw [hz]; decide), if_pos hs, IntKind.wrap_u64]; omega
          rw [hs] at HS
          generalize ((fup f : Nat) : Int) = v at *
          clear hn h1 hz hs
          go_enter Tryz.func62, Tryz.ntmps62
          go_wp2_with fail
          refine (HN _ _ (by go_simp)).out.mono ?_
          rintro e w1 ⟨rfl, rfl⟩
          go_wp2_with fail
          refine (HZ _).out.mono ?_
          rintro e w1 ⟨rfl, rfl⟩
          go_wp2_with fail
          refine (HS _).out.mono ?_
          rintro e w1 ⟨rfl, rfl⟩
          go_wp2_with fail
          go_ret
          exact ⟨rfl, zbh⟩
        | false =>
          have hw : IntKind.u64.wrap ((f : Int) + 1) = ((fup f : Nat) : Int) := by
            have : ¬ 9223372036854775808 ≤ f := by unfold fS at hs; simpa using hs
            unfold fup; rw [if_neg (by rw [hn]; decide), if_neg h1, if_neg (by rw [hz]; decide), if_neg (by rw [hs]; decide), IntKind.wrap_u64]; omega
          rw [hs] at HS
          generalize ((fup f : Nat) : Int) = v at *
          clear hn h1 hz hs
          go_enter Tryz.func62, Tryz.ntmps62
          go_wp2_with fail
          refine (HN _ _ (by go_simp)).out.mono ?_
          rintro e w1 ⟨rfl, rfl⟩
          go_wp2_with fail
          refine (HZ _).out.mono ?_
          rintro e w1 ⟨rfl, rfl⟩
          go_wp2_with fail
          refine (HS _).out.mono ?_
          rintro e w1 ⟨rfl, rfl⟩
          go_wp2_with fail
          go_ret
          exact ⟨rfl, zbh⟩

set_option maxRecDepth 100000 in
set_option maxHeartbeats 2000000 in
theorem fdown_any (w : World) (f : Nat) (hf : f < 18446744073709551616) : Calls Tryz.prog 64 #[.int .u64 f] w fun e w' => e = .returned (.int .u64 (fdown f : Nat)) ∧ Below w.heap.size w w' := by
  have H1 := fun W => Lib.hid (fneg_any W f hf)
  have H2 := fun W => Lib.hid (fup_any W (fneg f) (fneg_lt f))
  have H3 := fun W => Lib.hid (fneg_any W (fup (fneg f)) (fup_lt (fneg_lt f)))
  unfold fdown
  generalize ((fneg (fup (fneg f)) : Nat) : Int) = u at *
  generalize ((fup (fneg f) : Nat) : Int) = v at *
  generalize ((fneg f : Nat) : Int) = x at *
  go_enter Tryz.func64, Tryz.ntmps64
  go_wp2_with fail
  refine (H1 _).out.mono ?_
  rintro e w1 ⟨rfl, hb1⟩
  have B1 := below_box (w := w) zbh hb1
  clear hb1
  go_wp2_with fail
  refine (H2 _).out.mono ?_
  rintro e w2 ⟨rfl, hb2⟩
  have B2 := below_box (w := w) (have := Beh.mk B1; zbh) hb2
  clear hb2
  go_wp2_with fail
  refine (H3 _).out.mono ?_
  rintro e w3 ⟨rfl, hb3⟩
  have B3 := below_box (w := w) (have := Beh.mk B2; zbh) hb3
  clear hb3
  go_wp2_with fail
  go_ret
  exact ⟨rfl, (have := Beh.mk B3; zbh)⟩

end Go.Proofs.YtakbappmkdaioaaGreatDoor

namespace Go.Proofs.YtakbappmkdaioaaGreatDoor
open Go.RowKit Sp

end Go.Proofs.YtakbappmkdaioaaGreatDoor

namespace Go.Proofs.YtakbappmkdaioaaGreatDoor
open Go.RowKit Sp

end Go.Proofs.YtakbappmkdaioaaGreatDoor

namespace Go.Proofs.YtakbappmkdaioaaGreatDoor
open Go.RowKit Sp

end Go.Proofs.YtakbappmkdaioaaGreatDoor

namespace Go.Proofs.YtakbappmkdaioaaGreatDoor
open Go.RowKit Sp

/-- is a dyad a number other than zero -/
def dnz (d : Option (Int × Int)) : Bool := !dbad d && !decide (dman d = 0)

set_option maxRecDepth 100000 in
set_option maxHeartbeats 2000000 in
theorem dlog_bad (w : World) (bd s : Bool) (a : Option Addr) (n cap : Nat) (e : Int) (hx : DyIn w bd s a n cap e none) (hT : Tab w) :
    Calls Tryz.prog 166 #[.agg #[.bool bd, .bool s, .slice a n cap, .int .i64 e]] w fun o w' => o = .returned (.tuple #[.int .i64 0, .bool false]) ∧ Below w.heap.size w w' := by
  have HN := fun W h ht => Lib.hid (@norm_v W bd s a n cap e none h ht true 0 0 rfl rfl rfl)
  go_enter Tryz.func166, Tryz.ntmps166
  go_wp2_with fail
  refine (HN _ (hx.below zbh) (hT.below zbh)).out.mono ?_
  rintro e w1 ⟨a1, c1, rfl, hm1, hb, hf1⟩
  obtain ⟨hc1, hz1⟩ := bcell (hb.mono (show w.heap.size + 1 ≤ _ by simp))
  have hbw := below_box (w := w) zbh hb
  go_wp2_with fail
  refine bodyPost_ret2 (v := .tuple #[.int .i64 0, .bool false]) (by simp only [results, Tryz.results166]; go_simp) rfl ?_
  exact ⟨rfl, (have := Beh.mk hbw; zbh)⟩

set_option maxRecDepth 100000 in
set_option maxHeartbeats 2000000 in
theorem dlog_zero (w : World) (bd s : Bool) (a : Option Addr) (n cap : Nat) (e f : Int) (hx : DyIn w bd s a n cap e (some (0, f))) (hT : Tab w) :
    Calls Tryz.prog 166 #[.agg #[.bool bd, .bool s, .slice a n cap, .int .i64 e]] w fun o w' => o = .returned (.tuple #[.int .i64 0, .bool false]) ∧ Below w.heap.size w w' := by
  have HN := fun W h ht => Lib.hid (@norm_v W bd s a n cap e (some (0, f)) h ht false 0 f rfl rfl rfl)
  obtain ⟨z, hz⟩ : ∃ z : Int, z = 0 := ⟨_, rfl⟩
  rw [← hz] at HN hx
  have HG := fun W b c h => Lib.hid (sign_z W b c z h)
  rw [show sg z = 0 by rw [hz]; rfl] at HG
  clear hz
  go_enter Tryz.func166, Tryz.ntmps166
  go_wp2_with fail
  refine (HN _ (hx.below zbh) (hT.below zbh)).out.mono ?_
  rintro e w1 ⟨a1, c1, rfl, hm1, hb, hf1⟩
  obtain ⟨hc1, hz1⟩ := bcell (hb.mono (show w.heap.size + 1 ≤ _ by simp))
  have hfr1 : 0 < nl z.natAbs → w.heap.size + 1 ≤ ab a1 := fun h => by have := hf1 h; simpa using this
  have hbw := below_box (w := w) zbh hb
  go_wp2_with fail
  refine (HG _ a1 c1 (by repeat (with_reducible first | refine Mag.set ?_ (fun h => by have := hfr1 h; omega) _ _ | refine Mag.drew ?_ | refine Mag.alloc ?_ _ | refine Mag.drewN ?_ _ | refine Mag.below ?_ (Below.drew (Below.refl _ _)) | refine Mag.below ?_ ((Below.refl _ _).alloc (Nat.le_refl _) _) | exact hm1))).out.mono ?_
  rintro e w2 ⟨rfl, hb2⟩
  have hbw2 := below_box (w := w) (have := Beh.mk hbw; zbh) hb2
  clear hbw
  have hbw := hbw2
  go_wp2_with fail
  refine bodyPost_ret2 (v := .tuple #[.int .i64 0, .bool false]) (by simp only [results, Tryz.results166]; go_simp) rfl ?_
  exact ⟨rfl, (have := Beh.mk hbw; zbh)⟩

set_option maxRecDepth 100000 in
set_option maxHeartbeats 2000000 in
theorem dlog_nz (w : World) (bd s : Bool) (a : Option Addr) (n cap : Nat) (e z f k : Int) (hx : DyIn w bd s a n cap e (some (z, f))) (hz0 : z ≠ 0) (hT : Tab w) (hk : k = f + blen z.natAbs - 1) :
    Calls Tryz.prog 166 #[.agg #[.bool bd, .bool s, .slice a n cap, .int .i64 e]] w fun o w' => o = .returned (.tuple #[.int .i64 k, .bool true]) ∧ Below w.heap.size w w' := by
  obtain ⟨hbl, hf0, hf1⟩ := isN_bounds hx.isN
  simp only [dman, dexp, Option.getD_some] at hbl hf0 hf1
  have hl := nl_lim (Nat.le_trans hbl (by omega))
  have HN := fun W h ht => Lib.hid (@norm_v W bd s a n cap e (some (z, f)) h ht false z f rfl rfl rfl)
  have HG := fun W b c h => Lib.hid (sign_z W b c z h)
  have HB := fun W b c h => Lib.hid (bitlen_z W b c z h hl)
  obtain ⟨g, hg⟩ : ∃ g, g = sg z := ⟨_, rfl⟩
  rw [← hg] at HG
  have hg0 : decide (g = 0) = false := by
    subst hg; unfold sg cmpI; simp; split <;> (try split) <;> omega
  have hge : (g == 0) = false := by simpa using hg0
  have hwr : IntKind.i64.wrap (IntKind.i64.wrap (f + (blen z.natAbs : Int)) - 1) = k := by rw [IntKind.wrap_i64, IntKind.wrap_i64]; omega
  clear hg hk hz0
  go_enter Tryz.func166, Tryz.ntmps166
  go_wp2_with fail
  refine (HN _ (hx.below zbh) (hT.below zbh)).out.mono ?_
  rintro e w1 ⟨a1, c1, rfl, hm1, hb, hf1⟩
  obtain ⟨hc1, hz1⟩ := bcell (hb.mono (show w.heap.size + 1 ≤ _ by simp))
  have hg1 : w.heap.size + 1 ≤ w1.heap.size := by have := hb.size; simpa using this
  have hfr1 : 0 < nl z.natAbs → w.heap.size + 1 ≤ ab a1 := fun h => by have := hf1 h; simpa using this
  have hbw := below_box (w := w) zbh hb
  go_wp2_with fail
  refine (HG _ a1 c1 (by repeat (with_reducible first | refine Mag.set ?_ (fun h => by have := hfr1 h; omega) _ _ | refine Mag.drew ?_ | refine Mag.alloc ?_ _ | refine Mag.drewN ?_ _ | refine Mag.below ?_ (Below.drew (Below.refl _ _)) | refine Mag.below ?_ ((Below.refl _ _).alloc (Nat.le_refl _) _) | exact hm1))).out.mono ?_
  rintro e w2 ⟨rfl, hb2⟩
  obtain ⟨hc2, hz2⟩ := bcell (hb2.mono (show w.heap.size + 1 ≤ _ by simpa using hg1))
  have hm2 : Mag w2 a1 (nl z.natAbs) c1 z.natAbs := Mag.below (by repeat (with_reducible first | refine Mag.set ?_ (fun h => by have := hfr1 h; omega) _ _ | refine Mag.drew ?_ | refine Mag.alloc ?_ _ | refine Mag.drewN ?_ _ | refine Mag.below ?_ (Below.drew (Below.refl _ _)) | refine Mag.below ?_ ((Below.refl _ _).alloc (Nat.le_refl _) _) | exact hm1)) hb2
  have hbw2 := below_box (w := w) (have := Beh.mk hbw; zbh) hb2
  clear hbw
  have hbw := hbw2
  obtain ⟨q0, q1, q2, q3⟩ : w2.cell? ⟨w.heap.size, 0, none⟩ = some (.bool false) ∧ w2.cell? ⟨w.heap.size, 1, none⟩ = some (.bool (decide (z < 0))) ∧ w2.cell? ⟨w.heap.size, 2, none⟩ = some (.slice a1 (nl z.natAbs) c1) ∧ w2.cell? ⟨w.heap.size, 3, none⟩ = some (.int .i64 f) := by
    refine ⟨?_, ?_, ?_, ?_⟩ <;> go_simp
  clear hc1 hc2 hz1 hz2
  go_wp2_with fail
  go_region_held3 (fun w' => w'.cell? ⟨w.heap.size, 1, none⟩ = some (.bool (decide (z < 0))) ∧ w'.cell? ⟨w.heap.size, 2, none⟩ = some (.slice a1 (nl z.natAbs) c1) ∧ w'.cell? ⟨w.heap.size, 3, none⟩ = some (.int .i64 f)) (first | (go_keep; done) | (go_simp; done))
    (first | (go_at_call 213; refine (HB _ a1 c1 (by repeat (with_reducible first | refine Mag.set ?_ (fun h => by have := hfr1 h; omega) _ _ | refine Mag.drew ?_ | refine Mag.alloc ?_ _ | refine Mag.drewN ?_ _ | refine Mag.below ?_ (Below.drew (Below.refl _ _)) | refine Mag.below ?_ ((Below.refl _ _).alloc (Nat.le_refl _) _) | exact hm2))).out.mono ?_; rintro e w3 ⟨rfl, hb3⟩; obtain ⟨hc3, hz3⟩ := bcell (hb3.mono (show w.heap.size + 1 ≤ _ by have := hb2.size; simp at this ⊢; omega))))
  have hbw3 := below_box (w := w) (have := Beh.mk hbw; zbh) hb3
  clear hbw
  have hbw := hbw3
  go_wp2_with fail
  refine bodyPost_ret2 (v := .tuple #[.int .i64 k, .bool true]) (by simp only [results, Tryz.results166]; go_simp) rfl ?_
  exact ⟨rfl, (have := Beh.mk hbw; zbh)⟩

theorem dlog_any (w : World) (bd s : Bool) (a : Option Addr) (n cap : Nat) (e : Int) (d : Option (Int × Int)) (hx : DyIn w bd s a n cap e d) (hT : Tab w) :
    Calls Tryz.prog 166 #[.agg #[.bool bd, .bool s, .slice a n cap, .int .i64 e]] w fun o w' => o = .returned (.tuple #[.int .i64 (dlog d), .bool (dnz d)]) ∧ Below w.heap.size w w' := by
  rcases d with _ | ⟨z, f⟩
  · exact dlog_bad w bd s a n cap e hx hT
  · by_cases h : z = 0
    · subst h
      exact dlog_zero w bd s a n cap e f hx hT
    · have e1 : dnz (some (z, f)) = true := by unfold dnz dman dbad; simp [h]
      have e2 : dlog (some (z, f)) = f + blen z.natAbs - 1 := by simp [dlog, h]
      rw [e1]
      exact dlog_nz w bd s a n cap e z f _ hx h hT e2

end Go.Proofs.YtakbappmkdaioaaGreatDoor

namespace Go.Proofs.YtakbappmkdaioaaGreatDoor
open Go.RowKit Sp
set_option linter.unusedSimpArgs false

attribute [local irreducible] Calls
abbrev DIv (W : World) (d : Option (Int × Int)) (a : Option Addr) (c : Nat) : Prop := DI W (dbad d) (decide (dman d < 0)) a (nl (dman d).natAbs) c (dexp d) d
theorem isN_scale (a : Option (Int × Int)) (k : Int) : IsN (dscale a k) := by
  cases a with
  | none => exact isN_none
  | some p => exact isN_nrm _ _
end Go.Proofs.YtakbappmkdaioaaGreatDoor

namespace Go.Proofs.YtakbappmkdaioaaGreatDoor
open Go.RowKit Sp

theorem rlen_z (w : World) (a : Option Addr) (cap : Nat) (z : Int) (b : Nat) (hb : b = blen z.natAbs) (hx : Mag w a (nl z.natAbs) cap z.natAbs) (hl : nl z.natAbs ≤ 549755813888) :
    Calls Tryz.prog 219 #[.agg #[.bool (decide (z < 0)), .slice a (nl z.natAbs) cap]] w fun e w' => e = .returned (.int .i64 b) ∧ Below w.heap.size w w' := by
  have h := rbitlen_any w (decide (z < 0)) a _ cap _ hx (by omega)
  rwa [← hb] at h
theorem rmake_z (w : World) (a : Option Addr) (cap : Nat) (z e : Int) (d : Option (Int × Int)) (hd : d = nrm z e) (hm : Mag w a (nl z.natAbs) cap z.natAbs) (hT : Tab w) (hl : nl z.natAbs ≤ 549755813888) (hB : blen z.natAbs ≤ 1048576) (he0 : -9223372036854775808 ≤ e) :
    Calls Tryz.prog 172 #[.agg #[.bool (decide (z < 0)), .slice a (nl z.natAbs) cap], .int .i64 e] w (RetDy w d) := by
  have h := rmake_any w (decide (z < 0)) a _ cap _ e hm hl hT hB he0
  rwa [sgn_self, ← hd] at h
set_option maxRecDepth 100000 in
set_option maxHeartbeats 2000000 in
theorem rdfromInt_any (w : World) (n : Int) (hT : Tab w) (h0 : -9223372036854775808 ≤ n) (h1 : n ≤ 9223372036854775807) :
    Calls Tryz.prog 176 #[.int .i64 n] w (RetDy w (nrm n 0)) := by
  have hb : blen n.natAbs ≤ 64 := blen_le (by omega)
  have HI := fun W => Lib.hid (rfromInt_any W n h0 h1)
  have HM := fun W b c h ht => Lib.hid (rmake_z W b c n 0 _ rfl h ht (nl_lim5 (by omega)) (by omega) (by omega))
  generalize nrm n 0 = y at HM ⊢
  clear hb h0 h1
  go_enter Tryz.func176, Tryz.ntmps176
  go_wp2_with fail
  have Ir := (DyV.made' w 26 false false (.slice none 0 0) 0 (n := w.heap.size) (by rfl))
  have B0 : Below w.heap.size w (w.alloc (.cells #[.bool false, .bool false, (.slice none 0 0), .int .i64 0] 26)) := zbh
  generalize (w.alloc (.cells #[.bool false, .bool false, (.slice none 0 0), .int .i64 0] 26)) = w0 at Ir B0 ⊢
  generalize hb0 : w.heap.size = b0 at Ir ⊢
  obtain ⟨rc0, rc1, rc2, rc3, rc4, rc5⟩ := Ir
  have Vr0 := Lib.hid (DyV.mk rc0 rc1 rc2 rc3 rc4 rc5)
  refine (HI _).out.mono ?_
  rintro e w1 ⟨a1, c1, rfl, M11, hb1, hf1⟩
  have Vr1 : DyV w1 b0 false false (.slice none 0 0) 0 := (Vr0.out.on.below hb1)
  (try clear rc0 rc1 rc2 rc3 rc4)
  obtain ⟨rc0, rc1, rc2, rc3, rc4, rc5⟩ := Vr1
  have Vr1 := Lib.hid (DyV.mk rc0 rc1 rc2 rc3 rc4 rc5)
  have B1 := below_box (w := w) (have := Beh.mk B0; zbh) hb1
  have hF1 : 0 < (nl n.natAbs) → w0.heap.size ≤ ab a1 := (fun h => by have hq := hf1 h; (try simp at hq); omega)
  have fr1r : 0 < (nl n.natAbs) → ab a1 ≠ b0 := (fun h => by have := hF1 h; have := Vr0.out.lt; omega)
  have fo1 : 0 < (nl n.natAbs) → w.heap.size ≤ ab a1 := (fun h => by have := hF1 h; have := B0.size; omega)
  clear hF1
  clear hb1 hf1
  go_wp2_with fail
  refine (HM _ a1 c1 (by repeat (with_reducible first | refine Mag.set ?_ (fun h => by have := M11 h; omega) _ _ | refine Mag.drew ?_ | refine Mag.alloc ?_ _ | refine Mag.drewN ?_ _ | exact M11)) (hT.below (by have hszw := (B1).size; repeat (with_reducible first | refine Below.setCell ?_ (by first | omega | (simp <;> omega)) _ | refine Below.alloc ?_ (by first | omega | (simp <;> omega)) _ | refine Below.drew ?_ | refine below_drewN ?_ _ | exact B1)))).out.mono ?_
  rintro e w2 ⟨ay, cy, rfl, My2, hb2, hf2⟩
  have Vr2 : DyV w2 b0 false false (.slice none 0 0) 0 := (Vr1.out.on.below hb2)
  (try clear rc0 rc1 rc2 rc3 rc4)
  obtain ⟨rc0, rc1, rc2, rc3, rc4, rc5⟩ := Vr2
  have Vr2 := Lib.hid (DyV.mk rc0 rc1 rc2 rc3 rc4 rc5)
  have M12 : Mag w2 a1 (nl n.natAbs) c1 n.natAbs := Mag.below (by repeat (with_reducible first | refine Mag.set ?_ (fun h => by have := M11 h; omega) _ _ | refine Mag.drew ?_ | refine Mag.alloc ?_ _ | refine Mag.drewN ?_ _ | exact M11)) hb2
  have B2 := below_box (w := w) (have := Beh.mk B1; zbh) hb2
  have hF2 : 0 < (nl (dman y).natAbs) → w1.heap.size ≤ ab ay := (fun h => by have hq := hf2 h; (try simp at hq); omega)
  have fryr : 0 < (nl (dman y).natAbs) → ab ay ≠ b0 := (fun h => by have := hF2 h; have := Vr1.out.lt; omega)
  have foy : 0 < (nl (dman y).natAbs) → w.heap.size ≤ ab ay := (fun h => by have := hF2 h; have := B1.size; omega)
  clear hF2
  clear hb2 hf2
  go_wp2_with fail
  refine bodyPost_ret (v := .agg #[.bool (dbad y), .bool (decide (dman y < 0)), .slice ay (nl (dman y).natAbs) cy, .int .i64 (dexp y)]) (by simp only [results, Tryz.results176]; go_simp) rfl ?_
  exact ⟨ay, cy, rfl, (by repeat (with_reducible first | refine Mag.set ?_ fryr _ _ | refine Mag.drew ?_ | refine Mag.drewN ?_ _ | refine Mag.alloc ?_ _ | exact My2)), (by have hszw := (B2).size; repeat (with_reducible first | refine Below.setCell ?_ (by first | omega | (simp <;> omega)) _ | refine Below.alloc ?_ (by first | omega | (simp <;> omega)) _ | refine Below.drew ?_ | refine below_drewN ?_ _ | exact B2)), foy⟩

end Go.Proofs.YtakbappmkdaioaaGreatDoor

namespace Go.Proofs.YtakbappmkdaioaaGreatDoor
open Go.RowKit Sp

theorem tz_le_blen {z : Int} (h : z ≠ 0) : tz z.natAbs ≤ blen z.natAbs := by
  have := blen_div_tz (x := z.natAbs) (by omega); omega
theorem sg0 {z : Int} (h : z = 0) : (sg z == 0) = true := by rw [h]; rfl
theorem sg1 {z : Int} (h : z ≠ 0) : (sg z == 0) = false := by
  rw [beq_eq_false_iff_ne]; unfold sg cmpI; split <;> (try split) <;> omega
theorem isN_zero {d : Option (Int × Int)} (h : IsN d) (hb : dbad d = false) (hz : dman d = 0) : d = some (0, 0) := by
  cases d with
  | none => cases hb
  | some p =>
    obtain ⟨m, e⟩ := p
    have hm : m = 0 := hz
    rcases h m e rfl with ⟨h1, h2⟩ | ⟨h1, _⟩
    · rw [h1, h2]
    · omega
theorem some_of {d : Option (Int × Int)} (hb : dbad d = false) : d = some (dman d, dexp d) := by cases d with | none => cases hb | some p => rfl

set_option maxRecDepth 100000 in
set_option maxHeartbeats 2000000 in
theorem rdscale_bad (w : World) (bd s : Bool) (a : Option Addr) (n cap : Nat) (e k : Int) (d : Option (Int × Int)) (hx : DyIs w bd s a n cap e d) (hT : Tab w) (hb : dbad d = true) :
    Calls Tryz.prog 178 #[.agg #[.bool bd, .bool s, .slice a n cap, .int .i64 e], .int .i64 k] w (RetDy w d) := by
  have HN := fun W h ht => Lib.hid (@rdnorm_in W bd s a n cap e d h ht)
  go_enter Tryz.func178, Tryz.ntmps178
  go_wp2_with fail
  have Ix := ((DyV.made' w 26 bd s (.slice a n cap) e (n := w.heap.size) (by rfl)).alloc (.cells #[.bool false, .bool false, (.slice none 0 0), .int .i64 0] 26))
  have Ir := (DyV.made' (w.alloc (.cells #[.bool bd, .bool s, (.slice a n cap), .int .i64 e] 26)) 26 false false (.slice none 0 0) 0 (n := w.heap.size + 1) (by rw [World.size_alloc]))
  have B0 : Below w.heap.size w ((w.alloc (.cells #[.bool bd, .bool s, (.slice a n cap), .int .i64 e] 26)).alloc (.cells #[.bool false, .bool false, (.slice none 0 0), .int .i64 0] 26)) := zbh
  have nxr : ¬ w.heap.size = w.heap.size + 1 := by omega
  have nrx : ¬ w.heap.size + 1 = w.heap.size := by omega
  generalize ((w.alloc (.cells #[.bool bd, .bool s, (.slice a n cap), .int .i64 e] 26)).alloc (.cells #[.bool false, .bool false, (.slice none 0 0), .int .i64 0] 26)) = w0 at Ix Ir B0 ⊢
  generalize hb1 : w.heap.size + 1 = b1 at Ir nxr nrx ⊢
  generalize hb0 : w.heap.size = b0 at Ix nxr nrx hb1 ⊢
  obtain ⟨xc0, xc1, xc2, xc3, xc4, xc5⟩ := Ix
  have Vx0 := Lib.hid (DyV.mk xc0 xc1 xc2 xc3 xc4 xc5)
  obtain ⟨rc0, rc1, rc2, rc3, rc4, rc5⟩ := Ir
  have Vr0 := Lib.hid (DyV.mk rc0 rc1 rc2 rc3 rc4 rc5)
  refine (HN _ (hx.below (have := Beh.mk B0; zbh)) (hT.below (have := Beh.mk B0; zbh))).out.mono ?_
  rintro e w1 ⟨a1, c1, rfl, M11, hb1, hf1⟩
  have Vx1 : DyV w1 b0 bd s (.slice a n cap) e := (Vx0.out.on.below hb1)
  (try clear xc0 xc1 xc2 xc3 xc4)
  obtain ⟨xc0, xc1, xc2, xc3, xc4, xc5⟩ := Vx1
  have Vx1 := Lib.hid (DyV.mk xc0 xc1 xc2 xc3 xc4 xc5)
  have Vr1 : DyV w1 b1 false false (.slice none 0 0) 0 := (Vr0.out.on.below hb1)
  (try clear rc0 rc1 rc2 rc3 rc4)
  obtain ⟨rc0, rc1, rc2, rc3, rc4, rc5⟩ := Vr1
  have Vr1 := Lib.hid (DyV.mk rc0 rc1 rc2 rc3 rc4 rc5)
  have B1 := below_box (w := w) (have := Beh.mk B0; zbh) hb1
  have hF1 : 0 < (nl (dman d).natAbs) → w0.heap.size ≤ ab a1 := (fun h => by have hq := hf1 h; (try simp at hq); omega)
  have fr1x : 0 < (nl (dman d).natAbs) → ab a1 ≠ b0 := (fun h => by have := hF1 h; have := Vx0.out.lt; omega)
  have fr1r : 0 < (nl (dman d).natAbs) → ab a1 ≠ b1 := (fun h => by have := hF1 h; have := Vr0.out.lt; omega)
  have fo1 : 0 < (nl (dman d).natAbs) → w.heap.size ≤ ab a1 := (fun h => by have := hF1 h; have := B0.size; omega)
  clear hF1
  clear hb1 hf1
  go_wp2_with fail
  have Vx2 := DyV.put Vx1.out true (decide (dman d < 0)) (.slice a1 (nl (dman d).natAbs) c1) (dexp d)
  have Vr2 := (DyV.set (DyV.set (DyV.set (DyV.set Vr1.out nrx 0 (.bool true)) nrx 1 (.bool (decide (dman d < 0)))) nrx 2 (.slice a1 (nl (dman d).natAbs) c1)) nrx 3 (.int .i64 (dexp d)))
  have M12 := (Mag.set (Mag.set (Mag.set (Mag.set M11 fr1x 0 (.bool true)) fr1x 1 (.bool (decide (dman d < 0)))) fr1x 2 (.slice a1 (nl (dman d).natAbs) c1)) fr1x 3 (.int .i64 (dexp d)))
  have B2 : Below w.heap.size w ((((w1.setCell ⟨b0, 0, none⟩ (.bool true)).setCell ⟨b0, 1, none⟩ (.bool (decide (dman d < 0)))).setCell ⟨b0, 2, none⟩ (.slice a1 (nl (dman d).natAbs) c1)).setCell ⟨b0, 3, none⟩ (.int .i64 (dexp d))) := (by have hszw := (B1).size; repeat (with_reducible first | refine Below.setCell ?_ (by first | omega | (simp <;> omega)) _ | refine Below.alloc ?_ (by first | omega | (simp <;> omega)) _ | refine Below.drew ?_ | refine below_drewN ?_ _ | exact B1))
  generalize ((((w1.setCell ⟨b0, 0, none⟩ (.bool true)).setCell ⟨b0, 1, none⟩ (.bool (decide (dman d < 0)))).setCell ⟨b0, 2, none⟩ (.slice a1 (nl (dman d).natAbs) c1)).setCell ⟨b0, 3, none⟩ (.int .i64 (dexp d))) = w2 at Vx2 Vr2 M12 B2 ⊢
  (try clear xc0 xc1 xc2 xc3 xc4)
  obtain ⟨xc0, xc1, xc2, xc3, xc4, xc5⟩ := Vx2
  have Vx2 := Lib.hid (DyV.mk xc0 xc1 xc2 xc3 xc4 xc5)
  (try clear rc0 rc1 rc2 rc3 rc4)
  obtain ⟨rc0, rc1, rc2, rc3, rc4, rc5⟩ := Vr2
  have Vr2 := Lib.hid (DyV.mk rc0 rc1 rc2 rc3 rc4 rc5)
  refine bodyPost_ret (v := .agg #[.bool true, .bool (decide (dman d < 0)), .slice a1 (nl (dman d).natAbs) c1, .int .i64 (dexp d)]) (by simp only [results, Tryz.results178]; go_simp) rfl ?_
  rw [← hb]
  exact ⟨a1, c1, rfl, (by repeat (with_reducible first | refine Mag.set ?_ fr1x _ _ | refine Mag.set ?_ fr1r _ _ | refine Mag.drew ?_ | refine Mag.drewN ?_ _ | refine Mag.alloc ?_ _ | exact M12)), (by have hszw := (B2).size; repeat (with_reducible first | refine Below.setCell ?_ (by first | omega | (simp <;> omega)) _ | refine Below.alloc ?_ (by first | omega | (simp <;> omega)) _ | refine Below.drew ?_ | refine below_drewN ?_ _ | exact B2)), fo1⟩

set_option maxRecDepth 100000 in
set_option maxHeartbeats 2000000 in
theorem rdscale_zero (w : World) (bd s : Bool) (a : Option Addr) (n cap : Nat) (e k : Int) (d : Option (Int × Int)) (hx : DyIs w bd s a n cap e d) (hT : Tab w) (hb : dbad d = false) (hz : dman d = 0) :
    Calls Tryz.prog 178 #[.agg #[.bool bd, .bool s, .slice a n cap, .int .i64 e], .int .i64 k] w (RetDy w d) := by
  have HN := fun W h ht => Lib.hid (@rdnorm_in W bd s a n cap e d h ht)
  have hbz := isN_bounds hx.1.isN
  have HS := fun W b c h => Lib.hid (rsgn_z W b c (dman d) _ rfl h (nl_lim5 (by omega)))
  obtain ⟨g, hg⟩ : ∃ g, g = sg (dman d) := ⟨_, rfl⟩
  have hgz : (g == 0) = true := by rw [hg]; exact sg0 hz
  rw [← hg] at HS
  clear hg
  clear hz hbz
  go_enter Tryz.func178, Tryz.ntmps178
  go_wp2_with fail
  have Ix := ((DyV.made' w 26 bd s (.slice a n cap) e (n := w.heap.size) (by rfl)).alloc (.cells #[.bool false, .bool false, (.slice none 0 0), .int .i64 0] 26))
  have Ir := (DyV.made' (w.alloc (.cells #[.bool bd, .bool s, (.slice a n cap), .int .i64 e] 26)) 26 false false (.slice none 0 0) 0 (n := w.heap.size + 1) (by rw [World.size_alloc]))
  have B0 : Below w.heap.size w ((w.alloc (.cells #[.bool bd, .bool s, (.slice a n cap), .int .i64 e] 26)).alloc (.cells #[.bool false, .bool false, (.slice none 0 0), .int .i64 0] 26)) := zbh
  have nxr : ¬ w.heap.size = w.heap.size + 1 := by omega
  have nrx : ¬ w.heap.size + 1 = w.heap.size := by omega
  generalize ((w.alloc (.cells #[.bool bd, .bool s, (.slice a n cap), .int .i64 e] 26)).alloc (.cells #[.bool false, .bool false, (.slice none 0 0), .int .i64 0] 26)) = w0 at Ix Ir B0 ⊢
  generalize hb1 : w.heap.size + 1 = b1 at Ir nxr nrx ⊢
  generalize hb0 : w.heap.size = b0 at Ix nxr nrx hb1 ⊢
  obtain ⟨xc0, xc1, xc2, xc3, xc4, xc5⟩ := Ix
  have Vx0 := Lib.hid (DyV.mk xc0 xc1 xc2 xc3 xc4 xc5)
  obtain ⟨rc0, rc1, rc2, rc3, rc4, rc5⟩ := Ir
  have Vr0 := Lib.hid (DyV.mk rc0 rc1 rc2 rc3 rc4 rc5)
  refine (HN _ (hx.below (have := Beh.mk B0; zbh)) (hT.below (have := Beh.mk B0; zbh))).out.mono ?_
  rintro e w1 ⟨a1, c1, rfl, M11, hb1, hf1⟩
  have Vx1 : DyV w1 b0 bd s (.slice a n cap) e := (Vx0.out.on.below hb1)
  (try clear xc0 xc1 xc2 xc3 xc4)
  obtain ⟨xc0, xc1, xc2, xc3, xc4, xc5⟩ := Vx1
  have Vx1 := Lib.hid (DyV.mk xc0 xc1 xc2 xc3 xc4 xc5)
  have Vr1 : DyV w1 b1 false false (.slice none 0 0) 0 := (Vr0.out.on.below hb1)
  (try clear rc0 rc1 rc2 rc3 rc4)
  obtain ⟨rc0, rc1, rc2, rc3, rc4, rc5⟩ := Vr1
  have Vr1 := Lib.hid (DyV.mk rc0 rc1 rc2 rc3 rc4 rc5)
  have B1 := below_box (w := w) (have := Beh.mk B0; zbh) hb1
  have hF1 : 0 < (nl (dman d).natAbs) → w0.heap.size ≤ ab a1 := (fun h => by have hq := hf1 h; (try simp at hq); omega)
  have fr1x : 0 < (nl (dman d).natAbs) → ab a1 ≠ b0 := (fun h => by have := hF1 h; have := Vx0.out.lt; omega)
  have fr1r : 0 < (nl (dman d).natAbs) → ab a1 ≠ b1 := (fun h => by have := hF1 h; have := Vr0.out.lt; omega)
  have fo1 : 0 < (nl (dman d).natAbs) → w.heap.size ≤ ab a1 := (fun h => by have := hF1 h; have := B0.size; omega)
  clear hF1
  clear hb1 hf1
  go_wp2_with fail
  have Vx2 := DyV.put Vx1.out false (decide (dman d < 0)) (.slice a1 (nl (dman d).natAbs) c1) (dexp d)
  have Vr2 := (DyV.set (DyV.set (DyV.set (DyV.set Vr1.out nrx 0 (.bool false)) nrx 1 (.bool (decide (dman d < 0)))) nrx 2 (.slice a1 (nl (dman d).natAbs) c1)) nrx 3 (.int .i64 (dexp d)))
  have M12 := (Mag.set (Mag.set (Mag.set (Mag.set M11 fr1x 0 (.bool false)) fr1x 1 (.bool (decide (dman d < 0)))) fr1x 2 (.slice a1 (nl (dman d).natAbs) c1)) fr1x 3 (.int .i64 (dexp d)))
  have B2 : Below w.heap.size w ((((w1.setCell ⟨b0, 0, none⟩ (.bool false)).setCell ⟨b0, 1, none⟩ (.bool (decide (dman d < 0)))).setCell ⟨b0, 2, none⟩ (.slice a1 (nl (dman d).natAbs) c1)).setCell ⟨b0, 3, none⟩ (.int .i64 (dexp d))) := (by have hszw := (B1).size; repeat (with_reducible first | refine Below.setCell ?_ (by first | omega | (simp <;> omega)) _ | refine Below.alloc ?_ (by first | omega | (simp <;> omega)) _ | refine Below.drew ?_ | refine below_drewN ?_ _ | exact B1))
  generalize ((((w1.setCell ⟨b0, 0, none⟩ (.bool false)).setCell ⟨b0, 1, none⟩ (.bool (decide (dman d < 0)))).setCell ⟨b0, 2, none⟩ (.slice a1 (nl (dman d).natAbs) c1)).setCell ⟨b0, 3, none⟩ (.int .i64 (dexp d))) = w2 at Vx2 Vr2 M12 B2 ⊢
  (try clear xc0 xc1 xc2 xc3 xc4)
  obtain ⟨xc0, xc1, xc2, xc3, xc4, xc5⟩ := Vx2
  have Vx2 := Lib.hid (DyV.mk xc0 xc1 xc2 xc3 xc4 xc5)
  (try clear rc0 rc1 rc2 rc3 rc4)
  obtain ⟨rc0, rc1, rc2, rc3, rc4, rc5⟩ := Vr2
  have Vr2 := Lib.hid (DyV.mk rc0 rc1 rc2 rc3 rc4 rc5)
  refine (HS _ a1 c1 (by repeat (with_reducible first | refine Mag.set ?_ (fun h => by have := M12 h; omega) _ _ | refine Mag.drew ?_ | refine Mag.alloc ?_ _ | refine Mag.drewN ?_ _ | exact M12))).out.mono ?_
  rintro e w3 ⟨rfl, hb3⟩
  have Vx3 : DyV w3 b0 false (decide (dman d < 0)) (.slice a1 (nl (dman d).natAbs) c1) (dexp d) := (Vx2.out.on.below hb3)
  (try clear xc0 xc1 xc2 xc3 xc4)
  obtain ⟨xc0, xc1, xc2, xc3, xc4, xc5⟩ := Vx3
  have Vx3 := Lib.hid (DyV.mk xc0 xc1 xc2 xc3 xc4 xc5)
  have Vr3 : DyV w3 b1 false false (.slice none 0 0) 0 := (Vr2.out.on.below hb3)
  (try clear rc0 rc1 rc2 rc3 rc4)
  obtain ⟨rc0, rc1, rc2, rc3, rc4, rc5⟩ := Vr3
  have Vr3 := Lib.hid (DyV.mk rc0 rc1 rc2 rc3 rc4 rc5)
  have M13 : Mag w3 a1 (nl (dman d).natAbs) c1 (dman d).natAbs := Mag.below (by repeat (with_reducible first | refine Mag.set ?_ (fun h => by have := M12 h; omega) _ _ | refine Mag.drew ?_ | refine Mag.alloc ?_ _ | refine Mag.drewN ?_ _ | exact M12)) hb3
  have B3 := below_box (w := w) (have := Beh.mk B2; zbh) hb3
  clear hb3
  go_wp2_with fail
  refine bodyPost_ret (v := .agg #[.bool false, .bool (decide (dman d < 0)), .slice a1 (nl (dman d).natAbs) c1, .int .i64 (dexp d)]) (by simp only [results, Tryz.results178]; go_simp) rfl ?_
  rw [← hb]
  exact ⟨a1, c1, rfl, (by repeat (with_reducible first | refine Mag.set ?_ fr1x _ _ | refine Mag.set ?_ fr1r _ _ | refine Mag.drew ?_ | refine Mag.drewN ?_ _ | refine Mag.alloc ?_ _ | exact M13)), (by have hszw := (B3).size; repeat (with_reducible first | refine Below.setCell ?_ (by first | omega | (simp <;> omega)) _ | refine Below.alloc ?_ (by first | omega | (simp <;> omega)) _ | refine Below.drew ?_ | refine below_drewN ?_ _ | exact B3)), fo1⟩

set_option maxRecDepth 100000 in
set_option maxHeartbeats 2000000 in
theorem rdscale_hi (w : World) (bd s : Bool) (a : Option Addr) (n cap : Nat) (e k : Int) (d : Option (Int × Int)) (hx : DyIs w bd s a n cap e d) (hT : Tab w) (hb : dbad d = false) (hz : dman d ≠ 0) (hk : 262144 < k) :
    Calls Tryz.prog 178 #[.agg #[.bool bd, .bool s, .slice a n cap, .int .i64 e], .int .i64 k] w (RetDy w none) := by
  have HN := fun W h ht => Lib.hid (@rdnorm_in W bd s a n cap e d h ht)
  have hbz := isN_bounds hx.1.isN
  have HS := fun W b c h => Lib.hid (rsgn_z W b c (dman d) _ rfl h (nl_lim5 (by omega)))
  obtain ⟨g, hg⟩ : ∃ g, g = sg (dman d) := ⟨_, rfl⟩
  have hgz : (g == 0) = false := by rw [hg]; exact sg1 hz
  rw [← hg] at HS
  clear hg
  have HB := fun W => Lib.hid (rbad_any W)
  have k1 : decide ((262144 : Int) < k) = true := by simpa using hk
  clear hz hk hbz
  go_enter Tryz.func178, Tryz.ntmps178
  go_wp2_with fail
  have Ix := ((DyV.made' w 26 bd s (.slice a n cap) e (n := w.heap.size) (by rfl)).alloc (.cells #[.bool false, .bool false, (.slice none 0 0), .int .i64 0] 26))
  have Ir := (DyV.made' (w.alloc (.cells #[.bool bd, .bool s, (.slice a n cap), .int .i64 e] 26)) 26 false false (.slice none 0 0) 0 (n := w.heap.size + 1) (by rw [World.size_alloc]))
  have B0 : Below w.heap.size w ((w.alloc (.cells #[.bool bd, .bool s, (.slice a n cap), .int .i64 e] 26)).alloc (.cells #[.bool false, .bool false, (.slice none 0 0), .int .i64 0] 26)) := zbh
  have nxr : ¬ w.heap.size = w.heap.size + 1 := by omega
  have nrx : ¬ w.heap.size + 1 = w.heap.size := by omega
  generalize ((w.alloc (.cells #[.bool bd, .bool s, (.slice a n cap), .int .i64 e] 26)).alloc (.cells #[.bool false, .bool false, (.slice none 0 0), .int .i64 0] 26)) = w0 at Ix Ir B0 ⊢
  generalize hb1 : w.heap.size + 1 = b1 at Ir nxr nrx ⊢
  generalize hb0 : w.heap.size = b0 at Ix nxr nrx hb1 ⊢
  obtain ⟨xc0, xc1, xc2, xc3, xc4, xc5⟩ := Ix
  have Vx0 := Lib.hid (DyV.mk xc0 xc1 xc2 xc3 xc4 xc5)
  obtain ⟨rc0, rc1, rc2, rc3, rc4, rc5⟩ := Ir
  have Vr0 := Lib.hid (DyV.mk rc0 rc1 rc2 rc3 rc4 rc5)
  refine (HN _ (hx.below (have := Beh.mk B0; zbh)) (hT.below (have := Beh.mk B0; zbh))).out.mono ?_
  rintro e w1 ⟨a1, c1, rfl, M11, hb1, hf1⟩
  have Vx1 : DyV w1 b0 bd s (.slice a n cap) e := (Vx0.out.on.below hb1)
  (try clear xc0 xc1 xc2 xc3 xc4)
  obtain ⟨xc0, xc1, xc2, xc3, xc4, xc5⟩ := Vx1
  have Vx1 := Lib.hid (DyV.mk xc0 xc1 xc2 xc3 xc4 xc5)
  have Vr1 : DyV w1 b1 false false (.slice none 0 0) 0 := (Vr0.out.on.below hb1)
  (try clear rc0 rc1 rc2 rc3 rc4)
  obtain ⟨rc0, rc1, rc2, rc3, rc4, rc5⟩ := Vr1
  have Vr1 := Lib.hid (DyV.mk rc0 rc1 rc2 rc3 rc4 rc5)
  have B1 := below_box (w := w) (have := Beh.mk B0; zbh) hb1
  have hF1 : 0 < (nl (dman d).natAbs) → w0.heap.size ≤ ab a1 := (fun h => by have hq := hf1 h; (try simp at hq); omega)
  have fr1x : 0 < (nl (dman d).natAbs) → ab a1 ≠ b0 := (fun h => by have := hF1 h; have := Vx0.out.lt; omega)
  have fr1r : 0 < (nl (dman d).natAbs) → ab a1 ≠ b1 := (fun h => by have := hF1 h; have := Vr0.out.lt; omega)
  have fo1 : 0 < (nl (dman d).natAbs) → w.heap.size ≤ ab a1 := (fun h => by have := hF1 h; have := B0.size; omega)
  clear hF1
  clear hb1 hf1
  go_wp2_with fail
  have Vx2 := DyV.put Vx1.out false (decide (dman d < 0)) (.slice a1 (nl (dman d).natAbs) c1) (dexp d)
  have Vr2 := (DyV.set (DyV.set (DyV.set (DyV.set Vr1.out nrx 0 (.bool false)) nrx 1 (.bool (decide (dman d < 0)))) nrx 2 (.slice a1 (nl (dman d).natAbs) c1)) nrx 3 (.int .i64 (dexp d)))
  have M12 := (Mag.set (Mag.set (Mag.set (Mag.set M11 fr1x 0 (.bool false)) fr1x 1 (.bool (decide (dman d < 0)))) fr1x 2 (.slice a1 (nl (dman d).natAbs) c1)) fr1x 3 (.int .i64 (dexp d)))
  have B2 : Below w.heap.size w ((((w1.setCell ⟨b0, 0, none⟩ (.bool false)).setCell ⟨b0, 1, none⟩ (.bool (decide (dman d < 0)))).setCell ⟨b0, 2, none⟩ (.slice a1 (nl (dman d).natAbs) c1)).setCell ⟨b0, 3, none⟩ (.int .i64 (dexp d))) := (by have hszw := (B1).size; repeat (with_reducible first | refine Below.setCell ?_ (by first | omega | (simp <;> omega)) _ | refine Below.alloc ?_ (by first | omega | (simp <;> omega)) _ | refine Below.drew ?_ | refine below_drewN ?_ _ | exact B1))
  generalize ((((w1.setCell ⟨b0, 0, none⟩ (.bool false)).setCell ⟨b0, 1, none⟩ (.bool (decide (dman d < 0)))).setCell ⟨b0, 2, none⟩ (.slice a1 (nl (dman d).natAbs) c1)).setCell ⟨b0, 3, none⟩ (.int .i64 (dexp d))) = w2 at Vx2 Vr2 M12 B2 ⊢
  (try clear xc0 xc1 xc2 xc3 xc4)
  obtain ⟨xc0, xc1, xc2, xc3, xc4, xc5⟩ := Vx2
  have Vx2 := Lib.hid (DyV.mk xc0 xc1 xc2 xc3 xc4 xc5)
  (try clear rc0 rc1 rc2 rc3 rc4)
  obtain ⟨rc0, rc1, rc2, rc3, rc4, rc5⟩ := Vr2
  have Vr2 := Lib.hid (DyV.mk rc0 rc1 rc2 rc3 rc4 rc5)
  refine (HS _ a1 c1 (by repeat (with_reducible first | refine Mag.set ?_ (fun h => by have := M12 h; omega) _ _ | refine Mag.drew ?_ | refine Mag.alloc ?_ _ | refine Mag.drewN ?_ _ | exact M12))).out.mono ?_
  rintro e w3 ⟨rfl, hb3⟩
  have Vx3 : DyV w3 b0 false (decide (dman d < 0)) (.slice a1 (nl (dman d).natAbs) c1) (dexp d) := (Vx2.out.on.below hb3)
  (try clear xc0 xc1 xc2 xc3 xc4)
  obtain ⟨xc0, xc1, xc2, xc3, xc4, xc5⟩ := Vx3
  have Vx3 := Lib.hid (DyV.mk xc0 xc1 xc2 xc3 xc4 xc5)
  have Vr3 : DyV w3 b1 false false (.slice none 0 0) 0 := (Vr2.out.on.below hb3)
  (try clear rc0 rc1 rc2 rc3 rc4)
  obtain ⟨rc0, rc1, rc2, rc3, rc4, rc5⟩ := Vr3
  have Vr3 := Lib.hid (DyV.mk rc0 rc1 rc2 rc3 rc4 rc5)
  have M13 : Mag w3 a1 (nl (dman d).natAbs) c1 (dman d).natAbs := Mag.below (by repeat (with_reducible first | refine Mag.set ?_ (fun h => by have := M12 h; omega) _ _ | refine Mag.drew ?_ | refine Mag.alloc ?_ _ | refine Mag.drewN ?_ _ | exact M12)) hb3
  have B3 := below_box (w := w) (have := Beh.mk B2; zbh) hb3
  clear hb3
  go_wp2_with fail
  refine (HB _).out.mono ?_
  rintro e w4 ⟨rfl, hb4⟩
  have Vx4 : DyV w4 b0 false (decide (dman d < 0)) (.slice a1 (nl (dman d).natAbs) c1) (dexp d) := (Vx3.out.on.below hb4)
  (try clear xc0 xc1 xc2 xc3 xc4)
  obtain ⟨xc0, xc1, xc2, xc3, xc4, xc5⟩ := Vx4
  have Vx4 := Lib.hid (DyV.mk xc0 xc1 xc2 xc3 xc4 xc5)
  have Vr4 : DyV w4 b1 false false (.slice none 0 0) 0 := (Vr3.out.on.below hb4)
  (try clear rc0 rc1 rc2 rc3 rc4)
  obtain ⟨rc0, rc1, rc2, rc3, rc4, rc5⟩ := Vr4
  have Vr4 := Lib.hid (DyV.mk rc0 rc1 rc2 rc3 rc4 rc5)
  have M14 : Mag w4 a1 (nl (dman d).natAbs) c1 (dman d).natAbs := Mag.below (by repeat (with_reducible first | refine Mag.set ?_ (fun h => by have := M13 h; omega) _ _ | refine Mag.drew ?_ | refine Mag.alloc ?_ _ | refine Mag.drewN ?_ _ | exact M13)) hb4
  have B4 := below_box (w := w) (have := Beh.mk B3; zbh) hb4
  clear hb4
  go_wp2_with fail
  refine bodyPost_ret (v := .agg #[.bool true, .bool false, .slice none 0 0, .int .i64 0]) (by simp only [results, Tryz.results178]; go_simp) rfl ?_
  exact ⟨none, 0, rfl, Mag.nil _, (by have hszw := (B4).size; repeat (with_reducible first | refine Below.setCell ?_ (by first | omega | (simp <;> omega)) _ | refine Below.alloc ?_ (by first | omega | (simp <;> omega)) _ | refine Below.drew ?_ | refine below_drewN ?_ _ | exact B4)), nl0⟩

set_option maxRecDepth 100000 in
set_option maxHeartbeats 2000000 in
theorem rdscale_lo (w : World) (bd s : Bool) (a : Option Addr) (n cap : Nat) (e k : Int) (d : Option (Int × Int)) (hx : DyIs w bd s a n cap e d) (hT : Tab w) (hb : dbad d = false) (hz : dman d ≠ 0) (hk : k < -262144) :
    Calls Tryz.prog 178 #[.agg #[.bool bd, .bool s, .slice a n cap, .int .i64 e], .int .i64 k] w (RetDy w none) := by
  have HN := fun W h ht => Lib.hid (@rdnorm_in W bd s a n cap e d h ht)
  have hbz := isN_bounds hx.1.isN
  have HS := fun W b c h => Lib.hid (rsgn_z W b c (dman d) _ rfl h (nl_lim5 (by omega)))
  obtain ⟨g, hg⟩ : ∃ g, g = sg (dman d) := ⟨_, rfl⟩
  have hgz : (g == 0) = false := by rw [hg]; exact sg1 hz
  rw [← hg] at HS
  clear hg
  have HB := fun W => Lib.hid (rbad_any W)
  have k1 : decide ((262144 : Int) < k) = false := by simp; omega
  have k2 : decide (k < -262144) = true := by simpa using hk
  clear hz hk hbz
  go_enter Tryz.func178, Tryz.ntmps178
  go_wp2_with fail
  have Ix := ((DyV.made' w 26 bd s (.slice a n cap) e (n := w.heap.size) (by rfl)).alloc (.cells #[.bool false, .bool false, (.slice none 0 0), .int .i64 0] 26))
  have Ir := (DyV.made' (w.alloc (.cells #[.bool bd, .bool s, (.slice a n cap), .int .i64 e] 26)) 26 false false (.slice none 0 0) 0 (n := w.heap.size + 1) (by rw [World.size_alloc]))
  have B0 : Below w.heap.size w ((w.alloc (.cells #[.bool bd, .bool s, (.slice a n cap), .int .i64 e] 26)).alloc (.cells #[.bool false, .bool false, (.slice none 0 0), .int .i64 0] 26)) := zbh
  have nxr : ¬ w.heap.size = w.heap.size + 1 := by omega
  have nrx : ¬ w.heap.size + 1 = w.heap.size := by omega
  generalize ((w.alloc (.cells #[.bool bd, .bool s, (.slice a n cap), .int .i64 e] 26)).alloc (.cells #[.bool false, .bool false, (.slice none 0 0), .int .i64 0] 26)) = w0 at Ix Ir B0 ⊢
  generalize hb1 : w.heap.size + 1 = b1 at Ir nxr nrx ⊢
  generalize hb0 : w.heap.size = b0 at Ix nxr nrx hb1 ⊢
  obtain ⟨xc0, xc1, xc2, xc3, xc4, xc5⟩ := Ix
  have Vx0 := Lib.hid (DyV.mk xc0 xc1 xc2 xc3 xc4 xc5)
  obtain ⟨rc0, rc1, rc2, rc3, rc4, rc5⟩ := Ir
  have Vr0 := Lib.hid (DyV.mk rc0 rc1 rc2 rc3 rc4 rc5)
  refine (HN _ (hx.below (have := Beh.mk B0; zbh)) (hT.below (have := Beh.mk B0; zbh))).out.mono ?_
  rintro e w1 ⟨a1, c1, rfl, M11, hb1, hf1⟩
  have Vx1 : DyV w1 b0 bd s (.slice a n cap) e := (Vx0.out.on.below hb1)
  (try clear xc0 xc1 xc2 xc3 xc4)
  obtain ⟨xc0, xc1, xc2, xc3, xc4, xc5⟩ := Vx1
  have Vx1 := Lib.hid (DyV.mk xc0 xc1 xc2 xc3 xc4 xc5)
  have Vr1 : DyV w1 b1 false false (.slice none 0 0) 0 := (Vr0.out.on.below hb1)
  (try clear rc0 rc1 rc2 rc3 rc4)
  obtain ⟨rc0, rc1, rc2, rc3, rc4, rc5⟩ := Vr1
  have Vr1 := Lib.hid (DyV.mk rc0 rc1 rc2 rc3 rc4 rc5)
  have B1 := below_box (w := w) (have := Beh.mk B0; zbh) hb1
  have hF1 : 0 < (nl (dman d).natAbs) → w0.heap.size ≤ ab a1 := (fun h => by have hq := hf1 h; (try simp at hq); omega)
  have fr1x : 0 < (nl (dman d).natAbs) → ab a1 ≠ b0 := (fun h => by have := hF1 h; have := Vx0.out.lt; omega)
  have fr1r : 0 < (nl (dman d).natAbs) → ab a1 ≠ b1 := (fun h => by have := hF1 h; have := Vr0.out.lt; omega)
  have fo1 : 0 < (nl (dman d).natAbs) → w.heap.size ≤ ab a1 := (fun h => by have := hF1 h; have := B0.size; omega)
  clear hF1
  clear hb1 hf1
  go_wp2_with fail
  have Vx2 := DyV.put Vx1.out false (decide (dman d < 0)) (.slice a1 (nl (dman d).natAbs) c1) (dexp d)
  have Vr2 := (DyV.set (DyV.set (DyV.set (DyV.set Vr1.out nrx 0 (.bool false)) nrx 1 (.bool (decide (dman d < 0)))) nrx 2 (.slice a1 (nl (dman d).natAbs) c1)) nrx 3 (.int .i64 (dexp d)))
  have M12 := (Mag.set (Mag.set (Mag.set (Mag.set M11 fr1x 0 (.bool false)) fr1x 1 (.bool (decide (dman d < 0)))) fr1x 2 (.slice a1 (nl (dman d).natAbs) c1)) fr1x 3 (.int .i64 (dexp d)))
  have B2 : Below w.heap.size w ((((w1.setCell ⟨b0, 0, none⟩ (.bool false)).setCell ⟨b0, 1, none⟩ (.bool (decide (dman d < 0)))).setCell ⟨b0, 2, none⟩ (.slice a1 (nl (dman d).natAbs) c1)).setCell ⟨b0, 3, none⟩ (.int .i64 (dexp d))) := (by have hszw := (B1).size; repeat (with_reducible first | refine Below.setCell ?_ (by first | omega | (simp <;> omega)) _ | refine Below.alloc ?_ (by first | omega | (simp <;> omega)) _ | refine Below.drew ?_ | refine below_drewN ?_ _ | exact B1))
  generalize ((((w1.setCell ⟨b0, 0, none⟩ (.bool false)).setCell ⟨b0, 1, none⟩ (.bool (decide (dman d < 0)))).setCell ⟨b0, 2, none⟩ (.slice a1 (nl (dman d).natAbs) c1)).setCell ⟨b0, 3, none⟩ (.int .i64 (dexp d))) = w2 at Vx2 Vr2 M12 B2 ⊢
  (try clear xc0 xc1 xc2 xc3 xc4)
  obtain ⟨xc0, xc1, xc2, xc3, xc4, xc5⟩ := Vx2
  have Vx2 := Lib.hid (DyV.mk xc0 xc1 xc2 xc3 xc4 xc5)
  (try clear rc0 rc1 rc2 rc3 rc4)
  obtain ⟨rc0, rc1, rc2, rc3, rc4, rc5⟩ := Vr2
  have Vr2 := Lib.hid (DyV.mk rc0 rc1 rc2 rc3 rc4 rc5)
  refine (HS _ a1 c1 (by repeat (with_reducible first | refine Mag.set ?_ (fun h => by have := M12 h; omega) _ _ | refine Mag.drew ?_ | refine Mag.alloc ?_ _ | refine Mag.drewN ?_ _ | exact M12))).out.mono ?_
  rintro e w3 ⟨rfl, hb3⟩
  have Vx3 : DyV w3 b0 false (decide (dman d < 0)) (.slice a1 (nl (dman d).natAbs) c1) (dexp d) := (Vx2.out.on.below hb3)
  (try clear xc0 xc1 xc2 xc3 xc4)
  obtain ⟨xc0, xc1, xc2, xc3, xc4, xc5⟩ := Vx3
  have Vx3 := Lib.hid (DyV.mk xc0 xc1 xc2 xc3 xc4 xc5)
  have Vr3 : DyV w3 b1 false false (.slice none 0 0) 0 := (Vr2.out.on.below hb3)
  (try clear rc0 rc1 rc2 rc3 rc4)
  obtain ⟨rc0, rc1, rc2, rc3, rc4, rc5⟩ := Vr3
  have Vr3 := Lib.hid (DyV.mk rc0 rc1 rc2 rc3 rc4 rc5)
  have M13 : Mag w3 a1 (nl (dman d).natAbs) c1 (dman d).natAbs := Mag.below (by repeat (with_reducible first | refine Mag.set ?_ (fun h => by have := M12 h; omega) _ _ | refine Mag.drew ?_ | refine Mag.alloc ?_ _ | refine Mag.drewN ?_ _ | exact M12)) hb3
  have B3 := below_box (w := w) (have := Beh.mk B2; zbh) hb3
  clear hb3
  go_wp2_with fail
  refine (HB _).out.mono ?_
  rintro e w4 ⟨rfl, hb4⟩
  have Vx4 : DyV w4 b0 false (decide (dman d < 0)) (.slice a1 (nl (dman d).natAbs) c1) (dexp d) := (Vx3.out.on.below hb4)
  (try clear xc0 xc1 xc2 xc3 xc4)
  obtain ⟨xc0, xc1, xc2, xc3, xc4, xc5⟩ := Vx4
  have Vx4 := Lib.hid (DyV.mk xc0 xc1 xc2 xc3 xc4 xc5)
  have Vr4 : DyV w4 b1 false false (.slice none 0 0) 0 := (Vr3.out.on.below hb4)
  (try clear rc0 rc1 rc2 rc3 rc4)
  obtain ⟨rc0, rc1, rc2, rc3, rc4, rc5⟩ := Vr4
  have Vr4 := Lib.hid (DyV.mk rc0 rc1 rc2 rc3 rc4 rc5)
  have M14 : Mag w4 a1 (nl (dman d).natAbs) c1 (dman d).natAbs := Mag.below (by repeat (with_reducible first | refine Mag.set ?_ (fun h => by have := M13 h; omega) _ _ | refine Mag.drew ?_ | refine Mag.alloc ?_ _ | refine Mag.drewN ?_ _ | exact M13)) hb4
  have B4 := below_box (w := w) (have := Beh.mk B3; zbh) hb4
  clear hb4
  go_wp2_with fail
  refine bodyPost_ret (v := .agg #[.bool true, .bool false, .slice none 0 0, .int .i64 0]) (by simp only [results, Tryz.results178]; go_simp) rfl ?_
  exact ⟨none, 0, rfl, Mag.nil _, (by have hszw := (B4).size; repeat (with_reducible first | refine Below.setCell ?_ (by first | omega | (simp <;> omega)) _ | refine Below.alloc ?_ (by first | omega | (simp <;> omega)) _ | refine Below.drew ?_ | refine below_drewN ?_ _ | exact B4)), nl0⟩

set_option maxRecDepth 100000 in
set_option maxHeartbeats 2000000 in
theorem rdscale_ok (w : World) (bd s : Bool) (a : Option Addr) (n cap : Nat) (e k : Int) (d : Option (Int × Int)) (hx : DyIs w bd s a n cap e d) (hT : Tab w) (hb : dbad d = false) (hz : dman d ≠ 0) (hk1 : -262144 ≤ k) (hk2 : k ≤ 262144) (y : Option (Int × Int)) (hy : y = nrm (dman d) (dexp d + k)) :
    Calls Tryz.prog 178 #[.agg #[.bool bd, .bool s, .slice a n cap, .int .i64 e], .int .i64 k] w (RetDy w y) := by
  have HN := fun W h ht => Lib.hid (@rdnorm_in W bd s a n cap e d h ht)
  have hbz := isN_bounds hx.1.isN
  have HS := fun W b c h => Lib.hid (rsgn_z W b c (dman d) _ rfl h (nl_lim5 (by omega)))
  obtain ⟨g, hg⟩ : ∃ g, g = sg (dman d) := ⟨_, rfl⟩
  have hgz : (g == 0) = false := by rw [hg]; exact sg1 hz
  rw [← hg] at HS
  clear hg
  have k1 : decide ((262144 : Int) < k) = false := by simp; omega
  have k2 : decide (k < -262144) = false := by simp; omega
  obtain ⟨f, hf⟩ : ∃ f, f = dexp d + k := ⟨_, rfl⟩
  have hw : IntKind.i64.wrap (dexp d + k) = f := by rw [IntKind.wrap_i64]; omega
  rw [← hf] at hy
  have HM := fun W b c h ht => Lib.hid (rmake_z W b c (dman d) f y hy h ht (nl_lim5 (by omega)) (by omega) (by omega))
  clear hz hk1 hk2 hbz hf hy
  go_enter Tryz.func178, Tryz.ntmps178
  go_wp2_with fail
  have Ix := ((DyV.made' w 26 bd s (.slice a n cap) e (n := w.heap.size) (by rfl)).alloc (.cells #[.bool false, .bool false, (.slice none 0 0), .int .i64 0] 26))
  have Ir := (DyV.made' (w.alloc (.cells #[.bool bd, .bool s, (.slice a n cap), .int .i64 e] 26)) 26 false false (.slice none 0 0) 0 (n := w.heap.size + 1) (by rw [World.size_alloc]))
  have B0 : Below w.heap.size w ((w.alloc (.cells #[.bool bd, .bool s, (.slice a n cap), .int .i64 e] 26)).alloc (.cells #[.bool false, .bool false, (.slice none 0 0), .int .i64 0] 26)) := zbh
  have nxr : ¬ w.heap.size = w.heap.size + 1 := by omega
  have nrx : ¬ w.heap.size + 1 = w.heap.size := by omega
  generalize ((w.alloc (.cells #[.bool bd, .bool s, (.slice a n cap), .int .i64 e] 26)).alloc (.cells #[.bool false, .bool false, (.slice none 0 0), .int .i64 0] 26)) = w0 at Ix Ir B0 ⊢
  generalize hb1 : w.heap.size + 1 = b1 at Ir nxr nrx ⊢
  generalize hb0 : w.heap.size = b0 at Ix nxr nrx hb1 ⊢
  obtain ⟨xc0, xc1, xc2, xc3, xc4, xc5⟩ := Ix
  have Vx0 := Lib.hid (DyV.mk xc0 xc1 xc2 xc3 xc4 xc5)
  obtain ⟨rc0, rc1, rc2, rc3, rc4, rc5⟩ := Ir
  have Vr0 := Lib.hid (DyV.mk rc0 rc1 rc2 rc3 rc4 rc5)
  refine (HN _ (hx.below (have := Beh.mk B0; zbh)) (hT.below (have := Beh.mk B0; zbh))).out.mono ?_
  rintro e w1 ⟨a1, c1, rfl, M11, hb1, hf1⟩
  have Vx1 : DyV w1 b0 bd s (.slice a n cap) e := (Vx0.out.on.below hb1)
  (try clear xc0 xc1 xc2 xc3 xc4)
  obtain ⟨xc0, xc1, xc2, xc3, xc4, xc5⟩ := Vx1
  have Vx1 := Lib.hid (DyV.mk xc0 xc1 xc2 xc3 xc4 xc5)
  have Vr1 : DyV w1 b1 false false (.slice none 0 0) 0 := (Vr0.out.on.below hb1)
  (try clear rc0 rc1 rc2 rc3 rc4)
  obtain ⟨rc0, rc1, rc2, rc3, rc4, rc5⟩ := Vr1
  have Vr1 := Lib.hid (DyV.mk rc0 rc1 rc2 rc3 rc4 rc5)
  have B1 := below_box (w := w) (have := Beh.mk B0; zbh) hb1
  have hF1 : 0 < (nl (dman d).natAbs) → w0.heap.size ≤ ab a1 := (fun h => by have hq := hf1 h; (try simp at hq); omega)
  have fr1x : 0 < (nl (dman d).natAbs) → ab a1 ≠ b0 := (fun h => by have := hF1 h; have := Vx0.out.lt; omega)
  have fr1r : 0 < (nl (dman d).natAbs) → ab a1 ≠ b1 := (fun h => by have := hF1 h; have := Vr0.out.lt; omega)
  have fo1 : 0 < (nl (dman d).natAbs) → w.heap.size ≤ ab a1 := (fun h => by have := hF1 h; have := B0.size; omega)
  clear hF1
  clear hb1 hf1
  go_wp2_with fail
  have Vx2 := DyV.put Vx1.out false (decide (dman d < 0)) (.slice a1 (nl (dman d).natAbs) c1) (dexp d)
  have Vr2 := (DyV.set (DyV.set (DyV.set (DyV.set Vr1.out nrx 0 (.bool false)) nrx 1 (.bool (decide (dman d < 0)))) nrx 2 (.slice a1 (nl (dman d).natAbs) c1)) nrx 3 (.int .i64 (dexp d)))
  have M12 := (Mag.set (Mag.set (Mag.set (Mag.set M11 fr1x 0 (.bool false)) fr1x 1 (.bool (decide (dman d < 0)))) fr1x 2 (.slice a1 (nl (dman d).natAbs) c1)) fr1x 3 (.int .i64 (dexp d)))
  have B2 : Below w.heap.size w ((((w1.setCell ⟨b0, 0, none⟩ (.bool false)).setCell ⟨b0, 1, none⟩ (.bool (decide (dman d < 0)))).setCell ⟨b0, 2, none⟩ (.slice a1 (nl (dman d).natAbs) c1)).setCell ⟨b0, 3, none⟩ (.int .i64 (dexp d))) := (by have hszw := (B1).size; repeat (with_reducible first | refine Below.setCell ?_ (by first | omega | (simp <;> omega)) _ | refine Below.alloc ?_ (by first | omega | (simp <;> omega)) _ | refine Below.drew ?_ | refine below_drewN ?_ _ | exact B1))
  generalize ((((w1.setCell ⟨b0, 0, none⟩ (.bool false)).setCell ⟨b0, 1, none⟩ (.bool (decide (dman d < 0)))).setCell ⟨b0, 2, none⟩ (.slice a1 (nl (dman d).natAbs) c1)).setCell ⟨b0, 3, none⟩ (.int .i64 (dexp d))) = w2 at Vx2 Vr2 M12 B2 ⊢
  (try clear xc0 xc1 xc2 xc3 xc4)
  obtain ⟨xc0, xc1, xc2, xc3, xc4, xc5⟩ := Vx2
  have Vx2 := Lib.hid (DyV.mk xc0 xc1 xc2 xc3 xc4 xc5)
  (try clear rc0 rc1 rc2 rc3 rc4)
  obtain ⟨rc0, rc1, rc2, rc3, rc4, rc5⟩ := Vr2
  have Vr2 := Lib.hid (DyV.mk rc0 rc1 rc2 rc3 rc4 rc5)
  refine (HS _ a1 c1 (by repeat (with_reducible first | refine Mag.set ?_ (fun h => by have := M12 h; omega) _ _ | refine Mag.drew ?_ | refine Mag.alloc ?_ _ | refine Mag.drewN ?_ _ | exact M12))).out.mono ?_
  rintro e w3 ⟨rfl, hb3⟩
  have Vx3 : DyV w3 b0 false (decide (dman d < 0)) (.slice a1 (nl (dman d).natAbs) c1) (dexp d) := (Vx2.out.on.below hb3)
  (try clear xc0 xc1 xc2 xc3 xc4)
  obtain ⟨xc0, xc1, xc2, xc3, xc4, xc5⟩ := Vx3
  have Vx3 := Lib.hid (DyV.mk xc0 xc1 xc2 xc3 xc4 xc5)
  have Vr3 : DyV w3 b1 false false (.slice none 0 0) 0 := (Vr2.out.on.below hb3)
  (try clear rc0 rc1 rc2 rc3 rc4)
  obtain ⟨rc0, rc1, rc2, rc3, rc4, rc5⟩ := Vr3
  have Vr3 := Lib.hid (DyV.mk rc0 rc1 rc2 rc3 rc4 rc5)
  have M13 : Mag w3 a1 (nl (dman d).natAbs) c1 (dman d).natAbs := Mag.below (by repeat (with_reducible first | refine Mag.set ?_ (fun h => by have := M12 h; omega) _ _ | refine Mag.drew ?_ | refine Mag.alloc ?_ _ | refine Mag.drewN ?_ _ | exact M12)) hb3
  have B3 := below_box (w := w) (have := Beh.mk B2; zbh) hb3
  clear hb3
  go_wp2_with fail
  refine (HM _ a1 c1 (by repeat (with_reducible first | refine Mag.set ?_ (fun h => by have := M13 h; omega) _ _ | refine Mag.drew ?_ | refine Mag.alloc ?_ _ | refine Mag.drewN ?_ _ | exact M13)) (hT.below (by have hszw := (B3).size; repeat (with_reducible first | refine Below.setCell ?_ (by first | omega | (simp <;> omega)) _ | refine Below.alloc ?_ (by first | omega | (simp <;> omega)) _ | refine Below.drew ?_ | refine below_drewN ?_ _ | exact B3)))).out.mono ?_
  rintro e w4 ⟨ay, cy, rfl, My4, hb4, hf4⟩
  have Vx4 : DyV w4 b0 false (decide (dman d < 0)) (.slice a1 (nl (dman d).natAbs) c1) (dexp d) := (Vx3.out.on.below hb4)
  (try clear xc0 xc1 xc2 xc3 xc4)
  obtain ⟨xc0, xc1, xc2, xc3, xc4, xc5⟩ := Vx4
  have Vx4 := Lib.hid (DyV.mk xc0 xc1 xc2 xc3 xc4 xc5)
  have Vr4 : DyV w4 b1 false false (.slice none 0 0) 0 := (Vr3.out.on.below hb4)
  (try clear rc0 rc1 rc2 rc3 rc4)
  obtain ⟨rc0, rc1, rc2, rc3, rc4, rc5⟩ := Vr4
  have Vr4 := Lib.hid (DyV.mk rc0 rc1 rc2 rc3 rc4 rc5)
  have M14 : Mag w4 a1 (nl (dman d).natAbs) c1 (dman d).natAbs := Mag.below (by repeat (with_reducible first | refine Mag.set ?_ (fun h => by have := M13 h; omega) _ _ | refine Mag.drew ?_ | refine Mag.alloc ?_ _ | refine Mag.drewN ?_ _ | exact M13)) hb4
  have B4 := below_box (w := w) (have := Beh.mk B3; zbh) hb4
  have hF4 : 0 < (nl (dman y).natAbs) → w3.heap.size ≤ ab ay := (fun h => by have hq := hf4 h; (try simp at hq); omega)
  have fryx : 0 < (nl (dman y).natAbs) → ab ay ≠ b0 := (fun h => by have := hF4 h; have := Vx3.out.lt; omega)
  have fryr : 0 < (nl (dman y).natAbs) → ab ay ≠ b1 := (fun h => by have := hF4 h; have := Vr3.out.lt; omega)
  have foy : 0 < (nl (dman y).natAbs) → w.heap.size ≤ ab ay := (fun h => by have := hF4 h; have := B3.size; omega)
  clear hF4
  clear hb4 hf4
  go_wp2_with fail
  refine bodyPost_ret (v := .agg #[.bool (dbad y), .bool (decide (dman y < 0)), .slice ay (nl (dman y).natAbs) cy, .int .i64 (dexp y)]) (by simp only [results, Tryz.results178]; go_simp) rfl ?_
  exact ⟨ay, cy, rfl, (by repeat (with_reducible first | refine Mag.set ?_ fryx _ _ | refine Mag.set ?_ fryr _ _ | refine Mag.drew ?_ | refine Mag.drewN ?_ _ | refine Mag.alloc ?_ _ | exact My4)), (by have hszw := (B4).size; repeat (with_reducible first | refine Below.setCell ?_ (by first | omega | (simp <;> omega)) _ | refine Below.alloc ?_ (by first | omega | (simp <;> omega)) _ | refine Below.drew ?_ | refine below_drewN ?_ _ | exact B4)), foy⟩

theorem rdscale_any (w : World) (bd s : Bool) (a : Option Addr) (n cap : Nat) (e k : Int) (d : Option (Int × Int)) (hx : DyIs w bd s a n cap e d) (hT : Tab w) (hk0 : -9223372036854775808 ≤ k) (hk1 : k ≤ 9223372036854775807) :
    Calls Tryz.prog 178 #[.agg #[.bool bd, .bool s, .slice a n cap, .int .i64 e], .int .i64 k] w (RetDy w (dscale d k)) := by
  have hbz := isN_bounds hx.1.isN
  cases hb : dbad d with
  | true => have h := rdscale_bad w bd s a n cap e k d hx hT hb; rw [dbad_none hb] at h ⊢; exact h
  | false =>
    by_cases hz : dman d = 0
    · have h := rdscale_zero w bd s a n cap e k d hx hT hb hz
      rw [isN_zero hx.1.isN hb hz] at h ⊢; exact h
    · have hd : dscale d k = nrm (dman d) (dexp d + max (min k 262144) (-262144)) := by
        conv => lhs; rw [some_of hb]
        rfl
      rw [hd]
      have hbl := blen_nz hz
      by_cases h1 : 262144 < k
      · rw [nrm_none.2 ⟨hz, .inl (by omega)⟩]
        exact rdscale_hi w bd s a n cap e k d hx hT hb hz h1
      · by_cases h2 : k < -262144
        · have ho := okd_bounds (hx.1.isN _ _ (some_of hb))
          rw [nrm_none.2 ⟨hz, .inr (by have := tz_le_blen hz; omega)⟩]
          exact rdscale_lo w bd s a n cap e k d hx hT hb hz h2
        · exact rdscale_ok w bd s a n cap e k d hx hT hb hz (by omega) (by omega) _ (by rw [show max (min k 262144) (-262144) = k by omega])

set_option maxRecDepth 100000 in
set_option maxHeartbeats 2000000 in
theorem rdlog_bad (w : World) (bd s : Bool) (a : Option Addr) (n cap : Nat) (e : Int) (d : Option (Int × Int)) (hx : DyIs w bd s a n cap e d) (hT : Tab w) (hb : dbad d = true) :
    Calls Tryz.prog 167 #[.agg #[.bool bd, .bool s, .slice a n cap, .int .i64 e]] w fun o w' => o = .returned (.tuple #[.int .i64 0, .bool false]) ∧ Below w.heap.size w w' := by
  have HN := fun W h ht => Lib.hid (@rdnorm_in W bd s a n cap e d h ht)
  go_enter Tryz.func167, Tryz.ntmps167
  go_wp2_with fail
  have Ix := (DyV.made' w 26 bd s (.slice a n cap) e (n := w.heap.size) (by rfl))
  have B0 : Below w.heap.size w (w.alloc (.cells #[.bool bd, .bool s, (.slice a n cap), .int .i64 e] 26)) := zbh
  generalize (w.alloc (.cells #[.bool bd, .bool s, (.slice a n cap), .int .i64 e] 26)) = w0 at Ix B0 ⊢
  generalize hb0 : w.heap.size = b0 at Ix ⊢
  obtain ⟨xc0, xc1, xc2, xc3, xc4, xc5⟩ := Ix
  have Vx0 := Lib.hid (DyV.mk xc0 xc1 xc2 xc3 xc4 xc5)
  refine (HN _ (hx.below (have := Beh.mk B0; zbh)) (hT.below (have := Beh.mk B0; zbh))).out.mono ?_
  rintro e w1 ⟨a1, c1, rfl, M11, hb1, hf1⟩
  have Vx1 : DyV w1 b0 bd s (.slice a n cap) e := (Vx0.out.on.below hb1)
  (try clear xc0 xc1 xc2 xc3 xc4)
  obtain ⟨xc0, xc1, xc2, xc3, xc4, xc5⟩ := Vx1
  have Vx1 := Lib.hid (DyV.mk xc0 xc1 xc2 xc3 xc4 xc5)
  have B1 := below_box (w := w) (have := Beh.mk B0; zbh) hb1
  have hF1 : 0 < (nl (dman d).natAbs) → w0.heap.size ≤ ab a1 := (fun h => by have hq := hf1 h; (try simp at hq); omega)
  have fr1x : 0 < (nl (dman d).natAbs) → ab a1 ≠ b0 := (fun h => by have := hF1 h; have := Vx0.out.lt; omega)
  have fo1 : 0 < (nl (dman d).natAbs) → w.heap.size ≤ ab a1 := (fun h => by have := hF1 h; have := B0.size; omega)
  clear hF1
  clear hb1 hf1
  go_wp2_with fail
  have Vx2 := DyV.put Vx1.out true (decide (dman d < 0)) (.slice a1 (nl (dman d).natAbs) c1) (dexp d)
  have M12 := (Mag.set (Mag.set (Mag.set (Mag.set M11 fr1x 0 (.bool true)) fr1x 1 (.bool (decide (dman d < 0)))) fr1x 2 (.slice a1 (nl (dman d).natAbs) c1)) fr1x 3 (.int .i64 (dexp d)))
  have B2 : Below w.heap.size w ((((w1.setCell ⟨b0, 0, none⟩ (.bool true)).setCell ⟨b0, 1, none⟩ (.bool (decide (dman d < 0)))).setCell ⟨b0, 2, none⟩ (.slice a1 (nl (dman d).natAbs) c1)).setCell ⟨b0, 3, none⟩ (.int .i64 (dexp d))) := (by have hszw := (B1).size; repeat (with_reducible first | refine Below.setCell ?_ (by first | omega | (simp <;> omega)) _ | refine Below.alloc ?_ (by first | omega | (simp <;> omega)) _ | refine Below.drew ?_ | refine below_drewN ?_ _ | exact B1))
  generalize ((((w1.setCell ⟨b0, 0, none⟩ (.bool true)).setCell ⟨b0, 1, none⟩ (.bool (decide (dman d < 0)))).setCell ⟨b0, 2, none⟩ (.slice a1 (nl (dman d).natAbs) c1)).setCell ⟨b0, 3, none⟩ (.int .i64 (dexp d))) = w2 at Vx2 M12 B2 ⊢
  (try clear xc0 xc1 xc2 xc3 xc4)
  obtain ⟨xc0, xc1, xc2, xc3, xc4, xc5⟩ := Vx2
  have Vx2 := Lib.hid (DyV.mk xc0 xc1 xc2 xc3 xc4 xc5)
  refine bodyPost_ret2 (v := .tuple #[.int .i64 0, .bool false]) (by simp only [results, Tryz.results167]; go_simp) rfl ?_
  exact ⟨rfl, (have := Beh.mk B2; zbh)⟩

set_option maxRecDepth 100000 in
set_option maxHeartbeats 2000000 in
theorem rdlog_zero (w : World) (bd s : Bool) (a : Option Addr) (n cap : Nat) (e : Int) (d : Option (Int × Int)) (hx : DyIs w bd s a n cap e d) (hT : Tab w) (hb : dbad d = false) (hz : dman d = 0) :
    Calls Tryz.prog 167 #[.agg #[.bool bd, .bool s, .slice a n cap, .int .i64 e]] w fun o w' => o = .returned (.tuple #[.int .i64 0, .bool false]) ∧ Below w.heap.size w w' := by
  have HN := fun W h ht => Lib.hid (@rdnorm_in W bd s a n cap e d h ht)
  have hbz := isN_bounds hx.1.isN
  have HS := fun W b c h => Lib.hid (rsgn_z W b c (dman d) _ rfl h (nl_lim5 (by omega)))
  obtain ⟨g, hg⟩ : ∃ g, g = sg (dman d) := ⟨_, rfl⟩
  have hgz : (g == 0) = true := by rw [hg]; exact sg0 hz
  rw [← hg] at HS
  clear hg
  clear hz hbz
  go_enter Tryz.func167, Tryz.ntmps167
  go_wp2_with fail
  have Ix := (DyV.made' w 26 bd s (.slice a n cap) e (n := w.heap.size) (by rfl))
  have B0 : Below w.heap.size w (w.alloc (.cells #[.bool bd, .bool s, (.slice a n cap), .int .i64 e] 26)) := zbh
  generalize (w.alloc (.cells #[.bool bd, .bool s, (.slice a n cap), .int .i64 e] 26)) = w0 at Ix B0 ⊢
  generalize hb0 : w.heap.size = b0 at Ix ⊢
  obtain ⟨xc0, xc1, xc2, xc3, xc4, xc5⟩ := Ix
  have Vx0 := Lib.hid (DyV.mk xc0 xc1 xc2 xc3 xc4 xc5)
  refine (HN _ (hx.below (have := Beh.mk B0; zbh)) (hT.below (have := Beh.mk B0; zbh))).out.mono ?_
  rintro e w1 ⟨a1, c1, rfl, M11, hb1, hf1⟩
  have Vx1 : DyV w1 b0 bd s (.slice a n cap) e := (Vx0.out.on.below hb1)
  (try clear xc0 xc1 xc2 xc3 xc4)
  obtain ⟨xc0, xc1, xc2, xc3, xc4, xc5⟩ := Vx1
  have Vx1 := Lib.hid (DyV.mk xc0 xc1 xc2 xc3 xc4 xc5)
  have B1 := below_box (w := w) (have := Beh.mk B0; zbh) hb1
  have hF1 : 0 < (nl (dman d).natAbs) → w0.heap.size ≤ ab a1 := (fun h => by have hq := hf1 h; (try simp at hq); omega)
  have fr1x : 0 < (nl (dman d).natAbs) → ab a1 ≠ b0 := (fun h => by have := hF1 h; have := Vx0.out.lt; omega)
  have fo1 : 0 < (nl (dman d).natAbs) → w.heap.size ≤ ab a1 := (fun h => by have := hF1 h; have := B0.size; omega)
  clear hF1
  clear hb1 hf1
  go_wp2_with fail
  have Vx2 := DyV.put Vx1.out false (decide (dman d < 0)) (.slice a1 (nl (dman d).natAbs) c1) (dexp d)
  have M12 := (Mag.set (Mag.set (Mag.set (Mag.set M11 fr1x 0 (.bool false)) fr1x 1 (.bool (decide (dman d < 0)))) fr1x 2 (.slice a1 (nl (dman d).natAbs) c1)) fr1x 3 (.int .i64 (dexp d)))
  have B2 : Below w.heap.size w ((((w1.setCell ⟨b0, 0, none⟩ (.bool false)).setCell ⟨b0, 1, none⟩ (.bool (decide (dman d < 0)))).setCell ⟨b0, 2, none⟩ (.slice a1 (nl (dman d).natAbs) c1)).setCell ⟨b0, 3, none⟩ (.int .i64 (dexp d))) := (by have hszw := (B1).size; repeat (with_reducible first | refine Below.setCell ?_ (by first | omega | (simp <;> omega)) _ | refine Below.alloc ?_ (by first | omega | (simp <;> omega)) _ | refine Below.drew ?_ | refine below_drewN ?_ _ | exact B1))
  generalize ((((w1.setCell ⟨b0, 0, none⟩ (.bool false)).setCell ⟨b0, 1, none⟩ (.bool (decide (dman d < 0)))).setCell ⟨b0, 2, none⟩ (.slice a1 (nl (dman d).natAbs) c1)).setCell ⟨b0, 3, none⟩ (.int .i64 (dexp d))) = w2 at Vx2 M12 B2 ⊢
  (try clear xc0 xc1 xc2 xc3 xc4)
  obtain ⟨xc0, xc1, xc2, xc3, xc4, xc5⟩ := Vx2
  have Vx2 := Lib.hid (DyV.mk xc0 xc1 xc2 xc3 xc4 xc5)
  refine (HS _ a1 c1 (by repeat (with_reducible first | refine Mag.set ?_ (fun h => by have := M12 h; omega) _ _ | refine Mag.drew ?_ | refine Mag.alloc ?_ _ | refine Mag.drewN ?_ _ | exact M12))).out.mono ?_
  rintro e w3 ⟨rfl, hb3⟩
  have Vx3 : DyV w3 b0 false (decide (dman d < 0)) (.slice a1 (nl (dman d).natAbs) c1) (dexp d) := (Vx2.out.on.below hb3)
  (try clear xc0 xc1 xc2 xc3 xc4)
  obtain ⟨xc0, xc1, xc2, xc3, xc4, xc5⟩ := Vx3
  have Vx3 := Lib.hid (DyV.mk xc0 xc1 xc2 xc3 xc4 xc5)
  have M13 : Mag w3 a1 (nl (dman d).natAbs) c1 (dman d).natAbs := Mag.below (by repeat (with_reducible first | refine Mag.set ?_ (fun h => by have := M12 h; omega) _ _ | refine Mag.drew ?_ | refine Mag.alloc ?_ _ | refine Mag.drewN ?_ _ | exact M12)) hb3
  have B3 := below_box (w := w) (have := Beh.mk B2; zbh) hb3
  clear hb3
  go_wp2_with fail
  refine bodyPost_ret2 (v := .tuple #[.int .i64 0, .bool false]) (by simp only [results, Tryz.results167]; go_simp) rfl ?_
  exact ⟨rfl, (have := Beh.mk B3; zbh)⟩

set_option maxRecDepth 100000 in
set_option maxHeartbeats 2000000 in
theorem rdlog_ok (w : World) (bd s : Bool) (a : Option Addr) (n cap : Nat) (e : Int) (d : Option (Int × Int)) (hx : DyIs w bd s a n cap e d) (hT : Tab w) (hb : dbad d = false) (hz : dman d ≠ 0) (y : Int) (hy : y = dexp d + blen (dman d).natAbs - 1) :
    Calls Tryz.prog 167 #[.agg #[.bool bd, .bool s, .slice a n cap, .int .i64 e]] w fun o w' => o = .returned (.tuple #[.int .i64 y, .bool true]) ∧ Below w.heap.size w w' := by
  have HN := fun W h ht => Lib.hid (@rdnorm_in W bd s a n cap e d h ht)
  have hbz := isN_bounds hx.1.isN
  have HS := fun W b c h => Lib.hid (rsgn_z W b c (dman d) _ rfl h (nl_lim5 (by omega)))
  obtain ⟨g, hg⟩ : ∃ g, g = sg (dman d) := ⟨_, rfl⟩
  have hgz : (g == 0) = false := by rw [hg]; exact sg1 hz
  rw [← hg] at HS
  clear hg
  obtain ⟨l, hl⟩ : ∃ l, l = blen (dman d).natAbs := ⟨_, rfl⟩
  have HL := fun W b c h => Lib.hid (rlen_z W b c (dman d) l hl h (nl_lim5 (by omega)))
  rw [← hl] at hy hbz
  have hw1 : IntKind.i64.wrap (dexp d + (l : Int)) = dexp d + l := by rw [IntKind.wrap_i64]; omega
  have hw2 : IntKind.i64.wrap (dexp d + (l : Int) - 1) = y := by rw [IntKind.wrap_i64]; omega
  clear hz hbz hl hy
  go_enter Tryz.func167, Tryz.ntmps167
  go_wp2_with fail
  have Ix := (DyV.made' w 26 bd s (.slice a n cap) e (n := w.heap.size) (by rfl))
  have B0 : Below w.heap.size w (w.alloc (.cells #[.bool bd, .bool s, (.slice a n cap), .int .i64 e] 26)) := (by repeat (with_reducible first | refine Below.setCell ?_ (by simp <;> omega) _ | refine Below.alloc ?_ (by simp <;> omega) _ | refine Below.drew ?_ | refine below_drewN ?_ _ | exact Below.refl _ _))
  generalize (w.alloc (.cells #[.bool bd, .bool s, (.slice a n cap), .int .i64 e] 26)) = w0 at Ix B0 ⊢
  generalize hb0 : w.heap.size = b0 at Ix ⊢
  obtain ⟨xc0, xc1, xc2, xc3, xc4, xc5⟩ := Ix
  have Vx0 := Lib.hid (DyV.mk xc0 xc1 xc2 xc3 xc4 xc5)
  refine (HN _ (hx.below (by have hszw := (B0).size; repeat (with_reducible first | refine Below.setCell ?_ (by first | omega | (simp <;> omega)) _ | refine Below.alloc ?_ (by first | omega | (simp <;> omega)) _ | refine Below.drew ?_ | refine below_drewN ?_ _ | exact B0))) (hT.below (by have hszw := (B0).size; repeat (with_reducible first | refine Below.setCell ?_ (by first | omega | (simp <;> omega)) _ | refine Below.alloc ?_ (by first | omega | (simp <;> omega)) _ | refine Below.drew ?_ | refine below_drewN ?_ _ | exact B0)))).out.mono ?_
  rintro e w1 ⟨a1, c1, rfl, M11, hb1, hf1⟩
  have Vx1 : DyV w1 b0 bd s (.slice a n cap) e := (by refine DyV.below ?_ hb1; (repeat (with_reducible first | refine DyV.drew ?_ | refine DyV.drewN ?_ _ | refine DyV.alloc ?_ _)); exact Vx0.out)
  (try clear xc0 xc1 xc2 xc3 xc4)
  obtain ⟨xc0, xc1, xc2, xc3, xc4, xc5⟩ := Vx1
  have Vx1 := Lib.hid (DyV.mk xc0 xc1 xc2 xc3 xc4 xc5)
  have B1 := below_box (w := w) (by have hszw := (B0).size; repeat (with_reducible first | refine Below.setCell ?_ (by first | omega | (simp <;> omega)) _ | refine Below.alloc ?_ (by first | omega | (simp <;> omega)) _ | refine Below.drew ?_ | refine below_drewN ?_ _ | exact B0)) hb1
  have hF1 : 0 < (nl (dman d).natAbs) → w0.heap.size ≤ ab a1 := (fun h => by have hq := hf1 h; (try simp at hq); omega)
  have fr1x : 0 < (nl (dman d).natAbs) → ab a1 ≠ b0 := (fun h => by have := hF1 h; have := Vx0.out.lt; omega)
  have fo1 : 0 < (nl (dman d).natAbs) → w.heap.size ≤ ab a1 := (fun h => by have := hF1 h; have := B0.size; omega)
  clear hF1
  clear hb1 hf1
  go_wp2_with fail
  have Vx2 := DyV.put Vx1.out false (decide (dman d < 0)) (.slice a1 (nl (dman d).natAbs) c1) (dexp d)
  have M12 := (Mag.set (Mag.set (Mag.set (Mag.set M11 fr1x 0 (.bool false)) fr1x 1 (.bool (decide (dman d < 0)))) fr1x 2 (.slice a1 (nl (dman d).natAbs) c1)) fr1x 3 (.int .i64 (dexp d)))
  have B2 : Below w.heap.size w ((((w1.setCell ⟨b0, 0, none⟩ (.bool false)).setCell ⟨b0, 1, none⟩ (.bool (decide (dman d < 0)))).setCell ⟨b0, 2, none⟩ (.slice a1 (nl (dman d).natAbs) c1)).setCell ⟨b0, 3, none⟩ (.int .i64 (dexp d))) := (by have hszw := (B1).size; repeat (with_reducible first | refine Below.setCell ?_ (by first | omega | (simp <;> omega)) _ | refine Below.alloc ?_ (by first | omega | (simp <;> omega)) _ | refine Below.drew ?_ | refine below_drewN ?_ _ | exact B1))
  generalize ((((w1.setCell ⟨b0, 0, none⟩ (.bool false)).setCell ⟨b0, 1, none⟩ (.bool (decide (dman d < 0)))).setCell ⟨b0, 2, none⟩ (.slice a1 (nl (dman d).natAbs) c1)).setCell ⟨b0, 3, none⟩ (.int .i64 (dexp d))) = w2 at Vx2 M12 B2 ⊢
  (try clear xc0 xc1 xc2 xc3 xc4)
  obtain ⟨xc0, xc1, xc2, xc3, xc4, xc5⟩ := Vx2
  have Vx2 := Lib.hid (DyV.mk xc0 xc1 xc2 xc3 xc4 xc5)
  refine (HS _ a1 c1 (by repeat (with_reducible first | refine Mag.set ?_ (fun h => by have := M12 h; omega) _ _ | refine Mag.drew ?_ | refine Mag.alloc ?_ _ | refine Mag.drewN ?_ _ | exact M12))).out.mono ?_
  rintro e w3 ⟨rfl, hb3⟩
  have Vx3 : DyV w3 b0 false (decide (dman d < 0)) (.slice a1 (nl (dman d).natAbs) c1) (dexp d) := (by refine DyV.below ?_ hb3; (repeat (with_reducible first | refine DyV.drew ?_ | refine DyV.drewN ?_ _ | refine DyV.alloc ?_ _)); exact Vx2.out)
  (try clear xc0 xc1 xc2 xc3 xc4)
  obtain ⟨xc0, xc1, xc2, xc3, xc4, xc5⟩ := Vx3
  have Vx3 := Lib.hid (DyV.mk xc0 xc1 xc2 xc3 xc4 xc5)
  have M13 : Mag w3 a1 (nl (dman d).natAbs) c1 (dman d).natAbs := Mag.below (by repeat (with_reducible first | refine Mag.set ?_ (fun h => by have := M12 h; omega) _ _ | refine Mag.drew ?_ | refine Mag.alloc ?_ _ | refine Mag.drewN ?_ _ | exact M12)) hb3
  have B3 := below_box (w := w) (by have hszw := (B2).size; repeat (with_reducible first | refine Below.setCell ?_ (by first | omega | (simp <;> omega)) _ | refine Below.alloc ?_ (by first | omega | (simp <;> omega)) _ | refine Below.drew ?_ | refine below_drewN ?_ _ | exact B2)) hb3
  clear hb3
  go_wp2_with fail
  first
  | go_region_held3 (fun w' => w'.cell? ⟨b0, 0, none⟩ = some (.bool false) ∧ w'.cell? ⟨b0, 1, none⟩ = some (.bool (decide (dman d < 0))) ∧ w'.cell? ⟨b0, 2, none⟩ = some ((.slice a1 (nl (dman d).natAbs) c1)) ∧ w'.cell? ⟨b0, 3, none⟩ = some (.int .i64 (dexp d))) (first | (go_keep; done) | (go_simp; done))
      (first
        | (go_at_call 219; have xx := B3; refine (HL _ a1 c1 (by repeat (with_reducible first | refine Mag.set ?_ (fun h => by have := M13 h; omega) _ _ | refine Mag.drew ?_ | refine Mag.alloc ?_ _ | refine Mag.drewN ?_ _ | exact M13))).out.mono ?_; rintro e w4 ⟨rfl, hb4⟩; have Vx4 : DyV w4 b0 false (decide (dman d < 0)) (.slice a1 (nl (dman d).natAbs) c1) (dexp d) := (by refine DyV.below ?_ hb4; (repeat (with_reducible first | refine DyV.drew ?_ | refine DyV.drewN ?_ _ | refine DyV.alloc ?_ _)); exact Vx3.out); (try clear xc0 xc1 xc2 xc3 xc4); obtain ⟨xc0, xc1, xc2, xc3, xc4, xc5⟩ := Vx4; have Vx4 := Lib.hid (DyV.mk xc0 xc1 xc2 xc3 xc4 xc5); have M14 : Mag w4 a1 (nl (dman d).natAbs) c1 (dman d).natAbs := Mag.below (by repeat (with_reducible first | refine Mag.set ?_ (fun h => by have := M13 h; omega) _ _ | refine Mag.drew ?_ | refine Mag.alloc ?_ _ | refine Mag.drewN ?_ _ | exact M13)) hb4; have B4 := below_box (w := w) (by have hszw := (B3).size; repeat (with_reducible first | refine Below.setCell ?_ (by first | omega | (simp <;> omega)) _ | refine Below.alloc ?_ (by first | omega | (simp <;> omega)) _ | refine Below.drew ?_ | refine below_drewN ?_ _ | exact B3)) hb4; clear hb4)
        | fail)
  | fail "region"
  go_wp2_with fail
  refine bodyPost_ret2 (v := .tuple #[.int .i64 y, .bool true]) (by simp only [results, Tryz.results167]; go_simp) rfl ?_
  exact ⟨rfl, (by have hszw := (B4).size; repeat (with_reducible first | refine Below.setCell ?_ (by first | omega | (simp <;> omega)) _ | refine Below.alloc ?_ (by first | omega | (simp <;> omega)) _ | refine Below.drew ?_ | refine below_drewN ?_ _ | exact B4))⟩

theorem rdlog_any (w : World) (bd s : Bool) (a : Option Addr) (n cap : Nat) (e : Int) (d : Option (Int × Int)) (hx : DyIs w bd s a n cap e d) (hT : Tab w) :
    Calls Tryz.prog 167 #[.agg #[.bool bd, .bool s, .slice a n cap, .int .i64 e]] w fun o w' => o = .returned (.tuple #[.int .i64 (dlog d), .bool (dnz d)]) ∧ Below w.heap.size w w' := by
  cases hb : dbad d with
  | true => have h := rdlog_bad w bd s a n cap e d hx hT hb; rw [dbad_none hb]; exact h
  | false =>
    by_cases hz : dman d = 0
    · have h := rdlog_zero w bd s a n cap e d hx hT hb hz
      rw [isN_zero hx.1.isN hb hz]; exact h
    · have hd : dlog d = dexp d + blen (dman d).natAbs - 1 := by
        conv => lhs; rw [some_of hb]
        exact if_neg hz
      have h := rdlog_ok w bd s a n cap e d hx hT hb hz (dlog d) hd
      have e1 : dnz d = true := by unfold dnz; rw [hb]; simp [hz]
      rw [e1]; exact h

end Go.Proofs.YtakbappmkdaioaaGreatDoor

namespace Go.Proofs.YtakbappmkdaioaaGreatDoor
open Go.RowKit Sp

theorem fkind_B (f : Nat) : fkind f = bif (((fE f : Nat) : Int) == 2047) then (bif (((fR f : Nat) : Int) == 0) then 2 else 3) else bif (((fE f : Nat) : Int) == 0) then (bif (((fR f : Nat) : Int) == 0) then 0 else 1) else 1 := by
  rw [fkind_ER]
  have a1 : (((fE f : Nat) : Int) == 2047) = decide (fE f = 2047) := by rw [Bool.eq_iff_iff]; simp; omega
  have a2 : (((fE f : Nat) : Int) == 0) = decide (fE f = 0) := by rw [Bool.eq_iff_iff]; simp
  have a3 : (((fR f : Nat) : Int) == 0) = decide (fR f = 0) := by rw [Bool.eq_iff_iff]; simp
  rw [a1, a2, a3]
  by_cases a : fE f = 2047 <;> by_cases b : fR f = 0 <;> by_cases c : fE f = 0 <;> simp [a, b, c] <;> omega

set_option maxRecDepth 100000 in
set_option maxHeartbeats 2000000 in
theorem rkind_any (w : World) (f : Nat) : Calls Tryz.prog 53 #[.int .u64 f] w fun e w' => e = .returned (.int .i64 (fkind f)) ∧ w = w' := by
  have h1 := bits_E f
  have h2 := bits_R f
  have hk := fkind_B f
  generalize fkind f = k at *
  generalize ((fE f : Nat) : Int) = E at *
  generalize ((fR f : Nat) : Int) = R at *
  have a4 : (R != 0) = !(R == 0) := rfl
  cases ha : (E == 2047) <;> cases hb : (R == 0) <;> cases hc : (E == 0) <;> rw [hb] at a4 <;> rw [ha, hb, hc] at hk <;> simp only [cond_true, cond_false, Bool.not_true, Bool.not_false] at hk a4 <;> subst hk <;>
  · go_enter Tryz.func53, Tryz.ntmps53
    go_wp2
    go_ret
    exact ⟨rfl, rfl⟩

set_option maxRecDepth 100000 in
set_option maxHeartbeats 2000000 in
theorem rfin_any (w : World) (f : Nat) : Calls Tryz.prog 55 #[.int .u64 f] w fun e w' => e = .returned (.bool (ffin f)) ∧ w = w' := by
  have h1 := bits_E f
  have hk : (((fE f : Nat) : Int) != 2047) = ffin f := by rw [ffin_E, Bool.eq_iff_iff]; simp; omega
  generalize ((fE f : Nat) : Int) = E at *
  go_enter Tryz.func55, Tryz.ntmps55
  go_wp2_with fail
  go_ret
  exact ⟨by simp, rfl⟩

set_option maxRecDepth 100000 in
set_option maxHeartbeats 2000000 in
theorem rnan_any (w : World) (f : Nat) : Calls Tryz.prog 164 #[.int .u64 f] w fun e w' => e = .returned (.bool (fnan f)) ∧ w = w' := by
  have HP := fun W => Lib.hid (rkind_any W f)
  have hk := (fkind_eqs f).1
  generalize fkind f = k at *
  go_enter Tryz.func164, Tryz.ntmps164
  go_wp2_with fail
  refine (HP _).out.mono ?_
  rintro e w1 ⟨rfl, rfl⟩
  go_wp2_with fail
  go_ret
  exact ⟨by simp, rfl⟩

set_option maxRecDepth 100000 in
set_option maxHeartbeats 2000000 in
theorem rzero_any (w : World) (f : Nat) : Calls Tryz.prog 175 #[.int .u64 f] w fun e w' => e = .returned (.bool (fzero f)) ∧ w = w' := by
  have HP := fun W => Lib.hid (rkind_any W f)
  have hk := (fkind_eqs f).2.2
  generalize fkind f = k at *
  go_enter Tryz.func175, Tryz.ntmps175
  go_wp2_with fail
  refine (HP _).out.mono ?_
  rintro e w1 ⟨rfl, rfl⟩
  go_wp2_with fail
  go_ret
  exact ⟨by simp, rfl⟩

set_option maxRecDepth 100000 in
set_option maxHeartbeats 2000000 in
theorem rminus_any (w : World) (f : Nat) (hf : f < 18446744073709551616) : Calls Tryz.prog 173 #[.int .u64 f] w fun e w' => e = .returned (.bool (fS f)) ∧ w = w' := by
  have h1 := bits_sign hf
  cases hs : fS f <;> rw [hs] at h1 <;>
  · simp only [if_true, Bool.false_eq_true, if_false] at h1
    go_enter Tryz.func173, Tryz.ntmps173
    go_wp2
    go_ret
    exact ⟨by simp, rfl⟩

set_option maxRecDepth 100000 in
set_option maxHeartbeats 2000000 in
theorem r3neg_any (w : World) (f : Nat) (hf : f < 18446744073709551616) : Calls Tryz.prog 57 #[.int .u64 f] w fun e w' => e = .returned (.int .u64 (fneg f : Nat)) ∧ w = w' := by
  have h1 := bits_xor_sign hf
  have HN := fun W => Lib.hid (rnan_any W f)
  cases hn : fnan f with
  | true =>
    rw [hn] at HN
    have hv : fneg f = fNaN := by unfold fneg; rw [if_pos hn]
    have hv : ((fneg f : Nat) : Int) = 9221120237041090560 := by rw [hv]; rfl
    generalize ((fneg f : Nat) : Int) = v at *
    go_enter Tryz.func57, Tryz.ntmps57
    go_wp2_with fail
    refine (HN _).out.mono ?_
    rintro e w1 ⟨rfl, rfl⟩
    go_wp2_with fail
    go_ret
    exact ⟨by rw [hv]; rfl, rfl⟩
  | false =>
    rw [hn] at HN
    have hv : fneg f = fsgn (!fS f) (fM f) := by unfold fneg; rw [if_neg (by rw [hn]; decide)]
    rw [← hv] at h1
    generalize ((fneg f : Nat) : Int) = v at *
    clear hv
    go_enter Tryz.func57, Tryz.ntmps57
    go_wp2_with fail
    refine (HN _).out.mono ?_
    rintro e w1 ⟨rfl, rfl⟩
    go_wp2_with fail
    go_ret
    exact ⟨by rw [← h1]; rfl, rfl⟩

set_option maxRecDepth 100000 in
set_option maxHeartbeats 2000000 in
theorem r3abs_any (w : World) (f : Nat) (hf : f < 18446744073709551616) : Calls Tryz.prog 59 #[.int .u64 f] w fun e w' => e = .returned (.int .u64 (fabs f : Nat)) ∧ w = w' := by
  have h1 := bits_abs hf
  have HN := fun W => Lib.hid (rnan_any W f)
  cases hn : fnan f with
  | true =>
    rw [hn] at HN
    have hv : fabs f = fNaN := by unfold fabs; rw [if_pos hn]
    have hv : ((fabs f : Nat) : Int) = 9221120237041090560 := by rw [hv]; rfl
    generalize ((fabs f : Nat) : Int) = v at *
    go_enter Tryz.func59, Tryz.ntmps59
    go_wp2_with fail
    refine (HN _).out.mono ?_
    rintro e w1 ⟨rfl, rfl⟩
    go_wp2_with fail
    go_ret
    exact ⟨by rw [hv]; rfl, rfl⟩
  | false =>
    rw [hn] at HN
    have hv : fabs f = fM f := by unfold fabs; rw [if_neg (by rw [hn]; decide)]
    rw [← hv] at h1
    generalize ((fabs f : Nat) : Int) = v at *
    clear hv
    go_enter Tryz.func59, Tryz.ntmps59
    go_wp2_with fail
    refine (HN _).out.mono ?_
    rintro e w1 ⟨rfl, rfl⟩
    go_wp2_with fail
    go_ret
    exact ⟨by rw [← h1]; rfl, rfl⟩

set_option maxRecDepth 100000 in
set_option maxHeartbeats 2000000 in
theorem rkey_any (w : World) (f : Nat) (hf : f < 18446744073709551616) : Calls Tryz.prog 165 #[.int .u64 f] w fun e w' => e = .returned (.int .i64 (fplace f)) ∧ w = w' := by
  have h1 := bits_abs hf
  have hM := fM_lt f
  have h2 : IntKind.i64.wrap ((fM f : Nat) : Int) = (fM f : Nat) := by rw [IntKind.wrap_i64]; omega
  have h3 : IntKind.i64.wrap (-((fM f : Nat) : Int)) = -((fM f : Nat) : Int) := by rw [IntKind.wrap_i64]; omega
  have HS := fun W => Lib.hid (rminus_any W f hf)
  rw [fplace_eq]
  cases hs : fS f with
  | true =>
    clear hM
    generalize ((fM f : Nat) : Int) = m at *
    rw [hs] at HS
    rw [if_pos rfl]
    go_enter Tryz.func165, Tryz.ntmps165
    go_wp2_with fail
    refine (HS _).out.mono ?_
    rintro e w1 ⟨rfl, rfl⟩
    go_wp2_with fail
    go_ret
    exact ⟨rfl, rfl⟩
  | false =>
    have e1 : (f : Int) = (fM f : Nat) := by
      unfold fS at hs; unfold fM
      have : f < 9223372036854775808 := by simpa using hs
      omega
    rw [← e1] at h2 ⊢
    clear hM h1 h3 e1
    rw [hs] at HS
    rw [if_neg (by decide)]
    go_enter Tryz.func165, Tryz.ntmps165
    go_wp2_with fail
    refine (HS _).out.mono ?_
    rintro e w1 ⟨rfl, rfl⟩
    go_wp2_with fail
    go_ret
    exact ⟨rfl, rfl⟩

end Go.Proofs.YtakbappmkdaioaaGreatDoor

namespace Go.Proofs.YtakbappmkdaioaaGreatDoor
open Go.RowKit Sp

set_option maxRecDepth 100000 in
set_option maxHeartbeats 2000000 in
theorem r3cmp_any (w : World) (a b : Nat) (ha : a < 18446744073709551616) (hb : b < 18446744073709551616) :
    Calls Tryz.prog 49 #[.int .u64 a, .int .u64 b] w fun e w' => e = .returned (.tuple #[.int .i64 (fcmpv a b), .bool (fcmpok a b)]) ∧ w = w' := by
  have HNa := fun W => Lib.hid (rnan_any W a)
  have HNb := fun W => Lib.hid (rnan_any W b)
  have HKa := fun W => Lib.hid (rkey_any W a ha)
  have HKb := fun W => Lib.hid (rkey_any W b hb)
  unfold fcmpv fcmpok
  cases hna : fnan a with
  | true =>
    rw [hna] at HNa
    go_enter Tryz.func49, Tryz.ntmps49
    go_wp2_with fail
    (refine (HNa _).out.mono ?_; rintro e w1 ⟨rfl, rfl⟩; go_wp2_with fail)
    refine bodyPost_ret (v := .tuple #[.int .i64 0, .bool false]) (by simp only [results, Tryz.results49]; go_simp) rfl ?_
    exact ⟨rfl, rfl⟩
  | false =>
    rw [hna] at HNa
    cases hnb : fnan b with
    | true =>
      rw [hnb] at HNb
      go_enter Tryz.func49, Tryz.ntmps49
      go_wp2_with fail
      (refine (HNa _).out.mono ?_; rintro e w1 ⟨rfl, rfl⟩; go_wp2_with fail)
      (refine (HNb _).out.mono ?_; rintro e w1 ⟨rfl, rfl⟩; go_wp2_with fail)
      refine bodyPost_ret (v := .tuple #[.int .i64 0, .bool false]) (by simp only [results, Tryz.results49]; go_simp) rfl ?_
      exact ⟨rfl, rfl⟩
    | false =>
      rw [hnb] at HNb
      generalize fplace a = x at *
      generalize fplace b = y at *
      clear hna hnb ha hb
      rw [if_neg (by decide)]
      obtain ⟨c, hc⟩ : ∃ c, c = cmpI x y := ⟨_, rfl⟩
      rw [← hc]
      rcases Int.lt_trichotomy x y with h | h | h
      · rw [cmpI_lt h] at hc; subst hc
        have h1 : decide (x < y) = true := by simpa using h
        clear h
        go_enter Tryz.func49, Tryz.ntmps49
        go_wp2_with fail
        (refine (HNa _).out.mono ?_; rintro e w1 ⟨rfl, rfl⟩; go_wp2_with fail)
        (refine (HNb _).out.mono ?_; rintro e w1 ⟨rfl, rfl⟩; go_wp2_with fail)
        (refine (HKa _).out.mono ?_; rintro e w1 ⟨rfl, rfl⟩; go_wp2_with fail)
        (refine (HKb _).out.mono ?_; rintro e w1 ⟨rfl, rfl⟩; go_wp2_with fail)
        refine bodyPost_ret (v := .tuple #[.int .i64 (-1), .bool true]) (by simp only [results, Tryz.results49]; go_simp) rfl ?_
        exact ⟨rfl, rfl⟩
      · rw [cmpI_eq h] at hc; subst hc
        have h1 : decide (x < y) = false := by simp; omega
        have h2 : decide (y < x) = false := by simp; omega
        clear h
        go_enter Tryz.func49, Tryz.ntmps49
        go_wp2_with fail
        (refine (HNa _).out.mono ?_; rintro e w1 ⟨rfl, rfl⟩; go_wp2_with fail)
        (refine (HNb _).out.mono ?_; rintro e w1 ⟨rfl, rfl⟩; go_wp2_with fail)
        (refine (HKa _).out.mono ?_; rintro e w1 ⟨rfl, rfl⟩; go_wp2_with fail)
        (refine (HKb _).out.mono ?_; rintro e w1 ⟨rfl, rfl⟩; go_wp2_with fail)
        (refine (HKa _).out.mono ?_; rintro e w1 ⟨rfl, rfl⟩; go_wp2_with fail)
        (refine (HKb _).out.mono ?_; rintro e w1 ⟨rfl, rfl⟩; go_wp2_with fail)
        refine bodyPost_ret (v := .tuple #[.int .i64 0, .bool true]) (by simp only [results, Tryz.results49]; go_simp) rfl ?_
        exact ⟨rfl, rfl⟩
      · rw [cmpI_gt h] at hc; subst hc
        have h1 : decide (x < y) = false := by simp; omega
        have h2 : decide (y < x) = true := by simpa using h
        clear h
        go_enter Tryz.func49, Tryz.ntmps49
        go_wp2_with fail
        (refine (HNa _).out.mono ?_; rintro e w1 ⟨rfl, rfl⟩; go_wp2_with fail)
        (refine (HNb _).out.mono ?_; rintro e w1 ⟨rfl, rfl⟩; go_wp2_with fail)
        (refine (HKa _).out.mono ?_; rintro e w1 ⟨rfl, rfl⟩; go_wp2_with fail)
        (refine (HKb _).out.mono ?_; rintro e w1 ⟨rfl, rfl⟩; go_wp2_with fail)
        (refine (HKa _).out.mono ?_; rintro e w1 ⟨rfl, rfl⟩; go_wp2_with fail)
        (refine (HKb _).out.mono ?_; rintro e w1 ⟨rfl, rfl⟩; go_wp2_with fail)
        refine bodyPost_ret (v := .tuple #[.int .i64 1, .bool true]) (by simp only [results, Tryz.results49]; go_simp) rfl ?_
        exact ⟨rfl, rfl⟩

set_option maxRecDepth 100000 in
set_option maxHeartbeats 2000000 in
theorem r3up_any (w : World) (f : Nat) (hf : f < 18446744073709551616) : Calls Tryz.prog 63 #[.int .u64 f] w fun e w' => e = .returned (.int .u64 (fup f : Nat)) ∧ w = w' := by
  have HN := fun W => Lib.hid (rnan_any W f)
  have HZ := fun W => Lib.hid (rzero_any W f)
  have HS := fun W => Lib.hid (rminus_any W f hf)
  have hi : ((f : Int) == 9218868437227405312) = decide (f = fInf) := by rw [Bool.eq_iff_iff, beq_iff_eq, decide_eq_true_eq]; unfold fInf; omega
  cases hn : fnan f with
  | true =>
    have hv : ((fup f : Nat) : Int) = 9221120237041090560 := by unfold fup; rw [if_pos hn]; rfl
    rw [hn] at HN
    rw [hv]
    clear hv hn hi
    go_enter Tryz.func63, Tryz.ntmps63
    go_wp2_with fail
    (refine (HN _).out.mono ?_; rintro e w1 ⟨rfl, rfl⟩; go_wp2_with fail)
    go_ret
    exact ⟨rfl, rfl⟩
  | false =>
    rw [hn] at HN
    by_cases h1 : f = fInf
    · have hv : fup f = f := by unfold fup; rw [if_neg (by rw [hn]; decide), if_pos h1]
      rw [decide_eq_true h1] at hi
      rw [hv]
      clear hv hn h1
      go_enter Tryz.func63, Tryz.ntmps63
      go_wp2_with fail
      (refine (HN _).out.mono ?_; rintro e w1 ⟨rfl, rfl⟩; go_wp2_with fail)
      go_ret
      exact ⟨rfl, rfl⟩
    · rw [decide_eq_false h1] at hi
      cases hz : fzero f with
      | true =>
        have hv : ((fup f : Nat) : Int) = 1 := by unfold fup; rw [if_neg (by rw [hn]; decide), if_neg h1, if_pos hz]; rfl
        rw [hz] at HZ
        rw [hv]
        clear hv hn h1 hz
        go_enter Tryz.func63, Tryz.ntmps63
        go_wp2_with fail
        (refine (HN _).out.mono ?_; rintro e w1 ⟨rfl, rfl⟩; go_wp2_with fail)
        (refine (HZ _).out.mono ?_; rintro e w1 ⟨rfl, rfl⟩; go_wp2_with fail)
        go_ret
        exact ⟨rfl, rfl⟩
      | false =>
        rw [hz] at HZ
        cases hs : fS f with
        | true =>
          have hw : IntKind.u64.wrap ((f : Int) - 1) = ((fup f : Nat) : Int) := by
            have : 9223372036854775808 ≤ f := by unfold fS at hs; simpa using hs
            unfold fup; rw [if_neg (by rw [hn]; decide), if_neg h1, if_neg (by rw [hz]; decide), if_pos hs, IntKind.wrap_u64]; omega
          rw [hs] at HS
          generalize ((fup f : Nat) : Int) = v at *
          clear hn h1 hz hs
          go_enter Tryz.func63, Tryz.ntmps63
          go_wp2_with fail
          (refine (HN _).out.mono ?_; rintro e w1 ⟨rfl, rfl⟩; go_wp2_with fail)
          (refine (HZ _).out.mono ?_; rintro e w1 ⟨rfl, rfl⟩; go_wp2_with fail)
          (refine (HS _).out.mono ?_; rintro e w1 ⟨rfl, rfl⟩; go_wp2_with fail)
          go_ret
          exact ⟨rfl, rfl⟩
        | false =>
          have hw : IntKind.u64.wrap ((f : Int) + 1) = ((fup f : Nat) : Int) := by
            have : ¬ 9223372036854775808 ≤ f := by unfold fS at hs; simpa using hs
            unfold fup; rw [if_neg (by rw [hn]; decide), if_neg h1, if_neg (by rw [hz]; decide), if_neg (by rw [hs]; decide), IntKind.wrap_u64]; omega
          rw [hs] at HS
          generalize ((fup f : Nat) : Int) = v at *
          clear hn h1 hz hs
          go_enter Tryz.func63, Tryz.ntmps63
          go_wp2_with fail
          (refine (HN _).out.mono ?_; rintro e w1 ⟨rfl, rfl⟩; go_wp2_with fail)
          (refine (HZ _).out.mono ?_; rintro e w1 ⟨rfl, rfl⟩; go_wp2_with fail)
          (refine (HS _).out.mono ?_; rintro e w1 ⟨rfl, rfl⟩; go_wp2_with fail)
          go_ret
          exact ⟨rfl, rfl⟩

set_option maxRecDepth 100000 in
set_option maxHeartbeats 2000000 in
theorem r3down_any (w : World) (f : Nat) (hf : f < 18446744073709551616) : Calls Tryz.prog 65 #[.int .u64 f] w fun e w' => e = .returned (.int .u64 (fdown f : Nat)) ∧ w = w' := by
  have H1 := fun W => Lib.hid (r3neg_any W f hf)
  have H2 := fun W => Lib.hid (r3up_any W (fneg f) (fneg_lt f))
  have H3 := fun W => Lib.hid (r3neg_any W (fup (fneg f)) (fup_lt (fneg_lt f)))
  unfold fdown
  generalize ((fneg (fup (fneg f)) : Nat) : Int) = u at *
  generalize ((fup (fneg f) : Nat) : Int) = v at *
  generalize ((fneg f : Nat) : Int) = x at *
  go_enter Tryz.func65, Tryz.ntmps65
  go_wp2_with fail
  (refine (H1 _).out.mono ?_; rintro e w1 ⟨rfl, rfl⟩; go_wp2_with fail)
  (refine (H2 _).out.mono ?_; rintro e w1 ⟨rfl, rfl⟩; go_wp2_with fail)
  (refine (H3 _).out.mono ?_; rintro e w1 ⟨rfl, rfl⟩; go_wp2_with fail)
  go_ret
  exact ⟨rfl, rfl⟩

end Go.Proofs.YtakbappmkdaioaaGreatDoor

namespace Go.Proofs.YtakbappmkdaioaaGreatDoor
open Go.RowKit Sp

set_option maxRecDepth 100000 in
set_option maxHeartbeats 8000000 in
theorem r3of_z (w : World) (f : Nat) (hf : f < 18446744073709551616) (h0 : fE f = 0) (m : Nat) (hm : m = fR f) (e : Int) (he : e = -1074) (d : Option (Int × Int)) (hd : d = nrm (sgn (fS f) m) e) (hT : Tab w) : Calls Tryz.prog 61 #[.int .u64 f] w (RetDy w d) := by
  have HF := fun W => Lib.hid (rfin_any W f)
  have hfin : ffin f = true := by rw [ffin_E]; simp; omega
  rw [hfin] at HF
  have HS := fun W => Lib.hid (rminus_any W f hf)
  have hR := fR_lt f
  have hE := fE_lt f
  have e1 := bits_E f
  have e2 := bits_R f
  have hmb : m < 9007199254740992 := by omega
  have hbl : blen m ≤ 53 := blen_le hmb
  have hw : IntKind.i64.wrap ((fE f : Nat) : Int) = (fE f : Nat) := by rw [IntKind.wrap_i64]; omega
  have a2 : decide (0 < ((fE f : Nat) : Int)) = false := by simp; omega
  have d0 : (m : Int) % 4294967296 = ((m % 4294967296 : Nat) : Int) := by simp
  have d1 : (m : Int) / 4294967296 % 4294967296 = ((m / 4294967296 : Nat) : Int) := by omega
  have d2 : (m : Int) / 4294967296 = ((m / 4294967296 : Nat) : Int) := by omega
  have hmm : m % 4294967296 + m / 4294967296 * B = m := by rw [B_eq]; omega
  have hl0 : m % 4294967296 < 4294967296 := by omega
  have hl1 : m / 4294967296 < 4294967296 := by omega
  have HM := fun W b c (h : Mag W b 2 c m) ht => Lib.hid (show Calls Tryz.prog 172 #[.agg #[.bool (fS f), .slice b 2 c], .int .i64 e] W (RetDy W d) from by rw [hd]; exact rmake_any W (fS f) b 2 c m e h (by omega) ht (by omega) (by omega))
  have a5 : ((fR f : Nat) : Int) = m := by rw [hm]
  have HMM := Lib.hid hmm
  generalize ((fE f : Nat) : Int) = E at *
  generalize ((fR f : Nat) : Int) = R at *
  generalize hL0 : m % 4294967296 = L0 at *
  generalize hL1 : m / 4294967296 = L1 at *
  generalize fS f = sg at *
  subst a5
  subst he
  clear hL0 hL1 hbl hd hm hR hE hmb hmm  h0 hfin
  go_enter Tryz.func61, Tryz.ntmps61
  go_wp2_with fail
  have Ir := (DyV.made' w 26 false false (.slice none 0 0) 0 (n := w.heap.size) (by rfl))
  have B0 : Below w.heap.size w (w.alloc (.cells #[.bool false, .bool false, (.slice none 0 0), .int .i64 0] 26)) := zbh
  generalize (w.alloc (.cells #[.bool false, .bool false, (.slice none 0 0), .int .i64 0] 26)) = w0 at Ir B0 ⊢
  generalize hb0 : w.heap.size = b0 at Ir ⊢
  obtain ⟨rc0, rc1, rc2, rc3, rc4, rc5⟩ := Ir
  have Vr0 := Lib.hid (DyV.mk rc0 rc1 rc2 rc3 rc4 rc5)
  refine (HF _).out.mono ?_
  rintro e1 w1 ⟨rfl, rfl⟩
  go_wp2_with fail
  refine (HS _).out.mono ?_
  rintro e1 w1 ⟨rfl, rfl⟩
  go_wp2_with fail
  have I1 := Mag.two w0 87 L0 L1 hl0 hl1
  rw [HMM.out] at I1
  have Vr1 := DyV.alloc Vr0.out (.cells #[.int .u32 L0, .int .u32 L1] 87)
  have B1 : Below w.heap.size w (w0.alloc (.cells #[.int .u32 L0, .int .u32 L1] 87)) := (have := Beh.mk B0; zbh)
  have nb : ¬ w0.heap.size = b0 := by have := Vr0.out.lt; omega
  generalize (w0.alloc (.cells #[.int .u32 L0, .int .u32 L1] 87)) = w1 at I1 Vr1 B1 ⊢
  (try clear rc0 rc1 rc2 rc3 rc4)
  obtain ⟨rc0, rc1, rc2, rc3, rc4, rc5⟩ := Vr1
  have Vr1 := Lib.hid (DyV.mk rc0 rc1 rc2 rc3 rc4 rc5)
  refine (HM _ (some ⟨w0.heap.size, 0, none⟩) 2 I1 (hT.below (have := Beh.mk B1; zbh))).out.mono ?_
  rintro e w2 ⟨ad, cd, rfl, Md2, hb2, hf2⟩
  have Vr2 : DyV w2 b0 false false (.slice none 0 0) 0 := (Vr1.out.on.below hb2)
  (try clear rc0 rc1 rc2 rc3 rc4)
  obtain ⟨rc0, rc1, rc2, rc3, rc4, rc5⟩ := Vr2
  have Vr2 := Lib.hid (DyV.mk rc0 rc1 rc2 rc3 rc4 rc5)
  have B2 := below_box (w := w) (have := Beh.mk B1; zbh) hb2
  have hF2 : 0 < (nl (dman d).natAbs) → w1.heap.size ≤ ab ad := (fun h => by have hq := hf2 h; (try simp at hq); omega)
  have frdr : 0 < (nl (dman d).natAbs) → ab ad ≠ b0 := (fun h => by have := hF2 h; have := Vr1.out.lt; omega)
  have fod : 0 < (nl (dman d).natAbs) → w.heap.size ≤ ab ad := (fun h => by have := hF2 h; have := B1.size; omega)
  clear hF2
  clear hb2 hf2
  go_wp2_with fail
  refine bodyPost_ret (v := .agg #[.bool (dbad d), .bool (decide (dman d < 0)), .slice ad (nl (dman d).natAbs) cd, .int .i64 (dexp d)]) (by simp only [results, Tryz.results61]; go_simp) rfl ?_
  exact ⟨ad, cd, rfl, (by repeat (with_reducible first | refine Mag.set ?_ frdr _ _ | refine Mag.drew ?_ | refine Mag.drewN ?_ _ | refine Mag.alloc ?_ _ | exact Md2)), (by have hszw := (B2).size; repeat (with_reducible first | refine Below.setCell ?_ (by first | omega | (simp <;> omega)) _ | refine Below.alloc ?_ (by first | omega | (simp <;> omega)) _ | refine Below.drew ?_ | refine below_drewN ?_ _ | exact B2)), fod⟩

set_option maxRecDepth 100000 in
set_option maxHeartbeats 8000000 in
theorem r3of_n (w : World) (f : Nat) (hf : f < 18446744073709551616) (h0 : fE f ≠ 0) (h1 : fE f ≠ 2047) (m : Nat) (hm : m = fR f + 4503599627370496) (e : Int) (he : e = (fE f : Int) - 1075) (d : Option (Int × Int)) (hd : d = nrm (sgn (fS f) m) e) (hT : Tab w) : Calls Tryz.prog 61 #[.int .u64 f] w (RetDy w d) := by
  have HF := fun W => Lib.hid (rfin_any W f)
  have hfin : ffin f = true := by rw [ffin_E]; simp; omega
  rw [hfin] at HF
  have HS := fun W => Lib.hid (rminus_any W f hf)
  have hR := fR_lt f
  have hE := fE_lt f
  have e1 := bits_E f
  have e2 := bits_R f
  have hmb : m < 9007199254740992 := by omega
  have hbl : blen m ≤ 53 := blen_le hmb
  have hw : IntKind.i64.wrap ((fE f : Nat) : Int) = (fE f : Nat) := by rw [IntKind.wrap_i64]; omega
  have a2 : decide (0 < ((fE f : Nat) : Int)) = true := by simp; omega
  have d0 : (m : Int) % 4294967296 = ((m % 4294967296 : Nat) : Int) := by simp
  have d1 : (m : Int) / 4294967296 % 4294967296 = ((m / 4294967296 : Nat) : Int) := by omega
  have d2 : (m : Int) / 4294967296 = ((m / 4294967296 : Nat) : Int) := by omega
  have hmm : m % 4294967296 + m / 4294967296 * B = m := by rw [B_eq]; omega
  have hl0 : m % 4294967296 < 4294967296 := by omega
  have hl1 : m / 4294967296 < 4294967296 := by omega
  have HM := fun W b c (h : Mag W b 2 c m) ht => Lib.hid (show Calls Tryz.prog 172 #[.agg #[.bool (fS f), .slice b 2 c], .int .i64 e] W (RetDy W d) from by rw [hd]; exact rmake_any W (fS f) b 2 c m e h (by omega) ht (by omega) (by omega))
  have a3 := bits_hidden hR
  rw [← hm] at a3
  have a4 : IntKind.i64.wrap (((fE f : Nat) : Int) - 1075) = e := by rw [he, IntKind.wrap_i64]; omega
  have a5 : wrap64 (((fE f : Nat) : Int) - 1075) = e := by unfold wrap64; omega
  have HMM := Lib.hid hmm
  generalize ((fE f : Nat) : Int) = E at *
  generalize ((fR f : Nat) : Int) = R at *
  generalize hL0 : m % 4294967296 = L0 at *
  generalize hL1 : m / 4294967296 = L1 at *
  generalize fS f = sg at *
  skip
  skip
  clear hL0 hL1 hbl hd hm hR hE hmb hmm he h1 h0 hfin
  go_enter Tryz.func61, Tryz.ntmps61
  go_wp2_with fail
  have Ir := (DyV.made' w 26 false false (.slice none 0 0) 0 (n := w.heap.size) (by rfl))
  have B0 : Below w.heap.size w (w.alloc (.cells #[.bool false, .bool false, (.slice none 0 0), .int .i64 0] 26)) := zbh
  generalize (w.alloc (.cells #[.bool false, .bool false, (.slice none 0 0), .int .i64 0] 26)) = w0 at Ir B0 ⊢
  generalize hb0 : w.heap.size = b0 at Ir ⊢
  obtain ⟨rc0, rc1, rc2, rc3, rc4, rc5⟩ := Ir
  have Vr0 := Lib.hid (DyV.mk rc0 rc1 rc2 rc3 rc4 rc5)
  refine (HF _).out.mono ?_
  rintro e1 w1 ⟨rfl, rfl⟩
  go_wp2_with fail
  refine (HS _).out.mono ?_
  rintro e1 w1 ⟨rfl, rfl⟩
  go_wp2_with fail
  have I1 := Mag.two w0 87 L0 L1 hl0 hl1
  rw [HMM.out] at I1
  have Vr1 := DyV.alloc Vr0.out (.cells #[.int .u32 L0, .int .u32 L1] 87)
  have B1 : Below w.heap.size w (w0.alloc (.cells #[.int .u32 L0, .int .u32 L1] 87)) := (have := Beh.mk B0; zbh)
  have nb : ¬ w0.heap.size = b0 := by have := Vr0.out.lt; omega
  generalize (w0.alloc (.cells #[.int .u32 L0, .int .u32 L1] 87)) = w1 at I1 Vr1 B1 ⊢
  (try clear rc0 rc1 rc2 rc3 rc4)
  obtain ⟨rc0, rc1, rc2, rc3, rc4, rc5⟩ := Vr1
  have Vr1 := Lib.hid (DyV.mk rc0 rc1 rc2 rc3 rc4 rc5)
  refine (HM _ (some ⟨w0.heap.size, 0, none⟩) 2 I1 (hT.below (have := Beh.mk B1; zbh))).out.mono ?_
  rintro e w2 ⟨ad, cd, rfl, Md2, hb2, hf2⟩
  have Vr2 : DyV w2 b0 false false (.slice none 0 0) 0 := (Vr1.out.on.below hb2)
  (try clear rc0 rc1 rc2 rc3 rc4)
  obtain ⟨rc0, rc1, rc2, rc3, rc4, rc5⟩ := Vr2
  have Vr2 := Lib.hid (DyV.mk rc0 rc1 rc2 rc3 rc4 rc5)
  have B2 := below_box (w := w) (have := Beh.mk B1; zbh) hb2
  have hF2 : 0 < (nl (dman d).natAbs) → w1.heap.size ≤ ab ad := (fun h => by have hq := hf2 h; (try simp at hq); omega)
  have frdr : 0 < (nl (dman d).natAbs) → ab ad ≠ b0 := (fun h => by have := hF2 h; have := Vr1.out.lt; omega)
  have fod : 0 < (nl (dman d).natAbs) → w.heap.size ≤ ab ad := (fun h => by have := hF2 h; have := B1.size; omega)
  clear hF2
  clear hb2 hf2
  go_wp2_with fail
  refine bodyPost_ret (v := .agg #[.bool (dbad d), .bool (decide (dman d < 0)), .slice ad (nl (dman d).natAbs) cd, .int .i64 (dexp d)]) (by simp only [results, Tryz.results61]; go_simp) rfl ?_
  exact ⟨ad, cd, rfl, (by repeat (with_reducible first | refine Mag.set ?_ frdr _ _ | refine Mag.drew ?_ | refine Mag.drewN ?_ _ | refine Mag.alloc ?_ _ | exact Md2)), (by have hszw := (B2).size; repeat (with_reducible first | refine Below.setCell ?_ (by first | omega | (simp <;> omega)) _ | refine Below.alloc ?_ (by first | omega | (simp <;> omega)) _ | refine Below.drew ?_ | refine below_drewN ?_ _ | exact B2)), fod⟩

set_option maxRecDepth 100000 in
set_option maxHeartbeats 8000000 in
theorem r3of_bad (w : World) (f : Nat) (h : ffin f = false) : Calls Tryz.prog 61 #[.int .u64 f] w (RetDy w none) := by
  have HF := fun W => Lib.hid (rfin_any W f)
  rw [h] at HF
  have HB := fun W => Lib.hid (rbad_any W)
  go_enter Tryz.func61, Tryz.ntmps61
  go_wp2_with fail
  have Ir := (DyV.made' w 26 false false (.slice none 0 0) 0 (n := w.heap.size) (by rfl))
  have B0 : Below w.heap.size w (w.alloc (.cells #[.bool false, .bool false, (.slice none 0 0), .int .i64 0] 26)) := zbh
  generalize (w.alloc (.cells #[.bool false, .bool false, (.slice none 0 0), .int .i64 0] 26)) = w0 at Ir B0 ⊢
  generalize hb0 : w.heap.size = b0 at Ir ⊢
  obtain ⟨rc0, rc1, rc2, rc3, rc4, rc5⟩ := Ir
  have Vr0 := Lib.hid (DyV.mk rc0 rc1 rc2 rc3 rc4 rc5)
  refine (HF _).out.mono ?_
  rintro e1 w1 ⟨rfl, rfl⟩
  go_wp2_with fail
  refine (HB _).out.mono ?_
  rintro e w1 ⟨rfl, hb1⟩
  have Vr1 : DyV w1 b0 false false (.slice none 0 0) 0 := (Vr0.out.on.below hb1)
  (try clear rc0 rc1 rc2 rc3 rc4)
  obtain ⟨rc0, rc1, rc2, rc3, rc4, rc5⟩ := Vr1
  have Vr1 := Lib.hid (DyV.mk rc0 rc1 rc2 rc3 rc4 rc5)
  have B1 := below_box (w := w) (have := Beh.mk B0; zbh) hb1
  clear hb1
  go_wp2_with fail
  refine bodyPost_ret (v := .agg #[.bool true, .bool false, .slice none 0 0, .int .i64 0]) (by simp only [results, Tryz.results61]; go_simp) rfl ?_
  exact ⟨none, 0, rfl, Mag.nil _, (by have hszw := (B1).size; repeat (with_reducible first | refine Below.setCell ?_ (by first | omega | (simp <;> omega)) _ | refine Below.alloc ?_ (by first | omega | (simp <;> omega)) _ | refine Below.drew ?_ | refine below_drewN ?_ _ | exact B1)), nl0⟩

theorem r3of_any (w : World) (f : Nat) (hf : f < 18446744073709551616) (hT : Tab w) : Calls Tryz.prog 61 #[.int .u64 f] w (RetDy w (fof f)) := by
  by_cases h1 : fE f = 2047
  · have h := fof_not (f := f) (by rw [ffin_E]; simpa using h1)
    rw [h]; exact r3of_bad w f (by rw [ffin_E]; simpa using h1)
  · have hd : fof f = nrm (sgn (fS f) (if fE f = 0 then fR f else fR f + 4503599627370496)) (if fE f = 0 then -1074 else (fE f : Int) - 1075) := by
      rw [fof_fin (by rw [ffin_E]; simpa using h1)]; exact fz_parts f
    by_cases h0 : fE f = 0
    · rw [if_pos h0, if_pos h0] at hd
      exact r3of_z w f hf h0 _ rfl _ rfl _ hd hT
    · rw [if_neg h0, if_neg h0] at hd
      exact r3of_n w f hf h0 h1 _ rfl _ rfl _ hd hT

end Go.Proofs.YtakbappmkdaioaaGreatDoor

namespace Go.Proofs.YtakbappmkdaioaaGreatDoor
open Go.RowKit Sp

attribute [local irreducible] Calls

end Go.Proofs.YtakbappmkdaioaaGreatDoor

namespace Go.Proofs.YtakbappmkdaioaaGreatDoor
open Go.RowKit Sp

theorem dyis_n {w : World} {d : Option (Int × Int)} {a : Option Addr} {c : Nat} (hd : IsN d) (hm : Mag w a (nl (dman d).natAbs) c (dman d).natAbs) : DyIs w (dbad d) (decide (dman d < 0)) a (nl (dman d).natAbs) c (dexp d) d :=
  ⟨dyin_of hd hm, nl_lim5 (by have := isN_bounds hd; omega)⟩
set_option maxRecDepth 100000 in
set_option maxHeartbeats 8000000 in
theorem r3fromInt_any (w : World) (n mode : Int) (h0 : -9223372036854775808 ≤ n) (h1 : n ≤ 9223372036854775807) (hT : Tab w) :
    Calls Tryz.prog 67 #[.int .i64 n, .int .i64 mode] w fun o w' => o = .returned (.int .u64 (fround (nrm n 0) mode : Nat)) ∧ Below w.heap.size w w' := by
  have HI := fun W ht => Lib.hid (rdfromInt_any W n ht h0 h1)
  have HN := Lib.hid (isN_nrm n 0)
  have HR := fun W b q (h : Mag W b (nl (dman (nrm n 0)).natAbs) q (dman (nrm n 0)).natAbs) ht => Lib.hid (r3round_any W _ _ _ _ _ _ mode _ (dyis_n HN.out h) ht)
  generalize nrm n 0 = d at *
  generalize ((fround d mode : Nat) : Int) = V at *
  clear h0 h1
  go_enter Tryz.func67, Tryz.ntmps67
  go_wp2_with fail
  refine (HI _ hT).out.mono ?_
  rintro e w1 ⟨a1, c1, rfl, M1, hb, _⟩
  have B1 := below_box (w := w) (Below.refl _ _) hb
  go_wp2_with fail
  refine (HR _ a1 c1 M1 (hT.below B1)).out.mono ?_
  rintro e w2 ⟨rfl, hb2⟩
  have B2 := below_box (w := w) B1 hb2
  go_wp2_with fail
  go_ret
  exact ⟨rfl, B2⟩

end Go.Proofs.YtakbappmkdaioaaGreatDoor

namespace Go.Proofs.YtakbappmkdaioaaGreatDoor
open Go.RowKit Sp
set_option linter.unusedSimpArgs false

attribute [local irreducible] Calls
/-- the exponent by which a float is scaled -/
def fclip (n : Int) : Int := max (min n 5000) (-5000)
/-- a float scaled -/
def fscale (f : Nat) (n mode : Int) : Nat := if fnan f then fNaN else if fkind f = 1 then fround (dscale (fof f) (fclip n)) mode else f
set_option maxRecDepth 100000 in
set_option maxHeartbeats 8000000 in
theorem wfromInt_any (w : World) (n mode : Int) (h0 : -9223372036854775808 ≤ n) (h1 : n ≤ 9223372036854775807) (hT : Tab w) : Calls Tryz.prog 66 #[.int .i64 n, .int .i64 mode] w fun e w' => e = .returned (.int .u64 (fround (nrm n 0) mode : Nat)) ∧ Below w.heap.size w w' := by
  have HT : Tb w := ⟨hT⟩
  have HI := fun W [Tb W] => Lib.hid (frd (isN_nrm n 0) (dfromInt_any W n tb h0 h1))
  have HR := fun W a1 c1 [i1 : DIv W (nrm n 0) a1 c1] [Tb W] => Lib.hid (frm (fround_any W _ _ _ _ _ _ mode (nrm n 0) i1.out tb))
  generalize ((fround (nrm n 0) mode : Nat) : Int) = u at *
  generalize nrm n 0 = d at *
  clear h0 h1
  go_enter Tryz.func66, Tryz.ntmps66
  go_wp2_with fail
  refine (HI _).out.mono ?_
  rintro e w1 ⟨a1, c1, rfl, i1, b1⟩
  go_wp2_with fail
  refine (HR _ _ _).out.mono ?_
  rintro e w2 ⟨rfl, b2⟩
  go_wp2_with fail
  go_ret
  exact ⟨rfl, zbh⟩

set_option maxRecDepth 100000 in
set_option maxHeartbeats 8000000 in
theorem wexp_any (w : World) (f : Nat) (hf : f < 18446744073709551616) (hT : Tab w) : Calls Tryz.prog 50 #[.int .u64 (f : Nat)] w fun e w' => e = .returned (.tuple #[.int .i64 (dlog (fof f)), .bool (dnz (fof f))]) ∧ Below w.heap.size w w' := by
  have HT : Tb w := ⟨hT⟩
  have HO := fun W [Tb W] => Lib.hid (frd (isN_fof f) (fof_any W f hf tb))
  have HL := fun W a1 c1 [i1 : DIv W (fof f) a1 c1] [Tb W] => Lib.hid (frm (dlog_any W _ _ _ _ _ _ (fof f) i1.out tb))
  generalize fof f = d at *
  generalize ((f : Nat) : Int) = p at *
  go_enter Tryz.func50, Tryz.ntmps50
  go_wp2_with fail
  refine (HO _).out.mono ?_
  rintro e w1 ⟨a1, c1, rfl, i1, b1⟩
  go_wp2_with fail
  refine (HL _ _ _).out.mono ?_
  rintro e w2 ⟨rfl, b2⟩
  go_wp2_with fail
  go_ret2
  exact ⟨rfl, zbh⟩

theorem fkind_one {f : Nat} : fkind f = 1 ↔ ffin f = true ∧ fzero f = false := by
  unfold fkind
  rcases f_cases f with h | ⟨h1, h2, h3, h4⟩ | ⟨h1, h2, h3⟩
  · rw [if_pos h]
    constructor
    · intro q; exact absurd q (by decide)
    · intro q; rw [(fin_not q.1).1] at h; cases h
  · rw [if_neg (by rw [h1]; decide), if_pos h2]
    constructor
    · intro q; exact absurd q (by decide)
    · intro q; rw [h3] at q; cases q.1
  · rw [if_neg (by rw [h1]; decide), if_neg (by rw [h2]; decide)]
    cases fzero f <;> simp [h3]
theorem exp_not {f : Nat} (h : ¬ fkind f = 1) : dlog (fof f) = 0 ∧ dnz (fof f) = false := by
  cases k : ffin f with
  | false => rw [fof_not k]; exact ⟨rfl, rfl⟩
  | true =>
    have hz : fzero f = true := by
      cases z : fzero f with
      | true => rfl
      | false => exact absurd (fkind_one.2 ⟨k, z⟩) h
    rw [fof_fin k, (fz_sign f).2.2.2 ((zero_place f).1 hz), nrm_zero]
    decide
set_option maxRecDepth 100000 in
set_option maxHeartbeats 8000000 in
theorem rexp_any (w : World) (f : Nat) (hf : f < 18446744073709551616) (hT : Tab w) : Calls Tryz.prog 51 #[.int .u64 (f : Nat)] w fun e w' => e = .returned (.tuple #[.int .i64 (dlog (fof f)), .bool (dnz (fof f))]) ∧ Below w.heap.size w w' := by
  have HT : Tb w := ⟨hT⟩
  have HK := fun W => Lib.hid (rkind_any W f)
  have HO := fun W [Tb W] => Lib.hid (frs (isN_fof f) (r3of_any W f hf tb))
  have HL := fun W a1 c1 [i1 : DS W (dbad (fof f)) (decide (dman (fof f) < 0)) a1 (nl (dman (fof f)).natAbs) c1 (dexp (fof f)) (fof f)] [Tb W] => Lib.hid (frm (rdlog_any W _ _ _ _ _ _ (fof f) i1.out tb))
  by_cases h : fkind f = 1
  · rw [h] at HK
    clear h
    generalize fof f = d at *
    generalize ((f : Nat) : Int) = p at *
    go_enter Tryz.func51, Tryz.ntmps51
    go_wp2_with fail
    refine (HK _).out.mono ?_
    rintro e w0 ⟨rfl, rfl⟩
    go_wp2_with fail
    refine (HO _).out.mono ?_
    rintro e w1 ⟨a1, c1, rfl, i1, b1⟩
    go_wp2_with fail
    refine (HL _ _ _).out.mono ?_
    rintro e w2 ⟨rfl, b2⟩
    go_wp2_with fail
    go_ret2
    exact ⟨rfl, zbh⟩
  · rw [(exp_not h).1, (exp_not h).2]
    have hk : ¬ fkind f = 1 := h
    have hk2 : (fkind f != 1) = true := by simp [bne, h]
    clear h
    generalize fkind f = u at *
    generalize ((f : Nat) : Int) = p at *
    go_enter Tryz.func51, Tryz.ntmps51
    go_wp2_with fail
    refine (HK _).out.mono ?_
    rintro e w0 ⟨rfl, rfl⟩
    go_wp2_with fail
    go_ret2
    exact ⟨rfl, zbh⟩

set_option maxRecDepth 100000 in
set_option maxHeartbeats 8000000 in
theorem rfscale_any (w : World) (f : Nat) (hf : f < 18446744073709551616) (n mode : Int) (h0 : -9223372036854775808 ≤ n) (h1 : n ≤ 9223372036854775807) (hT : Tab w) : Calls Tryz.prog 69 #[.int .u64 (f : Nat), .int .i64 n, .int .i64 mode] w fun e w' => e = .returned (.int .u64 (fscale f n mode : Nat)) ∧ Below w.heap.size w w' := by
  have HT : Tb w := ⟨hT⟩
  have HN := fun W => Lib.hid (rnan_any W f)
  have HK := fun W => Lib.hid (rkind_any W f)
  have hq : max (-5000) (min 5000 n) = fclip n := by unfold fclip; omega
  have hc0 : -9223372036854775808 ≤ fclip n := by unfold fclip; omega
  have hc1 : fclip n ≤ 9223372036854775807 := by unfold fclip; omega
  cases hn : fnan f with
  | true =>
    have hv : fscale f n mode = 9221120237041090560 := by unfold fscale; rw [if_pos hn]; rfl
    rw [hn] at HN
    rw [hv]
    show Calls _ _ _ _ fun e w' => e = .returned (.int .u64 9221120237041090560) ∧ Below w.heap.size w w'
    clear hv HK hq hc0 hc1
    generalize ((f : Nat) : Int) = p at *
    go_enter Tryz.func69, Tryz.ntmps69
    go_wp2_with fail
    refine (HN _).out.mono ?_
    rintro e w0 ⟨rfl, rfl⟩
    go_wp2_with fail
    go_ret
    exact ⟨rfl, zbh⟩
  | false =>
    rw [hn] at HN
    by_cases h : fkind f = 1
    · have hv : fscale f n mode = fround (dscale (fof f) (fclip n)) mode := by unfold fscale; rw [if_neg (by rw [hn]; decide), if_pos h]
      rw [hv]
      rw [h] at HK
      have HO := fun W [Tb W] => Lib.hid (frs (isN_fof f) (r3of_any W f hf tb))
      have HS := fun W a1 c1 [i1 : DS W (dbad (fof f)) (decide (dman (fof f) < 0)) a1 (nl (dman (fof f)).natAbs) c1 (dexp (fof f)) (fof f)] [Tb W] => Lib.hid (frs (isN_scale (fof f) (fclip n)) (rdscale_any W _ _ _ _ _ _ (fclip n) (fof f) i1.out tb hc0 hc1))
      have HR := fun W a1 c1 [i1 : DS W (dbad (dscale (fof f) (fclip n))) (decide (dman (dscale (fof f) (fclip n)) < 0)) a1 (nl (dman (dscale (fof f) (fclip n))).natAbs) c1 (dexp (dscale (fof f) (fclip n))) (dscale (fof f) (fclip n))] [Tb W] => Lib.hid (frm (r3round_any W _ _ _ _ _ _ mode (dscale (fof f) (fclip n)) i1.out tb))
      clear hv h hn hc0 hc1
      generalize ((fround (dscale (fof f) (fclip n)) mode : Nat) : Int) = u at *
      generalize dscale (fof f) (fclip n) = d2 at *
      generalize fof f = d at *
      generalize fclip n = k at *
      generalize ((f : Nat) : Int) = p at *
      go_enter Tryz.func69, Tryz.ntmps69
      go_wp2_with fail
      refine (HN _).out.mono ?_
      rintro e w0 ⟨rfl, rfl⟩
      go_wp2_with fail
      refine (HK _).out.mono ?_
      rintro e w0 ⟨rfl, rfl⟩
      go_wp2_with fail
      (try rw [hq])
      refine (HO _).out.mono ?_
      rintro e w1 ⟨a1, c1, rfl, i1, b1⟩
      go_wp2_with fail
      refine (HS _ _ _).out.mono ?_
      rintro e w2 ⟨a2, c2, rfl, i2, b2⟩
      go_wp2_with fail
      refine (HR _ _ _).out.mono ?_
      rintro e w3 ⟨rfl, b3⟩
      go_wp2_with fail
      go_ret
      exact ⟨rfl, zbh⟩
    · have hv : fscale f n mode = f := by unfold fscale; rw [if_neg (by rw [hn]; decide), if_neg h]
      rw [hv]
      have hk2 : (fkind f != 1) = true := by simp [bne, h]
      clear hv hn hq hc0 hc1
      generalize fkind f = u at *
      generalize ((f : Nat) : Int) = p at *
      go_enter Tryz.func69, Tryz.ntmps69
      go_wp2_with fail
      refine (HN _).out.mono ?_
      rintro e w0 ⟨rfl, rfl⟩
      go_wp2_with fail
      refine (HK _).out.mono ?_
      rintro e w0 ⟨rfl, rfl⟩
      go_wp2_with fail
      go_ret
      exact ⟨rfl, zbh⟩

/-- a real number that is returned -/
theorem frr {P : Program} {f : FuncId} {args : Array Value} {W : World} {s m : Bool} {x E : Int} (h : Calls P f args W (RetRe W s x E m)) :
    Calls P f args W fun e w' => ∃ a c, e = .returned (.agg #[.bool s, .bool (decide (x < 0)), .slice a (nl x.natAbs) c, .int .i64 E, .bool m]) ∧ BI w' a (nl x.natAbs) c x.natAbs ∧ From W w' :=
  h.mono fun _ _ ⟨a, c, he, hm, hb, _⟩ => ⟨a, c, he, ⟨hm⟩, ⟨hb⟩⟩
theorem fscale_val {f : Nat} (h : fkind f = 1) (n mode : Int) : fscale f n mode = frnd (decide (dman (fof f) < 0)) (dman (fof f)).natAbs (dexp (fof f) + fclip n) false mode := by
  obtain ⟨hf, hz⟩ := fkind_one.1 h
  have hN := isN_fof f
  have hn : fnan f = false := (fin_not hf).1
  have h0 : dman (fof f) ≠ 0 := fun q => by rw [(dman_fof hf).1 q] at hz; cases hz
  have hb := isN_bounds hN
  have hc : -5000 ≤ fclip n ∧ fclip n ≤ 5000 := by unfold fclip; omega
  unfold fscale
  rw [if_neg (by rw [hn]; decide), if_pos h]
  have hk : fof f ≠ none := by rw [fof_fin hf]; exact fof_some hf
  cases k : fof f with
  | none => exact absurd k hk
  | some p =>
    obtain ⟨m, e⟩ := p
    rw [k] at h0 hb hN
    have hs : dscale (some (m, e)) (fclip n) = some (m, e + fclip n) := by
      show nrm m (e + max (min (fclip n) 262144) (-262144)) = _
      rw [show max (min (fclip n) 262144) (-262144) = fclip n by omega]
      have hz0 : fz f ≠ 0 := fun q => by rw [(zero_place f).2 ((fz_sign f).2.2.1 q)] at hz; cases hz
      rw [fof_fin hf] at k
      obtain ⟨t, e1, e2, e3, _, _⟩ := nrm_some hz0 k
      have e4 := blen_fz hf
      have e5 : 0 < m.natAbs := by omega
      rw [e1, natAbs_mul_pow, blen_mul_pow e5] at e4
      exact nrm_self (Or.inr ⟨e3, by omega, by omega⟩)
    rw [hs]
    have h0 : ¬ m = 0 := h0
    show (if m = 0 then 0 else frnd (decide (m < 0)) m.natAbs (e + fclip n) false mode) = _
    rw [if_neg h0]
    rfl
set_option maxRecDepth 100000 in
set_option maxHeartbeats 8000000 in
theorem wfscale_any (w : World) (f : Nat) (hf : f < 18446744073709551616) (n mode : Int) (h0 : -9223372036854775808 ≤ n) (h1 : n ≤ 9223372036854775807) (hT : Tab w) : Calls Tryz.prog 68 #[.int .u64 (f : Nat), .int .i64 n, .int .i64 mode] w fun e w' => e = .returned (.int .u64 (fscale f n mode : Nat)) ∧ Below w.heap.size w w' := by
  have HT : Tb w := ⟨hT⟩
  have HN := fun W g (h : W.cell? ⟨g, 0, none⟩ = some (.int .u64 (f : Nat))) => Lib.hid (nan1 W g f h)
  have HZ := fun W => Lib.hid (fzero_any W f)
  have HI := fun W => Lib.hid (finf_any W f)
  have he := fkind_one (f := f)
  have hq : max (min n 5000) (-5000) = fclip n := rfl
  have hc : -5000 ≤ fclip n ∧ fclip n ≤ 5000 := by unfold fclip; omega
  by_cases hk : fkind f = 1
  · obtain ⟨ff, fz0⟩ := he.1 hk
    obtain ⟨fn, fi⟩ := fin_not ff
    rw [fscale_val hk]
    have hN := isN_fof f
    have hB := isN_bounds hN
    have h0 : dman (fof f) ≠ 0 := fun q => by rw [(dman_fof ff).1 q] at fz0; cases fz0
    have hb : dbad (fof f) = false := by rw [fof_fin ff]; exact dbad_nn.2 (fof_some ff)
    rw [fn] at HN
    rw [fz0] at HZ
    rw [fi] at HI
    have HO := fun W [Tb W] => Lib.hid (fof_any W f hf tb)
    generalize fof f = d at *
    obtain ⟨y, hy⟩ : ∃ y : Int, y = ((dman d).natAbs : Int) := ⟨_, rfl⟩
    have hya : y.natAbs = (dman d).natAbs := by omega
    have y0 : decide (y < 0) = false := by simp; omega
    have HD := fun W a c [i : BI W a (nl (dman d).natAbs) c (dman d).natAbs] => Lib.hid (frr (of_any W false a c (dman d) (dexp d) y i.out (Nat.le_trans (nl_le_blen _) (by omega)) hy))
    have HR := fun W a c [i : BI W a (nl (dman d).natAbs) c (dman d).natAbs] [Tb W] => Lib.hid (frm (rounded_any W (decide (dman d < 0)) false a c (dman d).natAbs (dexp d + fclip n) mode i.out (by omega) (by omega) (by omega) (by omega) tb))
    have t1 : IntKind.i64.wrap (dexp d + fclip n) = dexp d + fclip n := by rw [IntKind.wrap_i64]; omega
    have t2 : wrap64 (dexp d + fclip n) = dexp d + fclip n := by unfold wrap64; omega
    generalize ((frnd (decide (dman d < 0)) (dman d).natAbs (dexp d + fclip n) false mode : Nat) : Int) = u at *
    clear he hk ff fz0 fn fi hB h0 hy hN
    rw [hya] at HD
    generalize ((f : Nat) : Int) = p at *
    go_enter Tryz.func68, Tryz.ntmps68
    go_wp2_with fail
    refine (HN _ _ (by go_simp)).out.mono ?_
    rintro e w0 ⟨rfl, rfl⟩
    go_wp2_with fail
    refine (HZ _).out.mono ?_
    rintro e w0 ⟨rfl, rfl⟩
    go_wp2_with fail
    refine (HI _).out.mono ?_
    rintro e w0 ⟨rfl, rfl⟩
    go_wp2_with fail
    refine (HO _).out.mono ?_
    rintro e w1 ⟨a1, c1, rfl, m1, b1, f1⟩
    haveI i1 := BI.mk m1
    haveI k1 := From.mk b1
    rw [hb]
    go_wp2_with fail
    refine (HD _ _ _).out.mono ?_
    rintro e w2 ⟨a2, c2, rfl, i2, b2⟩
    go_wp2_with fail
    haveI k2 : NA a2 (nl (dman d).natAbs) w2.heap.size := ⟨fun h q => by have := i2.out.old h; omega⟩
    haveI T2 : Tb w2 := inferInstance
    haveI T3 : Tb ((w2.alloc (.cells #[.bool (decide (dman d < 0)), .bool false, .slice a2 (nl (dman d).natAbs) c2, .int .i64 (dexp d), .bool false] 97)).setCell ⟨w2.heap.size, 3, none⟩ (.int .i64 (dexp d + fclip n))) := ⟨T2.out.below ((Below.refl _ _).alloc (Nat.le_refl _) _ |>.setCell (by simp) _)⟩
    refine (HR _ _ _).out.mono ?_
    rintro e w3 ⟨rfl, b3⟩
    go_wp2_with fail
    go_ret
    exact ⟨rfl, zbh⟩
  · cases hn : fnan f with
    | true =>
      have hv : fscale f n mode = fNaN := by unfold fscale; rw [if_pos hn]
      rw [hv]
      rw [hn] at HN
      show Calls _ _ _ _ fun e w' => e = .returned (.int .u64 9221120237041090560) ∧ Below w.heap.size w w'
      clear hv he hq hc HZ HI hn hk
      generalize ((f : Nat) : Int) = p at *
      go_enter Tryz.func68, Tryz.ntmps68
      go_wp2_with fail
      refine (HN _ _ (by go_simp)).out.mono ?_
      rintro e w0 ⟨rfl, rfl⟩
      go_wp2_with fail
      go_ret
      exact ⟨rfl, zbh⟩
    | false =>
      have hv : fscale f n mode = f := by unfold fscale; rw [if_neg (by rw [hn]; decide), if_neg hk]
      have hzi : fzero f = true ∨ (fzero f = false ∧ finf f = true) := by
        rcases f_cases f with c | ⟨_, i, _, z⟩ | ⟨_, i, ff⟩
        · rw [hn] at c; cases c
        · right; exact ⟨z, i⟩
        · left; cases z : fzero f with
          | true => rfl
          | false => exact absurd (he.2 ⟨ff, z⟩) hk
      rw [hv]
      rw [hn] at HN
      clear hv he hq hc hk hn
      generalize fzero f = z at *
      generalize finf f = i at *
      generalize ((f : Nat) : Int) = p at *
      rcases hzi with rfl | ⟨rfl, rfl⟩
      · go_enter Tryz.func68, Tryz.ntmps68
        go_wp2_with fail
        refine (HN _ _ (by go_simp)).out.mono ?_
        rintro e w0 ⟨rfl, rfl⟩
        go_wp2_with fail
        refine (HZ _).out.mono ?_
        rintro e w0 ⟨rfl, rfl⟩
        go_wp2_with fail
        go_ret
        exact ⟨rfl, zbh⟩
      · go_enter Tryz.func68, Tryz.ntmps68
        go_wp2_with fail
        refine (HN _ _ (by go_simp)).out.mono ?_
        rintro e w0 ⟨rfl, rfl⟩
        go_wp2_with fail
        refine (HZ _).out.mono ?_
        rintro e w0 ⟨rfl, rfl⟩
        go_wp2_with fail
        refine (HI _).out.mono ?_
        rintro e w0 ⟨rfl, rfl⟩
        go_wp2_with fail
        go_ret
        exact ⟨rfl, zbh⟩

end Go.Proofs.YtakbappmkdaioaaGreatDoor

namespace Go.Proofs.YtakbappmkdaioaaGreatDoor
open Go.RowKit Sp

set_option maxRecDepth 100000 in
set_option maxHeartbeats 2000000 in
theorem limbs_same (w : World) (a a' : Option Addr) (n cap cap' x : Nat) (hx : Mag w a n cap x) (hy : Mag w a' n cap' x) :
    Calls Tryz.prog 210 #[.slice a n cap, .slice a' n cap'] w fun e w' => e = .returned (.bool true) ∧ ∃ q, w' = w.drewN q := by
  have l1 := hx.lim
  have l2 := hy.lim
  have l3 := hx.fits
  have l4 := hy.fits
  go_enter Tryz.func210, Tryz.ntmps210
  go_wp2
  go_loopw [5] (fun t wr => ∃ k : Nat, k ≤ n ∧ t = .int .i64 k ∧ ∃ q, wr = w.drewN q) (fun t _ => n - (intOf t).toNat)
  case atStart => exact ⟨0, Nat.zero_le _, rfl, 0, rfl⟩
  case round =>
    obtain ⟨k, hk, rfl, q, rfl⟩ := hrel
    by_cases h0 : k < n
    · have c1 := hx.cell k h0
      have c2 := hy.cell k h0
      have i1 := hx.idx 22 und siz k h0
      have i2 := hy.idx 22 und siz k h0
      go_wp2
      go_quiet (fail)
      go_wp2
      go_roundw
      case rel => exact ⟨k + 1, by omega, by go_num, _, rfl⟩
      case measure => simp [intOf]; omega
    · obtain rfl : k = n := by omega
      go_wp2
      go_ret
      exact ⟨rfl, _, rfl⟩

set_option maxRecDepth 100000 in
set_option maxHeartbeats 2000000 in
theorem kbig_same (w : World) (s : Bool) (a a' : Option Addr) (n cap cap' x : Nat) (hx : Mag w a n cap x) (hy : Mag w a' n cap' x) :
    Calls Tryz.prog 129 #[.agg #[.bool s, .slice a n cap], .agg #[.bool s, .slice a' n cap']] w fun e w' => e = .returned (.bool true) ∧ Below w.heap.size w w' := by
  have e1 : ¬ w.heap.size + 1 = w.heap.size := by omega
  have HL := fun W h h' => Lib.hid (limbs_same W a a' n cap cap' x h h')
  have hs : (s == s) = true := by simp
  go_enter Tryz.func129, Tryz.ntmps129
  go_wp2_with fail
  refine (HL _ (hx.below zbh) (hy.below zbh)).out.mono ?_
  rintro e w1 ⟨rfl, q, rfl⟩
  go_wp2_with fail
  go_ret
  exact ⟨rfl, zbh⟩

set_option maxRecDepth 100000 in
set_option maxHeartbeats 2000000 in
theorem kdyad_same (w : World) (b s : Bool) (a a' : Option Addr) (n cap cap' x : Nat) (f : Int) (hx : Mag w a n cap x) (hy : Mag w a' n cap' x) :
    Calls Tryz.prog 16 #[.agg #[.bool b, .bool s, .slice a n cap, .int .i64 f], .agg #[.bool b, .bool s, .slice a' n cap', .int .i64 f]] w fun e w' => e = .returned (.bool true) ∧ Below w.heap.size w w' := by
  have e1 : ¬ w.heap.size + 1 = w.heap.size := by omega
  have HL := fun W h h' => Lib.hid (kbig_same W s a a' n cap cap' x h h')
  have hs : (b == b) = true := by simp
  have hf : (f == f) = true := by simp
  go_enter Tryz.func16, Tryz.ntmps16
  go_wp2_with fail
  refine (HL _ (hx.below zbh) (hy.below zbh)).out.mono ?_
  rintro e w1 ⟨rfl, hb1⟩
  have hbw := below_box (w := w) zbh hb1
  go_wp2_with fail
  go_ret
  exact ⟨rfl, (have := Beh.mk hbw; zbh)⟩

end Go.Proofs.YtakbappmkdaioaaGreatDoor


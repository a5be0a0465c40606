/-
  What the laws need beyond the slice Zi.
-/
import Derived.WalkKit
import Derived.Lib.Hide
import Derived.Deep.QuietTactic
import Derived.Laws.CopyOwn
import Derived.WalkLawsBesides
import Derived.WalkSpells
import Derived.BigQuiet
import Derived.Lib.Strings
import Derived.Lib.Slices
import Derived.Lib.Small
import Derived.Lib.Walk
import Derived.Lib.BitFns
import Derived.Deep.DeepCutAuto
import Derived.Deep.CutBlock
import Derived.Deep.LoopGhost
import Derived.Deep.RegionHeld3
import Derived.Deep.RegionWith
import Derived.Laws.EntriesVeiled
import Derived.ProofKit
import Derived.OpenShut
import Derived.Carry
import Derived.Laws.LoneSync
import Derived.Deep.DeepHandedRow
import Derived.Lib.LaidTab
import Derived.Maps.AppendAt
import Derived.Deep.AppendLies
import Derived.Test.YtmpcikkimcehnaaGreatDoorZiBa
import Derived.Test.YtmpcikkimcehnaaGreatDoorZiBb
import Derived.Test.YtmpcikkimcehnaaGreatDoorZiBc
import Derived.Test.YtmpcikkimcehnaaGreatDoorZiBd
import Derived.Test.YtmpcikkimcehnaaGreatDoorZiBe
import Derived.Test.YtmpcikkimcehnaaGreatDoorZiBf
import Derived.Test.YtmpcikkimcehnaaGreatDoorZiBL
import Derived.Test.YtmpcikkimcehnaaGreatDoorZiFP
import Derived.Test.YtmpcikkimcehnaaGreatDoorZiGa
import Derived.Test.YtmpcikkimcehnaaGreatDoorZiGc
import Derived.Test.YtmpcikkimcehnaaGreatDoorZiIP
import Derived.Test.YtmpcikkimcehnaaGreatDoorZiJA
import Derived.Test.YtmpcikkimcehnaaGreatDoorZiJc
import Derived.Test.YtmpcikkimcehnaaGreatDoorZiRd
import Derived.Test.YtmpcikkimcehnaaGreatDoorZiRe
import Derived.Test.YtmpcikkimcehnaaGreatDoorZiRk
import Derived.Test.YtmpcikkimcehnaaGreatDoorZiRq
import Derived.Test.YtmpcikkimcehnaaGreatDoorZiRm
import Derived.Test.YtmpcikkimcehnaaGreatDoorZiGi
import Derived.Test.YtmpcikkimcehnaaGreatDoorZiBg
import Derived.Test.YtmpcikkimcehnaaGreatDoorZiGo
import Derived.Test.YtmpcikkimcehnaaGreatDoorZiRt
import Derived.Test.YtmpcikkimcehnaaGreatDoorZiRu
import Derived.Test.YtmpcikkimcehnaaGreatDoorZiRa
import Derived.Test.YtmpcikkimcehnaaGreatDoorZiBh
import Derived.Test.YtmpcikkimcehnaaGreatDoorZiGr
import Derived.Test.YtmpcikkimcehnaaGreatDoorZiS3
import Derived.Test.YtmpcikkimcehnaaGreatDoorZiRva
import Derived.Test.YtmpcikkimcehnaaGreatDoorZiRv
import Derived.Test.YtmpcikkimcehnaaGreatDoorZiJg
import Derived.Test.YtmpcikkimcehnaaGreatDoorZiGq
import Derived.Test.YtmpcikkimcehnaaGreatDoorZiGs
import Derived.Test.YtmpcikkimcehnaaGreatDoorZiRat
import Derived.Test.YtmpcikkimcehnaaGreatDoorZiQuo
import Derived.Test.YtmpcikkimcehnaaGreatDoorZiGt
import Derived.Test.YtmpcikkimcehnaaGreatDoorZiGm
import Derived.Test.YtmpcikkimcehnaaGreatDoorZiJD
import Derived.Test.YtmpcikkimcehnaaGreatDoorZiSqt
import Derived.Test.YtmpcikkimcehnaaGreatDoorZiJe
import Derived.Test.YtmpcikkimcehnaaGreatDoorZiOpen
import Derived.Test.YtmpcikkimcehnaaGreatDoorZiDys
import Derived.Test.YtmpcikkimcehnaaGreatDoorZiSum
import Derived.Test.YtmpcikkimcehnaaGreatDoorZiKA
import Derived.Test.YtmpcikkimcehnaaGreatDoorZiOpenF
import Derived.Test.YtmpcikkimcehnaaGreatDoorZiPFa
import Derived.Test.YtmpcikkimcehnaaGreatDoorZiPFb
import Derived.Test.YtmpcikkimcehnaaGreatDoorZiPFc
namespace Sp

/-! ### setd: a limb put in another's place -/
/-! ### nl: how many limbs -/
/-! ### sums -/
/-! ### differences: y + d = x. The borrow is the carry of y + d. -/
/-! ### products -/
/-! ### shifts -/
/-! ### division by one limb, from above -/
/-! ### the lower bits of a number -/
/-! ### order -/
end Sp

namespace Sp

/-! ### square roots: Newton's method from above -/
/-! ### zeros at the end -/
/-! ### the machine's trick for one limb: x and -x have one bit in common -/
end Sp

namespace Sp
open Go Go.RowKit

theorem Mag.empty (w : World) (a : Option Addr) (cap : Nat) (h : cap ≤ 9223372036854775807) : Mag w a 0 cap 0 := ⟨by simp, Nat.zero_le _, h, by omega, by omega, by omega⟩

/-! ### A row of the call's own: block g, n limbs -/
/-! ### A list that grows by append: its first k limbs are those of z -/
/-! ### Calls that only read (and may draw), inside a region that draws its order -/
section
variable {P : Program} {f : FuncId} {args : Array Value} {w : World} {v : Value}
end

/-! ### bits of 64 -/
/-! ### Only block g has turned -/
/-! ### make -/
section
variable {P : Program} (t e : TypeId)
end

/-! ### append of one limb to a list of the call's own -/
/-! ### What nothing of turned, found by instances -/
theorem Mag.on {w w' : World} {a : Option Addr} {n cap x : Nat} (h : Mag w a n cap x) [b : Beh w w'] : Mag w' a n cap x := h.below b.out

end Sp

namespace Go.Proofs.YtmpcikkimcehnaaGreatDoor
open Go.RowKit Sp

/-! ### dyads: an integer and an exponent; none: the bad one -/
end Go.Proofs.YtmpcikkimcehnaaGreatDoor

namespace Go.Proofs.YtmpcikkimcehnaaGreatDoor
open Go.RowKit Sp

/-! ### normal dyads -/
theorem isN_some {m e : Int} (h : Okd m e) : IsN (some (m, e)) := fun _ _ h' => by injection h' with h'; injection h' with h1 h2; subst h1 h2; exact h
/-! ### the operations -/
def dneg : Option (Int × Int) → Option (Int × Int)
  | some (m, e) => some (-m, e)
  | none => none
def dsub (a b : Option (Int × Int)) : Option (Int × Int) := dadd a (dneg b)
theorem okd_neg {m e : Int} (h : Okd m e) : Okd (-m) e := by
  rcases h with ⟨rfl, rfl⟩ | ⟨h1, h2, h3⟩
  · exact Or.inl ⟨rfl, rfl⟩
  · exact Or.inr ⟨by omega, h2, by rw [Int.natAbs_neg]; exact h3⟩
theorem isN_neg {d : Option (Int × Int)} (h : IsN d) : IsN (dneg d) := by
  cases d with
  | none => exact isN_none
  | some p => obtain ⟨m, e⟩ := p; exact isN_some (okd_neg (h m e rfl))
/-! ### a real number x (and a little more, if more) in units of 2^E, rounded to multiples of 2^q -/
end Go.Proofs.YtmpcikkimcehnaaGreatDoor

namespace Go.Proofs.YtmpcikkimcehnaaGreatDoor
open Go.RowKit Sp

end Go.Proofs.YtmpcikkimcehnaaGreatDoor

namespace Sp
open Go Go.RowKit
end Sp

namespace Go.Proofs.YtmpcikkimcehnaaGreatDoor
open Go.RowKit Sp

theorem ret_dy {w w' : World} {d : Option (Int × Int)} {a : Option Addr} {c : Nat} (b : Bool) (z f : Int) (hb : dbad d = b) (hz : dman d = z) (hf : dexp d = f) (hm : Mag w' a (nl z.natAbs) c z.natAbs) (hw : Below w.heap.size w w') (hfr : 0 < nl z.natAbs → w.heap.size ≤ ab a) :
    RetDy w d (.returned (.agg #[.bool b, .bool (decide (z < 0)), .slice a (nl z.natAbs) c, .int .i64 f])) w' := by
  subst hb hz hf; exact ⟨a, c, rfl, hm, hw, hfr⟩
end Go.Proofs.YtmpcikkimcehnaaGreatDoor

namespace Go.Proofs.YtmpcikkimcehnaaGreatDoor
open Go.RowKit Sp

set_option maxRecDepth 100000 in
set_option maxHeartbeats 2000000 in
theorem dvalid_any (w : World) (bd s : Bool) (a : Option Addr) (n cap x : Nat) (e : Int) (hx : Mag w a n cap x) (hlim : n ≤ 1099511627776) (hT : Tab w) (hB : blen x ≤ 1048576) (hTz : tz x ≤ 1048576) (he0 : -9223372036854775808 ≤ e) (he1 : e ≤ 9223372036854775807) :
    Calls Tryz.prog 144 #[.agg #[.bool bd, .bool s, .slice a n cap, .int .i64 e]] w fun o w' => o = .returned (.bool (!dbad (nrmB bd (sgn s x) e))) ∧ Below w.heap.size w w' := by
  have HN := fun W h ht => Lib.hid (dnorm_any W bd s a n cap x e h hlim ht hB hTz he0 he1)
  obtain ⟨d, hd⟩ : ∃ d, d = nrmB bd (sgn s x) e := ⟨_, rfl⟩
  rw [← hd] at HN ⊢
  clear hd
  go_enter Tryz.func144, Tryz.ntmps144
  go_wp2_with fail
  refine (HN _ (hx.below zbh) (hT.below zbh)).out.mono ?_
  rintro e w1 ⟨a1, c1, rfl, hm1, hb, hf1⟩
  have hbw := below_box (w := w) zbh hb
  go_wp2_with fail
  go_ret
  exact ⟨rfl, (have := Beh.mk hbw; zbh)⟩

end Go.Proofs.YtmpcikkimcehnaaGreatDoor

namespace Go.Proofs.YtmpcikkimcehnaaGreatDoor
open Go.RowKit Sp

end Go.Proofs.YtmpcikkimcehnaaGreatDoor

namespace Go.Proofs.YtmpcikkimcehnaaGreatDoor
open Go.RowKit Sp

/-! ### slim dyads in units of 2^-2000 -/
theorem dneg_nrm (M E : Int) (h : nrm M E ≠ none) : dneg (nrm M E) = nrm (-M) E := by
  cases k : nrm M E with
  | none => exact absurd k h
  | some p =>
    obtain ⟨m, e⟩ := p
    show some (-m, e) = _
    by_cases h0 : M = 0
    · subst h0; rw [nrm_zero] at k; injection k with k; injection k with h1 h2; subst h1 h2; rfl
    · obtain ⟨t, ht, he, _⟩ := nrm_some h0 k
      rw [ht, ← Int.neg_mul, nrm_scale, ← he]
      exact (nrm_self (okd_neg (nrm_ok k))).symm
/-! ### scaling, Log2, Floor -/
/-! ### rounding to nearest and the others -/
/-! ### square roots -/
end Go.Proofs.YtmpcikkimcehnaaGreatDoor

namespace Go.Proofs.YtmpcikkimcehnaaGreatDoor
open Go.RowKit Sp

/-! ### the parts of a float -/
/-! ### values, in units of 2^-1074; the codes go on without end -/
/-! ### rounding -/
/-! ### the functions of two and three floats -/
end Go.Proofs.YtmpcikkimcehnaaGreatDoor

namespace Go.Proofs.YtmpcikkimcehnaaGreatDoor
open Go.RowKit Sp

/-! ### a positive real number x by its comparisons: cx j compares x with j 2^-1075 -/
end Go.Proofs.YtmpcikkimcehnaaGreatDoor

namespace Go.Proofs.YtmpcikkimcehnaaGreatDoor
open Go.RowKit Sp

/-! ### the quotient of two floats' values -/
/-! ### the root of a float's value -/
end Go.Proofs.YtmpcikkimcehnaaGreatDoor

namespace Go.Proofs.YtmpcikkimcehnaaGreatDoor
open Go.RowKit Sp

/-! ### cutting at the greatest float -/
/-! ### the order of floats -/
/-! ### numbers that are floats -/
/-! ### sums -/
theorem fz_fneg {f : Nat} (h : ffin f = true) : ffin (fneg f) = true ∧ fz (fneg f) = -fz f := by
  have hlt : fM f < 9218868437227405312 := by unfold ffin at h; simpa using h
  have hn : fnan f = false := by unfold fnan; simp; omega
  unfold fneg; rw [hn]
  have := fof_fsgn (s := !fS f) hlt
  refine ⟨this.1, ?_⟩
  rw [if_neg (by decide), this.2]; unfold fz; exact sgn_not _ _
end Go.Proofs.YtmpcikkimcehnaaGreatDoor

namespace Go.Proofs.YtmpcikkimcehnaaGreatDoor
open Go.RowKit Sp

/-! ### FloatMonotone -/
/-! ### FloatEnclose -/
end Go.Proofs.YtmpcikkimcehnaaGreatDoor

namespace Go.Proofs.YtmpcikkimcehnaaGreatDoor
open Go.RowKit Sp

/-! ### FloatNeighbours -/
/-! ### FloatCommutes -/
/-! ### FloatMirrors -/
theorem fof_fneg {a : Nat} (h : ffin a = true) : fof (fneg a) = dneg (fof a) := by
  have k := fz_fneg h
  rw [fof_fin k.1, fof_fin h, k.2, dneg_nrm _ _ (fof_some h)]
/-! ### FloatSpecial -/
/-! ### what awake computes -/
end Go.Proofs.YtmpcikkimcehnaaGreatDoor

namespace Go.Proofs.YtmpcikkimcehnaaGreatDoor
open Go.RowKit Sp

/-! ### FloatSterbenz -/
/-! ### FloatHalves -/
end Go.Proofs.YtmpcikkimcehnaaGreatDoor

namespace Go.Proofs.YtmpcikkimcehnaaGreatDoor
open Go.RowKit Sp

end Go.Proofs.YtmpcikkimcehnaaGreatDoor

namespace Go.Proofs.YtmpcikkimcehnaaGreatDoor
open Go.RowKit Sp

/-! ### quotients -/
/-! ### roots -/
/-! ### floats -/
end Go.Proofs.YtmpcikkimcehnaaGreatDoor

namespace Go.Proofs.YtmpcikkimcehnaaGreatDoor
open Go.RowKit Sp
set_option linter.unusedSimpArgs false

/-! ### what the functions compute -/
/-! ### bounds of 64 bits -/
/-! ### places -/
/-! ### directed roundings -/
/-- a float that is not above the rounding downward is not above the number -/
theorem below_dir {M : Int} {g : Nat} (h : nrm M (-1074 - (g : Int)) ≠ none) {f : Nat} (hf : f < 18446744073709551616) (nf : fnan f = false) (hle : fplace f ≤ fplace (fround (nrm M (-1074 - (g : Int))) 1)) :
    f = fNInf ∨ (ffin f = true ∧ fz f * 2 ^ g ≤ M) := by
  have d := (fround_dir M g h).1
  have n1 := (fround_place M g 1 h).1
  have b := place_bound nf
  by_cases k : -TT < fplace f
  · right
    have f1 := fin_of nf k (by omega)
    have f2 := fin_of n1 (by omega) d.1
    refine ⟨f1, Int.le_trans (Int.mul_le_mul_of_nonneg_right (fz_le.2 hle) (Int.le_of_lt (pow2_pos g))) (d.2 f2)⟩
  · left; exact (place_bot hf nf).1 (by omega)
theorem above_dir {M : Int} {g : Nat} (h : nrm M (-1074 - (g : Int)) ≠ none) {f : Nat} (hf : f < 18446744073709551616) (nf : fnan f = false) (hle : fplace (fround (nrm M (-1074 - (g : Int))) 2) ≤ fplace f) :
    f = fInf ∨ (ffin f = true ∧ M ≤ fz f * 2 ^ g) := by
  have d := (fround_dir M g h).2.1
  have n1 := (fround_place M g 2 h).1
  have b := place_bound nf
  by_cases k : fplace f < TT
  · right
    have f1 := fin_of nf (by omega) k
    have f2 := fin_of n1 d.1 (by omega)
    refine ⟨f1, Int.le_trans (d.2 f2) (Int.mul_le_mul_of_nonneg_right (fz_le.2 hle) (Int.le_of_lt (pow2_pos g)))⟩
  · left; exact (place_top hf nf).1 (by omega)
theorem fof_grid {f : Nat} (h : ffin f = true) (g : Nat) : fof f = nrm (fz f * 2 ^ g) (-1074 - (g : Int)) ∧ nrm (fz f * 2 ^ g) (-1074 - (g : Int)) ≠ none := by
  have e : fof f = nrm (fz f * 2 ^ g) (-1074 - (g : Int)) := by rw [nrm_scale, fof_fin h]; congr 1; omega
  exact ⟨e, by rw [← e, fof_fin h]; exact fof_some h⟩
/-- an interval between whose bounds the two directed roundings of a number lie contains the number -/
theorem icont_of {M : Int} {g : Nat} (h : nrm M (-1074 - (g : Int)) ≠ none) {x : Nat × Nat} (hx : Lt64 x) (n1 : fnan x.1 = false) (n2 : fnan x.2 = false)
    (h1 : fplace x.1 ≤ fplace (fround (nrm M (-1074 - (g : Int))) 1)) (h2 : fplace (fround (nrm M (-1074 - (g : Int))) 2) ≤ fplace x.2) : icont x (nrm M (-1074 - (g : Int))) = true := by
  have d := fround_dir M g h
  have ok : iok x = true := (iok_iff hx).2 ⟨n1, n2, by omega, by have := d.1.1; omega, by have := d.2.1.1; omega⟩
  unfold icont
  rw [ok, dbad_nn.2 h]
  simp only [Bool.not_false, Bool.true_and, Bool.and_eq_true, Bool.or_eq_true, decide_eq_true_eq]
  refine ⟨?_, ?_⟩
  · rcases below_dir h hx.1 n1 h1 with k | ⟨k1, k2⟩
    · exact Or.inl k
    · right
      have e := fof_grid k1 g
      rw [e.1, dcmp_nrm _ _ _ e.2 h]; exact cmpI_le.2 k2
  · rcases above_dir h hx.2 n2 h2 with k | ⟨k1, k2⟩
    · exact Or.inl k
    · right
      have e := fof_grid k1 g
      rw [e.1, dcmp_nrm _ _ _ e.2 h]; exact cmpI_ge.2 k2

end Go.Proofs.YtmpcikkimcehnaaGreatDoor

namespace Go.Proofs.YtmpcikkimcehnaaGreatDoor
open Go.RowKit Sp
set_option linter.unusedSimpArgs false

/-! ### sums -/
/-! ### products; where there is none it is zero -/
end Go.Proofs.YtmpcikkimcehnaaGreatDoor

namespace Go.Proofs.YtmpcikkimcehnaaGreatDoor
open Go.RowKit Sp
set_option linter.unusedSimpArgs false

/-! ### quotients; where there is none it is zero -/
end Go.Proofs.YtmpcikkimcehnaaGreatDoor

namespace Go.Proofs.YtmpcikkimcehnaaGreatDoor
open Go.RowKit Sp
set_option linter.unusedSimpArgs false

/-! ### results between whose bounds two values lie -/
theorem mem_inegr {a : Nat} {x : Nat × Nat} (hx : Lt64 x) (h : imem a x) : imem (fneg a) (inegr x) := by
  have p := mem_parts hx h
  refine ⟨by rw [iok_inegr hx]; exact h.1, (fz_fneg h.2.1).1, ?_, ?_⟩
  · unfold inegr; rw [(neg_place p.2.1).2, (neg_place p.2.2.2.2.1).2]; have := h.2.2.2; omega
  · unfold inegr; rw [(neg_place p.1).2, (neg_place p.2.2.2.2.1).2]; have := h.2.2.1; omega
/-! ### sums -/
/-! ### products -/
/-! ### quotients -/
end Go.Proofs.YtmpcikkimcehnaaGreatDoor

namespace Go.Proofs.YtmpcikkimcehnaaGreatDoor
open Go.RowKit Sp
set_option linter.unusedSimpArgs false

/-! ### absolute values -/
/-! ### squares -/
/-! ### hulls and intersections -/
/-! ### IntervalPoints -/
/-! ### IntervalHolds -/
theorem fcmp_le {a b : Nat} (na : fnan a = false) (nb : fnan b = false) (h : fplace a ≤ fplace b) : fcmpok a b = true ∧ fcmpv a b ≤ 0 := by
  unfold fcmpok fcmpv; rw [na, nb]; exact ⟨rfl, cmpI_le.2 h⟩
theorem holds_law {x y : Nat × Nat} {a b : Nat} (hx : Lt64 x) (hy : Lt64 y) (ha : a < 18446744073709551616) (hb : b < 18446744073709551616) (h : imem a x) (k : imem b y) :
    icont (iadd x y) (dadd (fof a) (fof b)) = true ∧ icont (isub x y) (dadd (fof a) (dneg (fof b))) = true ∧ icont (imul x y) (dmul (fof a) (fof b)) = true ∧ icont (isqr x) (dmul (fof a) (fof a)) = true ∧
    (dman (fof b) ≠ 0 → (fcmpok (idiv x y).1 (fdiv a b 1) = true ∧ fcmpv (idiv x y).1 (fdiv a b 1) ≤ 0) ∧ (fcmpok (fdiv a b 2) (idiv x y).2 = true ∧ fcmpv (fdiv a b 2) (idiv x y).2 ≤ 0)) := by
  have fa := h.2.1
  have fb := k.2.1
  have add : ∀ {x y : Nat × Nat} {a b : Nat}, Lt64 x → Lt64 y → a < 18446744073709551616 → b < 18446744073709551616 → imem a x → imem b y → icont (iadd x y) (dadd (fof a) (fof b)) = true := by
    intro x y a b hx hy ha hb h k
    have p := iadd_place hx hy h.1 k.1
    have i := iadd_in hx hy ha hb h k
    have f1 := fadd_fin_place h.2.1 k.2.1 1
    have f2 := fadd_fin_place h.2.1 k.2.1 2
    rw [(fadd_val h.2.1 k.2.1).1, g0]
    refine icont_of f1.2.2 (iadd_lt hx hy) p.1 p.2.1 ?_ ?_
    · rw [← f1.2.1]; exact i.1
    · rw [← f2.2.1]; exact i.2
  refine ⟨add hx hy ha hb h k, ?_, ?_, ?_, fun hb0 => ?_⟩
  · rw [isub_eq hy, ← fof_fneg fb]
    exact add hx (inegr_lt y) ha (fneg_lt b) h (mem_inegr hy k)
  · have p := imul_place hx hy h.1 k.1
    have i := imul_in hx hy h k
    have f1 := pmul3_fin fa fb 1
    have f2 := pmul3_fin fa fb 2
    rw [(fmul_val fa fb).1, g1074]
    refine icont_of f1.2 (imul_lt x y) p.1 p.2.1 ?_ ?_
    · rw [← f1.1]; exact i.1
    · rw [← f2.1]; exact i.2
  · have p := isqr_place hx h.1
    have i := isqr_in hx h.1 (fin_not fa).1 h.2.2.1 h.2.2.2
    have f1 := pmul3_fin fa fa 1
    have f2 := pmul3_fin fa fa 2
    rw [(fmul_val fa fa).1, g1074]
    refine icont_of f1.2 (isqr_lt x) p.1 p.2.1 ?_ ?_
    · rw [← f1.1]; exact i.1
    · rw [← f2.1]; exact i.2
  · have zb : fz b ≠ 0 := by
      rw [fof_fin fb] at hb0; exact fun h0 => hb0 ((dman_zero (fof_some fb)).2 h0)
    have pb : fplace b ≠ 0 := fun h0 => zb ((fz_sign b).2.2.2 h0)
    have na := (fin_not fa).1
    have nb := (fin_not fb).1
    have e : ∀ m, fnan (fdiv a b m) = false ∧ fplace (fdiv a b m) = pdiv3 a b m := fun m => by
      have e := fat_div na nb pb m
      have kk : fnan (fdiv a b m) = false := by
        have z2 : fzero b = false := by
          cases hc : fzero b with
          | false => rfl
          | true => exact absurd ((zero_place b).1 hc) pb
        unfold fdiv
        rw [na, nb, (fin_not fa).2, (fin_not fb).2, z2, fof_fin fa, fof_fin fb]
        cases fzero a
        · have := (qv_sign m fa fb zb).1
          unfold qv at this
          simp [this]
        · simp [(nan_sgn _).2]
      unfold fat at e
      rw [kk] at e
      exact ⟨kk, by simpa using e.2⟩
    cases hz : izero y with
    | true =>
      rw [idiv_all (Or.inr hz)]
      have b1 := place_bound (e 1).1
      have b2 := place_bound (e 2).1
      exact ⟨fcmp_le iall_place.2.2.1 (e 1).1 (by rw [iall_place.1]; omega), fcmp_le (e 2).1 iall_place.2.2.2 (by rw [iall_place.2.1]; omega)⟩
    | false =>
      have p := idiv_place hx hy h.1 k.1 hz
      have i := idiv_in hx hy h k hz
      exact ⟨fcmp_le p.1 (e 1).1 (by rw [(e 1).2]; exact i.1), fcmp_le (e 2).1 p.2.1 (by rw [(e 2).2]; exact i.2)⟩

end Go.Proofs.YtmpcikkimcehnaaGreatDoor

namespace Go.Proofs.YtmpcikkimcehnaaGreatDoor
open Go.RowKit Sp
set_option linter.unusedSimpArgs false

/-! ### IntervalWhole -/
/-! ### IntervalMiddle -/
/-! ### IntervalUndone: sums -/
/-! ### IntervalUndone: quotients -/
/-! ### IntervalUndone: roots of squares -/
end Go.Proofs.YtmpcikkimcehnaaGreatDoor

namespace Go.Proofs.YtmpcikkimcehnaaGreatDoor
open Go.RowKit Sp
set_option linter.unusedSimpArgs false

end Go.Proofs.YtmpcikkimcehnaaGreatDoor

namespace Go.Proofs.YtmpcikkimcehnaaGreatDoor
open Go.RowKit Sp

section
variable {W : World} {v s : Bool} {a : Option Addr} {n cap : Nat} {e : Int} {d : Option (Int × Int)}
end

/-- the value that a dyad reads as -/
theorem frd {P : Program} {f : FuncId} {args : Array Value} {W : World} {d : Option (Int × Int)} (hd : IsN d) (h : Calls P f args W (RetDy W d)) :
    Calls P f args W fun e w' => ∃ a c, e = .returned (.agg #[.bool (dbad d), .bool (decide (dman d < 0)), .slice a (nl (dman d).natAbs) c, .int .i64 (dexp d)]) ∧
      DI w' (dbad d) (decide (dman d < 0)) a (nl (dman d).natAbs) c (dexp d) d ∧ From W w' :=
  h.mono fun _ _ ⟨a, c, he, hm, hb, _⟩ => ⟨a, c, he, ⟨dyin_of hd hm⟩, ⟨hb⟩⟩

end Go.Proofs.YtmpcikkimcehnaaGreatDoor

namespace Go.Proofs.YtmpcikkimcehnaaGreatDoor
open Go.RowKit Sp

end Go.Proofs.YtmpcikkimcehnaaGreatDoor

namespace Go.Proofs.YtmpcikkimcehnaaGreatDoor
open Go.RowKit Sp

set_option maxRecDepth 100000 in
set_option maxHeartbeats 2000000 in
theorem dneg_bad (w : World) (bd s : Bool) (a : Option Addr) (n cap : Nat) (e : Int) (hx : DyIn w bd s a n cap e none) (hT : Tab w) :
    Calls Tryz.prog 56 #[.agg #[.bool bd, .bool s, .slice a n cap, .int .i64 e]] w (RetDy w none) := by
  have e2 : ¬ w.heap.size + 1 = w.heap.size := by omega
  have HN := fun W h ht => Lib.hid (@norm_v W bd s a n cap e none h ht true 0 0 rfl rfl rfl)
  go_enter Tryz.func56, Tryz.ntmps56
  go_wp2_with fail
  refine (HN _ (hx.below zbh) (hT.below zbh)).out.mono ?_
  rintro e w1 ⟨a1, c1, rfl, hm1, hb, hf1⟩
  obtain ⟨hc1, hz1⟩ := bcell (hb.mono (show w.heap.size + 2 ≤ _ by simp))
  have hbw := below_box (w := w) zbh hb
  go_wp2_with fail
  refine bodyPost_ret (v := .agg #[.bool true, .bool false, .slice a1 (nl 0) c1, .int .i64 0]) (by simp only [results, Tryz.results56]; go_simp) rfl ?_
  exact ⟨a1, c1, rfl, Mag.empty _ _ _ hm1.lim, (have := Beh.mk hbw; zbh), nl0⟩

set_option maxRecDepth 100000 in
set_option maxHeartbeats 2000000 in
theorem dneg_ok (w : World) (bd s : Bool) (a : Option Addr) (n cap : Nat) (e z f y : Int) (hx : DyIn w bd s a n cap e (some (z, f))) (hT : Tab w) (hy : y = -z) :
    Calls Tryz.prog 56 #[.agg #[.bool bd, .bool s, .slice a n cap, .int .i64 e]] w (RetDy w (some (y, f))) := by
  have e2 : ¬ w.heap.size + 1 = w.heap.size := by omega
  have hl := nl_lim (Nat.le_trans (isN_bounds hx.isN).1 (by omega))
  have HN := fun W h ht => Lib.hid (@norm_v W bd s a n cap e (some (z, f)) h ht false z f rfl rfl rfl)
  have HG := fun W b c h => Lib.hid (neg_z W b c z y hy h hl)
  clear hy
  go_enter Tryz.func56, Tryz.ntmps56
  go_wp2_with fail
  refine (HN _ (hx.below zbh) (hT.below zbh)).out.mono ?_
  rintro e w1 ⟨a1, c1, rfl, hm1, hb, hf1⟩
  obtain ⟨hc1, hz1⟩ := bcell (hb.mono (show w.heap.size + 2 ≤ _ by simp))
  have hg1 : w.heap.size + 2 ≤ w1.heap.size := by have := hb.size; simpa using this
  have hfr1 : 0 < nl z.natAbs → w.heap.size + 2 ≤ ab a1 := fun h => by have := hf1 h; simpa using this
  have hbw := below_box (w := w) zbh hb
  go_wp2_with fail
  refine (HG _ a1 c1 (by repeat (with_reducible first | refine Mag.set ?_ (fun h => by have := hfr1 h; omega) _ _ | refine Mag.drew ?_ | refine Mag.alloc ?_ _ | refine Mag.drewN ?_ _ | refine Mag.below ?_ (Below.drew (Below.refl _ _)) | refine Mag.below ?_ ((Below.refl _ _).alloc (Nat.le_refl _) _) | exact hm1))).out.mono ?_
  rintro e w2 ⟨a2, c2, rfl, hm2, hb2, hf2⟩
  obtain ⟨hc2, hz2⟩ := bcell (hb2.mono (show w.heap.size + 2 ≤ _ by simpa using hg1))
  have hfr2 : 0 < nl y.natAbs → w.heap.size + 2 ≤ ab a2 := fun h => by have := hf2 h; simp at this; omega
  have hbw2 := below_box (w := w) (have := Beh.mk hbw; zbh) hb2
  clear hbw
  have hbw := hbw2
  go_wp2_with fail
  refine bodyPost_ret (v := .agg #[.bool false, .bool (decide (y < 0)), .slice a2 (nl y.natAbs) c2, .int .i64 f]) (by simp only [results, Tryz.results56]; go_simp) rfl ?_
  exact ret_dy false y f rfl rfl rfl (by repeat (with_reducible first | refine Mag.set ?_ (fun h => by have := hfr2 h; omega) _ _ | refine Mag.drew ?_ | refine Mag.alloc ?_ _ | refine Mag.drewN ?_ _ | refine Mag.below ?_ (Below.drew (Below.refl _ _)) | refine Mag.below ?_ ((Below.refl _ _).alloc (Nat.le_refl _) _) | exact hm2)) (have := Beh.mk hbw; zbh) (fun h => by have := hfr2 h; omega)

theorem dneg_any (w : World) (bd s : Bool) (a : Option Addr) (n cap : Nat) (e : Int) (d : Option (Int × Int)) (hx : DyIn w bd s a n cap e d) (hT : Tab w) :
    Calls Tryz.prog 56 #[.agg #[.bool bd, .bool s, .slice a n cap, .int .i64 e]] w (RetDy w (dneg d)) := by
  rcases d with _ | ⟨z, f⟩
  · exact dneg_bad w bd s a n cap e hx hT
  · exact dneg_ok w bd s a n cap e z f _ hx hT rfl

end Go.Proofs.YtmpcikkimcehnaaGreatDoor

namespace Go.Proofs.YtmpcikkimcehnaaGreatDoor
open Go.RowKit Sp

end Go.Proofs.YtmpcikkimcehnaaGreatDoor

namespace Go.Proofs.YtmpcikkimcehnaaGreatDoor
open Go.RowKit Sp

set_option maxRecDepth 100000 in
set_option maxHeartbeats 2000000 in
theorem dcmp_bad (w : World) (bd s bd' s' : Bool) (a a' : Option Addr) (n n' cap cap' : Nat) (e e' : Int) (d d' : Option (Int × Int)) (hx : DyIn w bd s a n cap e d) (hy : DyIn w bd' s' a' n' cap' e' d') (hT : Tab w) (hk : (!dbad d && !dbad d') = false) :
    Calls Tryz.prog 57 #[.agg #[.bool bd, .bool s, .slice a n cap, .int .i64 e], .agg #[.bool bd', .bool s', .slice a' n' cap', .int .i64 e']] w fun o w' => o = .returned (.tuple #[.int .i64 0, .bool false]) ∧ Below w.heap.size w w' := by
  have HN := fun W hx hy ht => Lib.hid (@two_v W bd s bd' s' a a' n n' cap cap' e e' d d' hx hy ht _ _ _ rfl rfl rfl _ _ _ rfl rfl rfl false hk)
  generalize dbad d = b at HN
  generalize dman d = z at HN
  generalize dexp d = f at HN
  generalize dbad d' = b' at HN
  generalize dman d' = z' at HN
  generalize dexp d' = f' at HN
  clear hk
  have e1 : ¬ w.heap.size + 1 = w.heap.size := by omega
  have l2 : w.heap.size < w.heap.size + 1 + 1 := by omega
  have k2 : ¬ w.heap.size = w.heap.size + 1 + 1 := by omega
  go_enter Tryz.func57, Tryz.ntmps57
  go_wp2_with fail
  refine (HN _ (hx.below zbh) (hy.below zbh) (hT.below zbh)).out.mono ?_
  rintro e w1 ⟨a1, c1, a2, c2, rfl, hm1, hm2, hb, hf1, hf2⟩
  obtain ⟨hc1, hz1⟩ := bcell (hb.mono (show w.heap.size + 2 ≤ _ by simp))
  have hg1 : w.heap.size + 2 ≤ w1.heap.size := by have := hb.size; simpa using this
  have hbw := below_box (w := w) zbh hb
  go_wp2_with fail
  refine bodyPost_ret2 (v := .tuple #[.int .i64 0, .bool false]) (by simp only [results, Tryz.results57]; go_simp) rfl ?_
  exact ⟨rfl, (have := Beh.mk hbw; zbh)⟩

set_option maxRecDepth 100000 in
set_option maxHeartbeats 2000000 in
theorem dcmp_ok (w : World) (bd s bd' s' : Bool) (a a' : Option Addr) (n n' cap cap' : Nat) (e e' : Int) (z f z' f' : Int) (hx : DyIn w bd s a n cap e (some (z, f))) (hy : DyIn w bd' s' a' n' cap' e' (some (z', f'))) (hT : Tab w) :
    Calls Tryz.prog 57 #[.agg #[.bool bd, .bool s, .slice a n cap, .int .i64 e], .agg #[.bool bd', .bool s', .slice a' n' cap', .int .i64 e']] w fun o w' => o = .returned (.tuple #[.int .i64 (cmpI (up z f (min f f')) (up z' f' (min f f'))), .bool true]) ∧ Below w.heap.size w w' := by
  have HN := fun W hx hy ht => Lib.hid (@two_v W bd s bd' s' a a' n n' cap cap' e e' (some (z, f)) (some (z', f')) hx hy ht false z f rfl rfl rfl false z' f' rfl rfl rfl true rfl)
  obtain ⟨hb0, hf0, hf1⟩ := isN_bounds hx.isN
  obtain ⟨hb0', hf0', hf1'⟩ := isN_bounds hy.isN
  simp only [dman, dexp, Option.getD_some] at hb0 hf0 hf1 hb0' hf0' hf1'
  have hl := nl_lim (Nat.le_trans hb0 (by omega))
  have hl' := nl_lim (Nat.le_trans hb0' (by omega))
  have HA := fun W b c b' c' h h' => Lib.hid (aligned_any W false false b b' c c' z z' f f' h h' hl hl' (by omega) (by omega) (by omega) (by omega))
  have hx0 : blen (up z f (min f f')).natAbs ≤ 262144 := blen_up_le (by omega) (by omega)
  have hy0 : blen (up z' f' (min f f')).natAbs ≤ 262144 := blen_up_le (by omega) (by omega)
  have hE0 : -65536 ≤ min f f' ∧ min f f' ≤ 65536 := by omega
  generalize up z f (min f f') = x at HA hx0 ⊢
  generalize up z' f' (min f f') = y at HA hy0 ⊢
  generalize min f f' = E at HA hE0 ⊢
  have hlx := nl_lim (Nat.le_trans hx0 (by omega))
  have hly := nl_lim (Nat.le_trans hy0 (by omega))
  have HC := fun W b c b' c' h h' => Lib.hid (cmp_z W b b' c c' x y _ rfl h h')
  generalize cmpI x y = v at HC ⊢
  have e1 : ¬ w.heap.size + 1 = w.heap.size := by omega
  have l2 : w.heap.size < w.heap.size + 1 + 1 := by omega
  have k2 : ¬ w.heap.size = w.heap.size + 1 + 1 := by omega
  clear hb0 hf0 hf1 hb0' hf0' hf1'
  go_enter Tryz.func57, Tryz.ntmps57
  go_wp2_with fail
  refine (HN _ (hx.below zbh) (hy.below zbh) (hT.below zbh)).out.mono ?_
  rintro e w1 ⟨a1, c1, a2, c2, rfl, hm1, hm2, hb, hf1, hf2⟩
  obtain ⟨hc1, hz1⟩ := bcell (hb.mono (show w.heap.size + 2 ≤ _ by simp))
  have hg1 : w.heap.size + 2 ≤ w1.heap.size := by have := hb.size; simpa using this
  have hfr1 : 0 < nl z.natAbs → w.heap.size + 2 ≤ ab a1 := fun h => by have := hf1 h; simpa using this
  have hfr2 : 0 < nl z'.natAbs → w.heap.size + 2 ≤ ab a2 := fun h => by have := hf2 h; simpa using this
  have hbw := below_box (w := w) zbh hb
  go_wp2_with fail
  refine (HA _ a1 c1 a2 c2 (by repeat (with_reducible first | refine Mag.set ?_ (fun h => by have := hfr1 h; omega) _ _ | refine Mag.drew ?_ | refine Mag.alloc ?_ _ | refine Mag.drewN ?_ _ | refine Mag.below ?_ (Below.drew (Below.refl _ _)) | refine Mag.below ?_ ((Below.refl _ _).alloc (Nat.le_refl _) _) | exact hm1)) (by repeat (with_reducible first | refine Mag.set ?_ (fun h => by have := hfr2 h; omega) _ _ | refine Mag.drew ?_ | refine Mag.alloc ?_ _ | refine Mag.drewN ?_ _ | refine Mag.below ?_ (Below.drew (Below.refl _ _)) | refine Mag.below ?_ ((Below.refl _ _).alloc (Nat.le_refl _) _) | exact hm2))).out.mono ?_
  rintro e w2 ⟨a3, c3, a4, c4, rfl, hm3, hm4, hb2, hf3, hf4⟩
  obtain ⟨hc2, hz2⟩ := bcell (hb2.mono (show w.heap.size + 2 ≤ _ by simpa using hg1))
  have hg2 : w.heap.size + 2 ≤ w2.heap.size := by have := hb2.size; simp at this; omega
  have hbw2 := below_box (w := w) (have := Beh.mk hbw; zbh) hb2
  clear hbw
  have hbw := hbw2
  obtain ⟨o01, o02, o03, o04, o05, o06, o07, o08, o09, o10, o11, o12, o13, o14, o15, o16, o17, o18, o19, o20, o21, o22, o23, o24, o25, o26⟩ := old2' hg2
  have hm3' := hm3
  go_wp2_with fail
  refine (HC _ a3 c3 a4 c4 (Mag.below hm3 zbh) (Mag.below hm4 zbh)).out.mono ?_
  rintro e w3 ⟨rfl, hb3⟩
  have hbw3 := below_box (w := w) (have := Beh.mk hbw; zbh) hb3
  clear hbw
  have hbw := hbw3
  go_wp2_with fail
  refine bodyPost_ret2 (v := .tuple #[.int .i64 v, .bool true]) (by simp only [results, Tryz.results57]; go_simp) rfl ?_
  exact ⟨rfl, (have := Beh.mk hbw; zbh)⟩

theorem dcmp_any (w : World) (bd s bd' s' : Bool) (a a' : Option Addr) (n n' cap cap' : Nat) (e e' : Int) (d d' : Option (Int × Int)) (hx : DyIn w bd s a n cap e d) (hy : DyIn w bd' s' a' n' cap' e' d') (hT : Tab w) :
    Calls Tryz.prog 57 #[.agg #[.bool bd, .bool s, .slice a n cap, .int .i64 e], .agg #[.bool bd', .bool s', .slice a' n' cap', .int .i64 e']] w fun o w' => o = .returned (.tuple #[.int .i64 (dcmp d d'), .bool (!dbad d && !dbad d')]) ∧ Below w.heap.size w w' := by
  rcases d with _ | ⟨z, f⟩
  · exact dcmp_bad w bd s bd' s' a a' n n' cap cap' e e' _ _ hx hy hT rfl
  · rcases d' with _ | ⟨z', f'⟩
    · exact dcmp_bad w bd s bd' s' a a' n n' cap cap' e e' _ _ hx hy hT rfl
    · exact dcmp_ok w bd s bd' s' a a' n n' cap cap' e e' z f z' f' hx hy hT

end Go.Proofs.YtmpcikkimcehnaaGreatDoor

namespace Go.Proofs.YtmpcikkimcehnaaGreatDoor
open Go.RowKit Sp

set_option maxRecDepth 100000 in
set_option maxHeartbeats 2000000 in
theorem dsub_any (w : World) (bd s bd' s' : Bool) (a a' : Option Addr) (n n' cap cap' : Nat) (e e' : Int) (d d' : Option (Int × Int)) (hx : DyIn w bd s a n cap e d) (hy : DyIn w bd' s' a' n' cap' e' d') (hT : Tab w) :
    Calls Tryz.prog 108 #[.agg #[.bool bd, .bool s, .slice a n cap, .int .i64 e], .agg #[.bool bd', .bool s', .slice a' n' cap', .int .i64 e']] w (RetDy w (dsub d d')) := by
  have HN := fun W h ht => Lib.hid (dneg_any W bd' s' a' n' cap' e' d' h ht)
  have hny : IsN (dneg d') := isN_neg hy.isN
  unfold dsub
  generalize dneg d' = g at HN hny ⊢
  have HA := fun W b c hx hm ht => Lib.hid (dadd_any W bd s (dbad g) (decide (dman g < 0)) a b n _ cap c e (dexp g) d g hx (dyin_of hny hm) ht)
  generalize dadd d g = v at HA ⊢
  have e1 : ¬ w.heap.size + 1 = w.heap.size := by omega
  have e2 : ¬ w.heap.size + 1 + 1 = w.heap.size := by omega
  have l2 : w.heap.size < w.heap.size + 1 + 1 := by omega
  go_enter Tryz.func108, Tryz.ntmps108
  go_wp2_with fail
  go_region_held3 (fun w' => w'.cell? ⟨w.heap.size, 0, none⟩ = some (.bool bd) ∧ w'.cell? ⟨w.heap.size, 1, none⟩ = some (.bool s) ∧ w'.cell? ⟨w.heap.size, 2, none⟩ = some (.slice a n cap) ∧ w'.cell? ⟨w.heap.size, 3, none⟩ = some (.int .i64 e)
      ∧ w'.cell? ⟨w.heap.size + 1, 0, none⟩ = some (.bool bd') ∧ w'.cell? ⟨w.heap.size + 1, 1, none⟩ = some (.bool s') ∧ w'.cell? ⟨w.heap.size + 1, 2, none⟩ = some (.slice a' n' cap') ∧ w'.cell? ⟨w.heap.size + 1, 3, none⟩ = some (.int .i64 e')) (first | (go_keep; done) | (go_simp; done))
    (first
      | (go_at_call 56; refine (HN _ (hy.below zbh) (hT.below zbh)).out.mono ?_; rintro e w1 ⟨a1, c1, rfl, hm1, hb1, hf1⟩; obtain ⟨hc1, hz1⟩ := bcell (hb1.mono (show w.heap.size + 3 ≤ _ by simp)); have hg1 : w.heap.size + 3 ≤ w1.heap.size := (by have := hb1.size; simpa using this); have hbw := below_box (w := w) zbh hb1)
      | (go_at_call 40; refine (HA _ a1 c1 (hx.below (have := Beh.mk hbw; zbh)) (Mag.below hm1 zbh) (hT.below (have := Beh.mk hbw; zbh))).out.mono ?_; rintro e w2 ⟨a2, c2, rfl, hm2, hb2, hf2⟩; obtain ⟨hc2, hz2⟩ := bcell (hb2.mono (show w.heap.size + 3 ≤ _ by simpa using hg1))))
  have hfr2 : 0 < nl (dman v).natAbs → w.heap.size + 3 ≤ ab a2 := fun h => by have := hf2 h; (try simp at this); omega
  have hbw2 := below_box (w := w) (have := Beh.mk hbw; zbh) hb2
  clear hbw
  have hbw := hbw2
  go_wp2_with fail
  refine bodyPost_ret (v := .agg #[.bool (dbad v), .bool (decide (dman v < 0)), .slice a2 (nl (dman v).natAbs) c2, .int .i64 (dexp v)]) (by simp only [results, Tryz.results108]; go_simp) rfl ?_
  exact ⟨a2, c2, rfl, (by repeat (with_reducible first | refine Mag.set ?_ (fun h => by have := hfr2 h; omega) _ _ | refine Mag.drew ?_ | refine Mag.alloc ?_ _ | refine Mag.drewN ?_ _ | refine Mag.below ?_ (Below.drew (Below.refl _ _)) | refine Mag.below ?_ ((Below.refl _ _).alloc (Nat.le_refl _) _) | exact hm2)), (have := Beh.mk hbw; zbh), fun h => by have := hfr2 h; omega⟩

end Go.Proofs.YtmpcikkimcehnaaGreatDoor

namespace Go.Proofs.YtmpcikkimcehnaaGreatDoor
open Go.RowKit Sp
set_option linter.unusedSimpArgs false

section
variable {W : World} {v s : Bool} {a : Option Addr} {n cap : Nat} {e : Int} {d : Option (Int × Int)}
end
attribute [local irreducible] Calls

section
variable {P : Program} {md : Region.Mode} {ops : Array Oper} {Q : Exit → Act → World → Prop} {S : World → Prop} {fuel : Nat} {listed : Array Bool} {a : Act} {w : World}
end

set_option maxRecDepth 100000 in
set_option maxHeartbeats 8000000 in
theorem within_any (w : World) [ht : Tb w] (f : Nat) (a : Nat) (b : Nat) (hf : f < 18446744073709551616) (ha : a < 18446744073709551616) (hb : b < 18446744073709551616) : Calls Tryz.prog 62 #[.int .u64 (f : Nat), .agg #[.int .u64 (a : Nat), .int .u64 (b : Nat)]] w fun e w' => e = .returned (.bool (iwithin f (a, b))) ∧ Below w.heap.size w w' := by
  rw [← rcont_fof (x := (a, b)) ⟨ha, hb⟩ hf]
  have HA := fun W [Tb W] => Lib.hid (frs (isN_fof f) (r3of_any W f hf tb))
  have HC := fun W A1 C1 [i1 : DS W (dbad (fof f)) (decide (dman (fof f) < 0)) A1 (nl (dman (fof f)).natAbs) C1 (dexp (fof f)) (fof f)] [Tb W] => Lib.hid (frm (rcontains_any W a b ha hb _ _ A1 _ C1 _ (fof f) (hx := i1)))
  generalize rcont (a, b) (fof f) = k at *
  generalize fof f = d at *
  generalize ((f : Nat) : Int) = z at *
  generalize ((a : Nat) : Int) = p at *
  generalize ((b : Nat) : Int) = q at *
  go_enter Tryz.func62, Tryz.ntmps62
  go_wp2_with fail
  first
  | go_region_held3 (fun w' => w'.cell? ⟨w.heap.size, 0, none⟩ = some (.int .u64 p) ∧ w'.cell? ⟨w.heap.size, 1, none⟩ = some (.int .u64 q)) (first | (go_simp; done))
      (first
        | (go_at_call 86; refine (HA _).out.mono ?_; rintro o w1 ⟨A1, C1, rfl, i1, b1⟩)
        | (go_at_call 115; refine (HC _ _ _).out.mono ?_; rintro o w2 ⟨rfl, b2⟩)
        | fail)
  | fail "region"
  all_goals (
    go_wp2_with fail
    go_ret
    exact ⟨rfl, zbh⟩)

end Go.Proofs.YtmpcikkimcehnaaGreatDoor

namespace Go.Proofs.YtmpcikkimcehnaaGreatDoor
open Go.RowKit Sp
set_option linter.unusedSimpArgs false

attribute [local irreducible] Calls
theorem dvalid_in (w : World) (v s : Bool) (A : Option Addr) (n c : Nat) (e : Int) (d : Option (Int × Int)) (hx : DyIn w v s A n c e d) (hT : Tab w) : Calls Tryz.prog 144 #[.agg #[.bool v, .bool s, .slice A n c, .int .i64 e]] w fun e w' => e = .returned (.bool (!dbad d)) ∧ Below w.heap.size w w' := by
  obtain ⟨x, h1, h2, h3, h4, h5, h6⟩ := hx
  have := dvalid_any w v s A n c x e h1 h2 hT h3 (tz_lim h3) h4 h5
  rwa [h6] at this

set_option maxRecDepth 100000 in
set_option maxHeartbeats 8000000 in
theorem iabove_any (w : World) (g : Nat) (a : Nat) (ha : a < 18446744073709551616) (v s : Bool) (A : Option Addr) (n c : Nat) (e : Int) (d : Option (Int × Int)) [ht : Tb w] [hg : DB w g v s (.slice A n c) e] [hd : DI w v s A n c e d] :
    Calls Tryz.prog 209 #[.int .u64 (a : Nat), .pointer (some ⟨g, 0, none⟩)] w fun e w' => e = .returned (.int .i64 (dcmp (fof a) d)) ∧ Below w.heap.size w w' := by
  have HA := fun W [Tb W] => Lib.hid (frd (isN_fof a) (fof_any W a ha tb))
  have HC := fun W a1 c1 [i1 : DI W (dbad (fof a)) (decide (dman (fof a) < 0)) a1 (nl (dman (fof a)).natAbs) c1 (dexp (fof a)) (fof a)] [i2 : DI W v s A n c e d] [Tb W] => Lib.hid (frm (dcmp_any W _ _ _ _ _ _ _ _ _ _ _ _ (fof a) d i1.out i2.out tb))
  generalize fof a = d1 at *
  generalize dcmp d1 d = u at *
  generalize (!dbad d1 && !dbad d) = u' at *
  generalize ((a : Nat) : Int) = p at *
  go_enter Tryz.func209, Tryz.ntmps209
  go_wp2_with fail
  first
  | go_region_held3 (fun w' => w'.cell? ⟨g, 0, none⟩ = some (.bool v) ∧ w'.cell? ⟨g, 1, none⟩ = some (.bool s) ∧ w'.cell? ⟨g, 2, none⟩ = some (.slice A n c) ∧ w'.cell? ⟨g, 3, none⟩ = some (.int .i64 e)) (first | (go_simp; done))
      (first
        | (go_at_call 41; refine (HA _).out.mono ?_; rintro e w1 ⟨a1, c1, rfl, i1, b1⟩)
        | (go_at_call 57; refine (HC _ _ _).out.mono ?_; rintro e w2 ⟨rfl, b2⟩)
        | fail)
  | fail "region"
  all_goals (
    go_wp2_with fail
    go_ret
    exact ⟨rfl, zbh⟩)

set_option maxRecDepth 100000 in
set_option maxHeartbeats 8000000 in
theorem icont_any (w : World) (hT : Tab w) (a : Nat) (b : Nat) (ha : a < 18446744073709551616) (hb : b < 18446744073709551616) (v s : Bool) (A : Option Addr) (n c : Nat) (e : Int) (d : Option (Int × Int)) (hx : DyIn w v s A n c e d) :
    Calls Tryz.prog 107 #[.agg #[.int .u64 (a : Nat), .int .u64 (b : Nat)], .agg #[.bool v, .bool s, .slice A n c, .int .i64 e]] w fun e w' => e = .returned (.bool (icont (a, b) d)) ∧ Below w.heap.size w w' := by
  have hmf : ∀ (fn : Fn) (first cap : Array Value) (w : World), (Instr.makeFunc fn first cap).run Tryz.prog w = .ok (.func fn first cap) w := fun _ _ _ _ => rfl
  have HT : Tb w := ⟨hT⟩
  have HX : DI w v s A n c e d := ⟨hx⟩
  clear hx
  have H1 := fun W => Lib.hid (frm (ivalid_any W a b ha hb))
  have H2 := fun W [i1 : DI W v s A n c e d] [Tb W] => Lib.hid (frm (dvalid_in W v s A n c e d i1.out tb))
  have H3 := fun W g [Tb W] [DB W g v s (.slice A n c) e] [DI W v s A n c e d] => Lib.hid (frm (iabove_any W g a ha v s A n c e d))
  have H4 := fun W g [Tb W] [DB W g v s (.slice A n c) e] [DI W v s A n c e d] => Lib.hid (frm (iabove_any W g b hb v s A n c e d))
  have e1 := beq_nat a fNInf 18442240474082181120 (by decide)
  have e2 := beq_nat b fInf 9218868437227405312 (by decide)
  show Calls _ _ _ _ fun e w' => e = .returned (.bool (iok (a, b) && !dbad d && (decide (a = fNInf) || decide (dcmp (fof a) d ≤ 0)) && (decide (b = fInf) || decide (0 ≤ dcmp (fof b) d)))) ∧ Below w.heap.size w w'
  rw [← e1, ← e2]
  clear e1 e2
  generalize iok (a, b) = k1 at *
  generalize (!dbad d) = k2 at *
  generalize dcmp (fof a) d = u1 at *
  generalize dcmp (fof b) d = u2 at *
  generalize ((a : Nat) : Int) = p at *
  generalize ((b : Nat) : Int) = q at *
  cases k1
  · skip
    go_enter Tryz.func107, Tryz.ntmps107
    go_wp2_with fail
    refine (H1 _).out.mono ?_
    rintro e w1 ⟨rfl, b1⟩
    go_wp2_with fail
    go_ret
    exact ⟨rfl, zbh⟩
  · cases k2
    · skip
      go_enter Tryz.func107, Tryz.ntmps107
      go_wp2_with fail
      refine (H1 _).out.mono ?_
      rintro e w1 ⟨rfl, b1⟩
      go_wp2_with fail
      refine (H2 _).out.mono ?_
      rintro e w2 ⟨rfl, b2⟩
      go_wp2_with fail
      go_ret
      exact ⟨rfl, zbh⟩
    · rcases two_ways (p == 18442240474082181120) with hp | hp <;> rcases two_ways (q == 9218868437227405312) with hq | hq <;> rcases two_ways (decide (u1 ≤ 0)) with hu | hu
      all_goals (
        rw [hp, hq, hu]
        simp only [decide_eq_true_eq, decide_eq_false_iff_not, beq_iff_eq, beq_eq_false_iff_ne, ne_eq] at hp hq hu
        (try subst hp)
        (try subst hq)
        go_enter Tryz.func107, Tryz.ntmps107
        go_wp2_with fail
        refine (H1 _).out.mono ?_
        rintro e' w1 ⟨rfl, b1⟩
        go_wp2_with fail
        refine (H2 _).out.mono ?_
        rintro e' w2 ⟨rfl, b2⟩
        go_wp2_with fail
        (try (refine (H3 _ _).out.mono ?_; rintro e' w3 ⟨rfl, b3⟩; go_wp2_with fail))
        (try (refine (H4 _ _).out.mono ?_; rintro e' w4 ⟨rfl, b4⟩; go_wp2_with fail))
        go_ret
        first | exact ⟨rfl, zbh⟩ | (refine ⟨?_, zbh⟩; simp; done) | (refine ⟨?_, zbh⟩; simp [hp]; done) | (refine ⟨?_, zbh⟩; simp [hq]; done) | (refine ⟨?_, zbh⟩; simp [hp, hq]; done) | (refine ⟨?_, zbh⟩; simp [hu]; done) | (refine ⟨?_, zbh⟩; simp [hp, hu]; done) | (refine ⟨?_, zbh⟩; simp [hq, hu]; done) | (refine ⟨?_, zbh⟩; simp [hp, hq, hu]; done))

end Go.Proofs.YtmpcikkimcehnaaGreatDoor


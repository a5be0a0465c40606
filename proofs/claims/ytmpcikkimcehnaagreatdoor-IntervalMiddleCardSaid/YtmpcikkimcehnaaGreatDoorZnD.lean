/-
  What the laws need beyond the slice Zi.
-/
import Derived.WalkKit
import Derived.Lib.Hide
import Derived.Deep.QuietTactic
import Derived.Laws.CopyOwn
import Derived.WalkLawsBesides
import Derived.WalkSpells
import Derived.BigQuiet
import Derived.Lib.Strings
import Derived.Lib.Slices
import Derived.Lib.Small
import Derived.Lib.Walk
import Derived.Lib.BitFns
import Derived.Deep.DeepCutAuto
import Derived.Deep.CutBlock
import Derived.Deep.LoopGhost
import Derived.Deep.RegionHeld3
import Derived.Deep.RegionWith
import Derived.Laws.EntriesVeiled
import Derived.ProofKit
import Derived.OpenShut
import Derived.Carry
import Derived.Laws.LoneSync
import Derived.Deep.DeepHandedRow
import Derived.Lib.LaidTab
import Derived.Maps.AppendAt
import Derived.Deep.AppendLies
import Derived.Test.YtmpcikkimcehnaaGreatDoorZiBa
import Derived.Test.YtmpcikkimcehnaaGreatDoorZiBb
import Derived.Test.YtmpcikkimcehnaaGreatDoorZiBc
import Derived.Test.YtmpcikkimcehnaaGreatDoorZiBd
import Derived.Test.YtmpcikkimcehnaaGreatDoorZiBe
import Derived.Test.YtmpcikkimcehnaaGreatDoorZiBf
import Derived.Test.YtmpcikkimcehnaaGreatDoorZiBL
import Derived.Test.YtmpcikkimcehnaaGreatDoorZiFP
import Derived.Test.YtmpcikkimcehnaaGreatDoorZiGa
import Derived.Test.YtmpcikkimcehnaaGreatDoorZiGc
import Derived.Test.YtmpcikkimcehnaaGreatDoorZiIP
import Derived.Test.YtmpcikkimcehnaaGreatDoorZiJA
import Derived.Test.YtmpcikkimcehnaaGreatDoorZiJc
import Derived.Test.YtmpcikkimcehnaaGreatDoorZiRd
import Derived.Test.YtmpcikkimcehnaaGreatDoorZiRe
import Derived.Test.YtmpcikkimcehnaaGreatDoorZiRk
import Derived.Test.YtmpcikkimcehnaaGreatDoorZiRq
import Derived.Test.YtmpcikkimcehnaaGreatDoorZiRm
import Derived.Test.YtmpcikkimcehnaaGreatDoorZiGi
import Derived.Test.YtmpcikkimcehnaaGreatDoorZiBg
import Derived.Test.YtmpcikkimcehnaaGreatDoorZiGo
import Derived.Test.YtmpcikkimcehnaaGreatDoorZiRt
import Derived.Test.YtmpcikkimcehnaaGreatDoorZiRu
import Derived.Test.YtmpcikkimcehnaaGreatDoorZiRa
import Derived.Test.YtmpcikkimcehnaaGreatDoorZiBh
import Derived.Test.YtmpcikkimcehnaaGreatDoorZiGr
import Derived.Test.YtmpcikkimcehnaaGreatDoorZiS3
import Derived.Test.YtmpcikkimcehnaaGreatDoorZiRva
import Derived.Test.YtmpcikkimcehnaaGreatDoorZiRv
import Derived.Test.YtmpcikkimcehnaaGreatDoorZiJg
import Derived.Test.YtmpcikkimcehnaaGreatDoorZiGq
import Derived.Test.YtmpcikkimcehnaaGreatDoorZiGs
import Derived.Test.YtmpcikkimcehnaaGreatDoorZiRat
import Derived.Test.YtmpcikkimcehnaaGreatDoorZiGm
import Derived.Test.YtmpcikkimcehnaaGreatDoorZiSqt
import Derived.Test.YtmpcikkimcehnaaGreatDoorZiOpen
import Derived.Test.YtmpcikkimcehnaaGreatDoorZiDys
import Derived.Test.YtmpcikkimcehnaaGreatDoorZiSum
import Derived.Test.YtmpcikkimcehnaaGreatDoorZiKA
import Derived.Test.YtmpcikkimcehnaaGreatDoorZiOpenF
import Derived.Test.YtmpcikkimcehnaaGreatDoorZiPFa
import Derived.Test.YtmpcikkimcehnaaGreatDoorZiPFb
import Derived.Test.YtmpcikkimcehnaaGreatDoorZiPFc
namespace Sp
/-! ### setd: a limb put in another's place -/
/-! ### nl: how many limbs -/
/-! ### sums -/
/-! ### differences: y + d = x. The borrow is the carry of y + d. -/
/-! ### products -/
/-! ### shifts -/
/-! ### division by one limb, from above -/
/-! ### the lower bits of a number -/
/-! ### order -/
end Sp
namespace Sp
/-! ### square roots: Newton's method from above -/
/-! ### zeros at the end -/
/-! ### the machine's trick for one limb: x and -x have one bit in common -/
end Sp
namespace Sp
open Go Go.RowKit
theorem Mag.empty (w : World) (a : Option Addr) (cap : Nat) (h : cap ≤ 9223372036854775807) : Mag w a 0 cap 0 := ⟨by simp, Nat.zero_le _, h, by omega, by omega, by omega⟩
/-! ### A row of the call's own: block g, n limbs -/
/-! ### A list that grows by append: its first k limbs are those of z -/
/-! ### Calls that only read (and may draw), inside a region that draws its order -/
section
variable {P : Program} {f : FuncId} {args : Array Value} {w : World} {v : Value}
end
/-! ### bits of 64 -/
/-! ### Only block g has turned -/
/-! ### make -/
section
variable {P : Program} (t e : TypeId)
end
/-! ### append of one limb to a list of the call's own -/
/-! ### What nothing of turned, found by instances -/
theorem Mag.on {w w' : World} {a : Option Addr} {n cap x : Nat} (h : Mag w a n cap x) [b : Beh w w'] : Mag w' a n cap x := h.below b.out
end Sp
namespace Go.Proofs.YtmpcikkimcehnaaGreatDoor
open Go.RowKit Sp
/-! ### dyads: an integer and an exponent; none: the bad one -/
end Go.Proofs.YtmpcikkimcehnaaGreatDoor
namespace Go.Proofs.YtmpcikkimcehnaaGreatDoor
open Go.RowKit Sp
/-! ### normal dyads -/
theorem isN_some {m e : Int} (h : Okd m e) : IsN (some (m, e)) := fun _ _ h' => by injection h' with h'; injection h' with h1 h2; subst h1 h2; exact h
/-! ### the operations -/
def dneg : Option (Int × Int) → Option (Int × Int)
  | some (m, e) => some (-m, e)
  | none => none
def dsub (a b : Option (Int × Int)) : Option (Int × Int) := dadd a (dneg b)
def dscale : Option (Int × Int) → Int → Option (Int × Int)
  | some (m, e), n => nrm m (e + max (min n 262144) (-262144))
  | none, _ => none
theorem okd_neg {m e : Int} (h : Okd m e) : Okd (-m) e := by
  rcases h with ⟨rfl, rfl⟩ | ⟨h1, h2, h3⟩
  · exact Or.inl ⟨rfl, rfl⟩
  · exact Or.inr ⟨by omega, h2, by rw [Int.natAbs_neg]; exact h3⟩
theorem isN_neg {d : Option (Int × Int)} (h : IsN d) : IsN (dneg d) := by
  cases d with
  | none => exact isN_none
  | some p => obtain ⟨m, e⟩ := p; exact isN_some (okd_neg (h m e rfl))
/-! ### a real number x (and a little more, if more) in units of 2^E, rounded to multiples of 2^q -/
end Go.Proofs.YtmpcikkimcehnaaGreatDoor
namespace Go.Proofs.YtmpcikkimcehnaaGreatDoor
open Go.RowKit Sp
end Go.Proofs.YtmpcikkimcehnaaGreatDoor
namespace Sp
open Go Go.RowKit
end Sp
namespace Go.Proofs.YtmpcikkimcehnaaGreatDoor
open Go.RowKit Sp
theorem ret_dy {w w' : World} {d : Option (Int × Int)} {a : Option Addr} {c : Nat} (b : Bool) (z f : Int) (hb : dbad d = b) (hz : dman d = z) (hf : dexp d = f) (hm : Mag w' a (nl z.natAbs) c z.natAbs) (hw : Below w.heap.size w w') (hfr : 0 < nl z.natAbs → w.heap.size ≤ ab a) :
    RetDy w d (.returned (.agg #[.bool b, .bool (decide (z < 0)), .slice a (nl z.natAbs) c, .int .i64 f])) w' := by
  subst hb hz hf; exact ⟨a, c, rfl, hm, hw, hfr⟩
end Go.Proofs.YtmpcikkimcehnaaGreatDoor
namespace Go.Proofs.YtmpcikkimcehnaaGreatDoor
open Go.RowKit Sp
set_option maxRecDepth 100000 in
set_option maxHeartbeats 2000000 in
theorem dvalid_any (w : World) (bd s : Bool) (a : Option Addr) (n cap x : Nat) (e : Int) (hx : Mag w a n cap x) (hlim : n ≤ 1099511627776) (hT : Tab w) (hB : blen x ≤ 1048576) (hTz : tz x ≤ 1048576) (he0 : -9223372036854775808 ≤ e) (he1 : e ≤ 9223372036854775807) :
    Calls Tryz.prog 144 #[.agg #[.bool bd, .bool s, .slice a n cap, .int .i64 e]] w fun o w' => o = .returned (.bool (!dbad (nrmB bd (sgn s x) e))) ∧ Below w.heap.size w w' := by
  have HN := fun W h ht => Lib.hid (dnorm_any W bd s a n cap x e h hlim ht hB hTz he0 he1)
  obtain ⟨d, hd⟩ : ∃ d, d = nrmB bd (sgn s x) e := ⟨_, rfl⟩
  rw [← hd] at HN ⊢
  clear hd
  go_enter Tryz.func144, Tryz.ntmps144
  go_wp2_with fail
  refine (HN _ (hx.below zbh) (hT.below zbh)).out.mono ?_
  rintro e w1 ⟨a1, c1, rfl, hm1, hb, hf1⟩
  have hbw := below_box (w := w) zbh hb
  go_wp2_with fail
  go_ret
  exact ⟨rfl, (have := Beh.mk hbw; zbh)⟩
end Go.Proofs.YtmpcikkimcehnaaGreatDoor
namespace Go.Proofs.YtmpcikkimcehnaaGreatDoor
open Go.RowKit Sp
end Go.Proofs.YtmpcikkimcehnaaGreatDoor
namespace Go.Proofs.YtmpcikkimcehnaaGreatDoor
open Go.RowKit Sp
/-! ### slim dyads in units of 2^-2000 -/
theorem dneg_nrm (M E : Int) (h : nrm M E ≠ none) : dneg (nrm M E) = nrm (-M) E := by
  cases k : nrm M E with
  | none => exact absurd k h
  | some p =>
    obtain ⟨m, e⟩ := p
    show some (-m, e) = _
    by_cases h0 : M = 0
    · subst h0; rw [nrm_zero] at k; injection k with k; injection k with h1 h2; subst h1 h2; rfl
    · obtain ⟨t, ht, he, _⟩ := nrm_some h0 k
      rw [ht, ← Int.neg_mul, nrm_scale, ← he]
      exact (nrm_self (okd_neg (nrm_ok k))).symm
/-! ### scaling, Log2, Floor -/
/-! ### rounding to nearest and the others -/
/-! ### square roots -/
end Go.Proofs.YtmpcikkimcehnaaGreatDoor
namespace Go.Proofs.YtmpcikkimcehnaaGreatDoor
open Go.RowKit Sp
/-! ### sums in one unit -/
/-! ### values -/
theorem dsub_nrm (M N E : Int) (hM : nrm M E ≠ none) (hN : nrm N E ≠ none) (hN' : nrm (-N) E ≠ none) : dadd (nrm M E) (dneg (nrm N E)) = nrm (M - N) E := by
  rw [dneg_nrm _ _ hN, dadd_nrm _ _ _ hM hN', Int.sub_eq_add_neg]
theorem nrm_neg_valid {M E : Int} (h : nrm M E ≠ none) : nrm (-M) E ≠ none := by
  rw [← dneg_nrm _ _ h]
  cases k : nrm M E with
  | none => exact absurd k h
  | some p => obtain ⟨m, e⟩ := p; exact fun h' => by cases h'
/-! ### AccumResidual -/
/-! ### the norms -/
/-! ### AccumCauchy -/
end Go.Proofs.YtmpcikkimcehnaaGreatDoor
namespace Go.Proofs.YtmpcikkimcehnaaGreatDoor
open Go.RowKit Sp
/-! ### the root of a dyad in units of 2^-2148 -/
/-! ### AccumRoots -/
/-! ### the rounding error of a sum is a float -/
/-! ### awake -/
end Go.Proofs.YtmpcikkimcehnaaGreatDoor
namespace Go.Proofs.YtmpcikkimcehnaaGreatDoor
open Go.RowKit Sp
set_option linter.unusedSimpArgs false
/-! ### what the functions compute -/
def imid (x : Nat × Nat) : Nat :=
  if !iok x then fNaN else if decide (x.1 = fNInf) && decide (x.2 = fInf) then 0 else if decide (x.1 = fNInf) then fneg fMax else if decide (x.2 = fInf) then fMax
  else fclean (fround (dscale (dadd (fof x.1) (fof x.2)) (-1)) 0)
def irad (x : Nat × Nat) : Nat :=
  if !iok x then fNaN else if decide (x.1 = fNInf) || decide (x.2 = fInf) then fInf
  else fmax2 (fround (dadd (fof (imid x)) (dneg (fof x.1))) 2) (fround (dadd (fof x.2) (dneg (fof (imid x)))) 2)
/-! ### bounds of 64 bits -/
/-! ### places -/
/-! ### directed roundings -/
theorem above_dir {M : Int} {g : Nat} (h : nrm M (-1074 - (g : Int)) ≠ none) {f : Nat} (hf : f < 18446744073709551616) (nf : fnan f = false) (hle : fplace (fround (nrm M (-1074 - (g : Int))) 2) ≤ fplace f) :
    f = fInf ∨ (ffin f = true ∧ M ≤ fz f * 2 ^ g) := by
  have d := (fround_dir M g h).2.1
  have n1 := (fround_place M g 2 h).1
  have b := place_bound nf
  by_cases k : fplace f < TT
  · right
    have f1 := fin_of nf (by omega) k
    have f2 := fin_of n1 d.1 (by omega)
    refine ⟨f1, Int.le_trans (d.2 f2) (Int.mul_le_mul_of_nonneg_right (fz_le.2 hle) (Int.le_of_lt (pow2_pos g)))⟩
  · left; exact (place_top hf nf).1 (by omega)
theorem fof_grid {f : Nat} (h : ffin f = true) (g : Nat) : fof f = nrm (fz f * 2 ^ g) (-1074 - (g : Int)) ∧ nrm (fz f * 2 ^ g) (-1074 - (g : Int)) ≠ none := by
  have e : fof f = nrm (fz f * 2 ^ g) (-1074 - (g : Int)) := by rw [nrm_scale, fof_fin h]; congr 1; omega
  exact ⟨e, by rw [← e, fof_fin h]; exact fof_some h⟩
end Go.Proofs.YtmpcikkimcehnaaGreatDoor
namespace Go.Proofs.YtmpcikkimcehnaaGreatDoor
open Go.RowKit Sp
set_option linter.unusedSimpArgs false
/-! ### sums -/
/-! ### products; where there is none it is zero -/
end Go.Proofs.YtmpcikkimcehnaaGreatDoor
namespace Go.Proofs.YtmpcikkimcehnaaGreatDoor
open Go.RowKit Sp
set_option linter.unusedSimpArgs false
/-! ### quotients; where there is none it is zero -/
end Go.Proofs.YtmpcikkimcehnaaGreatDoor
namespace Go.Proofs.YtmpcikkimcehnaaGreatDoor
open Go.RowKit Sp
set_option linter.unusedSimpArgs false
/-! ### results between whose bounds two values lie -/
/-! ### sums -/
/-! ### products -/
/-! ### quotients -/
end Go.Proofs.YtmpcikkimcehnaaGreatDoor
namespace Go.Proofs.YtmpcikkimcehnaaGreatDoor
open Go.RowKit Sp
set_option linter.unusedSimpArgs false
/-! ### absolute values -/
/-! ### squares -/
/-! ### hulls and intersections -/
/-! ### IntervalPoints -/
/-! ### IntervalHolds -/
theorem fcmp_le {a b : Nat} (na : fnan a = false) (nb : fnan b = false) (h : fplace a ≤ fplace b) : fcmpok a b = true ∧ fcmpv a b ≤ 0 := by
  unfold fcmpok fcmpv; rw [na, nb]; exact ⟨rfl, cmpI_le.2 h⟩
end Go.Proofs.YtmpcikkimcehnaaGreatDoor
namespace Go.Proofs.YtmpcikkimcehnaaGreatDoor
open Go.RowKit Sp
set_option linter.unusedSimpArgs false
/-! ### IntervalWhole -/
/-! ### IntervalMiddle -/
theorem fround_self {f : Nat} (h : ffin f = true) (g : Nat) (m : Int) : fplace (fround (nrm (fz f * 2 ^ g) (-1074 - (g : Int))) m) = fplace f := by
  rw [← (fof_grid h g).1]
  by_cases h0 : fM f = 0
  · have z := fz_zero.2 h0
    rw [fof_fin h, z, fround_zero, fplace_zero, (fz_sign f).2.2.1 z]
  · rw [fof_fin h]
    have hlt : fM f < 9218868437227405312 := by unfold ffin at h; simpa using h
    have hab := fz_abs f
    have hz : fz f ≠ 0 := fun h' => h0 (fz_zero.1 h')
    rw [fround_exact hz hab hlt]
    have s := fz_sign f
    have p := place_sign f
    by_cases hn : fz f < 0
    · rw [decide_eq_true hn, fplace_eq, fplace_eq, fS_fsgn (by omega), fM_fsgn (by omega), p.1 (by omega)]
    · rw [decide_eq_false hn, fplace_eq, fplace_eq, fS_fsgn (by omega), fM_fsgn (by omega), p.2 (by omega)]
theorem dscale_half {z E : Int} (h : nrm z E ≠ none) : dscale (nrm z E) (-1) = nrm z (E - 1) := by
  cases hd : nrm z E with
  | none => exact absurd hd h
  | some p =>
    obtain ⟨m, e⟩ := p
    show nrm m (e + max (min (-1) 262144) (-262144)) = _
    rw [show max (min (-1 : Int) 262144) (-262144) = -1 by decide]
    by_cases h0 : z = 0
    · subst h0; rw [nrm_zero] at hd; injection hd with hd; injection hd with h1 h2; subst h1; rw [nrm_zero, nrm_zero]
    · obtain ⟨t, ht, he, _⟩ := nrm_some h0 hd
      conv => rhs; rw [ht, nrm_scale]
      rw [he]; congr 1; omega
theorem imid_fin {x : Nat × Nat} (hx : Lt64 x) (h : iok x = true) (f1 : ffin x.1 = true) (f2 : ffin x.2 = true) :
    imid x = fclean (fround (dscale (dadd (fof x.1) (fof x.2)) (-1)) 0) ∧ ffin (imid x) = true ∧ fplace x.1 ≤ fplace (imid x) ∧ fplace (imid x) ≤ fplace x.2 := by
  obtain ⟨n1, n2, h12, _⟩ := (iok_iff hx).1 h
  have p1 := fin_lt f1
  have p2 := fin_lt f2
  have e1 : decide (x.1 = fNInf) = false := by
    rw [decide_eq_false_iff_not]; intro k; have := (place_bot hx.1 n1).2 k; omega
  have e2 : decide (x.2 = fInf) = false := by
    rw [decide_eq_false_iff_not]; intro k; have := (place_top hx.2 n2).2 k; omega
  have e : imid x = fclean (fround (dscale (dadd (fof x.1) (fof x.2)) (-1)) 0) := by unfold imid; rw [h, e1, e2]; rfl
  have v := fadd_val f1 f2
  have hb := blen_fz_add f1 f2
  have w : nrm (fz x.1 + fz x.2) (-1074 - ((1 : Nat) : Int)) ≠ none := nrm_valid (by omega) (by omega)
  have w1 := fof_grid f1 1
  have w2 := fof_grid f2 1
  have hz := fz_le.2 h12
  have m1 := fround_mono (fz x.1 * 2 ^ 1) (fz x.1 + fz x.2) 1 0 w1.2 w (by omega)
  have m2 := fround_mono (fz x.1 + fz x.2) (fz x.2 * 2 ^ 1) 1 0 w w2.2 (by omega)
  rw [fround_self f1] at m1
  rw [fround_self f2] at m2
  have nn := (fround_place _ 1 0 w).1
  rw [e, v.1, dscale_half v.2, g1]
  have c := fplace_clean (fround (nrm (fz x.1 + fz x.2) (-1074 - ((1 : Nat) : Int))) 0)
  refine ⟨rfl, ?_, ?_, ?_⟩
  · exact fin_of (c.2.trans nn) (by rw [c.1]; omega) (by rw [c.1]; omega)
  · rw [c.1]; exact m1
  · rw [c.1]; exact m2
theorem max_place : ffin fMax = true ∧ fplace fMax = TT - 1 ∧ ffin (fneg fMax) = true ∧ fplace (fneg fMax) = -(TT - 1) := by decide
theorem imid_in {x : Nat × Nat} (hx : Lt64 x) (h : iok x = true) : ffin (imid x) = true ∧ fplace x.1 ≤ fplace (imid x) ∧ fplace (imid x) ≤ fplace x.2 := by
  obtain ⟨n1, n2, h12, h2, h3⟩ := (iok_iff hx).1 h
  have b1 := place_bound n1
  have b2 := place_bound n2
  have t1 := place_bot hx.1 n1
  have t2 := place_top hx.2 n2
  have mp := max_place
  by_cases k1 : x.1 = fNInf
  · have e1 := t1.2 k1
    by_cases k2 : x.2 = fInf
    · have e2 := t2.2 k2
      have e : imid x = 0 := by unfold imid; rw [h, decide_eq_true k1, decide_eq_true k2]; rfl
      rw [e, fplace_zero, e1, e2]; unfold TT; exact ⟨by decide, by decide, by decide⟩
    · have e : imid x = fneg fMax := by unfold imid; rw [h, decide_eq_true k1, decide_eq_false k2]; rfl
      rw [e, mp.2.2.2]
      exact ⟨mp.2.2.1, by omega, by omega⟩
  · by_cases k2 : x.2 = fInf
    · have e2 := t2.2 k2
      have e : imid x = fMax := by unfold imid; rw [h, decide_eq_false k1, decide_eq_true k2]; rfl
      rw [e, mp.2.1]
      exact ⟨mp.1, by omega, by omega⟩
    · have f1 := fin_of n1 (by have : ¬ fplace x.1 = -TT := fun k => k1 (t1.1 k); omega) h2
      have f2 := fin_of n2 h3 (by have : ¬ fplace x.2 = TT := fun k => k2 (t2.1 k); omega)
      exact (imid_fin hx h f1 f2).2
theorem blen_fz_sub {a b : Nat} (ha : ffin a = true) (hb : ffin b = true) : blen (fz a - fz b).natAbs ≤ 2099 := by
  have h := bl_add (fz a) (-fz b)
  rw [Int.natAbs_neg] at h
  rw [Int.sub_eq_add_neg]
  have := blen_fz ha; have := blen_fz hb; omega
theorem fsub_val {a b : Nat} (ha : ffin a = true) (hb : ffin b = true) : dadd (fof a) (dneg (fof b)) = nrm (fz a - fz b) (-1074) ∧ nrm (fz a - fz b) (-1074) ≠ none := by
  have w := nrm_valid (m := fz a - fz b) (e := -1074) (by omega) (by have := blen_fz_sub ha hb; omega)
  refine ⟨?_, w⟩
  rw [fof_fin ha, fof_fin hb]
  exact dsub_nrm _ _ _ (fof_some ha) (fof_some hb) (nrm_neg_valid (fof_some hb))
theorem middle_law {x : Nat × Nat} (hx : Lt64 x) (h : iok x = true) (a : Nat) :
    icont x (fof (imid x)) = true ∧
    (ffin (irad x) = true → (dbad (dadd (fof (imid x)) (dneg (fof (irad x)))) = false ∧ dbad (fof x.1) = false ∧ dcmp (dadd (fof (imid x)) (dneg (fof (irad x)))) (fof x.1) ≤ 0) ∧ (dbad (fof x.2) = false ∧ dbad (dadd (fof (imid x)) (fof (irad x))) = false ∧ dcmp (fof x.2) (dadd (fof (imid x)) (fof (irad x))) ≤ 0)) ∧
    (iwithin a x = true → fcmpv (fabs a) (imag x) ≤ 0 ∧ fcmpv (imig x) (fabs a) ≤ 0) := by
  obtain ⟨n1, n2, h12, h2, h3⟩ := (iok_iff hx).1 h
  have mi := imid_in hx h
  refine ⟨icont_fin hx h mi.1 mi.2.1 mi.2.2, fun hr => ?_, fun ha => ?_⟩
  · have k : (decide (x.1 = fNInf) || decide (x.2 = fInf)) = false := by
      cases hc : (decide (x.1 = fNInf) || decide (x.2 = fInf)) with
      | false => rfl
      | true =>
        have e : irad x = fInf := by unfold irad; rw [h, hc]; rfl
        rw [e] at hr; exact absurd hr (by decide)
    have k' := k
    simp only [Bool.or_eq_false_iff, decide_eq_false_iff_not] at k'
    have b1 := place_bound n1
    have b2 := place_bound n2
    have f1 := fin_of n1 (by have : ¬ fplace x.1 = -TT := fun q => k'.1 ((place_bot hx.1 n1).1 q); omega) h2
    have f2 := fin_of n2 h3 (by have : ¬ fplace x.2 = TT := fun q => k'.2 ((place_top hx.2 n2).1 q); omega)
    have e : irad x = fmax2 (fround (dadd (fof (imid x)) (dneg (fof x.1))) 2) (fround (dadd (fof x.2) (dneg (fof (imid x)))) 2) := by unfold irad; rw [h, k]; rfl
    have v1 := fsub_val mi.1 f1
    have v2 := fsub_val f2 mi.1
    rw [v1.1, v2.1] at e
    have w1 := v1.2
    have w2 := v2.2
    rw [g0] at w1 w2 e
    have p1 := (fround_place _ 0 2 w1).1
    have p2 := (fround_place _ 0 2 w2).1
    have mx := fmax2_place p1 p2
    rw [← e] at mx
    have nr := (fin_not hr).1
    have rlt : irad x < 18446744073709551616 := by rw [e]; exact fmax2_lt (fround_lt' _ _) (fround_lt' _ _)
    have nt : irad x ≠ fInf := fun q => by rw [q] at hr; exact absurd hr (by decide)
    have r1 : fz (imid x) - fz x.1 ≤ fz (irad x) := by
      rcases above_dir w1 rlt nr (by omega) with q | ⟨_, q⟩
      · exact absurd q nt
      · simpa using q
    have r2 : fz x.2 - fz (imid x) ≤ fz (irad x) := by
      rcases above_dir w2 rlt nr (by omega) with q | ⟨_, q⟩
      · exact absurd q nt
      · simpa using q
    have v3 := fsub_val mi.1 hr
    have v4 := fadd_val mi.1 hr
    refine ⟨⟨by rw [v3.1]; exact dbad_nn.2 v3.2, by rw [fof_fin f1]; exact dbad_nn.2 (fof_some f1), ?_⟩, by rw [fof_fin f2]; exact dbad_nn.2 (fof_some f2), by rw [v4.1]; exact dbad_nn.2 v4.2, ?_⟩
    · rw [v3.1, fof_fin f1, dcmp_nrm _ _ _ v3.2 (fof_some f1)]; exact cmpI_le.2 (by omega)
    · rw [v4.1, fof_fin f2, dcmp_nrm _ _ _ (fof_some f2) v4.2]; exact cmpI_le.2 (by omega)
  · obtain ⟨_, fa, a1, a2⟩ := iwithin_iff.1 ha
    have na := (fin_not fa).1
    have b := mig_mag hx h na a1 a2
    have f := fabs_place na
    have p := imag_place hx h
    have q := imig_place hx h
    exact ⟨(fcmp_le f.1 p.1 (by rw [f.2]; exact b.2)).2, (fcmp_le q.1 f.1 (by rw [f.2]; exact b.1)).2⟩
/-! ### IntervalUndone: sums -/
/-! ### IntervalUndone: quotients -/
/-! ### IntervalUndone: roots of squares -/
end Go.Proofs.YtmpcikkimcehnaaGreatDoor
namespace Go.Proofs.YtmpcikkimcehnaaGreatDoor
open Go.RowKit Sp
set_option linter.unusedSimpArgs false
end Go.Proofs.YtmpcikkimcehnaaGreatDoor
namespace Go.Proofs.YtmpcikkimcehnaaGreatDoor
open Go.RowKit Sp
section
variable {W : World} {v s : Bool} {a : Option Addr} {n cap : Nat} {e : Int} {d : Option (Int × Int)}
end
theorem frd {P : Program} {f : FuncId} {args : Array Value} {W : World} {d : Option (Int × Int)} (hd : IsN d) (h : Calls P f args W (RetDy W d)) :
    Calls P f args W fun e w' => ∃ a c, e = .returned (.agg #[.bool (dbad d), .bool (decide (dman d < 0)), .slice a (nl (dman d).natAbs) c, .int .i64 (dexp d)]) ∧
      DI w' (dbad d) (decide (dman d < 0)) a (nl (dman d).natAbs) c (dexp d) d ∧ From W w' :=
  h.mono fun _ _ ⟨a, c, he, hm, hb, _⟩ => ⟨a, c, he, ⟨dyin_of hd hm⟩, ⟨hb⟩⟩
end Go.Proofs.YtmpcikkimcehnaaGreatDoor
namespace Go.Proofs.YtmpcikkimcehnaaGreatDoor
open Go.RowKit Sp
end Go.Proofs.YtmpcikkimcehnaaGreatDoor
namespace Go.Proofs.YtmpcikkimcehnaaGreatDoor
open Go.RowKit Sp
set_option maxRecDepth 100000 in
set_option maxHeartbeats 2000000 in
theorem dneg_bad (w : World) (bd s : Bool) (a : Option Addr) (n cap : Nat) (e : Int) (hx : DyIn w bd s a n cap e none) (hT : Tab w) :
    Calls Tryz.prog 56 #[.agg #[.bool bd, .bool s, .slice a n cap, .int .i64 e]] w (RetDy w none) := by
  have e2 : ¬ w.heap.size + 1 = w.heap.size := by omega
  have HN := fun W h ht => Lib.hid (@norm_v W bd s a n cap e none h ht true 0 0 rfl rfl rfl)
  go_enter Tryz.func56, Tryz.ntmps56
  go_wp2_with fail
  refine (HN _ (hx.below zbh) (hT.below zbh)).out.mono ?_
  rintro e w1 ⟨a1, c1, rfl, hm1, hb, hf1⟩
  obtain ⟨hc1, hz1⟩ := bcell (hb.mono (show w.heap.size + 2 ≤ _ by simp))
  have hbw := below_box (w := w) zbh hb
  go_wp2_with fail
  refine bodyPost_ret (v := .agg #[.bool true, .bool false, .slice a1 (nl 0) c1, .int .i64 0]) (by simp only [results, Tryz.results56]; go_simp) rfl ?_
  exact ⟨a1, c1, rfl, Mag.empty _ _ _ hm1.lim, (have := Beh.mk hbw; zbh), nl0⟩
set_option maxRecDepth 100000 in
set_option maxHeartbeats 2000000 in
theorem dneg_ok (w : World) (bd s : Bool) (a : Option Addr) (n cap : Nat) (e z f y : Int) (hx : DyIn w bd s a n cap e (some (z, f))) (hT : Tab w) (hy : y = -z) :
    Calls Tryz.prog 56 #[.agg #[.bool bd, .bool s, .slice a n cap, .int .i64 e]] w (RetDy w (some (y, f))) := by
  have e2 : ¬ w.heap.size + 1 = w.heap.size := by omega
  have hl := nl_lim (Nat.le_trans (isN_bounds hx.isN).1 (by omega))
  have HN := fun W h ht => Lib.hid (@norm_v W bd s a n cap e (some (z, f)) h ht false z f rfl rfl rfl)
  have HG := fun W b c h => Lib.hid (neg_z W b c z y hy h hl)
  clear hy
  go_enter Tryz.func56, Tryz.ntmps56
  go_wp2_with fail
  refine (HN _ (hx.below zbh) (hT.below zbh)).out.mono ?_
  rintro e w1 ⟨a1, c1, rfl, hm1, hb, hf1⟩
  obtain ⟨hc1, hz1⟩ := bcell (hb.mono (show w.heap.size + 2 ≤ _ by simp))
  have hg1 : w.heap.size + 2 ≤ w1.heap.size := by have := hb.size; simpa using this
  have hfr1 : 0 < nl z.natAbs → w.heap.size + 2 ≤ ab a1 := fun h => by have := hf1 h; simpa using this
  have hbw := below_box (w := w) zbh hb
  go_wp2_with fail
  refine (HG _ a1 c1 (by repeat (with_reducible first | refine Mag.set ?_ (fun h => by have := hfr1 h; omega) _ _ | refine Mag.drew ?_ | refine Mag.alloc ?_ _ | refine Mag.drewN ?_ _ | refine Mag.below ?_ (Below.drew (Below.refl _ _)) | refine Mag.below ?_ ((Below.refl _ _).alloc (Nat.le_refl _) _) | exact hm1))).out.mono ?_
  rintro e w2 ⟨a2, c2, rfl, hm2, hb2, hf2⟩
  obtain ⟨hc2, hz2⟩ := bcell (hb2.mono (show w.heap.size + 2 ≤ _ by simpa using hg1))
  have hfr2 : 0 < nl y.natAbs → w.heap.size + 2 ≤ ab a2 := fun h => by have := hf2 h; simp at this; omega
  have hbw2 := below_box (w := w) (have := Beh.mk hbw; zbh) hb2
  clear hbw
  have hbw := hbw2
  go_wp2_with fail
  refine bodyPost_ret (v := .agg #[.bool false, .bool (decide (y < 0)), .slice a2 (nl y.natAbs) c2, .int .i64 f]) (by simp only [results, Tryz.results56]; go_simp) rfl ?_
  exact ret_dy false y f rfl rfl rfl (by repeat (with_reducible first | refine Mag.set ?_ (fun h => by have := hfr2 h; omega) _ _ | refine Mag.drew ?_ | refine Mag.alloc ?_ _ | refine Mag.drewN ?_ _ | refine Mag.below ?_ (Below.drew (Below.refl _ _)) | refine Mag.below ?_ ((Below.refl _ _).alloc (Nat.le_refl _) _) | exact hm2)) (have := Beh.mk hbw; zbh) (fun h => by have := hfr2 h; omega)
theorem dneg_any (w : World) (bd s : Bool) (a : Option Addr) (n cap : Nat) (e : Int) (d : Option (Int × Int)) (hx : DyIn w bd s a n cap e d) (hT : Tab w) :
    Calls Tryz.prog 56 #[.agg #[.bool bd, .bool s, .slice a n cap, .int .i64 e]] w (RetDy w (dneg d)) := by
  rcases d with _ | ⟨z, f⟩
  · exact dneg_bad w bd s a n cap e hx hT
  · exact dneg_ok w bd s a n cap e z f _ hx hT rfl
set_option maxRecDepth 100000 in
set_option maxHeartbeats 2000000 in
theorem dscale_bad (w : World) (bd s : Bool) (a : Option Addr) (n cap : Nat) (e k : Int) (hx : DyIn w bd s a n cap e none) (hT : Tab w) :
    Calls Tryz.prog 208 #[.agg #[.bool bd, .bool s, .slice a n cap, .int .i64 e], .int .i64 k] w (RetDy w none) := by
  have e2 : ¬ w.heap.size + 1 = w.heap.size := by omega
  have HN := fun W h ht => Lib.hid (@norm_v W bd s a n cap e none h ht true 0 0 rfl rfl rfl)
  go_enter Tryz.func208, Tryz.ntmps208
  go_wp2_with fail
  refine (HN _ (hx.below zbh) (hT.below zbh)).out.mono ?_
  rintro e w1 ⟨a1, c1, rfl, hm1, hb, hf1⟩
  obtain ⟨hc1, hz1⟩ := bcell (hb.mono (show w.heap.size + 2 ≤ _ by simp))
  have hg1 : w.heap.size + 2 ≤ w1.heap.size := by have := hb.size; simpa using this
  have hbw := below_box (w := w) zbh hb
  go_wp2_with fail
  refine (bad_any _).mono ?_
  rintro e w2 ⟨rfl, hb2⟩
  obtain ⟨hc2, hz2⟩ := bcell (hb2.mono (show w.heap.size + 2 ≤ _ by simpa using hg1))
  have hbw2 := below_box (w := w) (have := Beh.mk hbw; zbh) hb2
  clear hbw
  have hbw := hbw2
  go_wp2_with fail
  refine bodyPost_ret (v := .agg #[.bool true, .bool false, .slice none 0 0, .int .i64 0]) (by simp only [results, Tryz.results208]; go_simp) rfl ?_
  exact ret_bad rfl (have := Beh.mk hbw; zbh)
set_option maxRecDepth 100000 in
set_option maxHeartbeats 2000000 in
theorem dscale_ok (w : World) (bd s : Bool) (a : Option Addr) (n cap : Nat) (e z f k : Int) (hx : DyIn w bd s a n cap e (some (z, f))) (hT : Tab w) (hk0 : -9223372036854775808 ≤ k) (hk1 : k ≤ 9223372036854775807) :
    Calls Tryz.prog 208 #[.agg #[.bool bd, .bool s, .slice a n cap, .int .i64 e], .int .i64 k] w (RetDy w (nrm z (f + max (min k 262144) (-262144)))) := by
  have e2 : ¬ w.heap.size + 1 = w.heap.size := by omega
  obtain ⟨hbl, hf0, hf1⟩ := isN_bounds hx.isN
  simp only [dman, dexp, Option.getD_some] at hbl hf0 hf1
  have hl := nl_lim (Nat.le_trans hbl (by omega))
  have HN := fun W h ht => Lib.hid (@norm_v W bd s a n cap e (some (z, f)) h ht false z f rfl rfl rfl)
  obtain ⟨g, hg⟩ : ∃ g, g = f + max (min k 262144) (-262144) := ⟨_, rfl⟩
  have hwr : IntKind.i64.wrap (f + max (min k 262144) (-262144)) = g := by rw [IntKind.wrap_i64]; omega
  have HG := fun W b c h ht => Lib.hid (make_any W (decide (z < 0)) b _ c z.natAbs g h hl ht (by omega) (tz_lim (by omega)) (by omega) (by omega))
  rw [sgn_self] at HG
  rw [← hg]
  obtain ⟨d, hd⟩ : ∃ d, d = nrm z g := ⟨_, rfl⟩
  rw [← hd] at HG ⊢
  clear hg hd hbl hf0 hf1 hk0 hk1
  go_enter Tryz.func208, Tryz.ntmps208
  go_wp2_with fail
  refine (HN _ (hx.below zbh) (hT.below zbh)).out.mono ?_
  rintro e w1 ⟨a1, c1, rfl, hm1, hb, hf1⟩
  obtain ⟨hc1, hz1⟩ := bcell (hb.mono (show w.heap.size + 2 ≤ _ by simp))
  have hg1 : w.heap.size + 2 ≤ w1.heap.size := by have := hb.size; simpa using this
  have hfr1 : 0 < nl z.natAbs → w.heap.size + 2 ≤ ab a1 := fun h => by have := hf1 h; simpa using this
  have hbw := below_box (w := w) zbh hb
  go_wp2_with fail
  refine (HG _ a1 c1 (by repeat (with_reducible first | refine Mag.set ?_ (fun h => by have := hfr1 h; omega) _ _ | refine Mag.drew ?_ | refine Mag.alloc ?_ _ | refine Mag.drewN ?_ _ | refine Mag.below ?_ (Below.drew (Below.refl _ _)) | refine Mag.below ?_ ((Below.refl _ _).alloc (Nat.le_refl _) _) | exact hm1)) (hT.below (have := Beh.mk hbw; zbh))).out.mono ?_
  rintro e w2 ⟨a2, c2, rfl, hm2, hb2, hf2⟩
  obtain ⟨hc2, hz2⟩ := bcell (hb2.mono (show w.heap.size + 2 ≤ _ by simpa using hg1))
  have hfr2 : 0 < nl (dman d).natAbs → w.heap.size + 2 ≤ ab a2 := fun h => by have := hf2 h; simp at this; omega
  have hbw2 := below_box (w := w) (have := Beh.mk hbw; zbh) hb2
  clear hbw
  have hbw := hbw2
  go_wp2_with fail
  refine bodyPost_ret (v := .agg #[.bool (dbad d), .bool (decide (dman d < 0)), .slice a2 (nl (dman d).natAbs) c2, .int .i64 (dexp d)]) (by simp only [results, Tryz.results208]; go_simp) rfl ?_
  exact ⟨a2, c2, rfl, (by repeat (with_reducible first | refine Mag.set ?_ (fun h => by have := hfr2 h; omega) _ _ | refine Mag.drew ?_ | refine Mag.alloc ?_ _ | refine Mag.drewN ?_ _ | refine Mag.below ?_ (Below.drew (Below.refl _ _)) | refine Mag.below ?_ ((Below.refl _ _).alloc (Nat.le_refl _) _) | exact hm2)), (have := Beh.mk hbw; zbh), fun h => by have := hfr2 h; omega⟩
theorem dscale_any (w : World) (bd s : Bool) (a : Option Addr) (n cap : Nat) (e k : Int) (d : Option (Int × Int)) (hx : DyIn w bd s a n cap e d) (hT : Tab w) (hk0 : -9223372036854775808 ≤ k) (hk1 : k ≤ 9223372036854775807) :
    Calls Tryz.prog 208 #[.agg #[.bool bd, .bool s, .slice a n cap, .int .i64 e], .int .i64 k] w (RetDy w (dscale d k)) := by
  rcases d with _ | ⟨z, f⟩
  · exact dscale_bad w bd s a n cap e k hx hT
  · exact dscale_ok w bd s a n cap e z f k hx hT hk0 hk1
end Go.Proofs.YtmpcikkimcehnaaGreatDoor
namespace Go.Proofs.YtmpcikkimcehnaaGreatDoor
open Go.RowKit Sp
end Go.Proofs.YtmpcikkimcehnaaGreatDoor
namespace Go.Proofs.YtmpcikkimcehnaaGreatDoor
open Go.RowKit Sp
set_option maxRecDepth 100000 in
set_option maxHeartbeats 2000000 in
theorem dcmp_bad (w : World) (bd s bd' s' : Bool) (a a' : Option Addr) (n n' cap cap' : Nat) (e e' : Int) (d d' : Option (Int × Int)) (hx : DyIn w bd s a n cap e d) (hy : DyIn w bd' s' a' n' cap' e' d') (hT : Tab w) (hk : (!dbad d && !dbad d') = false) :
    Calls Tryz.prog 57 #[.agg #[.bool bd, .bool s, .slice a n cap, .int .i64 e], .agg #[.bool bd', .bool s', .slice a' n' cap', .int .i64 e']] w fun o w' => o = .returned (.tuple #[.int .i64 0, .bool false]) ∧ Below w.heap.size w w' := by
  have HN := fun W hx hy ht => Lib.hid (@two_v W bd s bd' s' a a' n n' cap cap' e e' d d' hx hy ht _ _ _ rfl rfl rfl _ _ _ rfl rfl rfl false hk)
  generalize dbad d = b at HN
  generalize dman d = z at HN
  generalize dexp d = f at HN
  generalize dbad d' = b' at HN
  generalize dman d' = z' at HN
  generalize dexp d' = f' at HN
  clear hk
  have e1 : ¬ w.heap.size + 1 = w.heap.size := by omega
  have l2 : w.heap.size < w.heap.size + 1 + 1 := by omega
  have k2 : ¬ w.heap.size = w.heap.size + 1 + 1 := by omega
  go_enter Tryz.func57, Tryz.ntmps57
  go_wp2_with fail
  refine (HN _ (hx.below zbh) (hy.below zbh) (hT.below zbh)).out.mono ?_
  rintro e w1 ⟨a1, c1, a2, c2, rfl, hm1, hm2, hb, hf1, hf2⟩
  obtain ⟨hc1, hz1⟩ := bcell (hb.mono (show w.heap.size + 2 ≤ _ by simp))
  have hg1 : w.heap.size + 2 ≤ w1.heap.size := by have := hb.size; simpa using this
  have hbw := below_box (w := w) zbh hb
  go_wp2_with fail
  refine bodyPost_ret2 (v := .tuple #[.int .i64 0, .bool false]) (by simp only [results, Tryz.results57]; go_simp) rfl ?_
  exact ⟨rfl, (have := Beh.mk hbw; zbh)⟩
set_option maxRecDepth 100000 in
set_option maxHeartbeats 2000000 in
theorem dcmp_ok (w : World) (bd s bd' s' : Bool) (a a' : Option Addr) (n n' cap cap' : Nat) (e e' : Int) (z f z' f' : Int) (hx : DyIn w bd s a n cap e (some (z, f))) (hy : DyIn w bd' s' a' n' cap' e' (some (z', f'))) (hT : Tab w) :
    Calls Tryz.prog 57 #[.agg #[.bool bd, .bool s, .slice a n cap, .int .i64 e], .agg #[.bool bd', .bool s', .slice a' n' cap', .int .i64 e']] w fun o w' => o = .returned (.tuple #[.int .i64 (cmpI (up z f (min f f')) (up z' f' (min f f'))), .bool true]) ∧ Below w.heap.size w w' := by
  have HN := fun W hx hy ht => Lib.hid (@two_v W bd s bd' s' a a' n n' cap cap' e e' (some (z, f)) (some (z', f')) hx hy ht false z f rfl rfl rfl false z' f' rfl rfl rfl true rfl)
  obtain ⟨hb0, hf0, hf1⟩ := isN_bounds hx.isN
  obtain ⟨hb0', hf0', hf1'⟩ := isN_bounds hy.isN
  simp only [dman, dexp, Option.getD_some] at hb0 hf0 hf1 hb0' hf0' hf1'
  have hl := nl_lim (Nat.le_trans hb0 (by omega))
  have hl' := nl_lim (Nat.le_trans hb0' (by omega))
  have HA := fun W b c b' c' h h' => Lib.hid (aligned_any W false false b b' c c' z z' f f' h h' hl hl' (by omega) (by omega) (by omega) (by omega))
  have hx0 : blen (up z f (min f f')).natAbs ≤ 262144 := blen_up_le (by omega) (by omega)
  have hy0 : blen (up z' f' (min f f')).natAbs ≤ 262144 := blen_up_le (by omega) (by omega)
  have hE0 : -65536 ≤ min f f' ∧ min f f' ≤ 65536 := by omega
  generalize up z f (min f f') = x at HA hx0 ⊢
  generalize up z' f' (min f f') = y at HA hy0 ⊢
  generalize min f f' = E at HA hE0 ⊢
  have hlx := nl_lim (Nat.le_trans hx0 (by omega))
  have hly := nl_lim (Nat.le_trans hy0 (by omega))
  have HC := fun W b c b' c' h h' => Lib.hid (cmp_z W b b' c c' x y _ rfl h h')
  generalize cmpI x y = v at HC ⊢
  have e1 : ¬ w.heap.size + 1 = w.heap.size := by omega
  have l2 : w.heap.size < w.heap.size + 1 + 1 := by omega
  have k2 : ¬ w.heap.size = w.heap.size + 1 + 1 := by omega
  clear hb0 hf0 hf1 hb0' hf0' hf1'
  go_enter Tryz.func57, Tryz.ntmps57
  go_wp2_with fail
  refine (HN _ (hx.below zbh) (hy.below zbh) (hT.below zbh)).out.mono ?_
  rintro e w1 ⟨a1, c1, a2, c2, rfl, hm1, hm2, hb, hf1, hf2⟩
  obtain ⟨hc1, hz1⟩ := bcell (hb.mono (show w.heap.size + 2 ≤ _ by simp))
  have hg1 : w.heap.size + 2 ≤ w1.heap.size := by have := hb.size; simpa using this
  have hfr1 : 0 < nl z.natAbs → w.heap.size + 2 ≤ ab a1 := fun h => by have := hf1 h; simpa using this
  have hfr2 : 0 < nl z'.natAbs → w.heap.size + 2 ≤ ab a2 := fun h => by have := hf2 h; simpa using this
  have hbw := below_box (w := w) zbh hb
  go_wp2_with fail
  refine (HA _ a1 c1 a2 c2 (by repeat (with_reducible first | refine Mag.set ?_ (fun h => by have := hfr1 h; omega) _ _ | refine Mag.drew ?_ | refine Mag.alloc ?_ _ | refine Mag.drewN ?_ _ | refine Mag.below ?_ (Below.drew (Below.refl _ _)) | refine Mag.below ?_ ((Below.refl _ _).alloc (Nat.le_refl _) _) | exact hm1)) (by repeat (with_reducible first | refine Mag.set ?_ (fun h => by have := hfr2 h; omega) _ _ | refine Mag.drew ?_ | refine Mag.alloc ?_ _ | refine Mag.drewN ?_ _ | refine Mag.below ?_ (Below.drew (Below.refl _ _)) | refine Mag.below ?_ ((Below.refl _ _).alloc (Nat.le_refl _) _) | exact hm2))).out.mono ?_
  rintro e w2 ⟨a3, c3, a4, c4, rfl, hm3, hm4, hb2, hf3, hf4⟩
  obtain ⟨hc2, hz2⟩ := bcell (hb2.mono (show w.heap.size + 2 ≤ _ by simpa using hg1))
  have hg2 : w.heap.size + 2 ≤ w2.heap.size := by have := hb2.size; simp at this; omega
  have hbw2 := below_box (w := w) (have := Beh.mk hbw; zbh) hb2
  clear hbw
  have hbw := hbw2
  obtain ⟨o01, o02, o03, o04, o05, o06, o07, o08, o09, o10, o11, o12, o13, o14, o15, o16, o17, o18, o19, o20, o21, o22, o23, o24, o25, o26⟩ := old2' hg2
  have hm3' := hm3
  go_wp2_with fail
  refine (HC _ a3 c3 a4 c4 (Mag.below hm3 zbh) (Mag.below hm4 zbh)).out.mono ?_
  rintro e w3 ⟨rfl, hb3⟩
  have hbw3 := below_box (w := w) (have := Beh.mk hbw; zbh) hb3
  clear hbw
  have hbw := hbw3
  go_wp2_with fail
  refine bodyPost_ret2 (v := .tuple #[.int .i64 v, .bool true]) (by simp only [results, Tryz.results57]; go_simp) rfl ?_
  exact ⟨rfl, (have := Beh.mk hbw; zbh)⟩
theorem dcmp_any (w : World) (bd s bd' s' : Bool) (a a' : Option Addr) (n n' cap cap' : Nat) (e e' : Int) (d d' : Option (Int × Int)) (hx : DyIn w bd s a n cap e d) (hy : DyIn w bd' s' a' n' cap' e' d') (hT : Tab w) :
    Calls Tryz.prog 57 #[.agg #[.bool bd, .bool s, .slice a n cap, .int .i64 e], .agg #[.bool bd', .bool s', .slice a' n' cap', .int .i64 e']] w fun o w' => o = .returned (.tuple #[.int .i64 (dcmp d d'), .bool (!dbad d && !dbad d')]) ∧ Below w.heap.size w w' := by
  rcases d with _ | ⟨z, f⟩
  · exact dcmp_bad w bd s bd' s' a a' n n' cap cap' e e' _ _ hx hy hT rfl
  · rcases d' with _ | ⟨z', f'⟩
    · exact dcmp_bad w bd s bd' s' a a' n n' cap cap' e e' _ _ hx hy hT rfl
    · exact dcmp_ok w bd s bd' s' a a' n n' cap cap' e e' z f z' f' hx hy hT
end Go.Proofs.YtmpcikkimcehnaaGreatDoor
namespace Go.Proofs.YtmpcikkimcehnaaGreatDoor
open Go.RowKit Sp
set_option maxRecDepth 100000 in
set_option maxHeartbeats 2000000 in
theorem dsub_any (w : World) (bd s bd' s' : Bool) (a a' : Option Addr) (n n' cap cap' : Nat) (e e' : Int) (d d' : Option (Int × Int)) (hx : DyIn w bd s a n cap e d) (hy : DyIn w bd' s' a' n' cap' e' d') (hT : Tab w) :
    Calls Tryz.prog 108 #[.agg #[.bool bd, .bool s, .slice a n cap, .int .i64 e], .agg #[.bool bd', .bool s', .slice a' n' cap', .int .i64 e']] w (RetDy w (dsub d d')) := by
  have HN := fun W h ht => Lib.hid (dneg_any W bd' s' a' n' cap' e' d' h ht)
  have hny : IsN (dneg d') := isN_neg hy.isN
  unfold dsub
  generalize dneg d' = g at HN hny ⊢
  have HA := fun W b c hx hm ht => Lib.hid (dadd_any W bd s (dbad g) (decide (dman g < 0)) a b n _ cap c e (dexp g) d g hx (dyin_of hny hm) ht)
  generalize dadd d g = v at HA ⊢
  have e1 : ¬ w.heap.size + 1 = w.heap.size := by omega
  have e2 : ¬ w.heap.size + 1 + 1 = w.heap.size := by omega
  have l2 : w.heap.size < w.heap.size + 1 + 1 := by omega
  go_enter Tryz.func108, Tryz.ntmps108
  go_wp2_with fail
  go_region_held3 (fun w' => w'.cell? ⟨w.heap.size, 0, none⟩ = some (.bool bd) ∧ w'.cell? ⟨w.heap.size, 1, none⟩ = some (.bool s) ∧ w'.cell? ⟨w.heap.size, 2, none⟩ = some (.slice a n cap) ∧ w'.cell? ⟨w.heap.size, 3, none⟩ = some (.int .i64 e)
      ∧ w'.cell? ⟨w.heap.size + 1, 0, none⟩ = some (.bool bd') ∧ w'.cell? ⟨w.heap.size + 1, 1, none⟩ = some (.bool s') ∧ w'.cell? ⟨w.heap.size + 1, 2, none⟩ = some (.slice a' n' cap') ∧ w'.cell? ⟨w.heap.size + 1, 3, none⟩ = some (.int .i64 e')) (first | (go_keep; done) | (go_simp; done))
    (first
      | (go_at_call 56; refine (HN _ (hy.below zbh) (hT.below zbh)).out.mono ?_; rintro e w1 ⟨a1, c1, rfl, hm1, hb1, hf1⟩; obtain ⟨hc1, hz1⟩ := bcell (hb1.mono (show w.heap.size + 3 ≤ _ by simp)); have hg1 : w.heap.size + 3 ≤ w1.heap.size := (by have := hb1.size; simpa using this); have hbw := below_box (w := w) zbh hb1)
      | (go_at_call 40; refine (HA _ a1 c1 (hx.below (have := Beh.mk hbw; zbh)) (Mag.below hm1 zbh) (hT.below (have := Beh.mk hbw; zbh))).out.mono ?_; rintro e w2 ⟨a2, c2, rfl, hm2, hb2, hf2⟩; obtain ⟨hc2, hz2⟩ := bcell (hb2.mono (show w.heap.size + 3 ≤ _ by simpa using hg1))))
  have hfr2 : 0 < nl (dman v).natAbs → w.heap.size + 3 ≤ ab a2 := fun h => by have := hf2 h; (try simp at this); omega
  have hbw2 := below_box (w := w) (have := Beh.mk hbw; zbh) hb2
  clear hbw
  have hbw := hbw2
  go_wp2_with fail
  refine bodyPost_ret (v := .agg #[.bool (dbad v), .bool (decide (dman v < 0)), .slice a2 (nl (dman v).natAbs) c2, .int .i64 (dexp v)]) (by simp only [results, Tryz.results108]; go_simp) rfl ?_
  exact ⟨a2, c2, rfl, (by repeat (with_reducible first | refine Mag.set ?_ (fun h => by have := hfr2 h; omega) _ _ | refine Mag.drew ?_ | refine Mag.alloc ?_ _ | refine Mag.drewN ?_ _ | refine Mag.below ?_ (Below.drew (Below.refl _ _)) | refine Mag.below ?_ ((Below.refl _ _).alloc (Nat.le_refl _) _) | exact hm2)), (have := Beh.mk hbw; zbh), fun h => by have := hfr2 h; omega⟩
end Go.Proofs.YtmpcikkimcehnaaGreatDoor
namespace Go.Proofs.YtmpcikkimcehnaaGreatDoor
open Go.RowKit Sp
set_option linter.unusedSimpArgs false
section
variable {W : World} {v s : Bool} {a : Option Addr} {n cap : Nat} {e : Int} {d : Option (Int × Int)}
end
attribute [local irreducible] Calls
section
variable {P : Program} {md : Region.Mode} {ops : Array Oper} {Q : Exit → Act → World → Prop} {S : World → Prop} {fuel : Nat} {listed : Array Bool} {a : Act} {w : World}
end
set_option maxRecDepth 100000 in
set_option maxHeartbeats 8000000 in
theorem within_any (w : World) [ht : Tb w] (f : Nat) (a : Nat) (b : Nat) (hf : f < 18446744073709551616) (ha : a < 18446744073709551616) (hb : b < 18446744073709551616) : Calls Tryz.prog 62 #[.int .u64 (f : Nat), .agg #[.int .u64 (a : Nat), .int .u64 (b : Nat)]] w fun e w' => e = .returned (.bool (iwithin f (a, b))) ∧ Below w.heap.size w w' := by
  rw [← rcont_fof (x := (a, b)) ⟨ha, hb⟩ hf]
  have HA := fun W [Tb W] => Lib.hid (frs (isN_fof f) (r3of_any W f hf tb))
  have HC := fun W A1 C1 [i1 : DS W (dbad (fof f)) (decide (dman (fof f) < 0)) A1 (nl (dman (fof f)).natAbs) C1 (dexp (fof f)) (fof f)] [Tb W] => Lib.hid (frm (rcontains_any W a b ha hb _ _ A1 _ C1 _ (fof f) (hx := i1)))
  generalize rcont (a, b) (fof f) = k at *
  generalize fof f = d at *
  generalize ((f : Nat) : Int) = z at *
  generalize ((a : Nat) : Int) = p at *
  generalize ((b : Nat) : Int) = q at *
  go_enter Tryz.func62, Tryz.ntmps62
  go_wp2_with fail
  first
  | go_region_held3 (fun w' => w'.cell? ⟨w.heap.size, 0, none⟩ = some (.int .u64 p) ∧ w'.cell? ⟨w.heap.size, 1, none⟩ = some (.int .u64 q)) (first | (go_simp; done))
      (first
        | (go_at_call 86; refine (HA _).out.mono ?_; rintro o w1 ⟨A1, C1, rfl, i1, b1⟩)
        | (go_at_call 115; refine (HC _ _ _).out.mono ?_; rintro o w2 ⟨rfl, b2⟩)
        | fail)
  | fail "region"
  all_goals (
    go_wp2_with fail
    go_ret
    exact ⟨rfl, zbh⟩)
end Go.Proofs.YtmpcikkimcehnaaGreatDoor
namespace Go.Proofs.YtmpcikkimcehnaaGreatDoor
open Go.RowKit Sp
attribute [local irreducible] Calls
set_option maxRecDepth 100000 in
set_option maxHeartbeats 8000000 in
theorem iadd_any (w : World) (hT : Tab w) (a : Nat) (b : Nat) (c : Nat) (d : Nat) (ha : a < 18446744073709551616) (hb : b < 18446744073709551616) (hc : c < 18446744073709551616) (hd : d < 18446744073709551616) : Calls Tryz.prog 122 #[.agg #[.int .u64 (a : Nat), .int .u64 (b : Nat)], .agg #[.int .u64 (c : Nat), .int .u64 (d : Nat)]] w fun e w' => e = .returned (.agg #[.int .u64 ((iadd (a, b) (c, d)).1 : Nat), .int .u64 ((iadd (a, b) (c, d)).2 : Nat)]) ∧ Below w.heap.size w w' := by
  have HT : Tb w := ⟨hT⟩
  have H1 := fun W => Lib.hid (frm (iboth_any W a b c d ha hb hc hd))
  have HA := fun W [Tb W] => Lib.hid (frm (wadd_any W a c ha hc 1 tb))
  have HB := fun W [Tb W] => Lib.hid (frm (wadd_any W b d hb hd 2 tb))
  have HR := fun W => Lib.hid (frm (iresult_any W (fadd a c 1) (fadd b d 2) (fadd_lt' ha hc 1) (fadd_lt' hb hd 2)))
  have HW := fun W => Lib.hid (show Calls Tryz.prog 190 #[] W fun e w' => e = .returned (.agg #[.int .u64 18442240474082181120, .int .u64 9218868437227405312]) ∧ From W w' from frm (iwhole_any W))
  unfold iadd ires iall
  generalize (iok (a, b) && iok (c, d)) = k1 at *
  cases k1
  · show Calls _ _ _ _ fun e w' => e = .returned (.agg #[.int .u64 18442240474082181120, .int .u64 9218868437227405312]) ∧ Below w.heap.size w w'
    generalize ((a : Nat) : Int) = p at *
    generalize ((b : Nat) : Int) = q at *
    generalize ((c : Nat) : Int) = r at *
    generalize ((d : Nat) : Int) = s at *
    go_enter Tryz.func122, Tryz.ntmps122
    go_wp2_with fail
    refine (H1 _).out.mono ?_
    rintro e w1 ⟨rfl, b1⟩
    go_wp2_with fail
    refine (HW _).out.mono ?_
    rintro e w2 ⟨rfl, b2⟩
    go_wp2_with fail
    refine bodyPost_ret (v := .agg #[.int .u64 18442240474082181120, .int .u64 9218868437227405312]) (by simp only [results, Tryz.results122]; go_simp) rfl ?_
    exact ⟨rfl, zbh⟩
  · show Calls _ _ _ _ fun e w' => e = .returned (.agg #[.int .u64 (fclean (fadd a c 1) : Nat), .int .u64 (fclean (fadd b d 2) : Nat)]) ∧ Below w.heap.size w w'
    generalize ((fclean (fadd a c 1) : Nat) : Int) = p2 at *
    generalize ((fclean (fadd b d 2) : Nat) : Int) = q2 at *
    generalize ((fadd a c 1 : Nat) : Int) = p1 at *
    generalize ((fadd b d 2 : Nat) : Int) = q1 at *
    generalize ((a : Nat) : Int) = p at *
    generalize ((b : Nat) : Int) = q at *
    generalize ((c : Nat) : Int) = r at *
    generalize ((d : Nat) : Int) = s at *
    go_enter Tryz.func122, Tryz.ntmps122
    go_wp2_with fail
    refine (H1 _).out.mono ?_
    rintro e w1 ⟨rfl, b1⟩
    go_wp2_with fail
    first
    | go_region_held3 (fun w' => w'.cell? ⟨w.heap.size, 0, none⟩ = some (.int .u64 p) ∧ w'.cell? ⟨w.heap.size, 1, none⟩ = some (.int .u64 q) ∧ w'.cell? ⟨w.heap.size + 1, 0, none⟩ = some (.int .u64 r) ∧ w'.cell? ⟨w.heap.size + 1, 1, none⟩ = some (.int .u64 s)) (first | (go_simp; done))
        (first
          | (go_at_call 189; refine (HR _).out.mono ?_; rintro e w4 ⟨rfl, b4⟩)
          | (go_at_call 39; refine (HA _).out.mono ?_; rintro e w2 ⟨rfl, b2⟩)
          | (go_at_call 39; refine (HB _).out.mono ?_; rintro e w3 ⟨rfl, b3⟩)
          | fail)
    | fail "region"
    all_goals (
      go_wp2_with fail
      refine bodyPost_ret (v := .agg #[.int .u64 p2, .int .u64 q2]) (by simp only [results, Tryz.results122]; go_simp) rfl ?_
      exact ⟨rfl, zbh⟩)
end Go.Proofs.YtmpcikkimcehnaaGreatDoor
namespace Go.Proofs.YtmpcikkimcehnaaGreatDoor
open Go.RowKit Sp
class OV (W : World) (b : Nat) (x0 : outParam Value) : Prop where
  c0 : W.cell? ⟨b, 0, none⟩ = some x0
  z : ∀ i, W.frozen? ⟨b, i, none⟩ = false
  lt : b < W.heap.size
theorem OV.below {W W' : World} {b : Nat} {x0 : Value} (h : OV W b x0) (hb : Below W.heap.size W W') : OV W' b x0 := by
  obtain ⟨h1, h2⟩ := bcell hb
  exact ⟨(h1 _ _ h.lt).trans h.c0, fun i => (h2 _ _ h.lt).trans (h.z i), Nat.lt_of_lt_of_le h.lt hb.size⟩
instance OV.dr (W : World) (b : Nat) (x0 : Value) [h : OV W b x0] : OV W.drew b x0 := ⟨h.c0, h.z, h.lt⟩
instance OV.dn (W : World) (b : Nat) (x0 : Value) (q : Nat) [h : OV W b x0] : OV (W.drewN q) b x0 := ⟨h.c0, h.z, h.lt⟩
instance OV.al (W : World) (b : Nat) (x0 : Value) (o : Obj) [h : OV W b x0] : OV (W.alloc o) b x0 := OV.below h ((Below.refl _ _).alloc (Nat.le_refl _) _)
instance OV.fr (L w' : World) (b : Nat) (x0 : Value) [f : From L w'] [h : OV L b x0] : OV w' b x0 := OV.below h f.out
theorem OV.made (W : World) (t : TypeId) (x0 : Value) {n : Nat} (hn : n = W.heap.size) : OV (W.alloc (.cells #[x0] t)) n x0 := by
  subst hn
  exact ⟨by rw [World.cell?_alloc_new]; rfl, fun i => by simp [go_sem], by rw [World.size_alloc]; omega⟩
instance OV.mk' (W : World) (t : TypeId) (x0 : Value) (n : Nat) [h : Sz W n] : OV (W.alloc (.cells #[x0] t)) n x0 := OV.made W t x0 h.out
@[go_sem] theorem OV.r0 (W : World) (b : Nat) {x0 : Value} [h : OV W b x0] : W.cell? ⟨b, 0, none⟩ = some x0 := h.c0
@[go_sem] theorem OV.rz (W : World) (b i : Nat) {x0 : Value} [h : OV W b x0] : W.frozen? ⟨b, i, none⟩ = false := h.z i
class F4 (W : World) (b : Nat) (x0 x1 x2 x3 : outParam Value) : Prop where
  c0 : W.cell? ⟨b, 0, none⟩ = some x0
  c1 : W.cell? ⟨b, 1, none⟩ = some x1
  c2 : W.cell? ⟨b, 2, none⟩ = some x2
  c3 : W.cell? ⟨b, 3, none⟩ = some x3
  z : ∀ i, W.frozen? ⟨b, i, none⟩ = false
  lt : b < W.heap.size
theorem F4.below {W W' : World} {b : Nat} {x0 x1 x2 x3 : Value} (h : F4 W b x0 x1 x2 x3) (hb : Below W.heap.size W W') : F4 W' b x0 x1 x2 x3 := by
  obtain ⟨h1, h2⟩ := bcell hb
  exact ⟨(h1 _ _ h.lt).trans h.c0, (h1 _ _ h.lt).trans h.c1, (h1 _ _ h.lt).trans h.c2, (h1 _ _ h.lt).trans h.c3, fun i => (h2 _ _ h.lt).trans (h.z i), Nat.lt_of_lt_of_le h.lt hb.size⟩
instance F4.dr (W : World) (b : Nat) (x0 x1 x2 x3 : Value) [h : F4 W b x0 x1 x2 x3] : F4 W.drew b x0 x1 x2 x3 := ⟨h.c0, h.c1, h.c2, h.c3, h.z, h.lt⟩
instance F4.dn (W : World) (b : Nat) (x0 x1 x2 x3 : Value) (q : Nat) [h : F4 W b x0 x1 x2 x3] : F4 (W.drewN q) b x0 x1 x2 x3 := ⟨h.c0, h.c1, h.c2, h.c3, h.z, h.lt⟩
instance F4.al (W : World) (b : Nat) (x0 x1 x2 x3 : Value) (o : Obj) [h : F4 W b x0 x1 x2 x3] : F4 (W.alloc o) b x0 x1 x2 x3 := F4.below h ((Below.refl _ _).alloc (Nat.le_refl _) _)
instance F4.fr (L w' : World) (b : Nat) (x0 x1 x2 x3 : Value) [f : From L w'] [h : F4 L b x0 x1 x2 x3] : F4 w' b x0 x1 x2 x3 := F4.below h f.out
theorem F4.made (W : World) (t : TypeId) (x0 x1 x2 x3 : Value) {n : Nat} (hn : n = W.heap.size) : F4 (W.alloc (.cells #[x0, x1, x2, x3] t)) n x0 x1 x2 x3 := by
  subst hn
  exact ⟨by rw [World.cell?_alloc_new]; rfl, by rw [World.cell?_alloc_new]; rfl, by rw [World.cell?_alloc_new]; rfl, by rw [World.cell?_alloc_new]; rfl, fun i => by simp [go_sem], by rw [World.size_alloc]; omega⟩
instance F4.mk' (W : World) (t : TypeId) (x0 x1 x2 x3 : Value) (n : Nat) [h : Sz W n] : F4 (W.alloc (.cells #[x0, x1, x2, x3] t)) n x0 x1 x2 x3 := F4.made W t x0 x1 x2 x3 h.out
@[go_sem] theorem F4.r0 (W : World) (b : Nat) {x0 x1 x2 x3 : Value} [h : F4 W b x0 x1 x2 x3] : W.cell? ⟨b, 0, none⟩ = some x0 := h.c0
@[go_sem] theorem F4.r1 (W : World) (b : Nat) {x0 x1 x2 x3 : Value} [h : F4 W b x0 x1 x2 x3] : W.cell? ⟨b, 1, none⟩ = some x1 := h.c1
@[go_sem] theorem F4.r2 (W : World) (b : Nat) {x0 x1 x2 x3 : Value} [h : F4 W b x0 x1 x2 x3] : W.cell? ⟨b, 2, none⟩ = some x2 := h.c2
@[go_sem] theorem F4.r3 (W : World) (b : Nat) {x0 x1 x2 x3 : Value} [h : F4 W b x0 x1 x2 x3] : W.cell? ⟨b, 3, none⟩ = some x3 := h.c3
@[go_sem] theorem F4.rz (W : World) (b i : Nat) {x0 x1 x2 x3 : Value} [h : F4 W b x0 x1 x2 x3] : W.frozen? ⟨b, i, none⟩ = false := h.z i
attribute [local irreducible] Calls
theorem f4_row {w : World} {g a b c d : Nat} (h : F4 w g (.int .u64 (a : Nat)) (.int .u64 (b : Nat)) (.int .u64 (c : Nat)) (.int .u64 (d : Nat))) :
    FRow w g 4 (fun i => if i = 0 then a else if i = 1 then b else if i = 2 then c else d) := fun i hi => by
  rcases (show i = 0 ∨ i = 1 ∨ i = 2 ∨ i = 3 by omega) with rfl | rfl | rfl | rfl
  · exact h.c0
  · exact h.c1
  · exact h.c2
  · exact h.c3
theorem imost4 (w : World) (g a b c d : Nat) (ha : a < 18446744073709551616) (hb : b < 18446744073709551616) (hc : c < 18446744073709551616) (hd : d < 18446744073709551616) [h : F4 w g (.int .u64 (a : Nat)) (.int .u64 (b : Nat)) (.int .u64 (c : Nat)) (.int .u64 (d : Nat))] :
    Calls Tryz.prog 186 #[.slice (some ⟨g, 0, none⟩) 4 4] w fun e w' => e = .returned (.int .u64 (fmax2 (fmax2 (fmax2 a b) c) d : Nat)) ∧ Below w.heap.size w w' := by
  have H := imost_any w g 4 _ (by decide) (by decide) (fun i _ => by (repeat' split) <;> assumption) h.lt (f4_row h)
  have e : fmaxL (fun i => if i = 0 then a else if i = 1 then b else if i = 2 then c else d) 4 = fmax2 (fmax2 (fmax2 a b) c) d := by
    show fmax2 (fmax2 (fmax2 (fmax2 a a) b) c) d = _
    rw [fmax2_self]
  rwa [e] at H
theorem ileast4 (w : World) (g a b c d : Nat) (ha : a < 18446744073709551616) (hb : b < 18446744073709551616) (hc : c < 18446744073709551616) (hd : d < 18446744073709551616) [h : F4 w g (.int .u64 (a : Nat)) (.int .u64 (b : Nat)) (.int .u64 (c : Nat)) (.int .u64 (d : Nat))] :
    Calls Tryz.prog 187 #[.slice (some ⟨g, 0, none⟩) 4 4] w fun e w' => e = .returned (.int .u64 (fmin2 (fmin2 (fmin2 a b) c) d : Nat)) ∧ Below w.heap.size w w' := by
  have H := ileast_any w g 4 _ (by decide) (by decide) (fun i _ => by (repeat' split) <;> assumption) h.lt (f4_row h)
  have e : fminL (fun i => if i = 0 then a else if i = 1 then b else if i = 2 then c else d) 4 = fmin2 (fmin2 (fmin2 a b) c) d := by
    show fmin2 (fmin2 (fmin2 (fmin2 a a) b) c) d = _
    rw [fmin2_self]
  rwa [e] at H
set_option maxRecDepth 100000 in
set_option maxHeartbeats 8000000 in
theorem iat_mul (w : World) (g : Nat) (m : Int) (a : Nat) (b : Nat) (ha : a < 18446744073709551616) (hb : b < 18446744073709551616) [ht : Tb w] [ho : OV w g (.func (.func 42) #[] #[])] :
    Calls Tryz.prog 263 #[.int .u64 (a : Nat), .int .u64 (b : Nat), .int .i64 m, .pointer (some ⟨g, 0, none⟩)] w fun e w' => e = .returned (.int .u64 (fat fmul a b m : Nat)) ∧ Below w.heap.size w w' := by
  have H1 := fun W [Tb W] => Lib.hid (frm (wmul_any W a b ha hb m tb))
  unfold fat
  generalize fmul a b m = f at *
  have H2 := fun W => Lib.hid (fkind_any W f)
  have he := (fkind_eqs f).1
  generalize fkind f = z at H2 he
  generalize fnan f = k at he
  cases k
  · show Calls _ _ _ _ fun e w' => e = .returned (.int .u64 (f : Nat)) ∧ Below w.heap.size w w'
    generalize ((f : Nat) : Int) = y at *
    generalize ((a : Nat) : Int) = p at *
    generalize ((b : Nat) : Int) = q at *
    go_enter Tryz.func263, Tryz.ntmps263
    go_wp2_with fail
    refine (H1 _).out.mono ?_
    rintro e w1 ⟨rfl, b1⟩
    go_wp2_with fail
    refine (H2 _).out.mono ?_
    rintro e w2 ⟨rfl, rfl⟩
    go_wp2_with fail
    go_ret
    exact ⟨rfl, zbh⟩
  · show Calls _ _ _ _ fun e w' => e = .returned (.int .u64 0) ∧ Below w.heap.size w w'
    generalize ((f : Nat) : Int) = y at *
    generalize ((a : Nat) : Int) = p at *
    generalize ((b : Nat) : Int) = q at *
    go_enter Tryz.func263, Tryz.ntmps263
    go_wp2_with fail
    refine (H1 _).out.mono ?_
    rintro e w1 ⟨rfl, b1⟩
    go_wp2_with fail
    refine (H2 _).out.mono ?_
    rintro e w2 ⟨rfl, rfl⟩
    go_wp2_with fail
    go_ret
    exact ⟨rfl, zbh⟩
set_option maxRecDepth 100000 in
set_option maxHeartbeats 8000000 in
theorem iall_mul (w : World) (g go gx gy : Nat) (m : Int) (a : Nat) (b : Nat) (c : Nat) (d : Nat) (ha : a < 18446744073709551616) (hb : b < 18446744073709551616) (hc : c < 18446744073709551616) (hd : d < 18446744073709551616) [ht : Tb w] [ho : OV w g (.func (.func 263) #[] #[.pointer (some ⟨go, 0, none⟩)])] [hp : OV w go (.func (.func 42) #[] #[])] [hx : FV w gx (.int .u64 (a : Nat)) (.int .u64 (b : Nat))] [hy : FV w gy (.int .u64 (c : Nat)) (.int .u64 (d : Nat))] :
    Calls Tryz.prog 264 #[.int .i64 m, .pointer (some ⟨g, 0, none⟩), .pointer (some ⟨gx, 0, none⟩), .pointer (some ⟨gy, 0, none⟩)] w fun e w' =>
      ∃ h, e = .returned (.slice (some ⟨h, 0, none⟩) 4 4) ∧ F4 w' h (.int .u64 ((fat fmul a c m) : Nat)) (.int .u64 ((fat fmul a d m) : Nat)) (.int .u64 ((fat fmul b c m) : Nat)) (.int .u64 ((fat fmul b d m) : Nat)) ∧ From w w' := by
  have H0 := fun W [Tb W] [OV W go (.func (.func 42) #[] #[])] => Lib.hid (frm (iat_mul W go m a c ha hc))
  have H1 := fun W [Tb W] [OV W go (.func (.func 42) #[] #[])] => Lib.hid (frm (iat_mul W go m a d ha hd))
  have H2 := fun W [Tb W] [OV W go (.func (.func 42) #[] #[])] => Lib.hid (frm (iat_mul W go m b c hb hc))
  have H3 := fun W [Tb W] [OV W go (.func (.func 42) #[] #[])] => Lib.hid (frm (iat_mul W go m b d hb hd))
  generalize ((fat fmul a c m) : Int) = v0 at *
  generalize ((fat fmul a d m) : Int) = v1 at *
  generalize ((fat fmul b c m) : Int) = v2 at *
  generalize ((fat fmul b d m) : Int) = v3 at *
  generalize ((a : Nat) : Int) = p at *
  generalize ((b : Nat) : Int) = q at *
  generalize ((c : Nat) : Int) = r at *
  generalize ((d : Nat) : Int) = s at *
  go_enter Tryz.func264, Tryz.ntmps264
  go_wp2_with fail
  first
  | go_region_held3 (fun w' => w'.cell? ⟨g, 0, none⟩ = some (.func (.func 263) #[] #[.pointer (some ⟨go, 0, none⟩)]) ∧ w'.cell? ⟨gx, 0, none⟩ = some (.int .u64 p) ∧ w'.cell? ⟨gx, 1, none⟩ = some (.int .u64 q) ∧ w'.cell? ⟨gy, 0, none⟩ = some (.int .u64 r) ∧ w'.cell? ⟨gy, 1, none⟩ = some (.int .u64 s)) (first | (go_simp; done))
    (first
      | (go_at_call 263; refine (H0 _).out.mono ?_; rintro e w1 ⟨rfl, b1⟩)
      | (go_at_call 263; refine (H1 _).out.mono ?_; rintro e w2 ⟨rfl, b2⟩)
      | (go_at_call 263; refine (H2 _).out.mono ?_; rintro e w3 ⟨rfl, b3⟩)
      | (go_at_call 263; refine (H3 _).out.mono ?_; rintro e w4 ⟨rfl, b4⟩)
      | fail)
  | fail "region"
  all_goals (
    go_wp2_with fail
    go_ret
    exact ⟨_, rfl, inferInstance, ⟨zbh⟩⟩)
set_option maxRecDepth 100000 in
set_option maxHeartbeats 8000000 in
theorem icor_mul (w : World) [ht : Tb w] (a : Nat) (b : Nat) (c : Nat) (d : Nat) (ha : a < 18446744073709551616) (hb : b < 18446744073709551616) (hc : c < 18446744073709551616) (hd : d < 18446744073709551616) : Calls Tryz.prog 218 #[.agg #[.int .u64 (a : Nat), .int .u64 (b : Nat)], .agg #[.int .u64 (c : Nat), .int .u64 (d : Nat)], .func (.func 42) #[] #[]] w fun e w' => e = .returned (.agg #[.int .u64 (fclean (fmin2 (fmin2 (fmin2 (fat fmul a c 1) (fat fmul a d 1)) (fat fmul b c 1)) (fat fmul b d 1)) : Nat), .int .u64 (fclean (fmax2 (fmax2 (fmax2 (fat fmul a c 2) (fat fmul a d 2)) (fat fmul b c 2)) (fat fmul b d 2)) : Nat)]) ∧ Below w.heap.size w w' := by
  have hmf : ∀ (fn : Fn) (first cap : Array Value) (w : World), (Instr.makeFunc fn first cap).run Tryz.prog w = .ok (.func fn first cap) w := fun _ _ _ _ => rfl
  have HA := fun (m : Int) W g go gx gy [Tb W] [OV W g (.func (.func 263) #[] #[.pointer (some ⟨go, 0, none⟩)])] [OV W go (.func (.func 42) #[] #[])] [FV W gx (.int .u64 (a : Nat)) (.int .u64 (b : Nat))] [FV W gy (.int .u64 (c : Nat)) (.int .u64 (d : Nat))] => Lib.hid (iall_mul W g go gx gy m a b c d ha hb hc hd)
  have HA1 := HA 1
  have HA2 := HA 2
  clear HA
  have HL := fun W h [F4 W h (.int .u64 ((fat fmul a c 1) : Nat)) (.int .u64 ((fat fmul a d 1) : Nat)) (.int .u64 ((fat fmul b c 1) : Nat)) (.int .u64 ((fat fmul b d 1) : Nat))] => Lib.hid (frm (ileast4 W h _ _ _ _ (fat_lt _ fmul_lt' a c 1) (fat_lt _ fmul_lt' a d 1) (fat_lt _ fmul_lt' b c 1) (fat_lt _ fmul_lt' b d 1)))
  have HM := fun W h [F4 W h (.int .u64 ((fat fmul a c 2) : Nat)) (.int .u64 ((fat fmul a d 2) : Nat)) (.int .u64 ((fat fmul b c 2) : Nat)) (.int .u64 ((fat fmul b d 2) : Nat))] => Lib.hid (frm (imost4 W h _ _ _ _ (fat_lt _ fmul_lt' a c 2) (fat_lt _ fmul_lt' a d 2) (fat_lt _ fmul_lt' b c 2) (fat_lt _ fmul_lt' b d 2)))
  have HR := fun W => Lib.hid (frm (iresult_any W (fmin2 (fmin2 (fmin2 (fat fmul a c 1) (fat fmul a d 1)) (fat fmul b c 1)) (fat fmul b d 1)) (fmax2 (fmax2 (fmax2 (fat fmul a c 2) (fat fmul a d 2)) (fat fmul b c 2)) (fat fmul b d 2)) (fmin2_lt (fmin2_lt (fmin2_lt (fat_lt _ fmul_lt' _ _ _) (fat_lt _ fmul_lt' _ _ _)) (fat_lt _ fmul_lt' _ _ _)) (fat_lt _ fmul_lt' _ _ _)) (fmax2_lt (fmax2_lt (fmax2_lt (fat_lt _ fmul_lt' _ _ _) (fat_lt _ fmul_lt' _ _ _)) (fat_lt _ fmul_lt' _ _ _)) (fat_lt _ fmul_lt' _ _ _))))
  generalize ((fclean (fmin2 (fmin2 (fmin2 (fat fmul a c 1) (fat fmul a d 1)) (fat fmul b c 1)) (fat fmul b d 1)) : Nat) : Int) = u at *
  generalize ((fclean (fmax2 (fmax2 (fmax2 (fat fmul a c 2) (fat fmul a d 2)) (fat fmul b c 2)) (fat fmul b d 2)) : Nat) : Int) = v at *
  generalize ((fmin2 (fmin2 (fmin2 (fat fmul a c 1) (fat fmul a d 1)) (fat fmul b c 1)) (fat fmul b d 1) : Nat) : Int) = u1 at *
  generalize ((fmax2 (fmax2 (fmax2 (fat fmul a c 2) (fat fmul a d 2)) (fat fmul b c 2)) (fat fmul b d 2) : Nat) : Int) = v1 at *
  generalize (((fat fmul a c 1) : Nat) : Int) = z0 at *
  generalize (((fat fmul a d 1) : Nat) : Int) = z1 at *
  generalize (((fat fmul b c 1) : Nat) : Int) = z2 at *
  generalize (((fat fmul b d 1) : Nat) : Int) = z3 at *
  generalize (((fat fmul a c 2) : Nat) : Int) = z4 at *
  generalize (((fat fmul a d 2) : Nat) : Int) = z5 at *
  generalize (((fat fmul b c 2) : Nat) : Int) = z6 at *
  generalize (((fat fmul b d 2) : Nat) : Int) = z7 at *
  generalize ((a : Nat) : Int) = p at *
  generalize ((b : Nat) : Int) = q at *
  generalize ((c : Nat) : Int) = r at *
  generalize ((d : Nat) : Int) = s at *
  go_enter Tryz.func218, Tryz.ntmps218
  go_wp2_with fail
  refine (HA1 _ _ _ _ _).out.mono ?_
  rintro e w1 ⟨g1, rfl, f1, b1⟩
  go_wp2_with fail
  refine (HL _ _).out.mono ?_
  rintro e w2 ⟨rfl, b2⟩
  go_wp2_with fail
  refine (HA2 _ _ _ _ _).out.mono ?_
  rintro e w3 ⟨g2, rfl, f2, b3⟩
  go_wp2_with fail
  refine (HM _ _).out.mono ?_
  rintro e w4 ⟨rfl, b4⟩
  go_wp2_with fail
  refine (HR _).out.mono ?_
  rintro e w5 ⟨rfl, b5⟩
  go_wp2_with fail
  refine bodyPost_ret (v := .agg #[.int .u64 u, .int .u64 v]) (by simp only [results, Tryz.results218]; go_simp) rfl ?_
  exact ⟨rfl, zbh⟩
set_option maxRecDepth 100000 in
set_option maxHeartbeats 8000000 in
theorem imul_any (w : World) (hT : Tab w) (a : Nat) (b : Nat) (c : Nat) (d : Nat) (ha : a < 18446744073709551616) (hb : b < 18446744073709551616) (hc : c < 18446744073709551616) (hd : d < 18446744073709551616) : Calls Tryz.prog 124 #[.agg #[.int .u64 (a : Nat), .int .u64 (b : Nat)], .agg #[.int .u64 (c : Nat), .int .u64 (d : Nat)]] w fun e w' => e = .returned (.agg #[.int .u64 ((imul (a, b) (c, d)).1 : Nat), .int .u64 ((imul (a, b) (c, d)).2 : Nat)]) ∧ Below w.heap.size w w' := by
  have HT : Tb w := ⟨hT⟩
  have H1 := fun W => Lib.hid (frm (iboth_any W a b c d ha hb hc hd))
  have HC := fun W [Tb W] => Lib.hid (frm (icor_mul W a b c d ha hb hc hd))
  have HW := fun W => Lib.hid (show Calls Tryz.prog 190 #[] W fun e w' => e = .returned (.agg #[.int .u64 18442240474082181120, .int .u64 9218868437227405312]) ∧ From W w' from frm (iwhole_any W))
  unfold imul iall icor ires
  generalize (iok (a, b) && iok (c, d)) = k1 at *
  cases k1
  · skip
    show Calls _ _ _ _ fun e w' => e = .returned (.agg #[.int .u64 18442240474082181120, .int .u64 9218868437227405312]) ∧ Below w.heap.size w w'
    generalize ((a : Nat) : Int) = p at *
    generalize ((b : Nat) : Int) = q at *
    generalize ((c : Nat) : Int) = r at *
    generalize ((d : Nat) : Int) = s at *
    go_enter Tryz.func124, Tryz.ntmps124
    go_wp2_with fail
    refine (H1 _).out.mono ?_
    rintro e w1 ⟨rfl, b1⟩
    go_wp2_with fail
    refine (HW _).out.mono ?_
    rintro e w2 ⟨rfl, b2⟩
    go_wp2_with fail
    refine bodyPost_ret (v := .agg #[.int .u64 18442240474082181120, .int .u64 9218868437227405312]) (by simp only [results, Tryz.results124]; go_simp) rfl ?_
    exact ⟨rfl, zbh⟩
  · skip
    show Calls _ _ _ _ fun e w' => e = .returned (.agg #[.int .u64 (fclean (fmin2 (fmin2 (fmin2 (fat fmul a c 1) (fat fmul a d 1)) (fat fmul b c 1)) (fat fmul b d 1)) : Nat), .int .u64 (fclean (fmax2 (fmax2 (fmax2 (fat fmul a c 2) (fat fmul a d 2)) (fat fmul b c 2)) (fat fmul b d 2)) : Nat)]) ∧ Below w.heap.size w w'
    generalize ((fclean (fmin2 (fmin2 (fmin2 (fat fmul a c 1) (fat fmul a d 1)) (fat fmul b c 1)) (fat fmul b d 1)) : Nat) : Int) = u at *
    generalize ((fclean (fmax2 (fmax2 (fmax2 (fat fmul a c 2) (fat fmul a d 2)) (fat fmul b c 2)) (fat fmul b d 2)) : Nat) : Int) = v at *
    generalize ((a : Nat) : Int) = p at *
    generalize ((b : Nat) : Int) = q at *
    generalize ((c : Nat) : Int) = r at *
    generalize ((d : Nat) : Int) = s at *
    go_enter Tryz.func124, Tryz.ntmps124
    go_wp2_with fail
    refine (H1 _).out.mono ?_
    rintro e w1 ⟨rfl, b1⟩
    go_wp2_with fail
    refine (HC _).out.mono ?_
    rintro e w2 ⟨rfl, b2⟩
    go_wp2_with fail
    refine bodyPost_ret (v := .agg #[.int .u64 u, .int .u64 v]) (by simp only [results, Tryz.results124]; go_simp) rfl ?_
    exact ⟨rfl, zbh⟩
end Go.Proofs.YtmpcikkimcehnaaGreatDoor
namespace Go.Proofs.YtmpcikkimcehnaaGreatDoor
open Go.RowKit Sp
attribute [local irreducible] Calls
theorem add_11 (m : Int) : fadd fOne fOne m = fTwo := by
  rw [fadd_fin fin_one fin_one, if_neg (by decide)]
  have h1 : fz fOne + fz fOne = fz fTwo := by rw [fz_one, fz_two, Int.pow_succ]; omega
  rw [h1, if_neg (fun h => absurd (fz_zero.1 h) (by decide)), ← fof_fin (by decide)]
  exact fround_of (by decide) (by decide) (by decide) m
theorem mul_11 (m : Int) : fmul fOne fOne m = fOne := by rw [fmul_one (by decide)]; decide
theorem mul_12 (m : Int) : fmul fOne fTwo m = fTwo := by rw [fmul_comm, fmul_one (by decide)]; decide
theorem point_1 : ipoint fOne = (fOne, fOne) := by decide
theorem point_2 : ipoint fTwo = (fTwo, fTwo) := by decide
theorem add_pp : iadd (fOne, fOne) (fOne, fOne) = (fTwo, fTwo) := by
  unfold iadd
  rw [show (iok (fOne, fOne) && iok (fOne, fOne)) = true by decide]
  show ires (fadd fOne fOne 1) (fadd fOne fOne 2) = _
  rw [add_11, add_11]; decide
theorem mul_pp : imul (fOne, fOne) (fOne, fTwo) = (fOne, fTwo) := by
  unfold imul
  rw [show (iok (fOne, fOne) && iok (fOne, fTwo)) = true by decide]
  show icor fmul (fOne, fOne) (fOne, fTwo) = _
  unfold icor fat
  simp only [mul_11, mul_12]
  decide
set_option maxRecDepth 100000 in
set_option maxHeartbeats 8000000 in
theorem awakeI_any (w : World) [ht : Tb w] : Calls Tryz.prog 66 #[] w fun e w' => e = .returned (.bool true) ∧ Below w.heap.size w w' := by
  have H1 := fun W [Tb W] => Lib.hid (show Calls Tryz.prog 128 #[.int .u64 4607182418800017408] W fun e w' => e = .returned (.agg #[.int .u64 4607182418800017408, .int .u64 4607182418800017408]) ∧ From W w' from by
    have := frm (ipoint_any W fOne (by decide))
    rw [point_1] at this; exact this)
  have H2 := fun W [Tb W] => Lib.hid (show Calls Tryz.prog 122 #[.agg #[.int .u64 4607182418800017408, .int .u64 4607182418800017408], .agg #[.int .u64 4607182418800017408, .int .u64 4607182418800017408]] W fun e w' => e = .returned (.agg #[.int .u64 4611686018427387904, .int .u64 4611686018427387904]) ∧ From W w' from by
    have := frm (iadd_any W tb fOne fOne fOne fOne (by decide) (by decide) (by decide) (by decide))
    rw [add_pp] at this; exact this)
  have H3 := fun W [Tb W] => Lib.hid (show Calls Tryz.prog 128 #[.int .u64 4611686018427387904] W fun e w' => e = .returned (.agg #[.int .u64 4611686018427387904, .int .u64 4611686018427387904]) ∧ From W w' from by
    have := frm (ipoint_any W fTwo (by decide))
    rw [point_2] at this; exact this)
  have H4 := fun W [Tb W] => Lib.hid (show Calls Tryz.prog 124 #[.agg #[.int .u64 4607182418800017408, .int .u64 4607182418800017408], .agg #[.int .u64 4607182418800017408, .int .u64 4611686018427387904]] W fun e w' => e = .returned (.agg #[.int .u64 4607182418800017408, .int .u64 4611686018427387904]) ∧ From W w' from by
    have := frm (imul_any W tb fOne fOne fOne fTwo (by decide) (by decide) (by decide) (by decide))
    rw [mul_pp] at this; exact this)
  have H5 := fun W [Tb W] => Lib.hid (show Calls Tryz.prog 131 #[.agg #[.int .u64 4607182418800017408, .int .u64 4611686018427387904]] W fun e w' => e = .returned (.bool true) ∧ From W w' from by
    have := frm (ivalid_any W fOne fTwo (by decide) (by decide))
    rw [show iok (fOne, fTwo) = true by decide] at this; exact this)
  have H6 := fun W [Tb W] => Lib.hid (show Calls Tryz.prog 131 #[.agg #[.int .u64 4611686018427387904, .int .u64 4607182418800017408]] W fun e w' => e = .returned (.bool false) ∧ From W w' from by
    have := frm (ivalid_any W fTwo fOne (by decide) (by decide))
    rw [show iok (fTwo, fOne) = false by decide] at this; exact this)
  have H7 := fun W [Tb W] => Lib.hid (show Calls Tryz.prog 64 #[.agg #[.int .u64 4607182418800017408, .int .u64 4607182418800017408], .agg #[.int .u64 4607182418800017408, .int .u64 4611686018427387904]] W fun e w' => e = .returned (.bool true) ∧ From W w' from by
    have := frm (isubset_any W fOne fOne fOne fTwo (by decide) (by decide) (by decide) (by decide))
    rw [show isubset (fOne, fOne) (fOne, fTwo) = true by decide] at this; exact this)
  go_enter Tryz.func66, Tryz.ntmps66
  go_wp2_with fail
  refine (H1 _).out.mono ?_
  rintro e w1 ⟨rfl, b1⟩
  go_wp2_with fail
  first
  | go_region_held3 (fun w' => w'.cell? ⟨w1.heap.size, 0, none⟩ = some (.int .u64 4607182418800017408) ∧ w'.cell? ⟨w1.heap.size, 1, none⟩ = some (.int .u64 4607182418800017408) ∧ w'.cell? ⟨w1.heap.size + 1, 0, none⟩ = some (.int .u64 4607182418800017408) ∧ w'.cell? ⟨w1.heap.size + 1, 1, none⟩ = some (.int .u64 4611686018427387904)) (first | (go_simp; done))
      (first
        | (go_at_call 122; refine (H2 _).out.mono ?_; rintro e w2 ⟨rfl, b2⟩)
        | (go_at_call 128; refine (H3 _).out.mono ?_; rintro e w3 ⟨rfl, b3⟩)
        | (go_at_call 124; refine (H4 _).out.mono ?_; rintro e w4 ⟨rfl, b4⟩)
        | (go_at_call 131; refine (H5 _).out.mono ?_; rintro e w5 ⟨rfl, b5⟩)
        | (go_at_call 131; refine (H6 _).out.mono ?_; rintro e w6 ⟨rfl, b6⟩)
        | (go_at_call 64; refine (H7 _).out.mono ?_; rintro e w7 ⟨rfl, b7⟩)
        | fail)
  | fail "region"
  all_goals (
    go_wp2_with fail
    go_ret
    exact ⟨rfl, zbh⟩)
end Go.Proofs.YtmpcikkimcehnaaGreatDoor
namespace Go.Proofs.YtmpcikkimcehnaaGreatDoor
open Go.RowKit Sp
set_option linter.unusedSimpArgs false
attribute [local irreducible] Calls
theorem imid_lt {x : Nat × Nat} : imid x < 18446744073709551616 := by
  unfold imid
  repeat' split
  · decide
  · decide
  · exact fneg_lt _
  · decide
  · exact fclean_lt (fround_lt' _ _)
abbrev DIv (W : World) (d : Option (Int × Int)) (a : Option Addr) (c : Nat) : Prop := DI W (dbad d) (decide (dman d < 0)) a (nl (dman d).natAbs) c (dexp d) d
theorem isN_scale (a : Option (Int × Int)) (k : Int) : IsN (dscale a k) := by
  cases a with
  | none => exact isN_none
  | some p => exact isN_nrm _ _
set_option maxRecDepth 100000 in
set_option maxHeartbeats 8000000 in
theorem imid_fin_any (w : World) (hT : Tab w) (a : Nat) (b : Nat) (ha : a < 18446744073709551616) (hb : b < 18446744073709551616) (hk : iok (a, b) = true) (h1 : ¬ a = fNInf) (h2 : ¬ b = fInf) :
    Calls Tryz.prog 105 #[.agg #[.int .u64 (a : Nat), .int .u64 (b : Nat)]] w fun e w' => e = .returned (.int .u64 (fclean (fround (dscale (dadd (fof a) (fof b)) (-1)) 0) : Nat)) ∧ Below w.heap.size w w' := by
  have HT : Tb w := ⟨hT⟩
  have H1 := fun W => Lib.hid (frm (ivalid_any W a b ha hb))
  rw [hk] at H1
  have n1 : ¬ ((a : Nat) : Int) = 18442240474082181120 := fun h => h1 (by unfold fNInf; omega)
  have n2 : ¬ ((b : Nat) : Int) = 9218868437227405312 := fun h => h2 (by unfold fInf; omega)
  have HA := fun W [Tb W] => Lib.hid (frd (isN_fof a) (fof_any W a ha tb))
  have HB := fun W [Tb W] => Lib.hid (frd (isN_fof b) (fof_any W b hb tb))
  have HC := fun W a1 c1 a2 c2 [i1 : DIv W (fof a) a1 c1] [i2 : DIv W (fof b) a2 c2] [Tb W] => Lib.hid (frd (isN_add _ _) (dadd_any W _ _ _ _ _ _ _ _ _ _ _ _ (fof a) (fof b) i1.out i2.out tb))
  have HD := fun W a1 c1 [i1 : DIv W (dadd (fof a) (fof b)) a1 c1] [Tb W] => Lib.hid (frd (isN_scale _ _) (dscale_any W _ _ _ _ _ _ (-1) (dadd (fof a) (fof b)) i1.out tb (by decide) (by decide)))
  have HE := fun W a1 c1 [i1 : DIv W (dscale (dadd (fof a) (fof b)) (-1)) a1 c1] [Tb W] => Lib.hid (frm (fround_any W _ _ _ _ _ _ 0 (dscale (dadd (fof a) (fof b)) (-1)) i1.out tb))
  have HF := fun W => Lib.hid (iclean_any W (fround (dscale (dadd (fof a) (fof b)) (-1)) 0) (fround_lt' _ _))
  generalize ((fclean (fround (dscale (dadd (fof a) (fof b)) (-1)) 0) : Nat) : Int) = u at *
  generalize ((fround (dscale (dadd (fof a) (fof b)) (-1)) 0 : Nat) : Int) = u1 at *
  generalize dscale (dadd (fof a) (fof b)) (-1) = d4 at *
  generalize dadd (fof a) (fof b) = d3 at *
  generalize fof a = d1 at *
  generalize fof b = d2 at *
  generalize ((a : Nat) : Int) = p at *
  generalize ((b : Nat) : Int) = q at *
  clear h1 h2
  go_enter Tryz.func105, Tryz.ntmps105
  go_wp2_with fail
  refine (H1 _).out.mono ?_
  rintro e w1 ⟨rfl, b1⟩
  go_wp2_with fail
  first
  | go_region_held3 (fun w' => w'.cell? ⟨w.heap.size, 0, none⟩ = some (.int .u64 p) ∧ w'.cell? ⟨w.heap.size, 1, none⟩ = some (.int .u64 q)) (first | (go_simp; done))
      (first
        | (go_at_call 41; refine (HA _).out.mono ?_; rintro e w2 ⟨a2, c2, rfl, i2, b2⟩)
        | (go_at_call 41; refine (HB _).out.mono ?_; rintro e w3 ⟨a3, c3, rfl, i3, b3⟩)
        | (go_at_call 40; refine (HC _ _ _ _ _).out.mono ?_; rintro e w4 ⟨a4, c4, rfl, i4, b4⟩)
        | (go_at_call 208; refine (HD _ _ _).out.mono ?_; rintro e w5 ⟨a5, c5, rfl, i5, b5⟩)
        | (go_at_call 70; refine (HE _ _ _).out.mono ?_; rintro e w6 ⟨rfl, b6⟩)
        | (go_at_call 207; refine (HF _).out.mono ?_; rintro e w7 ⟨rfl, rfl⟩)
        | fail)
  | fail "region"
  all_goals (
    go_wp2_with fail
    go_ret
    exact ⟨rfl, zbh⟩)
set_option maxRecDepth 100000 in
set_option maxHeartbeats 8000000 in
theorem imid_any (w : World) (hT : Tab w) (a : Nat) (b : Nat) (ha : a < 18446744073709551616) (hb : b < 18446744073709551616) : Calls Tryz.prog 105 #[.agg #[.int .u64 (a : Nat), .int .u64 (b : Nat)]] w fun e w' => e = .returned (.int .u64 (imid (a, b) : Nat)) ∧ Below w.heap.size w w' := by
  have HT : Tb w := ⟨hT⟩
  have H1 := fun W => Lib.hid (frm (ivalid_any W a b ha hb))
  have HN := fun W => Lib.hid (show Calls Tryz.prog 55 #[.int .u64 9218868437227405311] W fun e w' => e = .returned (.int .u64 18442240474082181119) ∧ From W w' from by
    have := frm (fneg_any W fMax (by decide))
    rw [show fneg fMax = 18442240474082181119 by decide] at this; exact this)
  by_cases hk : iok (a, b) = true
  · by_cases h1 : a = fNInf
    · by_cases h2 : b = fInf
      · have hv : imid (a, b) = 0 := by unfold imid; rw [hk]; simp [h1, h2]
        rw [hk] at H1
        rw [hv]
        subst h1 h2
        show Calls Tryz.prog 105 #[.agg #[.int .u64 18442240474082181120, .int .u64 9218868437227405312]] w fun e w' => e = .returned (.int .u64 0) ∧ Below w.heap.size w w'
        have H1 := fun W => Lib.hid (show Calls Tryz.prog 131 #[.agg #[.int .u64 18442240474082181120, .int .u64 9218868437227405312]] W fun e w' => e = .returned (.bool true) ∧ From W w' from (H1 W).out)
        go_enter Tryz.func105, Tryz.ntmps105
        go_wp2_with fail
        refine (H1 _).out.mono ?_
        rintro e w1 ⟨rfl, b1⟩
        go_wp2_with fail
        go_ret
        exact ⟨rfl, zbh⟩
      · have hv : imid (a, b) = 18442240474082181119 := by
          unfold imid; rw [hk, show fneg fMax = 18442240474082181119 by decide]; simp [h1, h2]
        rw [hk] at H1
        rw [hv]
        subst h1
        have n2 : ¬ ((b : Nat) : Int) = 9218868437227405312 := fun h => h2 (by unfold fInf; omega)
        have H1 := fun W => Lib.hid (show Calls Tryz.prog 131 #[.agg #[.int .u64 18442240474082181120, .int .u64 (b : Nat)]] W fun e w' => e = .returned (.bool true) ∧ From W w' from (H1 W).out)
        show Calls Tryz.prog 105 #[.agg #[.int .u64 18442240474082181120, .int .u64 (b : Nat)]] w fun e w' => e = .returned (.int .u64 18442240474082181119) ∧ Below w.heap.size w w'
        clear hv h2
        generalize ((b : Nat) : Int) = q at *
        go_enter Tryz.func105, Tryz.ntmps105
        go_wp2_with fail
        refine (H1 _).out.mono ?_
        rintro e w1 ⟨rfl, b1⟩
        go_wp2_with fail
        refine (HN _).out.mono ?_
        rintro e w2 ⟨rfl, b2⟩
        go_wp2_with fail
        go_ret
        exact ⟨rfl, zbh⟩
    · by_cases h2 : b = fInf
      · have hv : imid (a, b) = fMax := by unfold imid; rw [hk]; simp [h1, h2]
        rw [hk] at H1
        rw [hv]
        subst h2
        have n1 : ¬ ((a : Nat) : Int) = 18442240474082181120 := fun h => h1 (by unfold fNInf; omega)
        have H1 := fun W => Lib.hid (show Calls Tryz.prog 131 #[.agg #[.int .u64 (a : Nat), .int .u64 9218868437227405312]] W fun e w' => e = .returned (.bool true) ∧ From W w' from (H1 W).out)
        show Calls Tryz.prog 105 #[.agg #[.int .u64 (a : Nat), .int .u64 9218868437227405312]] w fun e w' => e = .returned (.int .u64 9218868437227405311) ∧ Below w.heap.size w w'
        clear hv h1
        generalize ((a : Nat) : Int) = p at *
        go_enter Tryz.func105, Tryz.ntmps105
        go_wp2_with fail
        refine (H1 _).out.mono ?_
        rintro e w1 ⟨rfl, b1⟩
        go_wp2_with fail
        go_ret
        exact ⟨rfl, zbh⟩
      · have hv : imid (a, b) = fclean (fround (dscale (dadd (fof a) (fof b)) (-1)) 0) := by unfold imid; rw [hk]; simp [h1, h2]
        rw [hv]
        exact imid_fin_any w hT a b ha hb hk h1 h2
  · have hk : iok (a, b) = false := by simpa using hk
    have hv : imid (a, b) = fNaN := by unfold imid; rw [hk]; rfl
    rw [hk] at H1
    rw [hv]
    show Calls _ _ _ _ fun e w' => e = .returned (.int .u64 9221120237041090560) ∧ Below w.heap.size w w'
    clear hv
    generalize ((a : Nat) : Int) = p at *
    generalize ((b : Nat) : Int) = q at *
    go_enter Tryz.func105, Tryz.ntmps105
    go_wp2_with fail
    refine (H1 _).out.mono ?_
    rintro e w1 ⟨rfl, b1⟩
    go_wp2_with fail
    go_ret
    exact ⟨rfl, zbh⟩
set_option maxRecDepth 100000 in
set_option maxHeartbeats 8000000 in
theorem irad_fin_any (w : World) (hT : Tab w) (a : Nat) (b : Nat) (ha : a < 18446744073709551616) (hb : b < 18446744073709551616) (hk : iok (a, b) = true) (h1 : ¬ a = fNInf) (h2 : ¬ b = fInf) :
    Calls Tryz.prog 106 #[.agg #[.int .u64 (a : Nat), .int .u64 (b : Nat)]] w fun e w' => e = .returned (.int .u64 (fmax2 (fround (dsub (fof (imid (a, b))) (fof a)) 2) (fround (dsub (fof b) (fof (imid (a, b)))) 2) : Nat)) ∧ Below w.heap.size w w' := by
  have HT : Tb w := ⟨hT⟩
  have H1 := fun W => Lib.hid (frm (ivalid_any W a b ha hb))
  rw [hk] at H1
  have n1 : ¬ ((a : Nat) : Int) = 18442240474082181120 := fun h => h1 (by unfold fNInf; omega)
  have n2 : ¬ ((b : Nat) : Int) = 9218868437227405312 := fun h => h2 (by unfold fInf; omega)
  have m1 : (((a : Nat) : Int) == 18442240474082181120) = false := by simpa using n1
  have m2 : (((b : Nat) : Int) == 9218868437227405312) = false := by simpa using n2
  clear n1 n2
  have hm : imid (a, b) < 18446744073709551616 := imid_lt (x := (a, b))
  have H2 := fun W [Tb W] => Lib.hid (frm (imid_any W tb a b ha hb))
  have H3 := fun W [Tb W] => Lib.hid (frd (isN_fof (imid (a, b))) (fof_any W (imid (a, b)) hm tb))
  have HA := fun W [Tb W] => Lib.hid (frd (isN_fof a) (fof_any W a ha tb))
  have HB := fun W [Tb W] => Lib.hid (frd (isN_fof b) (fof_any W b hb tb))
  have HC := fun W a1 c1 a2 c2 [i1 : DIv W (fof (imid (a, b))) a1 c1] [i2 : DIv W (fof a) a2 c2] [Tb W] => Lib.hid (frd (show IsN (dsub (fof (imid (a, b))) (fof a)) from isN_add _ _) (dsub_any W _ _ _ _ _ _ _ _ _ _ _ _ (fof (imid (a, b))) (fof a) i1.out i2.out tb))
  have HD := fun W a1 c1 a2 c2 [i1 : DIv W (fof b) a1 c1] [i2 : DIv W (fof (imid (a, b))) a2 c2] [Tb W] => Lib.hid (frd (show IsN (dsub (fof b) (fof (imid (a, b)))) from isN_add _ _) (dsub_any W _ _ _ _ _ _ _ _ _ _ _ _ (fof b) (fof (imid (a, b))) i1.out i2.out tb))
  have HE := fun W a1 c1 [i1 : DIv W (dsub (fof (imid (a, b))) (fof a)) a1 c1] [Tb W] => Lib.hid (frm (fround_any W _ _ _ _ _ _ 2 (dsub (fof (imid (a, b))) (fof a)) i1.out tb))
  have HF := fun W a1 c1 [i1 : DIv W (dsub (fof b) (fof (imid (a, b)))) a1 c1] [Tb W] => Lib.hid (frm (fround_any W _ _ _ _ _ _ 2 (dsub (fof b) (fof (imid (a, b)))) i1.out tb))
  have HM := fun W g [FV W g (.int .u64 (fround (dsub (fof (imid (a, b))) (fof a)) 2 : Nat)) (.int .u64 (fround (dsub (fof b) (fof (imid (a, b)))) 2 : Nat))] => Lib.hid (frm (imost2 W g (fround (dsub (fof (imid (a, b))) (fof a)) 2) (fround (dsub (fof b) (fof (imid (a, b)))) 2) (fround_lt' _ _) (fround_lt' _ _)))
  generalize ((fmax2 (fround (dsub (fof (imid (a, b))) (fof a)) 2) (fround (dsub (fof b) (fof (imid (a, b)))) 2) : Nat) : Int) = u at *
  generalize ((fround (dsub (fof (imid (a, b))) (fof a)) 2 : Nat) : Int) = u1 at *
  generalize ((fround (dsub (fof b) (fof (imid (a, b)))) 2 : Nat) : Int) = u2 at *
  generalize hs1 : dsub (fof (imid (a, b))) (fof a) = s1 at *
  generalize hs2 : dsub (fof b) (fof (imid (a, b))) = s2 at *
  clear hs1 hs2
  generalize fof (imid (a, b)) = d0 at *
  generalize fof a = d1 at *
  generalize fof b = d2 at *
  generalize ((imid (a, b) : Nat) : Int) = m at *
  generalize ((a : Nat) : Int) = p at *
  generalize ((b : Nat) : Int) = q at *
  clear h1 h2 hm
  go_enter Tryz.func106, Tryz.ntmps106
  go_wp2_with fail
  refine (H1 _).out.mono ?_
  rintro e w1 ⟨rfl, b1⟩
  go_wp2_with fail
  refine (H2 _).out.mono ?_
  rintro e w2 ⟨rfl, b2⟩
  go_wp2_with fail
  refine (H3 _).out.mono ?_
  rintro e w3 ⟨a3, c3, rfl, i3, b3⟩
  go_wp2_with fail
  first
  | go_region_held3 (fun w' => w'.cell? ⟨w.heap.size, 0, none⟩ = some (.int .u64 p) ∧ w'.cell? ⟨w.heap.size, 1, none⟩ = some (.int .u64 q) ∧ w'.cell? ⟨w3.heap.size, 0, none⟩ = some (.bool (dbad d0)) ∧ w'.cell? ⟨w3.heap.size, 1, none⟩ = some (.bool (decide (dman d0 < 0))) ∧ w'.cell? ⟨w3.heap.size, 2, none⟩ = some (.slice a3 (nl (dman d0).natAbs) c3) ∧ w'.cell? ⟨w3.heap.size, 3, none⟩ = some (.int .i64 (dexp d0))) (first | (go_simp; done))
      (first
        | (go_at_call 41; refine (HA _).out.mono ?_; rintro e w4 ⟨a4, c4, rfl, i4, b4⟩)
        | (go_at_call 41; refine (HB _).out.mono ?_; rintro e w5 ⟨a5, c5, rfl, i5, b5⟩)
        | (go_at_call 108; refine (HC _ _ _ _ _).out.mono ?_; rintro e w6 ⟨a6, c6, rfl, i6, b6⟩)
        | (go_at_call 108; refine (HD _ _ _ _ _).out.mono ?_; rintro e w7 ⟨a7, c7, rfl, i7, b7⟩)
        | (go_at_call 70; refine (HE _ _ _).out.mono ?_; rintro e w8 ⟨rfl, b8⟩)
        | (go_at_call 70; refine (HF _ _ _).out.mono ?_; rintro e w9 ⟨rfl, b9⟩)
        | (go_at_call 186; refine (HM _ _).out.mono ?_; rintro e w10 ⟨rfl, b10⟩)
        | fail)
  | fail "region"
  all_goals (
    go_wp2_with fail
    go_ret
    exact ⟨rfl, zbh⟩)
set_option maxRecDepth 100000 in
set_option maxHeartbeats 8000000 in
theorem irad_any (w : World) (hT : Tab w) (a : Nat) (b : Nat) (ha : a < 18446744073709551616) (hb : b < 18446744073709551616) : Calls Tryz.prog 106 #[.agg #[.int .u64 (a : Nat), .int .u64 (b : Nat)]] w fun e w' => e = .returned (.int .u64 (irad (a, b) : Nat)) ∧ Below w.heap.size w w' := by
  have HT : Tb w := ⟨hT⟩
  have H1 := fun W => Lib.hid (frm (ivalid_any W a b ha hb))
  by_cases hk : iok (a, b) = true
  · by_cases h1 : a = fNInf
    · have hv : irad (a, b) = fInf := by unfold irad; rw [hk]; simp [h1]
      rw [hk] at H1
      rw [hv]
      subst h1
      have H1 := fun W => Lib.hid (show Calls Tryz.prog 131 #[.agg #[.int .u64 18442240474082181120, .int .u64 (b : Nat)]] W fun e w' => e = .returned (.bool true) ∧ From W w' from (H1 W).out)
      show Calls Tryz.prog 106 #[.agg #[.int .u64 18442240474082181120, .int .u64 (b : Nat)]] w fun e w' => e = .returned (.int .u64 9218868437227405312) ∧ Below w.heap.size w w'
      clear hv hk
      generalize ((b : Nat) : Int) = q at *
      go_enter Tryz.func106, Tryz.ntmps106
      go_wp2_with fail
      refine (H1 _).out.mono ?_
      rintro e w1 ⟨rfl, b1⟩
      go_wp2_with fail
      go_ret
      exact ⟨rfl, zbh⟩
    · by_cases h2 : b = fInf
      · have hv : irad (a, b) = fInf := by unfold irad; rw [hk]; simp [h1, h2]
        rw [hk] at H1
        rw [hv]
        subst h2
        have n1 : ¬ ((a : Nat) : Int) = 18442240474082181120 := fun h => h1 (by unfold fNInf; omega)
        have H1 := fun W => Lib.hid (show Calls Tryz.prog 131 #[.agg #[.int .u64 (a : Nat), .int .u64 9218868437227405312]] W fun e w' => e = .returned (.bool true) ∧ From W w' from (H1 W).out)
        show Calls Tryz.prog 106 #[.agg #[.int .u64 (a : Nat), .int .u64 9218868437227405312]] w fun e w' => e = .returned (.int .u64 9218868437227405312) ∧ Below w.heap.size w w'
        clear hv h1 hk
        generalize ((a : Nat) : Int) = p at *
        go_enter Tryz.func106, Tryz.ntmps106
        go_wp2_with fail
        refine (H1 _).out.mono ?_
        rintro e w1 ⟨rfl, b1⟩
        go_wp2_with fail
        go_ret
        exact ⟨rfl, zbh⟩
      · have hv : irad (a, b) = fmax2 (fround (dsub (fof (imid (a, b))) (fof a)) 2) (fround (dsub (fof b) (fof (imid (a, b)))) 2) := by unfold irad; rw [hk]; simp [h1, h2, dsub]
        rw [hv]
        exact irad_fin_any w hT a b ha hb hk h1 h2
  · have hk : iok (a, b) = false := by simpa using hk
    have hv : irad (a, b) = fNaN := by unfold irad; rw [hk]; rfl
    rw [hk] at H1
    rw [hv]
    show Calls _ _ _ _ fun e w' => e = .returned (.int .u64 9221120237041090560) ∧ Below w.heap.size w w'
    clear hv
    generalize ((a : Nat) : Int) = p at *
    generalize ((b : Nat) : Int) = q at *
    go_enter Tryz.func106, Tryz.ntmps106
    go_wp2_with fail
    refine (H1 _).out.mono ?_
    rintro e w1 ⟨rfl, b1⟩
    go_wp2_with fail
    go_ret
    exact ⟨rfl, zbh⟩
theorem dvalid_in (w : World) (v s : Bool) (A : Option Addr) (n c : Nat) (e : Int) (d : Option (Int × Int)) (hx : DyIn w v s A n c e d) (hT : Tab w) : Calls Tryz.prog 144 #[.agg #[.bool v, .bool s, .slice A n c, .int .i64 e]] w fun e w' => e = .returned (.bool (!dbad d)) ∧ Below w.heap.size w w' := by
  obtain ⟨x, h1, h2, h3, h4, h5, h6⟩ := hx
  have := dvalid_any w v s A n c x e h1 h2 hT h3 (tz_lim h3) h4 h5
  rwa [h6] at this
set_option maxRecDepth 100000 in
set_option maxHeartbeats 8000000 in
theorem iabove_any (w : World) (g : Nat) (a : Nat) (ha : a < 18446744073709551616) (v s : Bool) (A : Option Addr) (n c : Nat) (e : Int) (d : Option (Int × Int)) [ht : Tb w] [hg : DB w g v s (.slice A n c) e] [hd : DI w v s A n c e d] :
    Calls Tryz.prog 209 #[.int .u64 (a : Nat), .pointer (some ⟨g, 0, none⟩)] w fun e w' => e = .returned (.int .i64 (dcmp (fof a) d)) ∧ Below w.heap.size w w' := by
  have HA := fun W [Tb W] => Lib.hid (frd (isN_fof a) (fof_any W a ha tb))
  have HC := fun W a1 c1 [i1 : DIv W (fof a) a1 c1] [i2 : DI W v s A n c e d] [Tb W] => Lib.hid (frm (dcmp_any W _ _ _ _ _ _ _ _ _ _ _ _ (fof a) d i1.out i2.out tb))
  generalize fof a = d1 at *
  generalize dcmp d1 d = u at *
  generalize (!dbad d1 && !dbad d) = u' at *
  generalize ((a : Nat) : Int) = p at *
  go_enter Tryz.func209, Tryz.ntmps209
  go_wp2_with fail
  first
  | go_region_held3 (fun w' => w'.cell? ⟨g, 0, none⟩ = some (.bool v) ∧ w'.cell? ⟨g, 1, none⟩ = some (.bool s) ∧ w'.cell? ⟨g, 2, none⟩ = some (.slice A n c) ∧ w'.cell? ⟨g, 3, none⟩ = some (.int .i64 e)) (first | (go_simp; done))
      (first
        | (go_at_call 41; refine (HA _).out.mono ?_; rintro e w1 ⟨a1, c1, rfl, i1, b1⟩)
        | (go_at_call 57; refine (HC _ _ _).out.mono ?_; rintro e w2 ⟨rfl, b2⟩)
        | fail)
  | fail "region"
  all_goals (
    go_wp2_with fail
    go_ret
    exact ⟨rfl, zbh⟩)
set_option maxRecDepth 100000 in
set_option maxHeartbeats 8000000 in
theorem icont_any (w : World) (hT : Tab w) (a : Nat) (b : Nat) (ha : a < 18446744073709551616) (hb : b < 18446744073709551616) (v s : Bool) (A : Option Addr) (n c : Nat) (e : Int) (d : Option (Int × Int)) (hx : DyIn w v s A n c e d) :
    Calls Tryz.prog 107 #[.agg #[.int .u64 (a : Nat), .int .u64 (b : Nat)], .agg #[.bool v, .bool s, .slice A n c, .int .i64 e]] w fun e w' => e = .returned (.bool (icont (a, b) d)) ∧ Below w.heap.size w w' := by
  have hmf : ∀ (fn : Fn) (first cap : Array Value) (w : World), (Instr.makeFunc fn first cap).run Tryz.prog w = .ok (.func fn first cap) w := fun _ _ _ _ => rfl
  have HT : Tb w := ⟨hT⟩
  have HX : DI w v s A n c e d := ⟨hx⟩
  clear hx
  have H1 := fun W => Lib.hid (frm (ivalid_any W a b ha hb))
  have H2 := fun W [i1 : DI W v s A n c e d] [Tb W] => Lib.hid (frm (dvalid_in W v s A n c e d i1.out tb))
  have H3 := fun W g [Tb W] [DB W g v s (.slice A n c) e] [DI W v s A n c e d] => Lib.hid (frm (iabove_any W g a ha v s A n c e d))
  have H4 := fun W g [Tb W] [DB W g v s (.slice A n c) e] [DI W v s A n c e d] => Lib.hid (frm (iabove_any W g b hb v s A n c e d))
  have e1 := beq_nat a fNInf 18442240474082181120 (by decide)
  have e2 := beq_nat b fInf 9218868437227405312 (by decide)
  show Calls _ _ _ _ fun e w' => e = .returned (.bool (iok (a, b) && !dbad d && (decide (a = fNInf) || decide (dcmp (fof a) d ≤ 0)) && (decide (b = fInf) || decide (0 ≤ dcmp (fof b) d)))) ∧ Below w.heap.size w w'
  rw [← e1, ← e2]
  clear e1 e2
  generalize iok (a, b) = k1 at *
  generalize (!dbad d) = k2 at *
  generalize dcmp (fof a) d = u1 at *
  generalize dcmp (fof b) d = u2 at *
  generalize ((a : Nat) : Int) = p at *
  generalize ((b : Nat) : Int) = q at *
  cases k1
  · skip
    go_enter Tryz.func107, Tryz.ntmps107
    go_wp2_with fail
    refine (H1 _).out.mono ?_
    rintro e w1 ⟨rfl, b1⟩
    go_wp2_with fail
    go_ret
    exact ⟨rfl, zbh⟩
  · cases k2
    · skip
      go_enter Tryz.func107, Tryz.ntmps107
      go_wp2_with fail
      refine (H1 _).out.mono ?_
      rintro e w1 ⟨rfl, b1⟩
      go_wp2_with fail
      refine (H2 _).out.mono ?_
      rintro e w2 ⟨rfl, b2⟩
      go_wp2_with fail
      go_ret
      exact ⟨rfl, zbh⟩
    · rcases two_ways (p == 18442240474082181120) with hp | hp <;> rcases two_ways (q == 9218868437227405312) with hq | hq <;> rcases two_ways (decide (u1 ≤ 0)) with hu | hu
      all_goals (
        rw [hp, hq, hu]
        simp only [decide_eq_true_eq, decide_eq_false_iff_not, beq_iff_eq, beq_eq_false_iff_ne, ne_eq] at hp hq hu
        (try subst hp)
        (try subst hq)
        go_enter Tryz.func107, Tryz.ntmps107
        go_wp2_with fail
        refine (H1 _).out.mono ?_
        rintro e' w1 ⟨rfl, b1⟩
        go_wp2_with fail
        refine (H2 _).out.mono ?_
        rintro e' w2 ⟨rfl, b2⟩
        go_wp2_with fail
        (try (refine (H3 _ _).out.mono ?_; rintro e' w3 ⟨rfl, b3⟩; go_wp2_with fail))
        (try (refine (H4 _ _).out.mono ?_; rintro e' w4 ⟨rfl, b4⟩; go_wp2_with fail))
        go_ret
        first | exact ⟨rfl, zbh⟩ | (refine ⟨?_, zbh⟩; simp; done) | (refine ⟨?_, zbh⟩; simp [hp]; done) | (refine ⟨?_, zbh⟩; simp [hq]; done) | (refine ⟨?_, zbh⟩; simp [hp, hq]; done) | (refine ⟨?_, zbh⟩; simp [hu]; done) | (refine ⟨?_, zbh⟩; simp [hp, hu]; done) | (refine ⟨?_, zbh⟩; simp [hq, hu]; done) | (refine ⟨?_, zbh⟩; simp [hp, hq, hu]; done))
end Go.Proofs.YtmpcikkimcehnaaGreatDoor

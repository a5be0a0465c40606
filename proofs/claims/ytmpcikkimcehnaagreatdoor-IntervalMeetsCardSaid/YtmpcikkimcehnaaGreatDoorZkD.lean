/-
  What the laws need beyond the slice Zi.
-/
import Derived.WalkKit
import Derived.Lib.Hide
import Derived.Deep.QuietTactic
import Derived.Laws.CopyOwn
import Derived.WalkLawsBesides
import Derived.WalkSpells
import Derived.BigQuiet
import Derived.Lib.Strings
import Derived.Lib.Slices
import Derived.Lib.Small
import Derived.Lib.Walk
import Derived.Lib.BitFns
import Derived.Deep.DeepCutAuto
import Derived.Deep.CutBlock
import Derived.Deep.LoopGhost
import Derived.Deep.RegionHeld3
import Derived.Deep.RegionWith
import Derived.Laws.EntriesVeiled
import Derived.ProofKit
import Derived.OpenShut
import Derived.Carry
import Derived.Laws.LoneSync
import Derived.Deep.DeepHandedRow
import Derived.Lib.LaidTab
import Derived.Maps.AppendAt
import Derived.Deep.AppendLies
import Derived.Test.YtmpcikkimcehnaaGreatDoorZiBa
import Derived.Test.YtmpcikkimcehnaaGreatDoorZiBb
import Derived.Test.YtmpcikkimcehnaaGreatDoorZiBc
import Derived.Test.YtmpcikkimcehnaaGreatDoorZiBd
import Derived.Test.YtmpcikkimcehnaaGreatDoorZiBe
import Derived.Test.YtmpcikkimcehnaaGreatDoorZiBf
import Derived.Test.YtmpcikkimcehnaaGreatDoorZiBL
import Derived.Test.YtmpcikkimcehnaaGreatDoorZiFP
import Derived.Test.YtmpcikkimcehnaaGreatDoorZiGa
import Derived.Test.YtmpcikkimcehnaaGreatDoorZiGc
import Derived.Test.YtmpcikkimcehnaaGreatDoorZiIP
import Derived.Test.YtmpcikkimcehnaaGreatDoorZiJA
import Derived.Test.YtmpcikkimcehnaaGreatDoorZiJc
import Derived.Test.YtmpcikkimcehnaaGreatDoorZiRd
import Derived.Test.YtmpcikkimcehnaaGreatDoorZiRe
import Derived.Test.YtmpcikkimcehnaaGreatDoorZiRk
import Derived.Test.YtmpcikkimcehnaaGreatDoorZiRq
import Derived.Test.YtmpcikkimcehnaaGreatDoorZiRm
import Derived.Test.YtmpcikkimcehnaaGreatDoorZiGi
import Derived.Test.YtmpcikkimcehnaaGreatDoorZiBg
import Derived.Test.YtmpcikkimcehnaaGreatDoorZiGo
import Derived.Test.YtmpcikkimcehnaaGreatDoorZiRt
import Derived.Test.YtmpcikkimcehnaaGreatDoorZiRu
import Derived.Test.YtmpcikkimcehnaaGreatDoorZiRa
import Derived.Test.YtmpcikkimcehnaaGreatDoorZiBh
import Derived.Test.YtmpcikkimcehnaaGreatDoorZiGr
import Derived.Test.YtmpcikkimcehnaaGreatDoorZiS3
import Derived.Test.YtmpcikkimcehnaaGreatDoorZiRva
import Derived.Test.YtmpcikkimcehnaaGreatDoorZiRv
import Derived.Test.YtmpcikkimcehnaaGreatDoorZiJg
import Derived.Test.YtmpcikkimcehnaaGreatDoorZiGq
import Derived.Test.YtmpcikkimcehnaaGreatDoorZiGs
import Derived.Test.YtmpcikkimcehnaaGreatDoorZiRat
import Derived.Test.YtmpcikkimcehnaaGreatDoorZiGm
import Derived.Test.YtmpcikkimcehnaaGreatDoorZiJD
import Derived.Test.YtmpcikkimcehnaaGreatDoorZiSqt
import Derived.Test.YtmpcikkimcehnaaGreatDoorZiJe
import Derived.Test.YtmpcikkimcehnaaGreatDoorZiOpen
import Derived.Test.YtmpcikkimcehnaaGreatDoorZiDys
import Derived.Test.YtmpcikkimcehnaaGreatDoorZiSum
import Derived.Test.YtmpcikkimcehnaaGreatDoorZiKA
import Derived.Test.YtmpcikkimcehnaaGreatDoorZiOpenF
import Derived.Test.YtmpcikkimcehnaaGreatDoorZiPFa
import Derived.Test.YtmpcikkimcehnaaGreatDoorZiPFb
import Derived.Test.YtmpcikkimcehnaaGreatDoorZiPFc
namespace Sp

/-! ### setd: a limb put in another's place -/
/-! ### nl: how many limbs -/
/-! ### sums -/
/-! ### differences: y + d = x. The borrow is the carry of y + d. -/
/-! ### products -/
/-! ### shifts -/
/-! ### division by one limb, from above -/
/-! ### the lower bits of a number -/
/-! ### order -/
end Sp

namespace Sp

/-! ### square roots: Newton's method from above -/
/-! ### zeros at the end -/
/-! ### the machine's trick for one limb: x and -x have one bit in common -/
end Sp

namespace Sp
open Go Go.RowKit

/-! ### A row of the call's own: block g, n limbs -/
/-! ### A list that grows by append: its first k limbs are those of z -/
/-! ### Calls that only read (and may draw), inside a region that draws its order -/
section
variable {P : Program} {f : FuncId} {args : Array Value} {w : World} {v : Value}
end

/-! ### bits of 64 -/
/-! ### Only block g has turned -/
/-! ### make -/
section
variable {P : Program} (t e : TypeId)
end

/-! ### append of one limb to a list of the call's own -/
/-! ### What nothing of turned, found by instances -/
theorem Mag.on {w w' : World} {a : Option Addr} {n cap x : Nat} (h : Mag w a n cap x) [b : Beh w w'] : Mag w' a n cap x := h.below b.out

end Sp

namespace Go.Proofs.YtmpcikkimcehnaaGreatDoor
open Go.RowKit Sp
set_option linter.unusedSimpArgs false

/-! ### what the functions compute -/
def imeetok (x y : Nat × Nat) : Bool := iok x && iok y && !fless (fmin2 x.2 y.2) (fmax2 x.1 y.1)
def imeet (x y : Nat × Nat) : Nat × Nat := if imeetok x y then ires (fmax2 x.1 y.1) (fmin2 x.2 y.2) else (0, 0)
def iinside (x y : Nat × Nat) : Bool := iok x && iok y && (decide (y.1 = fNInf) || fless y.1 x.1) && (decide (y.2 = fInf) || fless x.2 y.2)
/-! ### bounds of 64 bits -/
/-! ### places -/
/-! ### directed roundings -/
end Go.Proofs.YtmpcikkimcehnaaGreatDoor

namespace Go.Proofs.YtmpcikkimcehnaaGreatDoor
open Go.RowKit Sp
set_option linter.unusedSimpArgs false

/-! ### sums -/
/-! ### products; where there is none it is zero -/
end Go.Proofs.YtmpcikkimcehnaaGreatDoor

namespace Go.Proofs.YtmpcikkimcehnaaGreatDoor
open Go.RowKit Sp
set_option linter.unusedSimpArgs false

/-! ### quotients; where there is none it is zero -/
end Go.Proofs.YtmpcikkimcehnaaGreatDoor

namespace Go.Proofs.YtmpcikkimcehnaaGreatDoor
open Go.RowKit Sp
set_option linter.unusedSimpArgs false

/-! ### results between whose bounds two values lie -/
theorem imeet_lt {x y : Nat × Nat} (hx : Lt64 x) (hy : Lt64 y) : Lt64 (imeet x y) := by
  unfold imeet; split
  · exact ires_lt (fmax2_lt hx.1 hy.1) (fmin2_lt hx.2 hy.2)
  · constructor <;> decide
/-! ### sums -/
/-! ### products -/
/-! ### quotients -/
end Go.Proofs.YtmpcikkimcehnaaGreatDoor

namespace Go.Proofs.YtmpcikkimcehnaaGreatDoor
open Go.RowKit Sp
set_option linter.unusedSimpArgs false

/-! ### absolute values -/
/-! ### squares -/
/-! ### hulls and intersections -/
theorem imeet_place {x y : Nat × Nat} (hx : Lt64 x) (hy : Lt64 y) (h : iok x = true) (k : iok y = true) :
    (imeetok x y = true ↔ max (fplace x.1) (fplace y.1) ≤ min (fplace x.2) (fplace y.2)) ∧ (imeetok x y = true → iok (imeet x y) = true ∧ fplace (imeet x y).1 = max (fplace x.1) (fplace y.1) ∧ fplace (imeet x y).2 = min (fplace x.2) (fplace y.2)) := by
  obtain ⟨n1, n2, h1, h2, h3⟩ := (iok_iff hx).1 h
  obtain ⟨m1, m2, k1, k2, k3⟩ := (iok_iff hy).1 k
  have p := fmax2_place n1 m1
  have q := fmin2_place n2 m2
  have e : imeetok x y = true ↔ max (fplace x.1) (fplace y.1) ≤ min (fplace x.2) (fplace y.2) := by
    unfold imeetok
    rw [h, k, fless_place (fmin2_nan n2 m2) (fmax2_nan n1 m1), p, q]
    simp only [Bool.and_self, Bool.true_and, Bool.not_eq_true', decide_eq_false_iff_not]; omega
  refine ⟨e, fun ok => ?_⟩
  have le := e.1 ok
  have em : imeet x y = ires (fmax2 x.1 y.1) (fmin2 x.2 y.2) := by unfold imeet; rw [ok]; rfl
  rw [em]
  refine ⟨iok_res (fmax2_lt hx.1 hy.1) (fmin2_lt hx.2 hy.2) (fmax2_nan n1 m1) (fmin2_nan n2 m2) (by omega) (by omega) (by omega), ?_, ?_⟩
  · show fplace (fclean _) = _; rw [(fplace_clean _).1, p]
  · show fplace (fclean _) = _; rw [(fplace_clean _).1, q]
theorem iinside_sub {x y : Nat × Nat} (hx : Lt64 x) (hy : Lt64 y) (h : iinside x y = true) : isubset x y = true := by
  unfold iinside at h
  simp only [Bool.and_eq_true, Bool.or_eq_true, decide_eq_true_eq] at h
  obtain ⟨⟨⟨a, b⟩, h1⟩, h2⟩ := h
  obtain ⟨n1, n2, _⟩ := (iok_iff hx).1 a
  obtain ⟨m1, m2, _⟩ := (iok_iff hy).1 b
  have b1 := place_bound n1
  have b2 := place_bound n2
  refine (isubset_iff hx hy).2 ⟨a, b, ?_, ?_⟩
  · rcases h1 with h1 | h1
    · rw [(place_bot hy.1 m1).2 h1]; omega
    · rw [fless_place m1 n1] at h1; have := of_decide_eq_true h1; omega
  · rcases h2 with h2 | h2
    · rw [(place_top hy.2 m2).2 h2]; omega
    · rw [fless_place n2 m2] at h2; have := of_decide_eq_true h2; omega
theorem meets_law {x y : Nat × Nat} (hx : Lt64 x) (hy : Lt64 y) (a : Nat) :
    ((iwithin a x && iwithin a y) = true → imeetok x y = true) ∧ (imeetok x y = true → iwithin a (imeet x y) = (iwithin a x && iwithin a y)) ∧
    ((iok x && iok y) = false → imeetok x y = false ∧ isubset x y = false ∧ iinside x y = false) ∧
    ((iok x && iok y) = true → isubset x (ihull x y) = true ∧ isubset y (ihull x y) = true ∧ (iinside x y = true → isubset x y = true) ∧ isubset x y = (imeetok x y && isubset x (imeet x y))) := by
  cases h : iok x with
  | false =>
    have e1 : iwithin a x = false := by unfold iwithin; rw [h]; rfl
    have e2 : imeetok x y = false := by unfold imeetok; rw [h]; rfl
    have e3 : isubset x y = false := by unfold isubset; rw [h]; rfl
    have e4 : iinside x y = false := by unfold iinside; rw [h]; rfl
    rw [e1, e2, e3, e4]; simp
  | true =>
    cases k : iok y with
    | false =>
      have e1 : iwithin a y = false := by unfold iwithin; rw [k]; rfl
      have e2 : imeetok x y = false := by unfold imeetok; rw [h, k]; rfl
      have e3 : isubset x y = false := by unfold isubset; rw [h, k]; rfl
      have e4 : iinside x y = false := by unfold iinside; rw [h, k]; rfl
      rw [e1, e2, e3, e4]; simp
    | true =>
      have m := imeet_place hx hy h k
      have u := ihull_place hx hy h k
      have hl := ((iok_iff hx).1 h).2.2.1
      have kl := ((iok_iff hy).1 k).2.2.1
      refine ⟨fun w => ?_, fun ok => ?_, fun c => (by cases c), fun _ => ⟨?_, ?_, iinside_sub hx hy, ?_⟩⟩
      · rw [Bool.and_eq_true, iwithin_iff, iwithin_iff] at w
        obtain ⟨⟨_, _, a1, a2⟩, _, _, b1, b2⟩ := w
        exact m.1.2 (by omega)
      · obtain ⟨m1, m2, m3⟩ := m.2 ok
        unfold iwithin
        rw [m1, h, k, m2, m3, Bool.eq_iff_iff]
        cases ffin a
        · simp
        · simp only [Bool.and_self, Bool.true_and, Bool.and_eq_true, decide_eq_true_eq]; omega
      · exact (isubset_iff hx (ihull_lt hx hy)).2 ⟨h, u.1, by omega, by omega⟩
      · exact (isubset_iff hy (ihull_lt hx hy)).2 ⟨k, u.1, by omega, by omega⟩
      · rw [Bool.eq_iff_iff, Bool.and_eq_true, isubset_iff hx hy]
        constructor
        · rintro ⟨_, _, s1, s2⟩
          have ok := m.1.2 (by omega)
          obtain ⟨m1, m2, m3⟩ := m.2 ok
          exact ⟨ok, (isubset_iff hx (imeet_lt hx hy)).2 ⟨h, m1, by omega, by omega⟩⟩
        · rintro ⟨ok, s⟩
          obtain ⟨m1, m2, m3⟩ := m.2 ok
          obtain ⟨_, _, s1, s2⟩ := (isubset_iff hx (imeet_lt hx hy)).1 s
          exact ⟨h, k, by omega, by omega⟩

/-! ### IntervalPoints -/
/-! ### IntervalHolds -/
end Go.Proofs.YtmpcikkimcehnaaGreatDoor

namespace Go.Proofs.YtmpcikkimcehnaaGreatDoor
open Go.RowKit Sp
set_option linter.unusedSimpArgs false

/-! ### IntervalWhole -/
/-! ### IntervalMiddle -/
/-! ### IntervalUndone: sums -/
/-! ### IntervalUndone: quotients -/
/-! ### IntervalUndone: roots of squares -/
end Go.Proofs.YtmpcikkimcehnaaGreatDoor

namespace Go.Proofs.YtmpcikkimcehnaaGreatDoor
open Go.RowKit Sp
set_option linter.unusedSimpArgs false

end Go.Proofs.YtmpcikkimcehnaaGreatDoor

namespace Go.Proofs.YtmpcikkimcehnaaGreatDoor
open Go.RowKit Sp

attribute [local irreducible] Calls
set_option maxRecDepth 100000 in
set_option maxHeartbeats 8000000 in
theorem iinside_any (w : World) (a : Nat) (b : Nat) (c : Nat) (d : Nat) (ha : a < 18446744073709551616) (hb : b < 18446744073709551616) (hc : c < 18446744073709551616) (hd : d < 18446744073709551616) : Calls Tryz.prog 65 #[.agg #[.int .u64 (a : Nat), .int .u64 (b : Nat)], .agg #[.int .u64 (c : Nat), .int .u64 (d : Nat)]] w fun e w' => e = .returned (.bool (iinside (a, b) (c, d))) ∧ Below w.heap.size w w' := by
  have HB := fun W => Lib.hid (frm (iboth_any W a b c d ha hb hc hd))
  have H1 := fun W => Lib.hid (frm (iless_any W c a hc ha))
  have H2 := fun W => Lib.hid (frm (iless_any W b d hb hd))
  have e1 := beq_nat c fNInf 18442240474082181120 (by decide)
  have e2 := beq_nat d fInf 9218868437227405312 (by decide)
  show Calls _ _ _ _ fun e w' => e = .returned (.bool (iok (a, b) && iok (c, d) && (decide (c = fNInf) || fless c a) && (decide (d = fInf) || fless b d))) ∧ Below w.heap.size w w'
  rw [← e1, ← e2]
  clear e1 e2
  generalize (iok (a, b) && iok (c, d)) = k0 at *
  generalize fless c a = k1 at *
  generalize fless b d = k2 at *
  generalize ((a : Nat) : Int) = p at *
  generalize ((b : Nat) : Int) = q at *
  generalize ((c : Nat) : Int) = r at *
  generalize ((d : Nat) : Int) = s at *
  rcases two_ways (r == 18442240474082181120) with hr | hr <;> rcases two_ways (s == 9218868437227405312) with hs | hs
  all_goals (
    rw [hr, hs]
    simp only [beq_iff_eq, beq_eq_false_iff_ne, ne_eq] at hr hs
    (try subst hr)
    (try subst hs)
    cases k0 <;> cases k1
    all_goals (
      go_enter Tryz.func65, Tryz.ntmps65
      go_wp2_with fail
      refine (HB _).out.mono ?_
      rintro e w1 ⟨rfl, b1⟩
      go_wp2_with fail
      (try (refine (H1 _).out.mono ?_; rintro e w2 ⟨rfl, b2⟩; go_wp2_with fail))
      (try (refine (H2 _).out.mono ?_; rintro e w3 ⟨rfl, b3⟩; go_wp2_with fail))
      go_ret
      first | exact ⟨rfl, zbh⟩ | (refine ⟨?_, zbh⟩; simp; done) | (refine ⟨?_, zbh⟩; simp [hs]; done) | (refine ⟨?_, zbh⟩; simp [hr]; done) | (refine ⟨?_, zbh⟩; simp [hr, hs]; done)))

end Go.Proofs.YtmpcikkimcehnaaGreatDoor

namespace Go.Proofs.YtmpcikkimcehnaaGreatDoor
open Go.RowKit Sp
set_option linter.unusedSimpArgs false

section
variable {W : World} {v s : Bool} {a : Option Addr} {n cap : Nat} {e : Int} {d : Option (Int × Int)}
end
attribute [local irreducible] Calls

section
variable {P : Program} {md : Region.Mode} {ops : Array Oper} {Q : Exit → Act → World → Prop} {S : World → Prop} {fuel : Nat} {listed : Array Bool} {a : Act} {w : World}
end

set_option maxRecDepth 100000 in
set_option maxHeartbeats 8000000 in
theorem within_any (w : World) [ht : Tb w] (f : Nat) (a : Nat) (b : Nat) (hf : f < 18446744073709551616) (ha : a < 18446744073709551616) (hb : b < 18446744073709551616) : Calls Tryz.prog 62 #[.int .u64 (f : Nat), .agg #[.int .u64 (a : Nat), .int .u64 (b : Nat)]] w fun e w' => e = .returned (.bool (iwithin f (a, b))) ∧ Below w.heap.size w w' := by
  rw [← rcont_fof (x := (a, b)) ⟨ha, hb⟩ hf]
  have HA := fun W [Tb W] => Lib.hid (frs (isN_fof f) (r3of_any W f hf tb))
  have HC := fun W A1 C1 [i1 : DS W (dbad (fof f)) (decide (dman (fof f) < 0)) A1 (nl (dman (fof f)).natAbs) C1 (dexp (fof f)) (fof f)] [Tb W] => Lib.hid (frm (rcontains_any W a b ha hb _ _ A1 _ C1 _ (fof f) (hx := i1)))
  generalize rcont (a, b) (fof f) = k at *
  generalize fof f = d at *
  generalize ((f : Nat) : Int) = z at *
  generalize ((a : Nat) : Int) = p at *
  generalize ((b : Nat) : Int) = q at *
  go_enter Tryz.func62, Tryz.ntmps62
  go_wp2_with fail
  first
  | go_region_held3 (fun w' => w'.cell? ⟨w.heap.size, 0, none⟩ = some (.int .u64 p) ∧ w'.cell? ⟨w.heap.size, 1, none⟩ = some (.int .u64 q)) (first | (go_simp; done))
      (first
        | (go_at_call 86; refine (HA _).out.mono ?_; rintro o w1 ⟨A1, C1, rfl, i1, b1⟩)
        | (go_at_call 115; refine (HC _ _ _).out.mono ?_; rintro o w2 ⟨rfl, b2⟩)
        | fail)
  | fail "region"
  all_goals (
    go_wp2_with fail
    go_ret
    exact ⟨rfl, zbh⟩)

end Go.Proofs.YtmpcikkimcehnaaGreatDoor

namespace Go.Proofs.YtmpcikkimcehnaaGreatDoor
open Go.RowKit Sp

attribute [local irreducible] Calls
set_option maxRecDepth 100000 in
set_option maxHeartbeats 8000000 in
theorem imeet_any (w : World) (a : Nat) (b : Nat) (c : Nat) (d : Nat) (ha : a < 18446744073709551616) (hb : b < 18446744073709551616) (hc : c < 18446744073709551616) (hd : d < 18446744073709551616) : Calls Tryz.prog 61 #[.agg #[.int .u64 (a : Nat), .int .u64 (b : Nat)], .agg #[.int .u64 (c : Nat), .int .u64 (d : Nat)]] w fun e w' => e = .returned (.tuple #[.agg #[.int .u64 ((imeet (a, b) (c, d)).1 : Nat), .int .u64 ((imeet (a, b) (c, d)).2 : Nat)], .bool (imeetok (a, b) (c, d))]) ∧ Below w.heap.size w w' := by
  have H1 := fun W => Lib.hid (frm (iboth_any W a b c d ha hb hc hd))
  have HA := fun W g [FV W g (.int .u64 (a : Nat)) (.int .u64 (c : Nat))] => Lib.hid (frm (imost2 W g a c ha hc))
  have HB := fun W g [FV W g (.int .u64 (b : Nat)) (.int .u64 (d : Nat))] => Lib.hid (frm (ileast2 W g b d hb hd))
  have HC := fun W => Lib.hid (frm (iless_any W (fmin2 b d) (fmax2 a c) (fmin2_lt hb hd) (fmax2_lt ha hc)))
  have HR := fun W => Lib.hid (frm (iresult_any W (fmax2 a c) (fmin2 b d) (fmax2_lt ha hc) (fmin2_lt hb hd)))
  unfold imeet imeetok ires
  generalize (iok (a, b) && iok (c, d)) = k1 at *
  generalize fless (fmin2 b d) (fmax2 a c) = k2 at *
  cases k1
  · show Calls _ _ _ _ fun e w' => e = .returned (.tuple #[.agg #[.int .u64 0, .int .u64 0], .bool false]) ∧ Below w.heap.size w w'
    generalize ((a : Nat) : Int) = p at *
    generalize ((b : Nat) : Int) = q at *
    generalize ((c : Nat) : Int) = r at *
    generalize ((d : Nat) : Int) = s at *
    go_enter Tryz.func61, Tryz.ntmps61
    go_wp2_with fail
    refine (H1 _).out.mono ?_
    rintro e w1 ⟨rfl, b1⟩
    go_wp2_with fail
    refine bodyPost_ret (v := .tuple #[.agg #[.int .u64 0, .int .u64 0], .bool false]) (by simp only [results, Tryz.results61]; go_simp) rfl ?_
    exact ⟨rfl, zbh⟩
  · cases k2
    · show Calls _ _ _ _ fun e w' => e = .returned (.tuple #[.agg #[.int .u64 (fclean (fmax2 a c) : Nat), .int .u64 (fclean (fmin2 b d) : Nat)], .bool true]) ∧ Below w.heap.size w w'
      generalize ((fclean (fmax2 a c) : Nat) : Int) = u at *
      generalize ((fclean (fmin2 b d) : Nat) : Int) = v at *
      generalize ((fmax2 a c : Nat) : Int) = u1 at *
      generalize ((fmin2 b d : Nat) : Int) = v1 at *
      generalize ((a : Nat) : Int) = p at *
      generalize ((b : Nat) : Int) = q at *
      generalize ((c : Nat) : Int) = r at *
      generalize ((d : Nat) : Int) = s at *
      go_enter Tryz.func61, Tryz.ntmps61
      go_wp2_with fail
      refine (H1 _).out.mono ?_
      rintro e w1 ⟨rfl, b1⟩
      go_wp2_with fail
      first
      | go_region_held3 (fun w' => w'.cell? ⟨w.heap.size, 0, none⟩ = some (.int .u64 p) ∧ w'.cell? ⟨w.heap.size, 1, none⟩ = some (.int .u64 q) ∧ w'.cell? ⟨w.heap.size + 1, 0, none⟩ = some (.int .u64 r) ∧ w'.cell? ⟨w.heap.size + 1, 1, none⟩ = some (.int .u64 s)) (first | (go_simp; done))
          (first
            | (go_at_call 186; refine (HA _ _).out.mono ?_; rintro e w2 ⟨rfl, b2⟩)
            | (go_at_call 187; refine (HB _ _).out.mono ?_; rintro e w3 ⟨rfl, b3⟩)
            | fail)
      | fail "region"
      all_goals (
        go_wp2_with fail
        refine (HC _).out.mono ?_
        rintro e w4 ⟨rfl, b4⟩
        go_wp2_with fail
        refine (HR _).out.mono ?_
        rintro e w5 ⟨rfl, b5⟩
        go_wp2_with fail
        refine bodyPost_ret (v := .tuple #[.agg #[.int .u64 u, .int .u64 v], .bool true]) (by simp only [results, Tryz.results61]; go_simp) rfl ?_
        exact ⟨rfl, zbh⟩)
    · show Calls _ _ _ _ fun e w' => e = .returned (.tuple #[.agg #[.int .u64 0, .int .u64 0], .bool false]) ∧ Below w.heap.size w w'
      generalize ((fmax2 a c : Nat) : Int) = u1 at *
      generalize ((fmin2 b d : Nat) : Int) = v1 at *
      generalize ((a : Nat) : Int) = p at *
      generalize ((b : Nat) : Int) = q at *
      generalize ((c : Nat) : Int) = r at *
      generalize ((d : Nat) : Int) = s at *
      go_enter Tryz.func61, Tryz.ntmps61
      go_wp2_with fail
      refine (H1 _).out.mono ?_
      rintro e w1 ⟨rfl, b1⟩
      go_wp2_with fail
      first
      | go_region_held3 (fun w' => w'.cell? ⟨w.heap.size, 0, none⟩ = some (.int .u64 p) ∧ w'.cell? ⟨w.heap.size, 1, none⟩ = some (.int .u64 q) ∧ w'.cell? ⟨w.heap.size + 1, 0, none⟩ = some (.int .u64 r) ∧ w'.cell? ⟨w.heap.size + 1, 1, none⟩ = some (.int .u64 s)) (first | (go_simp; done))
          (first
            | (go_at_call 186; refine (HA _ _).out.mono ?_; rintro e w2 ⟨rfl, b2⟩)
            | (go_at_call 187; refine (HB _ _).out.mono ?_; rintro e w3 ⟨rfl, b3⟩)
            | fail)
      | fail "region"
      all_goals (
        go_wp2_with fail
        refine (HC _).out.mono ?_
        rintro e w4 ⟨rfl, b4⟩
        go_wp2_with fail
        refine bodyPost_ret (v := .tuple #[.agg #[.int .u64 0, .int .u64 0], .bool false]) (by simp only [results, Tryz.results61]; go_simp) rfl ?_
        exact ⟨rfl, zbh⟩)

end Go.Proofs.YtmpcikkimcehnaaGreatDoor


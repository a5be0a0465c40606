/-
  Walks: package accum: lists of floats; finite; the references' Finite, TwinFloats, Floats.
  Walks: package accum: Sum, products, sizes.
  Walks: package accum: products.
  Walks: package accum: Dot, Residual, rest, TwoSum, TwoMul, the norms.
  Walks: package accum: rest, TwoSum, TwoMul, the norms.
-/
import Derived.Test.YtablcbgeeeboeaaGreatDoorZfS3
import Derived.Test.YtablcbgeeeboeaaGreatDoorZfSum
import Derived.Test.YtablcbgeeeboeaaGreatDoorZfBh
import Derived.Test.YtablcbgeeeboeaaGreatDoorZfGq
import Derived.Test.YtablcbgeeeboeaaGreatDoorZfGo
import Derived.Deep.AppendLies
import Derived.Test.YtablcbgeeeboeaaGreatDoorZfGt
import Derived.Test.YtablcbgeeeboeaaGreatDoorZfBg
import Derived.Test.YtablcbgeeeboeaaGreatDoorZfCm
import Derived.Test.YtablcbgeeeboeaaGreatDoorZfGu
import Derived.Test.YtablcbgeeeboeaaGreatDoorZfOpen
import Derived.Test.YtablcbgeeeboeaaGreatDoorZfCs
import Derived.Deep.RegionHeld3
set_option maxRecDepth 100000
namespace Go.Proofs.YtablcbgeeeboeaaGreatDoor
open Go.RowKit Sp
theorem undFl : Tryz.prog.underlying 28 = some (.slice (Tryz.prog.elem 28)) := by kernel_rfl
theorem sizFl (w : World) : (Go.sizeOf (Tryz.prog.elem 28)).run Tryz.prog w = .ok 1 w := by kernel_rfl
structure Fls (w : World) (a : Option Addr) (n cap : Nat) (L : Nat → Nat) : Prop where
 fits : n ≤ cap
 lim : cap ≤ 9223372036854775807
 addr : 0 < n → a = some ⟨ab a, ao a, none⟩
 cell : ∀ i, i < n → w.cell? ⟨ab a, ao a + i, none⟩ = some (.int .u64 (L i : Nat))
 b : ∀ i, i < n → L i < 18446744073709551616
 old : 0 < n → ab a < w.heap.size
theorem Fls.below {w w' : World} {a : Option Addr} {n cap : Nat} {L : Nat → Nat} (h : Fls w a n cap L) (hb : Below w.heap.size w w') : Fls w' a n cap L :=
 ⟨h.fits, h.lim, h.addr, fun i hi => by rw [hb.cell (p := ⟨ab a, ao a + i, none⟩) (h.old (by omega))]; exact h.cell i hi, h.b, fun hn => Nat.lt_of_lt_of_le (h.old hn) hb.size⟩
theorem Fls.idx {w : World} {a : Option Addr} {n cap : Nat} {L : Nat → Nat} (h : Fls w a n cap L) (i : Nat) (hi : i < n) (W : World) :
 (Instr.indexAt 28 (.slice a n cap) (.int .i64 i)).run Tryz.prog W = .ok (.pointer (some ⟨ab a, ao a + i, none⟩)) W := by
 have ha := h.addr (by omega)
 generalize ab a = b at *
 generalize ao a = o at *
 subst ha
 rw [run_indexAt_slice _ _ _ _ _ _ _ undFl, if_pos ⟨by omega, by omega⟩, sizFl]
 simp only [Result.andThen, Int.toNat_natCast, Nat.mul_one, Addr.add_lit]
def allfin (L : Nat → Nat) : Nat → Bool
 | 0 => true
 | k + 1 => allfin L k && ffin (L k)
theorem allfin_iff (L : Nat → Nat) (n : Nat) : allfin L n = true ↔ ∀ i, i < n → ffin (L i) = true := by
 induction n with
 | zero => simp [allfin]
 | succ n ih =>
  simp only [allfin, Bool.and_eq_true, ih]
  constructor
  · rintro ⟨h, h'⟩ i hi
    by_cases hin : i < n
    · exact h i hin
    · obtain rfl : i = n := by omega
      exact h'
  · intro h; exact ⟨fun i hi => h i (by omega), h n (by omega)⟩
theorem allfin_not {L : Nat → Nat} {n i : Nat} (hi : i < n) (h : ffin (L i) = false) : allfin L n = false := by
 cases hc : allfin L n with
 | false => rfl
 | true => rw [(allfin_iff L n).1 hc i hi] at h; cases h
def mcell (d : Nat → Option (Int × Int)) (A : Nat → Option Addr) (C : Nat → Nat) (i : Nat) : Value × Value × Value × Value :=
 (.bool (dbad (d i)), .bool (decide (dman (d i) < 0)), .slice (A i) (nl (dman (d i)).natAbs) (C i), .int .i64 (dexp (d i)))
structure Dms (w : World) (base : Nat) (v : Value) (k : Nat) (d : Nat → Option (Int × Int)) (A : Nat → Option Addr) (C : Nat → Nat) : Prop where
 own : w.ownsRow base 46 4 v k (dcells (mcell d A C) k)
 m : ∀ i, i < k → Mag w (A i) (nl (dman (d i)).natAbs) (C i) (dman (d i)).natAbs
 ap : ∀ i, i < k → 0 < nl (dman (d i)).natAbs → some (ab (A i)) ≠ v.ownBlock
theorem Dms.below {w w' : World} {base : Nat} {v : Value} {k : Nat} {d : Nat → Option (Int × Int)} {A : Nat → Option Addr} {C : Nat → Nat} (h : Dms w base v k d A C) (hb : Below w.heap.size w w') : Dms w' base v k d A C :=
 ⟨ownsRow_below h.own hb, fun i hi => (h.m i hi).below hb, h.ap⟩
theorem Dms.app {w w' : World} {base : Nat} {v v' : Value} {k : Nat} {d : Nat → Option (Int × Int)} {A : Nat → Option Addr} {C : Nat → Nat} {a1 : Option Addr} {c1 : Nat} (h : Dms w base v k d A C)
 (ho : w'.ownsRow base 46 4 v' (k + 1) (dcells (mcell d A C) k ++ [.bool (dbad (d k)), .bool (decide (dman (d k) < 0)), .slice a1 (nl (dman (d k)).natAbs) c1, .int .i64 (dexp (d k))]))
 (hg : w.grownBy w' v.ownBlock) (hv : v'.ownBlock = v.ownBlock ∨ v'.ownBlock = some w.heap.size) (hm : Mag w a1 (nl (dman (d k)).natAbs) c1 (dman (d k)).natAbs) (hne : 0 < nl (dman (d k)).natAbs → some (ab a1) ≠ v.ownBlock) :
 Dms w' base v' (k + 1) d (fun i => if i = k then a1 else A i) (fun i => if i = k then c1 else C i) := by
 have hap : ∀ (x : Option Addr) (n : Nat), (0 < n → ab x < w.heap.size) → (0 < n → some (ab x) ≠ v.ownBlock) → 0 < n → some (ab x) ≠ v'.ownBlock := fun x n h1 h2 h3 h4 => by
  rcases hv with hv | hv
  · rw [hv] at h4; exact h2 h3 h4
  · rw [hv] at h4; injection h4 with h4; have := h1 h3; omega
 refine ⟨?_, fun i hi => ?_, fun i hi => ?_⟩
 · have e1 : dcells (mcell d (fun i => if i = k then a1 else A i) (fun i => if i = k then c1 else C i)) k = dcells (mcell d A C) k := dcells_congr fun i hi => by
    unfold mcell; simp only [if_neg (show ¬ i = k by omega)]
   simp only [dcells]
   rw [e1]
   unfold mcell
   simp only [if_pos]
   exact ho
 · by_cases hk : i = k
   · subst hk; simp only [if_pos]; exact mag_grown hm hg hne
   · simp only [if_neg hk]; exact mag_grown (h.m i (by omega)) hg (h.ap i (by omega))
 · by_cases hk : i = k
   · subst hk; simp only [if_pos]; exact hap _ _ hm.old hne
   · simp only [if_neg hk]; exact hap _ _ (h.m i (by omega)).old (h.ap i (by omega))
theorem Dms.dys {w : World} {base : Nat} {v : Value} {k : Nat} {d : Nat → Option (Int × Int)} {A : Nat → Option Addr} {C : Nat → Nat} (h : Dms w base v k d A C) (hd : ∀ i, IsN (d i)) :
 ∃ a cap, v = .slice a k cap ∧ Dys w a k cap (fun i => ⟨dbad (d i), decide (dman (d i) < 0), A i, nl (dman (d i)).natAbs, C i, dexp (d i), (dman (d i)).natAbs⟩) := by
 have hbd : ∀ i, i < k → -9223372036854775808 ≤ dexp (d i) ∧ dexp (d i) ≤ 9223372036854775807 := fun i _ => by have := isN_bounds (hd i); omega
 rcases h.own.2 with ⟨hv, hk⟩ | ⟨g, cap, cur, hv, hbg, hgg, hkc, hcm, hcs, htake⟩
 · subst hk
   exact ⟨none, 0, hv, ⟨by omega, by omega, by omega, fun i hi => by omega, fun i hi => by omega, fun i hi => by omega, fun i hi => by omega, fun i hi => by omega, fun i hi => by omega, by omega⟩⟩
 · have ho := h.own
   rw [hv] at ho
   have hc : ∀ j, j < k * 4 → w.cell? ⟨g, j, none⟩ = (dcells (mcell d A C) k)[j]? := fun j hj => ho.cellAt j hj
   refine ⟨some ⟨g, 0, none⟩, cap, hv, hkc, by unfold maxLen at hcm; omega, fun _ => rfl, fun i hi => ?_, fun i hi => ?_, fun i hi => ?_, fun i hi => ?_, h.m, hbd, fun _ => (Array.getElem?_eq_some_iff.1 hgg).1⟩
   · rw [ab_some, ao_some, Nat.zero_add, hc _ (by omega)]; exact (dcells_get _ hi).1
   · rw [ab_some, ao_some, Nat.zero_add, hc _ (by omega)]; exact (dcells_get _ hi).2.1
   · rw [ab_some, ao_some, Nat.zero_add, hc _ (by omega)]; exact (dcells_get _ hi).2.2.1
   · rw [ab_some, ao_some, Nat.zero_add, hc _ (by omega)]; exact (dcells_get _ hi).2.2.2
theorem els_d {d : Nat → Option (Int × Int)} {A : Nat → Option Addr} {C : Nat → Nat} (hd : ∀ i, IsN (d i)) (n : Nat) :
 dsum (fun i => (El.mk (dbad (d i)) (decide (dman (d i) < 0)) (A i) (nl (dman (d i)).natAbs) (C i) (dexp (d i)) (dman (d i)).natAbs).d) n = dsum d n := by
 congr 1
 funext i
 show nrmB (dbad (d i)) (sgn (decide (dman (d i) < 0)) (dman (d i)).natAbs) (dexp (d i)) = d i
 rw [sgn_self]; exact isN_self (hd i)
theorem own_slice' {w : World} {base : Nat} {e : TypeId} {size : Nat} {v : Value} {n : Nat} {xs : List Value} (h : w.ownsRow base e size v n xs) : ∃ a c, v = .slice a n c := by
 rcases h.2 with ⟨rfl, rfl⟩ | ⟨g, cap, cur, rfl, _⟩
 · exact ⟨none, 0, rfl⟩
 · exact ⟨_, _, rfl⟩
theorem dms_sum {w : World} {base : Nat} {v : Value} {k : Nat} {d : Nat → Option (Int × Int)} {A : Nat → Option Addr} {C : Nat → Nat} (hT : Tab w) (h : Dms w base v k d A C) (hd : ∀ i, IsN (d i)) (hk : k ≤ 1048576) :
 ∃ a cap, v = .slice a k cap ∧ Calls Tryz.prog 79 #[.slice a k cap] w (RetDy w (dsum d k)) := by
 obtain ⟨a, cap, hv, hD⟩ := h.dys hd
 refine ⟨a, cap, hv, ?_⟩
 have s := dsum_any w hT a k cap _ hD hk (fun i hi => by
  have := isN_bounds (hd i)
  refine ⟨nl_lim (by omega), ?_⟩
  show blen (dman (d i)).natAbs ≤ 1048576
  omega)
 rwa [els_d hd] at s
theorem step_app_dyad {ops : Array Oper} {o : Oper} {a : Act} {K : Act → World → Prop} {Q : Exit → Act → World → Prop} {w : World} {E : Prop} (hgd : o.guard = none) (s x : Operand)
 (ho : o.op = .call { callee := .builtin .append, args := #[s, x], argTypes := #[23, 23] }) (base : Nat) (v : Value) (n : Nat) (xs : List Value) (hs : a.eval s = v) (g : Nat) (b0 s0 : Bool) (sl : Value) (f0 : Int) (hsl : sl.oneCell' = true)
 (hx : a.eval x = .slice (some ⟨g, 0, none⟩) 1 1) (hown : w.ownsRow base 46 4 v n xs) (k0 : w.cell? ⟨g, 0, none⟩ = some (.bool b0)) (k1 : w.cell? ⟨g, 1, none⟩ = some (.bool s0)) (k2 : w.cell? ⟨g, 2, none⟩ = some sl) (k3 : w.cell? ⟨g, 3, none⟩ = some (.int .i64 f0)) (hn : n ≤ 1048576)
 (hbase : base ≤ w.heap.size) (h : ∀ g' cap' w', w'.ownsRow base 46 4 (.slice (some ⟨g', 0, none⟩) (n + 1) cap') (n + 1) (xs ++ [.bool b0, .bool s0, sl, .int .i64 f0]) → w.grownBy w' v.ownBlock → ((Value.slice (some ⟨g', 0, none⟩) (n + 1) cap').ownBlock = v.ownBlock ∨ (Value.slice (some ⟨g', 0, none⟩) (n + 1) cap').ownBlock = some w.heap.size) → K (a.put o.dst (.slice (some ⟨g', 0, none⟩) (n + 1) cap')) w') :
 if Region.wanted o (yielded ops a.tmps) = true then Oper.wp Tryz.prog o a w K Q else E := by
 obtain ⟨i0, hi, hz0, hz1, hz2⟩ := info_parts infD
 refine step_append_lies w hgd s x _ ho base _ i0 _ 4 48 undD hi hz0 hz1 hz2 rfl (by decide) v n xs hs hown ⟨g, 0, none⟩ 1 1 [.bool b0, .bool s0, sl, .int .i64 f0] hx rfl ?_ ?_ (by decide) (by unfold maxLen; omega) (by omega) hbase _ rfl (fun g' cap' w' h1 h2 h3 _ => h g' cap' w' h1 h2 ?_)
 · intro j u hu
   rw [Addr.add_lit, Nat.zero_add]
   rcases j with _ | _ | _ | _ | j
   · simp at hu; subst hu; exact k0
   · simp at hu; subst hu; exact k1
   · simp at hu; subst hu; exact k2
   · simp at hu; subst hu; exact k3
   · simp at hu
 · intro u hu
   simp only [List.mem_cons, List.not_mem_nil, or_false] at hu
   rcases hu with rfl | rfl | rfl | rfl
   · rfl
   · rfl
   · exact hsl
   · rfl
 · have e : (Value.slice (some ⟨g', 0, none⟩) (n + 1) cap').ownBlock = some g' := rfl
   rw [e]
   rcases h3 with h3 | h3
   · exact Or.inl h3.symm
   · exact Or.inr (by rw [h3])
theorem isN_zz : IsN (some (0, 0)) := by rw [← nrm_zero 0]; exact isN_nrm _ _
theorem isN_sum (d : Nat → Option (Int × Int)) (n : Nat) : IsN (dsum d n) := by
 unfold dsum; split
 · exact isN_none
 · exact isN_nrm _ _
theorem fround_lt2 (d : Option (Int × Int)) (mode : Int) : fround d mode < 18446744073709551616 := by
 unfold fround; split
 · decide
 · split
   · decide
   · exact fcut_lt _ _ _
end Go.Proofs.YtablcbgeeeboeaaGreatDoor
set_option maxRecDepth 100000
namespace Go.Proofs.YtablcbgeeeboeaaGreatDoor
open Go.ChangeShapes Go.WideShapes Go.ChangeAt Go.RowKit Sp
theorem cellsW : Tryz.prog.cellsOf 39 = 1 := by kernel_rfl
theorem readWords : Tryz.prog.readableRec 22 = true := by kernel_rfl
theorem rowWords : 22 < Tryz.prog.types.size := of_decide_eq_true (by kernel_rfl)
theorem words_open {H : Type} {enc : TypeId × Value → H} {W : World} {base : Nat} {sp : Nat → Bool} {hd : Bool} {r : Reach} {b0 : Nat} {v : Value} {d : DataW H} {p : List MemPlace} (hsp : ∀ b, sp b = true)
 (hv : Value.okWide Tryz.prog W r b0 22 v) (h : DataW.Trod enc Tryz.prog W base sp hd 22 v d p) :
 ∃ (a : Option Addr) (n cap : Nat) (L : Nat → Nat), v = .slice a n cap ∧ Fls W a n cap L := by
 obtain ⟨a0, n0, c0, rfl⟩ := okWide_slice Tryz.underlying22 hv
 obtain ⟨fuel, hf⟩ := h
 rcases open_ints Tryz.underlying22 Tryz.underlying39 cellsW hf with ⟨hcs, _⟩ | ⟨a, len, cap, ns, hcs, _, hle, hmax, hl, _, hall, hns⟩
 · simp [Value.cells] at hcs
   obtain ⟨rfl, rfl, rfl⟩ := hcs
   exact ⟨none, 0, 0, fun _ => 0, rfl, ⟨by omega, by omega, by omega, fun i hi => by omega, fun i hi => by omega, by omega⟩⟩
 · simp [Value.cells] at hcs
   obtain ⟨rfl, rfl, rfl⟩ := hcs
   rw [hsp, if_pos rfl] at hl
   have hb : ∀ i, i < ns.length → 0 ≤ ns.getD i 0 ∧ ns.getD i 0 ≤ 18446744073709551615 := fun i hi => by
    have h1 : ns.getD i 0 = ns[i] := by rw [List.getD_eq_getElem?_getD, List.getElem?_eq_getElem hi]; rfl
    rw [h1]
    exact bounds_u64 (hns _ (List.getElem_mem hi))
   have hspot : 0 < n0 → a.spot = none := fun h0 => by
    obtain ⟨_, _, _, _, hs⟩ := World.shape?_of_cell? (hall 0 (by omega))
    exact hs
   obtain ⟨b, o, q⟩ := a
   refine ⟨_, _, _, fun i => (ns.getD i 0).toNat, rfl, ⟨hle, by unfold maxLen at hmax; omega, fun h0 => ?_, fun i hi => ?_, fun i hi => ?_, fun h0 => ?_⟩⟩
   · have hq : q = none := hspot h0
     subst hq; rfl
   · have hq : q = none := hspot (by omega)
     subst hq
     have h1 := hall i (by omega)
     have h2 := hb i (by omega)
     rw [show (((ns.getD i 0).toNat : Nat) : Int) = ns.getD i 0 by omega]
     rw [Addr.add_lit] at h1
     exact h1
   · have h2 := hb i (by omega)
     show (ns.getD i 0).toNat < 18446744073709551616
     omega
   · exact lt_of_cell2 (hall 0 (by omega))
end Go.Proofs.YtablcbgeeeboeaaGreatDoor
namespace Go.Proofs.YtablcbgeeeboeaaGreatDoor
section
variable {P : Program} {ops : Array Oper} {Q : Exit → Act → World → Prop} {md : Region.Mode} {T : World → Prop} {last : List Nat}
def wpAnyJ (P : Program) (md : Region.Mode) (ops : Array Oper) (Q : Exit → Act → World → Prop) (T : World → Prop) (last : List Nat) : Nat → Array Bool → Act → World → Prop
 | 0, l, a, w => Region.ready md ops l = [] ∧ Q .normal a w
 | fuel + 1, l, a, w =>
  (Region.ready md ops l = [] → Q .normal a w) ∧
  ∀ i ∈ Region.ready md ops l, wpOp P ops Q i (fun a' w' => (i ∈ last ∨ T w') ∧ wpAnyJ P md ops Q T last fuel (l.setIfInBounds i true) a' w') a w
theorem wpAny_of_J : ∀ (fuel : Nat) (l : Array Bool) (a : Act) (w : World), wpAnyJ P md ops Q T last fuel l a w → wpAny P md ops Q fuel l a w
 | 0, _, _, _, h => h
 | fuel + 1, _, _, _, h => ⟨h.1, fun i hi => wpOp_mono (fun a' w' h' => wpAny_of_J fuel _ a' w' h'.2) (h.2 i hi)⟩
def lateB (md : Region.Mode) (ops : Array Oper) (i : Nat) (last : List Nat) (l : Array Bool) (late : List Nat) : Bool :=
 last.all late.contains && !late.contains i && late.all fun j => !l.getD j false && match ops[j]? with | some o => o.after.any fun e => Region.binds md e && (e.on == i || late.contains e.on) | none => true
theorem late_not {i : Nat} {late : List Nat} {l0 l : Array Bool} (hb : lateB md ops i last l0 late = true) (hi : l.getD i false = false) (hu : ∀ j ∈ late, l.getD j false = false) {j : Nat} (hj : j ∈ Region.ready md ops l) : ¬ j ∈ late := by
 intro hjl
 obtain ⟨_, o, ho, hall⟩ := mem_ready.1 hj
 unfold lateB at hb
 simp only [Bool.and_eq_true, List.all_eq_true] at hb
 have h2 := (hb.2 j hjl).2
 rw [ho] at h2
 simp only at h2
 rw [Array.any_eq_true] at h2
 obtain ⟨x, hx, hy⟩ := h2
 simp only [Bool.and_eq_true, Bool.or_eq_true, beq_iff_eq] at hy
 have h3 := hall _ (Array.getElem_mem hx) hy.1
 rcases hy.2 with h4 | h4
 · rw [h4, hi] at h3; cases h3
 · rw [hu _ (by simpa using h4)] at h3; cases h3
theorem wpAnyJ_first {i : Nat} {oi : Oper} {v : Value} {late : List Nat} {l0 : Array Bool} (hi : ops[i]? = some oi) (hsel : ∀ (j : Nat) (o : Oper) cs b, ops[j]? = some o → o.op ≠ .select cs b)
 (hQ : ∀ c a w, Q (.panic c) (a.put oi.dst v) w → Q (.panic c) a w) (hb : lateB md ops i last l0 late = true) (hla : ∀ j ∈ last, j ∈ late) (hil : i ∉ late) :
 ∀ (fuel : Nat) (l : Array Bool) (a : Act) (w : World),
  (∀ j oj, ops[j]? = some oj → j ≠ i → l.getD j true = false → (∀ e ∈ oj.after, Region.binds md e = true → e.on ≠ i) → oi.apart ops oj = true) →
  i ∈ Region.ready md ops l → (∀ j ∈ late, l.getD j false = false) → YieldsIf P ops T oi v a → T w →
  wpAnyJ P md ops Q T last fuel (l.setIfInBounds i true) (a.put oi.dst v) w → wpAnyJ P md ops Q T last (fuel + 1) l a w := by
 intro fuel
 induction fuel with
 | zero =>
  intro l a w _ hr _ hy hS H
  refine ⟨fun h => (by rw [h] at hr; cases hr), fun j hj => ?_⟩
  by_cases hji : j = i
  · subst hji; exact hy.wpOp hi hS ⟨Or.inr hS, H⟩
  · have := ready_mono hj hji
    rw [H.1] at this
    cases this
 | succ fuel ih =>
  intro l a w hfree hr hu hy hS H
  refine ⟨fun h => (by rw [h] at hr; cases hr), fun j hj => ?_⟩
  by_cases hji : j = i
  · subst hji; exact hy.wpOp hi hS ⟨Or.inr hS, H⟩
  · have h1 := H.2 j (ready_mono hj hji)
    obtain ⟨hjun, oj, hoj, hall⟩ := mem_ready.1 hj
    have hiu : l.getD i false = false := by
     have h0 := (mem_ready.1 hr).1
     rcases Nat.lt_or_ge i l.size with h' | h'
     · simpa [h'] using h0
     · simp [Array.getElem?_eq_none h'] at h0
    have hnot : ∀ e ∈ oj.after, Region.binds md e = true → e.on ≠ i := fun e he hbi heq => by
     have h1 := hall e he hbi
     rw [heq, hiu] at h1; cases h1
    have hjl : j ∉ late := late_not hb hiu hu hj
    have hjlast : j ∉ last := fun e => hjl (hla j e)
    have h2 := wpOp_putIf hoj (hfree j oj hoj hji hjun hnot) (fun cs b => hsel i oi cs b hi) (fun cs b => hsel j oj cs b hoj) hQ hy h1
    have hfree' : ∀ k ok, ops[k]? = some ok → k ≠ i → (l.setIfInBounds j true).getD k true = false →
     (∀ e ∈ ok.after, Region.binds md e = true → e.on ≠ i) → oi.apart ops ok = true := fun k ok hk hki hun hno => by
     refine hfree k ok hk hki ?_ hno
     by_cases hjk : j = k
     · subst hjk; exact hjun
     · rw [getD_set_ne true hjk] at hun; exact hun
    refine wpOp_mono (fun a' w' h3 => ?_) h2
    have hT : T w' := h3.2.1.resolve_left hjlast
    refine ⟨h3.2.1, ih (l.setIfInBounds j true) a' w' hfree' (ready_mono hr (Ne.symm hji)) (fun k hk => ?_) h3.1 hT ?_⟩
    · rw [getD_set_ne false (fun e : j = k => hjl (by rw [e]; exact hk))]; exact hu k hk
    · rw [Array.setIfInBounds_comm _ _ hji]
      exact h3.2.2
theorem tkj {fuel : Nat} {l : Array Bool} {ts ts' : Array Value} {D : List Deferred} {w : World} (i t : Nat) (v : Value) (late : List Nat) {o : Oper}
 (hi : ops[i]? = some o := by rfl) (hd : o.dst = some t := by rfl) (hs : Region.noSelect ops = true := by kernel_rfl) (hf : Region.free md ops l i = true := by kernel_rfl) (hr : (Region.ready md ops l).contains i = true := by kernel_rfl)
 (hb : lateB md ops i last l late = true := by kernel_rfl)
 (hQ : ∀ c a w, Q (.panic c) (a.put o.dst v) w → Q (.panic c) a w := by exact fun _ _ _ h => h) (hw : Region.wanted o (yielded ops ts) = true := by rfl)
 (hts : ts.setIfInBounds t v = ts' := by (simp only [List.setIfInBounds_toArray, List.set_cons_zero, List.set_cons_succ]; exact rfl))
 (hy : ∀ w, T w → (execOp (Act.eval ⟨ts, D⟩) o).run P w = .ok (.value v) w) (hS : T w)
 (h : wpAnyJ P md ops Q T last fuel (l.setIfInBounds i true) ⟨ts', D⟩ w) : wpAnyJ P md ops Q T last (fuel + 1) l ⟨ts, D⟩ w := by
 subst hts
 have hb' := hb
 unfold lateB at hb'
 simp only [Bool.and_eq_true, List.all_eq_true, Bool.not_eq_true'] at hb'
 refine wpAnyJ_first hi (Region.noSelect_spec hs) hQ hb (fun j hj => by simpa using hb'.1.1 j hj) (by simpa using hb'.1.2) fuel l _ w (Region.free_spec hi hf) (by simpa using hr) (fun j hj => (hb'.2 j hj).1) (Or.inl ⟨hw, hy⟩) hS ?_
 rw [hd]; exact h
theorem stj {fuel : Nat} {l : Array Bool} {a : Act} {w : World} (i : Nat) {o : Oper} (ho : ops[i]? = some o := by rfl) (hr : Region.ready md ops l = [i] := by kernel_rfl)
 (h : ∀ K : Act → World → Prop, Shut (∀ a' w', (i ∈ last ∨ T w') → wpAnyJ P md ops Q T last fuel (l.setIfInBounds i true) a' w' → K a' w') →
  if Region.wanted o (yielded ops a.tmps) = true then Oper.wp P o a w K Q else K (a.put o.dst undef) w) : wpAnyJ P md ops Q T last (fuel + 1) l a w := by
 refine ⟨fun h0 => (by rw [hr] at h0; cases h0), fun j hj => ?_⟩
 rw [hr] at hj
 obtain rfl : j = i := by simpa using hj
 exact wpOp_step ho fun K hK => h K fun a' w' h1 h2 => hK a' w' ⟨h1, h2⟩
theorem enj {l : Array Bool} {a : Act} {w : World} (hr : Region.ready md ops l = []) (h : Q .normal a w) : ∀ fuel, wpAnyJ P md ops Q T last fuel l a w
 | 0 => ⟨hr, h⟩
 | _ + 1 => ⟨fun _ => h, by rw [hr]; simp⟩
theorem bgj {id : Nat} {a : Act} {w : World} (T : World → Prop) (last : List Nat) (hm : P.follows .mixedOrders = true) (hT : T w.drew)
 (h : T w.drew → wpAnyJ P .any ops Q T last ops.size (Array.replicate ops.size false) a w.drew) : (Code.region id ops true).wp P Q a w :=
 wp_region_any hm (wpAny_of_J _ _ _ _ (h hT))
end
end Go.Proofs.YtablcbgeeeboeaaGreatDoor

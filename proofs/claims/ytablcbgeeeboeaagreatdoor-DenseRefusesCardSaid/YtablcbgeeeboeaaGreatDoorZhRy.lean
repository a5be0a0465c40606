/-
  Walks: the law AccumResidual.
-/
import Derived.Test.YtablcbgeeeboeaaGreatDoorZhKit
import Derived.Test.YtablcbgeeeboeaaGreatDoorZhS3
import Derived.Test.YtablcbgeeeboeaaGreatDoorZhGi
import Derived.Test.YtablcbgeeeboeaaGreatDoorZhFP
import Derived.Test.YtablcbgeeeboeaaGreatDoorZhGq
import Derived.Test.YtablcbgeeeboeaaGreatDoorZhCm
import Derived.Maps.AppendAt
import Derived.Deep.RegionLaw
import Derived.Deep.DeepCutAuto
import Derived.Test.YtablcbgeeeboeaaGreatDoorZhOpen
import Derived.Test.YtablcbgeeeboeaaGreatDoorZhCs
import Derived.Deep.RegionHeld3
import Derived.Test.YtablcbgeeeboeaaGreatDoorZhRq
namespace Go.Proofs.YtablcbgeeeboeaaGreatDoor
open Go.RowKit Sp
theorem zPq : (Tryz.prog.info? 40).map (fun i => (i.zero, i.size, i.bytes)) = some (some (.int .u64 0), 1, 8) := by kernel_rfl
theorem zN0 : Tryz.prog.underlying 28 = some (.slice 40) := by kernel_rfl
def zAX (L : Nat → Nat) : Nat → List Value
 | 0 => []
 | k + 1 => zAX L k ++ [.int .u64 (L k : Nat)]
theorem zAZ (L : Nat → Nat) (k : Nat) : (zAX L k).length = k := by
 induction k with
 | zero => rfl
 | succ n ih => simp [zAX, ih]
theorem zBF (L : Nat → Nat) {k i : Nat} (h : i < k) : (zAX L k)[i]? = some (.int .u64 (L i : Nat)) := by
 induction k with
 | zero => omega
 | succ n ih =>
  show (zAX L n ++ [.int .u64 (L n : Nat)])[i]? = _
  by_cases hi : i < n
  · rw [List.getElem?_append_left (by rw [zAZ]; exact hi)]; exact ih hi
  · obtain rfl : i = n := by omega
    rw [List.getElem?_append_right (by rw [zAZ]; omega), zAZ, Nat.sub_self]; rfl
theorem zJU {w : World} {base : Nat} {v : Value} {k : Nat} {L : Nat → Nat} (h : w.ownsRow base 40 1 v k (zAX L k)) (hb : ∀ i, i < k → L i < 18446744073709551616) :
 ∃ a cap, v = .slice a k cap ∧ Fls w a k cap L := by
 rcases h.2 with ⟨hv, hk⟩ | ⟨g, cap, cur, hv, hbg, hgg, hkc, hcm, hcs, htake⟩
 · subst hk
   exact ⟨none, 0, hv, ⟨by omega, by omega, by omega, fun i hi => by omega, fun i hi => by omega, by omega⟩⟩
 · have ho := h
   rw [hv] at ho
   have hc : ∀ j, j < k → w.cell? ⟨g, j, none⟩ = (zAX L k)[j]? := fun j hj => ho.cellAt j (by omega)
   refine ⟨some ⟨g, 0, none⟩, cap, hv, hkc, by unfold maxLen at hcm; omega, fun _ => rfl, fun i hi => ?_, hb, fun _ => (Array.getElem?_eq_some_iff.1 hgg).1⟩
   rw [zAo, zAO, Nat.zero_add, hc _ (by omega)]; exact zBF L hi
end Go.Proofs.YtablcbgeeeboeaaGreatDoor
namespace Go.Proofs.YtablcbgeeeboeaaGreatDoor
open Go.RowKit Sp
def zDE (a n : Int) : Int := a % 18446744073709551616 % n
theorem zM6 (d d' : Option (Int × Int)) : zP8 (zA3 d) (zA3 d') (decide (zA1 d < 0)) (decide (zA1 d' < 0)) (zA1 d).natAbs (zA1 d').natAbs (zA2 d) (zA2 d') = decide (d = d') := by
 unfold zP8
 rw [Bool.eq_iff_iff]
 cases d with
 | none => cases d' with
  | none => simp
  | some q => simp [zA3]
 | some p => cases d' with
  | none => simp [zA3]
  | some q =>
   obtain ⟨m, e⟩ := p
   obtain ⟨n, f⟩ := q
   have hs : (m < 0 ↔ n < 0) ∧ m.natAbs = n.natAbs ↔ m = n := by omega
   have h0 : (decide (m < 0) = decide (n < 0)) = (m < 0 ↔ n < 0) := propext decide_eq_decide
   show ((false == false) && ((e == f) && (decide (m < 0) == decide (n < 0) && decide (m.natAbs = n.natAbs)))) = true ↔ decide ((some (m, e) : Option (Int × Int)) = some (n, f)) = true
   simp only [beq_self_eq_true, Bool.true_and, Bool.and_eq_true, beq_iff_eq, decide_eq_true_eq, Option.some.injEq, Prod.mk.injEq]
   rw [h0, ← hs]
   constructor
   · rintro ⟨h1, h2, h3⟩; exact ⟨⟨h2, h3⟩, h1⟩
   · rintro ⟨⟨h2, h3⟩, h1⟩; exact ⟨h1, h2, h3⟩
end Go.Proofs.YtablcbgeeeboeaaGreatDoor
namespace Go.Proofs.YtablcbgeeeboeaaGreatDoor
open Go.RowKit Sp
def zMP (l : List Nat) : List Value := l.map fun (x : Nat) => Value.int .i64 (x : Int)
structure Ils (w : World) (a : Option Addr) (n cap : Nat) (L : Nat → Int) : Prop where
 fits : n ≤ cap
 lim : cap ≤ 9223372036854775807
 addr : 0 < n → a = some ⟨ab a, ao a, none⟩
 cell : ∀ i, i < n → w.cell? ⟨ab a, ao a + i, none⟩ = some (.int .i64 (L i))
 old : 0 < n → ab a < w.heap.size
theorem Ils.below {w w' : World} {a : Option Addr} {n cap : Nat} {L : Nat → Int} (h : Ils w a n cap L) (hb : Below w.heap.size w w') : Ils w' a n cap L :=
 ⟨h.fits, h.lim, h.addr, fun i hi => by rw [hb.cell (p := ⟨ab a, ao a + i, none⟩) (h.old (by omega))]; exact h.cell i hi, fun hn => Nat.lt_of_lt_of_le (h.old hn) hb.size⟩
theorem zPa : Tryz.prog.underlying 62 = some (.slice (Tryz.prog.elem 62)) := by kernel_rfl
theorem zPi (w : World) : (Go.sizeOf (Tryz.prog.elem 62)).run Tryz.prog w = .ok 1 w := by kernel_rfl
theorem Ils.idx {w : World} {a : Option Addr} {n cap : Nat} {L : Nat → Int} (h : Ils w a n cap L) (i : Nat) (hi : i < n) (W : World) :
 (Instr.indexAt 62 (.slice a n cap) (.int .i64 i)).run Tryz.prog W = .ok (.pointer (some ⟨ab a, ao a + i, none⟩)) W := by
 have ha := h.addr (by omega)
 generalize ab a = b at *
 generalize ao a = o at *
 subst ha
 rw [run_indexAt_slice _ _ _ _ _ _ _ zPa, if_pos ⟨by omega, by omega⟩, zPi]
 simp only [Result.andThen, Int.toNat_natCast, Nat.mul_one, Addr.add_lit]
attribute [local irreducible] Calls
end Go.Proofs.YtablcbgeeeboeaaGreatDoor
set_option maxRecDepth 100000
namespace Go.Proofs.YtablcbgeeeboeaaGreatDoor
open Go.ChangeShapes Go.WideShapes Go.ChangeAt Go.RowKit Sp
theorem zOU : Tryz.prog.cellsOf 3 = 1 := by kernel_rfl
theorem zLz : Tryz.prog.readableRec 62 = true := by kernel_rfl
theorem zN9 : 62 < Tryz.prog.types.size := of_decide_eq_true (by kernel_rfl)
theorem zKl {H : Type} {enc : TypeId × Value → H} {W : World} {base : Nat} {sp : Nat → Bool} {hd : Bool} {r : Reach} {b0 : Nat} {v : Value} {d : DataW H} {p : List MemPlace} (hsp : ∀ b, sp b = true)
 (hv : Value.okWide Tryz.prog W r b0 62 v) (h : DataW.Trod enc Tryz.prog W base sp hd 62 v d p) :
 ∃ (a : Option Addr) (n cap : Nat) (L : Nat → Int), v = .slice a n cap ∧ Ils W a n cap L := by
 obtain ⟨a0, n0, c0, rfl⟩ := okWide_slice Tryz.underlying62 hv
 obtain ⟨fuel, hf⟩ := h
 rcases open_ints Tryz.underlying62 Tryz.underlying3 zOU hf with ⟨hcs, _⟩ | ⟨a, len, cap, ns, hcs, _, hle, hmax, hl, _, hall, hns⟩
 · simp [Value.cells] at hcs
   obtain ⟨rfl, rfl, rfl⟩ := hcs
   exact ⟨none, 0, 0, fun _ => 0, rfl, ⟨by omega, by omega, by omega, fun i hi => by omega, by omega⟩⟩
 · simp [Value.cells] at hcs
   obtain ⟨rfl, rfl, rfl⟩ := hcs
   rw [hsp, if_pos rfl] at hl
   have hspot : 0 < n0 → a.spot = none := fun h0 => by
    obtain ⟨_, _, _, _, hs⟩ := World.shape?_of_cell? (hall 0 (by omega))
    exact hs
   obtain ⟨b, o, q⟩ := a
   refine ⟨_, _, _, fun i => ns.getD i 0, rfl, ⟨hle, by unfold maxLen at hmax; omega, fun h0 => ?_, fun i hi => ?_, fun h0 => ?_⟩⟩
   · have hq : q = none := hspot h0
     subst hq; rfl
   · have hq : q = none := hspot (by omega)
     subst hq
     have h1 := hall i (by omega)
     rw [Addr.add_lit] at h1
     exact h1
   · exact zCX (hall 0 (by omega))
end Go.Proofs.YtablcbgeeeboeaaGreatDoor
namespace Go.Proofs.YtablcbgeeeboeaaGreatDoor
section
variable {P : Program} {ops : Array Oper} {Q : Exit → Act → World → Prop} {md : Region.Mode} {T : World → Prop} {last : List Nat}
def zBQ (P : Program) (md : Region.Mode) (ops : Array Oper) (Q : Exit → Act → World → Prop) (T : World → Prop) (last : List Nat) : Nat → Array Bool → Act → World → Prop
 | 0, l, a, w => Region.ready md ops l = [] ∧ Q .normal a w
 | fuel + 1, l, a, w =>
  (Region.ready md ops l = [] → Q .normal a w) ∧
  ∀ i ∈ Region.ready md ops l, wpOp P ops Q i (fun a' w' => (i ∈ last ∨ T w') ∧ zBQ P md ops Q T last fuel (l.setIfInBounds i true) a' w') a w
theorem zED : ∀ (fuel : Nat) (l : Array Bool) (a : Act) (w : World), zBQ P md ops Q T last fuel l a w → wpAny P md ops Q fuel l a w
 | 0, _, _, _, h => h
 | fuel + 1, _, _, _, h => ⟨h.1, fun i hi => wpOp_mono (fun a' w' h' => zED fuel _ a' w' h'.2) (h.2 i hi)⟩
def zIE (md : Region.Mode) (ops : Array Oper) (i : Nat) (last : List Nat) (l : Array Bool) (late : List Nat) : Bool :=
 last.all late.contains && !late.contains i && late.all fun j => !l.getD j false && match ops[j]? with | some o => o.after.any fun e => Region.binds md e && (e.on == i || late.contains e.on) | none => true
theorem zLR {i : Nat} {late : List Nat} {l0 l : Array Bool} (hb : zIE md ops i last l0 late = true) (hi : l.getD i false = false) (hu : ∀ j ∈ late, l.getD j false = false) {j : Nat} (hj : j ∈ Region.ready md ops l) : ¬ j ∈ late := by
 intro hjl
 obtain ⟨_, o, ho, hall⟩ := mem_ready.1 hj
 unfold zIE at hb
 simp only [Bool.and_eq_true, List.all_eq_true] at hb
 have h2 := (hb.2 j hjl).2
 rw [ho] at h2
 simp only at h2
 rw [Array.any_eq_true] at h2
 obtain ⟨x, hx, hy⟩ := h2
 simp only [Bool.and_eq_true, Bool.or_eq_true, beq_iff_eq] at hy
 have h3 := hall _ (Array.getElem_mem hx) hy.1
 rcases hy.2 with h4 | h4
 · rw [h4, hi] at h3; cases h3
 · rw [hu _ (by simpa using h4)] at h3; cases h3
theorem zFH {i : Nat} {oi : Oper} {v : Value} {late : List Nat} {l0 : Array Bool} (hi : ops[i]? = some oi) (hsel : ∀ (j : Nat) (o : Oper) cs b, ops[j]? = some o → o.op ≠ .select cs b)
 (hQ : ∀ c a w, Q (.panic c) (a.put oi.dst v) w → Q (.panic c) a w) (hb : zIE md ops i last l0 late = true) (hla : ∀ j ∈ last, j ∈ late) (hil : i ∉ late) :
 ∀ (fuel : Nat) (l : Array Bool) (a : Act) (w : World),
  (∀ j oj, ops[j]? = some oj → j ≠ i → l.getD j true = false → (∀ e ∈ oj.after, Region.binds md e = true → e.on ≠ i) → oi.apart ops oj = true) →
  i ∈ Region.ready md ops l → (∀ j ∈ late, l.getD j false = false) → YieldsIf P ops T oi v a → T w →
  zBQ P md ops Q T last fuel (l.setIfInBounds i true) (a.put oi.dst v) w → zBQ P md ops Q T last (fuel + 1) l a w := by
 intro fuel
 induction fuel with
 | zero =>
  intro l a w _ hr _ hy hS H
  refine ⟨fun h => (by rw [h] at hr; cases hr), fun j hj => ?_⟩
  by_cases hji : j = i
  · subst hji; exact hy.wpOp hi hS ⟨Or.inr hS, H⟩
  · have := ready_mono hj hji
    rw [H.1] at this
    cases this
 | succ fuel ih =>
  intro l a w hfree hr hu hy hS H
  refine ⟨fun h => (by rw [h] at hr; cases hr), fun j hj => ?_⟩
  by_cases hji : j = i
  · subst hji; exact hy.wpOp hi hS ⟨Or.inr hS, H⟩
  · have h1 := H.2 j (ready_mono hj hji)
    obtain ⟨hjun, oj, hoj, hall⟩ := mem_ready.1 hj
    have hiu : l.getD i false = false := by
     have h0 := (mem_ready.1 hr).1
     rcases Nat.lt_or_ge i l.size with h' | h'
     · simpa [h'] using h0
     · simp [Array.getElem?_eq_none h'] at h0
    have hnot : ∀ e ∈ oj.after, Region.binds md e = true → e.on ≠ i := fun e he hbi heq => by
     have h1 := hall e he hbi
     rw [heq, hiu] at h1; cases h1
    have hjl : j ∉ late := zLR hb hiu hu hj
    have hjlast : j ∉ last := fun e => hjl (hla j e)
    have h2 := wpOp_putIf hoj (hfree j oj hoj hji hjun hnot) (fun cs b => hsel i oi cs b hi) (fun cs b => hsel j oj cs b hoj) hQ hy h1
    have hfree' : ∀ k ok, ops[k]? = some ok → k ≠ i → (l.setIfInBounds j true).getD k true = false →
     (∀ e ∈ ok.after, Region.binds md e = true → e.on ≠ i) → oi.apart ops ok = true := fun k ok hk hki hun hno => by
     refine hfree k ok hk hki ?_ hno
     by_cases hjk : j = k
     · subst hjk; exact hjun
     · rw [getD_set_ne true hjk] at hun; exact hun
    refine wpOp_mono (fun a' w' h3 => ?_) h2
    have hT : T w' := h3.2.1.resolve_left hjlast
    refine ⟨h3.2.1, ih (l.setIfInBounds j true) a' w' hfree' (ready_mono hr (Ne.symm hji)) (fun k hk => ?_) h3.1 hT ?_⟩
    · rw [getD_set_ne false (fun e : j = k => hjl (by rw [e]; exact hk))]; exact hu k hk
    · rw [Array.setIfInBounds_comm _ _ hji]
      exact h3.2.2
theorem tkj {fuel : Nat} {l : Array Bool} {ts ts' : Array Value} {D : List Deferred} {w : World} (i t : Nat) (v : Value) (late : List Nat) {o : Oper}
 (hi : ops[i]? = some o := by rfl) (hd : o.dst = some t := by rfl) (hs : Region.noSelect ops = true := by kernel_rfl) (hf : Region.free md ops l i = true := by kernel_rfl) (hr : (Region.ready md ops l).contains i = true := by kernel_rfl)
 (hb : zIE md ops i last l late = true := by kernel_rfl)
 (hQ : ∀ c a w, Q (.panic c) (a.put o.dst v) w → Q (.panic c) a w := by exact fun _ _ _ h => h) (hw : Region.wanted o (yielded ops ts) = true := by rfl)
 (hts : ts.setIfInBounds t v = ts' := by (simp only [List.setIfInBounds_toArray, List.set_cons_zero, List.set_cons_succ]; exact rfl))
 (hy : ∀ w, T w → (execOp (Act.eval ⟨ts, D⟩) o).run P w = .ok (.value v) w) (hS : T w)
 (h : zBQ P md ops Q T last fuel (l.setIfInBounds i true) ⟨ts', D⟩ w) : zBQ P md ops Q T last (fuel + 1) l ⟨ts, D⟩ w := by
 subst hts
 have hb' := hb
 unfold zIE at hb'
 simp only [Bool.and_eq_true, List.all_eq_true, Bool.not_eq_true'] at hb'
 refine zFH hi (Region.noSelect_spec hs) hQ hb (fun j hj => by simpa using hb'.1.1 j hj) (by simpa using hb'.1.2) fuel l _ w (Region.free_spec hi hf) (by simpa using hr) (fun j hj => (hb'.2 j hj).1) (Or.inl ⟨hw, hy⟩) hS ?_
 rw [hd]; exact h
theorem tk {fuel : Nat} {l : Array Bool} {ts ts' : Array Value} {D : List Deferred} {w : World} {v : Value} {o : Oper} (i t : Nat) (late : List Nat)
 (h : zBQ P md ops Q T last fuel (l.setIfInBounds i true) ⟨ts', D⟩ w)
 (hi : ops[i]? = some o := by rfl) (hd : o.dst = some t := by rfl) (hs : Region.noSelect ops = true := by kernel_rfl) (hf : Region.free md ops l i = true := by kernel_rfl) (hr : (Region.ready md ops l).contains i = true := by kernel_rfl)
 (hb : zIE md ops i last l late = true := by kernel_rfl)
 (hQ : ∀ c a w, Q (.panic c) (a.put o.dst v) w → Q (.panic c) a w := by exact fun _ _ _ h => h) (hw : Region.wanted o (yielded ops ts) = true := by rfl)
 (hts : ts.setIfInBounds t v = ts' := by (simp only [List.setIfInBounds_toArray, List.set_cons_zero, List.set_cons_succ]; exact rfl))
 (hy : ∀ w, T w → (execOp (Act.eval ⟨ts, D⟩) o).run P w = .ok (.value v) w := by (intro w hSw; haveI := From.mk hSw; go_simp; (try with_reducible rfl))) (hS : T w := by exact zbh) : zBQ P md ops Q T last (fuel + 1) l ⟨ts, D⟩ w :=
 tkj i t v late hi hd hs hf hr hb hQ hw hts hy hS h
theorem stj {fuel : Nat} {l : Array Bool} {a : Act} {w : World} (i : Nat) {o : Oper} (ho : ops[i]? = some o := by rfl) (hr : Region.ready md ops l = [i] := by kernel_rfl)
 (h : ∀ K : Act → World → Prop, Shut (∀ a' w', (i ∈ last ∨ T w') → zBQ P md ops Q T last fuel (l.setIfInBounds i true) a' w' → K a' w') →
  if Region.wanted o (yielded ops a.tmps) = true then Oper.wp P o a w K Q else K (a.put o.dst undef) w) : zBQ P md ops Q T last (fuel + 1) l a w := by
 refine ⟨fun h0 => (by rw [hr] at h0; cases h0), fun j hj => ?_⟩
 rw [hr] at hj
 obtain rfl : j = i := by simpa using hj
 exact wpOp_step ho fun K hK => h K fun a' w' h1 h2 => hK a' w' ⟨h1, h2⟩
theorem enj {l : Array Bool} {a : Act} {w : World} (hr : Region.ready md ops l = []) (h : Q .normal a w) : ∀ fuel, zBQ P md ops Q T last fuel l a w
 | 0 => ⟨hr, h⟩
 | _ + 1 => ⟨fun _ => h, by rw [hr]; simp⟩
theorem bgj {id : Nat} {a : Act} {w : World} (T : World → Prop) (last : List Nat) (hm : P.follows .mixedOrders = true) (hT : T w.drew)
 (h : T w.drew → zBQ P .any ops Q T last ops.size (Array.replicate ops.size false) a w.drew) : (Code.region id ops true).wp P Q a w :=
 wp_region_any hm (zED _ _ _ _ (h hT))
end
end Go.Proofs.YtablcbgeeeboeaaGreatDoor
set_option maxRecDepth 100000
set_option maxHeartbeats 20000000
namespace Go.Proofs.YtablcbgeeeboeaaGreatDoor
open Go.RowKit Sp
theorem zGW (w : World) (a a' : Option Addr) (n cap cap' : Nat) (X : Nat → Nat) (hX : Fls w a n cap X) (hY : Fls w a' n cap' X) :
 Calls Tryz.prog 53 #[.slice a n cap, .slice a' n cap'] w fun e w' => e = .returned (.bool true) ∧ Below w.heap.size w w' := by
 have l1 := hX.lim
 have l2 := hX.fits
 have l3 := hY.lim
 have l4 := hY.fits
 have HX := Lib.hid hX
 have HY := Lib.hid hY
 clear hX hY
 go_enter Tryz.func53, Tryz.ntmps53
 go_wp2
 go_loopw [5] (fun t wr => ∃ k : Nat, k ≤ n ∧ t = .int .i64 k ∧ ∃ q, wr = w.drewN q) (fun t _ => n - (intOf t).toNat)
 case atStart => exact ⟨0, Nat.zero_le _, rfl, 0, rfl⟩
 case round =>
  obtain ⟨k, hk, rfl, q, rfl⟩ := hrel
  by_cases h0 : k < n
  · have c1 := HX.out.cell k h0
    have c2 := HY.out.cell k h0
    have i1 := HX.out.idx k h0
    have i2 := HY.out.idx k h0
    generalize (((X k : Nat)) : Int) = x at c1 c2
    go_wp2
    go_quiet (fail)
    go_wp2
    go_roundw
    case rel => exact ⟨k + 1, by omega, by go_num, _, rfl⟩
    case measure => simp [intOf]; omega
  · obtain rfl : k = n := by omega
    go_wp2
    go_ret
    exact ⟨rfl, below_drewN (Below.refl _ _) _⟩
end Go.Proofs.YtablcbgeeeboeaaGreatDoor
set_option maxRecDepth 100000
set_option maxHeartbeats 4000000
namespace Go.Proofs.YtablcbgeeeboeaaGreatDoor
open Go.RowKit Sp
structure RowC (w : World) (g n cap : Nat) (e : TypeId) (z : Nat) : Prop where
 lt : z < B ^ n
 fit : n ≤ cap
 lim : cap ≤ 9223372036854775807
 row : ∃ cur : Array Value, w.heap[g]? = some (.cells cur e (0, 0)) ∧ cur.size = cap ∧ ∀ i, i < n → cur[i]? = some (.int .u32 (dig z i))
theorem RowC.old {w : World} {g n cap : Nat} {e : TypeId} {z : Nat} (h : RowC w g n cap e z) : g < w.heap.size := by
 obtain ⟨cur, hc, _⟩ := h.row
 exact (Array.getElem?_eq_some_iff.1 hc).1
theorem RowC.cell {w : World} {g n cap : Nat} {e : TypeId} {z : Nat} (h : RowC w g n cap e z) (i : Nat) (hi : i < n) : w.cell? ⟨g, i, none⟩ = some (.int .u32 (dig z i)) := by
 obtain ⟨cur, hc, hs, hd⟩ := h.row
 rw [cell_of_row w g i cur e (0, 0) hc]; exact hd i hi
theorem RowC.free {w : World} {g n cap : Nat} {e : TypeId} {z : Nat} (h : RowC w g n cap e z) (i : Nat) : w.frozen? ⟨g, i, none⟩ = false := by
 obtain ⟨cur, hc, hs, hd⟩ := h.row
 exact frozen_of_row w g i cur e hc
theorem RowC.store {w : World} {g n cap : Nat} {e : TypeId} {z : Nat} (h : RowC w g n cap e z) (i d : Nat) (hi : i < n) (hd : d < 4294967296) :
 RowC (w.setCell ⟨g, i, none⟩ (.int .u32 d)) g n cap e (zCD z i d) := by
 obtain ⟨cur, hc, hs, hdig⟩ := h.row
 have hf := h.fit
 refine ⟨zCu hd hi h.lt, h.fit, h.lim, cur.setIfInBounds i (.int .u32 d), heap_setCell_same w g i cur e _ hc, by simpa using hs, fun k hk => ?_⟩
 by_cases hki : k = i
 · subst hki; rw [zDk _ _ _ hd, Array.getElem?_setIfInBounds_self_of_lt (by omega)]
 · rw [zC7 hd hki, Array.getElem?_setIfInBounds_ne (Ne.symm hki)]; exact hdig k hk
theorem RowC.below {B' : Nat} {w w' : World} {g n cap : Nat} {e : TypeId} {z : Nat} (h : RowC w g n cap e z) (hb : Below B' w w') (hg : g < B') : RowC w' g n cap e z := by
 obtain ⟨cur, hc, hs, hd⟩ := h.row
 exact ⟨h.lt, h.fit, h.lim, cur, by rw [hb.block g hg]; exact hc, hs, hd⟩
theorem RowC.mag {w : World} {g n cap : Nat} {e : TypeId} {z : Nat} (h : RowC w g n cap e z) : Mag w (some ⟨g, 0, none⟩) n cap z :=
 ⟨h.lt, h.fit, h.lim, fun _ => rfl, fun i hi => by rw [zAo, zAO, Nat.zero_add]; exact h.cell i hi, fun _ => h.old⟩
theorem RowC.drewN {w : World} {g n cap : Nat} {e : TypeId} {z : Nat} (h : RowC w g n cap e z) (q : Nat) : RowC (w.drewN q) g n cap e z := ⟨h.lt, h.fit, h.lim, h.row⟩
theorem zG0 {w : World} {base : Nat} {e : TypeId} {v : Value} {n z : Nat} (h : w.ownsRow base e 1 v n (zD1 z n)) (hz : z < B ^ n) (hn : 0 < n) :
 ∃ g cap, v = .slice (some ⟨g, 0, none⟩) n cap ∧ base ≤ g ∧ RowC w g n cap e z := by
 rcases h.2 with ⟨_, h0⟩ | ⟨g, cap, cur, rfl, hbg, hg, hnc, hcm, hcs, htake⟩
 · omega
 · refine ⟨g, cap, rfl, hbg, hz, hnc, by simp only [maxLen] at hcm; omega, cur, hg, by rw [hcs, Nat.mul_one], fun i hi => ?_⟩
   have h1 : (zD1 z n)[i]? = some (.int .u32 (dig z i)) := zCK hi
   rw [← htake, List.getElem?_take, if_pos (by omega)] at h1
   simpa using h1
def pc (Q V k : Nat) : Nat := Q * (V % B ^ k) / B ^ k
theorem zNo (Q V : Nat) : pc Q V 0 = 0 := by unfold pc; rw [zAf, Nat.mul_zero, Nat.zero_div]
theorem zNp (Q V k : Nat) : (pc Q V k + Q * dig V k) % B = dig (Q * V) k ∧ (pc Q V k + Q * dig V k) / B = pc Q V (k + 1) := by
 have h1 : pc Q V k + Q * dig V k = Q * (V % B ^ (k + 1)) / B ^ k := by
  unfold pc
  rw [zAh, Nat.mul_add, ← Nat.mul_assoc, Nat.add_mul_div_right _ _ (zAl k)]
 rw [h1]
 refine ⟨?_, by unfold pc; rw [Nat.div_div_eq_div_mul, ← zAc]⟩
 have h2 : Q * V = Q * (V % B ^ (k + 1)) + Q * (V / B ^ (k + 1)) * B * B ^ k := by
  have := Nat.mod_add_div V (B ^ (k + 1))
  conv => lhs; rw [← this]
  rw [Nat.mul_add, zAc, Nat.mul_comm (B ^ k * B) (V / _), ← Nat.mul_assoc, ← Nat.mul_assoc]
  congr 1
  rw [Nat.mul_assoc (Q * _), Nat.mul_assoc (Q * _), Nat.mul_comm (B ^ k) B]
 unfold dig
 rw [h2, Nat.add_mul_div_right _ _ (zAl k), Nat.add_mul_mod_self_right]
theorem zPm {Q V k : Nat} (hQ : 0 < Q) : pc Q V k < Q := by
 unfold pc
 rw [Nat.div_lt_iff_lt_mul (zAl k)]
 exact Nat.mul_lt_mul_of_pos_left (zAG V k) hQ
theorem zOu {Q V k : Nat} (hQ : Q ≤ 4294967295) : pc Q V k ≤ 4294967295 := by
 rcases Nat.eq_zero_or_pos Q with h | h
 · subst h; unfold pc; simp
 · have := zPm (V := V) (k := k) h; omega
theorem zOt {Q V n : Nat} (hV : V < B ^ n) (hQ : Q ≤ 4294967295) : pc Q V n = dig (Q * V) n := by
 have h := zOu (V := V) (k := n) hQ
 have e : pc Q V n = Q * V / B ^ n := by unfold pc; rw [zA9 hV]
 unfold dig
 rw [← e, Nat.mod_eq_of_lt]
 rw [zAW]; omega
theorem zD2 (Z j k : Nat) : dig (Z / B ^ j) k = dig Z (k + j) := by
 unfold dig; rw [Nat.div_div_eq_div_mul, ← zAs, Nat.add_comm j k]
theorem zIa {U P n : Nat} (hU : U < B ^ (n + 1)) (hP : P < B ^ (n + 1)) :
 ∃ X d, P + d = X ∧ d < B ^ (n + 1) ∧ (∀ k, k ≤ n → dig X k = dig U k) ∧ car P d (n + 1) = (if P ≤ U then 0 else 1) ∧ (P ≤ U → d = U - P) := by
 by_cases h : P ≤ U
 · refine ⟨U, U - P, by omega, by omega, fun _ _ => rfl, ?_, fun _ => rfl⟩
   rw [if_pos h]; unfold car
   rw [zA9 hP, zA9 (by omega : U - P < B ^ (n + 1)), show P + (U - P) = U by omega]
   exact Nat.div_eq_of_lt hU
 · refine ⟨U + B ^ (n + 1), U + B ^ (n + 1) - P, by omega, by omega, fun k hk => ?_, ?_, fun h' => absurd h' h⟩
   · rw [← zEq (x := U + B ^ (n + 1)) (show k < n + 1 by omega), Nat.add_mod_right, zA9 hU]
   · rw [if_neg h]; unfold car
     rw [zA9 hP, zA9 (by omega : U + B ^ (n + 1) - P < B ^ (n + 1)), show P + (U + B ^ (n + 1) - P) = U + 1 * B ^ (n + 1) by omega, Nat.add_mul_div_right _ _ (zAl _), Nat.div_eq_of_lt hU]
def zMz (Z j d k : Nat) : Nat := Z % B ^ j + (d % B ^ k + Z / B ^ j / B ^ k * B ^ k) * B ^ j
theorem zJ6 (Z j d : Nat) : zMz Z j d 0 = Z := by
 unfold zMz
 rw [zAf, Nat.pow_zero, Nat.div_one, Nat.mul_one, Nat.zero_add]
 have := Nat.mod_add_div Z (B ^ j)
 rw [Nat.mul_comm] at this; exact this
theorem zJ7 (Z j d k : Nat) : zCD (zMz Z j d k) (j + k) (dig d k) = zMz Z j d (k + 1) := by
 unfold zMz
 rw [zDp (zAG Z j)]
 congr 2
 have h1 : (d % B ^ k + Z / B ^ j / B ^ k * B ^ k) % B ^ k = d % B ^ k := by rw [Nat.add_mul_mod_self_right, Nat.mod_mod]
 have h2 : (d % B ^ k + Z / B ^ j / B ^ k * B ^ k) / B ^ (k + 1) = Z / B ^ j / B ^ (k + 1) := by
  rw [zAc, ← Nat.div_div_eq_div_mul, Nat.add_mul_div_right _ _ (zAl k), Nat.div_eq_of_lt (zAG d k), Nat.zero_add, Nat.div_div_eq_div_mul]
 unfold zCD
 rw [h1, h2, zAh]
theorem zLm {Z j d n : Nat} (hZ : Z < B ^ (j + n + 1)) (hd : d < B ^ (n + 1)) : zMz Z j d (n + 1) = Z % B ^ j + d * B ^ j := by
 unfold zMz
 have : Z / B ^ j < B ^ (n + 1) := by rw [Nat.div_lt_iff_lt_mul (zAl j), ← zAs, show n + 1 + j = j + n + 1 by omega]; exact hZ
 rw [zA9 hd, Nat.div_eq_of_lt this, Nat.zero_mul, Nat.add_zero]
theorem zJb {Z R U P E A C : Nat} (h1 : R + A = Z) (h2 : C ≤ A) (hA : A = U * E) (hC : C = P * E) : R + (U - P) * E = Z - P * E := by
 rw [Nat.sub_mul, ← hA, ← hC]; omega
theorem zHl {Z j P : Nat} (h : P ≤ Z / B ^ j) : Z % B ^ j + (Z / B ^ j - P) * B ^ j = Z - P * B ^ j :=
 zJb (by rw [Nat.mul_comm (Z / B ^ j)]; exact Nat.mod_add_div Z _) (Nat.mul_le_mul_right (B ^ j) h) rfl rfl
theorem zJo (w : World) (g N cu n cv j Q V Z : Nat) (av : Option Addr) (hrow : RowC w g N cu 96 Z) (hN : j + n + 1 ≤ N) (hlim : N ≤ 549755813888) (hv : Mag w av n cv V) (hva : 0 < n → ab av ≠ g) (hQ : Q ≤ 4294967295) (hZ : Z < B ^ (j + n + 1)) (b : Bool) (hb : b = decide (Q * V ≤ Z / B ^ j)) :
 Calls Tryz.prog 193 #[.slice (some ⟨g, 0, none⟩) N cu, .slice av n cv, .int .i64 j, .int .u64 Q] w fun e w' =>
  e = .returned (.bool b) ∧ RowC w' g N cu 96 (if b then Z - Q * V * B ^ j else Z) ∧ w.grownBy w' (some g) := by
 have hmk := zBd 42 96 zCm zC8 ((n : Int) + 1) (by omega) (by omega)
 have l1 := hv.lim
 have l2 := hv.fits
 have l3 := hrow.lim
 have l4 := hrow.fit
 have lg := hrow.old
 have hU : Z / B ^ j < B ^ (n + 1) := by rw [Nat.div_lt_iff_lt_mul (zAl j), ← zAs, show n + 1 + j = j + n + 1 by omega]; exact hZ
 have hP : Q * V < B ^ (n + 1) := by
  rw [zAc, Nat.mul_comm (B ^ n) B]
  have hQB : Q < B := by rw [zAW]; omega
  exact Nat.mul_lt_mul'' hQB hv.lt
 obtain ⟨X, d, hX, hd, hXd, hcar, hdd⟩ := zIa hU hP
 obtain ⟨U, hUe⟩ : ∃ U, U = Z / B ^ j := ⟨_, rfl⟩
 have hXU : ∀ k, k ≤ n → dig X k = dig Z (k + j) := fun k hk => by rw [hXd k hk, zD2]
 obtain ⟨P, hPe⟩ : ∃ P, P = Q * V := ⟨_, rfl⟩
 rw [← hPe] at hX hcar hb hdd
 rw [← hUe] at hcar hb hdd
 have HUE := Lib.hid hUe
 have HX := Lib.hid hX
 have HXU := Lib.hid hXU
 have HCAR := Lib.hid hcar
 have HB := Lib.hid hb
 have HDD := Lib.hid hdd
 have HD := Lib.hid hd
 have HZ := Lib.hid hZ
 have HPE := Lib.hid hPe
 clear hX hXU hcar hb hdd hd hZ hPe hXd hU hP hUe
 go_enter Tryz.func193, Tryz.ntmps193
 go_wp2
 clear hmk
 have hrow0 := Row.made w (n + 1) 96 (by omega)
 have hbm : Below w.heap.size w (w.alloc (.cells (madeCells #[.int .u32 0] (n + 1)) 96)) := (Below.refl _ _).alloc (Nat.le_refl _) _
 go_loopw [11, 12, 13] (fun br ca i wr => ∃ k : Nat, k ≤ n + 1 ∧ i = .int .i64 k ∧ br = .int .u64 (car P d k : Nat) ∧ (∃ cc : Nat, ca = .int .u64 cc ∧ cc ≤ 4294967295 ∧ (k ≤ n → cc = pc Q V k)) ∧ Row wr w.heap.size (n + 1) 96 (d % B ^ k) ∧ Below w.heap.size w wr) (fun _ _ i _ => n + 1 - (intOf i).toNat)
 case atStart => exact ⟨0, by omega, rfl, by rw [zCM]; rfl, ⟨0, rfl, by omega, fun _ => (zNo _ _).symm⟩, by rw [zAf]; exact hrow0, hbm⟩
 case round =>
  clear hrow0 hbm
  obtain ⟨k, hk, rfl, rfl, ⟨cc, rfl, hcc, hcp⟩, hro, hbw⟩ := hrel
  have HCP := Lib.hid hcp
  clear hcp
  have hv' := hv.below hbw
  have hr' := hrow.below hbw lg
  have hc1 := zC5 P d k
  by_cases hkn : k ≤ n
  · have c2 := hr'.cell (k + j) (by omega)
    rw [← HXU.out k hkn] at c2
    have hd2 := zA6 X k
    have c3 := hro.cell k (by omega)
    have f3 := hro.free k
    have HS1 := Lib.hid (zF5 X P d k HX.out).1
    have HS2 := Lib.hid (zFW X P d k HX.out)
    have hsd : zCD (d % B ^ k) k (dig d k) = d % B ^ (k + 1) := by rw [zD7 (zAG d k), zAh]
    have HSD := Lib.hid hsd
    clear hsd
    by_cases hlt : k < n
    · have c1 := hv'.cell k hlt
      have i1 := hv'.idx 42 und siz k hlt
      have hd1 := zA6 V k
      have hps := zNp Q V k
      rw [← HCP.out hkn, ← HPE.out] at hps
      obtain ⟨m1, m2⟩ := zDe (x := Q) (y := dig V k) (z := 0) (c := cc) (by omega) hd1 (by omega) (by omega)
      have m2' : (cc : Int) + (Q : Int) * ((dig V k : Nat) : Int) < 18446744073709551616 := by rw [← Int.natCast_mul]; omega
      have m0 : (0 : Int) ≤ (Q : Int) * ((dig V k : Nat) : Int) := by rw [← Int.natCast_mul]; omega
      obtain ⟨T, hT⟩ : ∃ T : Nat, T = cc + Q * dig V k := ⟨_, rfl⟩
      have hTI : ((T : Nat) : Int) = (cc : Int) + (Q : Int) * ((dig V k : Nat) : Int) := by rw [hT]; simp
      rw [← hT] at hps
      have hTL : ((T : Nat) : Int) % 4294967296 = ((dig P k : Nat) : Int) := by rw [← hps.1, zAW]; omega
      have hTD : ((T : Nat) : Int) / 4294967296 = ((pc Q V (k + 1) : Nat) : Int) := by rw [← hps.2, zAW]; omega
      have hpl := zOu (V := V) (k := k + 1) hQ
      have HTI := Lib.hid hTI
      have HTL := Lib.hid hTL
      have HTD := Lib.hid hTD
      clear m1 m2 hT hTI hps hTL hTD
      go_wp2
      go_roundw
      case rel =>
       refine ⟨k + 1, by omega, by go_num, ?_, ⟨pc Q V (k + 1), ?_, hpl, fun _ => rfl⟩, ?_, hbw.setCell (Nat.le_refl _) _⟩
       · rw [← HTI.out, HTL.out, HS2.out]
       · rw [← HTI.out, HTD.out]
       · rw [← HTI.out, HTL.out, HS1.out, ← HSD.out]
         exact hro.store k (dig d k) (by omega) (zA6 d k)
      case measure => simp [intOf]; omega
    · obtain rfl : k = n := by omega
      have hcd : cc = dig P k := by rw [HCP.out hkn, HPE.out]; exact zOt hv.lt hQ
      have hd3 := zA6 P k
      subst hcd
      have hz : ((dig P k : Nat) : Int) / 4294967296 = 0 := by omega
      have hy : ((dig P k : Nat) : Int) % 4294967296 = ((dig P k : Nat) : Int) := by omega
      have hlt' : decide (k < k) = false := by simp
      go_wp2
      go_roundw
      case rel =>
       refine ⟨k + 1, by omega, by go_num, ?_, ⟨0, rfl, by omega, fun h => absurd h (by omega)⟩, ?_, hbw.setCell (Nat.le_refl _) _⟩
       · rw [HS2.out]
       · rw [HS1.out, ← HSD.out]
         exact hro.store k (dig d k) (by omega) (zA6 d k)
      case measure => simp [intOf]
  · obtain rfl : k = n + 1 := by omega
    rw [zA9 HD.out] at hro
    have hcar := HCAR.out
    have hon : w.grownBy wr (some g) := ⟨hbw.os, hbw.tape, hbw.output, hbw.size, fun b h _ => hbw.block b h⟩
    have hsz := hbw.size
    by_cases hPU : P ≤ U
    · rw [if_pos hPU] at hcar
      have hbt : b = true := by rw [HB.out]; simpa using hPU
      subst hbt
      have hdv := HDD.out hPU
      have HPU := Lib.hid hPU
      clear hPU
      have HDV := Lib.hid hdv
      clear hdv
      rw [hcar]
      clear hcar
      obtain ⟨wo, rfl⟩ : ∃ wo : World, wo = wr := ⟨_, rfl⟩
      go_wp2
      go_loopw [15] (fun i wi => ∃ q : Nat, q ≤ n + 1 ∧ i = .int .i64 q ∧ RowC wi g N cu 96 (zMz Z j d q) ∧ Row wi w.heap.size (n + 1) 96 d ∧ w.grownBy wi (some g)) (fun i _ => n + 1 - (intOf i).toNat)
      case atStart => exact ⟨0, by omega, rfl, by rw [zJ6]; exact hr', hro, hon⟩
      case round =>
       clear hr' hro hon
       obtain ⟨q, hq, rfl, hru, hro, hon⟩ := hrel
       by_cases hqn : q ≤ n
       · have c1 := hro.cell q (by omega)
         have c2 := hru.cell (q + j) (by omega)
         have f2 := hru.free (q + j)
         go_wp2
         go_roundw
         case rel =>
          refine ⟨q + 1, by omega, by go_num, ?_, ?_, zAY hon _ _⟩
          · rw [← zJ7, Nat.add_comm j q]
            exact hru.store (q + j) (dig d q) (by omega) (zA6 d q)
          · exact hro.only (zAY (zBk _ g) _ _) (by omega)
         case measure => simp [intOf]; (try omega)
       · obtain rfl : q = n + 1 := by omega
         rw [zLm HZ.out HD.out] at hru
         have he : Z % B ^ j + d * B ^ j = Z - P * B ^ j := by
          rw [HDV.out, HUE.out]
          exact zHl (by rw [← HUE.out]; exact HPU.out)
         go_wp2
         go_ret
         refine ⟨rfl, ?_, hon⟩
         have hru2 := hru
         rw [he, HPE.out] at hru2
         exact hru2
    · rw [if_neg hPU] at hcar
      have hbt : b = false := by rw [HB.out]; simpa using hPU
      subst hbt
      rw [hcar]
      clear hcar
      go_wp2
      go_ret
      exact ⟨rfl, hr', hon⟩
end Go.Proofs.YtablcbgeeeboeaaGreatDoor

/-
  Walks: package sparsekit: Shuffle.
-/
import Derived.Test.YtablcbgeeeboeaaGreatDoorZaGq
import Derived.Test.YtablcbgeeeboeaaGreatDoorZaKs
import Derived.Test.YtablcbgeeeboeaaGreatDoorZaCm
import Derived.Maps.AppendAt
import Derived.Test.YtablcbgeeeboeaaGreatDoorZaRm
import Derived.Test.YtablcbgeeeboeaaGreatDoorZaBL
import Derived.Deep.RegionLaw
import Derived.Deep.DeepCutAuto
import Derived.Test.YtablcbgeeeboeaaGreatDoorZaRq
import Derived.Test.YtablcbgeeeboeaaGreatDoorZaS3
import Derived.Test.YtablcbgeeeboeaaGreatDoorZaRd
import Derived.Test.YtablcbgeeeboeaaGreatDoorZaRt
import Derived.Test.YtablcbgeeeboeaaGreatDoorZaRa
import Derived.Deep.LoopGhost
import Derived.Test.YtablcbgeeeboeaaGreatDoorZaCs
import Derived.Test.YtablcbgeeeboeaaGreatDoorZaFP
import Derived.Test.YtablcbgeeeboeaaGreatDoorZaBg
import Derived.Test.YtablcbgeeeboeaaGreatDoorZaBf
namespace Go.Proofs.YtablcbgeeeboeaaGreatDoor
open Go.RowKit Sp
theorem infI : (Tryz.prog.info? 3).map (fun i => (i.zero, i.size, i.bytes)) = some (some (.int .i64 0), 1, 8) := by kernel_rfl
theorem undIe : Tryz.prog.underlying 62 = some (.slice 3) := by kernel_rfl
theorem app_int2 {ops : Array Oper} {rest : List Oper} {o : Oper} {a : Act} {Q : Exit → Act → World → Prop} {w : World} (hgd : o.guard = none) (s x : Operand)
 (ho : o.op = .call { callee := .builtin .append, args := #[s, x], argTypes := #[62, 62] }) (base : Nat) (v : Value) (n : Nat) (xs : List Value) (hs : a.eval s = v) (g : Nat) (d : Int)
 (hx : a.eval x = .slice (some ⟨g, 0, none⟩) 1 1) (hown : w.ownsRow base 3 1 v n xs) (hcell : w.cell? ⟨g, 0, none⟩ = some (.int .i64 d)) (hn : n ≤ 4398046511104)
 (hbase : base ≤ w.heap.size) (h : ∀ v' w', w'.ownsRow base 3 1 v' (n + 1) (xs ++ [.int .i64 d]) → w.grownBy w' v.ownBlock → (v'.ownBlock = v.ownBlock ∨ v'.ownBlock = some w.heap.size) → wpList Tryz.prog ops Q rest (a.put o.dst v') w') : wpList Tryz.prog ops Q (o :: rest) a w := by
 obtain ⟨i0, hi, hz0, hz1, hz2⟩ := info_parts infI
 refine wpList_append_own_at w hgd s x _ ho base _ i0 (.int .i64 0) 1 8 undIe hi hz0 hz1 hz2 rfl (by decide) v n _ hs hown ⟨g, 0, none⟩ 1 1 [.int .i64 d] hx rfl ?_ ?_ ?_ ?_ hbase ?_
 · intro j u hu
   have : j = 0 := by
    rcases Nat.eq_zero_or_pos j with h | h
    · exact h
    · rw [List.getElem?_eq_none (by simp; omega)] at hu; cases hu
   subst this
   simp at hu; subst hu
   rw [Addr.add_zero']; exact hcell
 · intro u hu; simp at hu; subst hu; rfl
 · unfold maxLen; omega
 · omega
 · intro v' w' h1 h2 _ h4
   exact h v' w' h1 h2 h4
theorem own_cell {w : World} {base : Nat} {v : Value} {k : Nat} {xs : List Value} (h : w.ownsRow base 3 1 v k xs) :
 (k = 0 ∧ v = .slice none 0 0) ∨ ∃ g cap, v = .slice (some ⟨g, 0, none⟩) k cap ∧ base ≤ g ∧ g < w.heap.size ∧ k ≤ cap ∧ cap ≤ 9223372036854775807 ∧ ∀ j, j < k → w.cell? ⟨g, j, none⟩ = xs[j]? := by
 rcases h.2 with ⟨hv, hk⟩ | ⟨g, cap, cur, hv, hbg, hgg, hkc, hcm, hcs, htake⟩
 · left; exact ⟨hk, hv⟩
 · right
   have ho := h
   rw [hv] at ho
   exact ⟨g, cap, hv, hbg, (Array.getElem?_eq_some_iff.1 hgg).1, hkc, by unfold maxLen at hcm; omega, fun j hj => ho.cellAt j (by omega)⟩
end Go.Proofs.YtablcbgeeeboeaaGreatDoor
namespace Go.Proofs.YtablcbgeeeboeaaGreatDoor
open Go.RowKit Sp
def placeI (a n : Int) : Int := a % 18446744073709551616 % n
theorem dyEq_dec (d d' : Option (Int × Int)) : dyEq (dbad d) (dbad d') (decide (dman d < 0)) (decide (dman d' < 0)) (dman d).natAbs (dman d').natAbs (dexp d) (dexp d') = decide (d = d') := by
 unfold dyEq
 rw [Bool.eq_iff_iff]
 cases d with
 | none => cases d' with
  | none => simp
  | some q => simp [dbad]
 | some p => cases d' with
  | none => simp [dbad]
  | some q =>
   obtain ⟨m, e⟩ := p
   obtain ⟨n, f⟩ := q
   have hs : (m < 0 ↔ n < 0) ∧ m.natAbs = n.natAbs ↔ m = n := by omega
   have h0 : (decide (m < 0) = decide (n < 0)) = (m < 0 ↔ n < 0) := propext decide_eq_decide
   show ((false == false) && ((e == f) && (decide (m < 0) == decide (n < 0) && decide (m.natAbs = n.natAbs)))) = true ↔ decide ((some (m, e) : Option (Int × Int)) = some (n, f)) = true
   simp only [beq_self_eq_true, Bool.true_and, Bool.and_eq_true, beq_iff_eq, decide_eq_true_eq, Option.some.injEq, Prod.mk.injEq]
   rw [h0, ← hs]
   constructor
   · rintro ⟨h1, h2, h3⟩; exact ⟨⟨h2, h3⟩, h1⟩
   · rintro ⟨⟨h2, h3⟩, h1⟩; exact ⟨h1, h2, h3⟩
end Go.Proofs.YtablcbgeeeboeaaGreatDoor
namespace Go.Proofs.YtablcbgeeeboeaaGreatDoor
open Go.RowKit Sp
def icells (l : List Nat) : List Value := l.map fun (x : Nat) => Value.int .i64 (x : Int)
theorem icells_get {l : List Nat} {j x : Nat} (h : l[j]? = some x) : (icells l)[j]? = some (.int .i64 (x : Int)) := by unfold icells; rw [List.getElem?_map, h]; rfl
theorem icells_app (l m : List Nat) : icells (l ++ m) = icells l ++ icells m := List.map_append
structure Ils (w : World) (a : Option Addr) (n cap : Nat) (L : Nat → Int) : Prop where
 fits : n ≤ cap
 lim : cap ≤ 9223372036854775807
 addr : 0 < n → a = some ⟨ab a, ao a, none⟩
 cell : ∀ i, i < n → w.cell? ⟨ab a, ao a + i, none⟩ = some (.int .i64 (L i))
 old : 0 < n → ab a < w.heap.size
theorem Ils.below {w w' : World} {a : Option Addr} {n cap : Nat} {L : Nat → Int} (h : Ils w a n cap L) (hb : Below w.heap.size w w') : Ils w' a n cap L :=
 ⟨h.fits, h.lim, h.addr, fun i hi => by rw [hb.cell (p := ⟨ab a, ao a + i, none⟩) (h.old (by omega))]; exact h.cell i hi, fun hn => Nat.lt_of_lt_of_le (h.old hn) hb.size⟩
theorem undIl : Tryz.prog.underlying 62 = some (.slice (Tryz.prog.elem 62)) := by kernel_rfl
theorem sizIl (w : World) : (Go.sizeOf (Tryz.prog.elem 62)).run Tryz.prog w = .ok 1 w := by kernel_rfl
theorem Ils.idx {w : World} {a : Option Addr} {n cap : Nat} {L : Nat → Int} (h : Ils w a n cap L) (i : Nat) (hi : i < n) (W : World) :
 (Instr.indexAt 62 (.slice a n cap) (.int .i64 i)).run Tryz.prog W = .ok (.pointer (some ⟨ab a, ao a + i, none⟩)) W := by
 have ha := h.addr (by omega)
 generalize ab a = b at *
 generalize ao a = o at *
 subst ha
 rw [run_indexAt_slice _ _ _ _ _ _ _ undIl, if_pos ⟨by omega, by omega⟩, sizIl]
 simp only [Result.andThen, Int.toNat_natCast, Nat.mul_one, Addr.add_lit]
attribute [local irreducible] Calls
end Go.Proofs.YtablcbgeeeboeaaGreatDoor
set_option maxRecDepth 100000
set_option maxHeartbeats 20000000
namespace Go.Proofs.YtablcbgeeeboeaaGreatDoor
open Go.RowKit Sp
theorem kfloats_any (w : World) (a a' : Option Addr) (n cap cap' : Nat) (X : Nat → Nat) (hX : Fls w a n cap X) (hY : Fls w a' n cap' X) :
 Calls Tryz.prog 53 #[.slice a n cap, .slice a' n cap'] w fun e w' => e = .returned (.bool true) ∧ Below w.heap.size w w' := by
 have l1 := hX.lim
 have l2 := hX.fits
 have l3 := hY.lim
 have l4 := hY.fits
 have HX := Lib.hid hX
 have HY := Lib.hid hY
 clear hX hY
 go_enter Tryz.func53, Tryz.ntmps53
 go_wp2
 go_loopw [5] (fun t wr => ∃ k : Nat, k ≤ n ∧ t = .int .i64 k ∧ ∃ q, wr = w.drewN q) (fun t _ => n - (intOf t).toNat)
 case atStart => exact ⟨0, Nat.zero_le _, rfl, 0, rfl⟩
 case round =>
  obtain ⟨k, hk, rfl, q, rfl⟩ := hrel
  by_cases h0 : k < n
  · have c1 := HX.out.cell k h0
    have c2 := HY.out.cell k h0
    have i1 := HX.out.idx k h0
    have i2 := HY.out.idx k h0
    generalize (((X k : Nat)) : Int) = x at c1 c2
    go_wp2
    go_quiet (fail)
    go_wp2
    go_roundw
    case rel => exact ⟨k + 1, by omega, by go_num, _, rfl⟩
    case measure => simp [intOf]; omega
  · obtain rfl : k = n := by omega
    go_wp2
    go_ret
    exact ⟨rfl, below_drewN (Below.refl _ _) _⟩
end Go.Proofs.YtablcbgeeeboeaaGreatDoor
namespace Go.Proofs.YtablcbgeeeboeaaGreatDoor
open Go.RowKit Sp
structure RowC (w : World) (g n cap : Nat) (e : TypeId) (z : Nat) : Prop where
 lt : z < B ^ n
 fit : n ≤ cap
 lim : cap ≤ 9223372036854775807
 row : ∃ cur : Array Value, w.heap[g]? = some (.cells cur e (0, 0)) ∧ cur.size = cap ∧ ∀ i, i < n → cur[i]? = some (.int .u32 (dig z i))
theorem RowC.old {w : World} {g n cap : Nat} {e : TypeId} {z : Nat} (h : RowC w g n cap e z) : g < w.heap.size := by
 obtain ⟨cur, hc, _⟩ := h.row
 exact (Array.getElem?_eq_some_iff.1 hc).1
theorem RowC.cell {w : World} {g n cap : Nat} {e : TypeId} {z : Nat} (h : RowC w g n cap e z) (i : Nat) (hi : i < n) : w.cell? ⟨g, i, none⟩ = some (.int .u32 (dig z i)) := by
 obtain ⟨cur, hc, hs, hd⟩ := h.row
 rw [cell_of_row w g i cur e (0, 0) hc]; exact hd i hi
theorem RowC.free {w : World} {g n cap : Nat} {e : TypeId} {z : Nat} (h : RowC w g n cap e z) (i : Nat) : w.frozen? ⟨g, i, none⟩ = false := by
 obtain ⟨cur, hc, hs, hd⟩ := h.row
 exact frozen_of_row w g i cur e hc
theorem RowC.store {w : World} {g n cap : Nat} {e : TypeId} {z : Nat} (h : RowC w g n cap e z) (i d : Nat) (hi : i < n) (hd : d < 4294967296) :
 RowC (w.setCell ⟨g, i, none⟩ (.int .u32 d)) g n cap e (setd z i d) := by
 obtain ⟨cur, hc, hs, hdig⟩ := h.row
 have hf := h.fit
 refine ⟨setd_lt hd hi h.lt, h.fit, h.lim, cur.setIfInBounds i (.int .u32 d), heap_setCell_same w g i cur e _ hc, by simpa using hs, fun k hk => ?_⟩
 by_cases hki : k = i
 · subst hki; rw [dig_setd_same _ _ _ hd, Array.getElem?_setIfInBounds_self_of_lt (by omega)]
 · rw [dig_setd_other hd hki, Array.getElem?_setIfInBounds_ne (Ne.symm hki)]; exact hdig k hk
theorem RowC.below {B' : Nat} {w w' : World} {g n cap : Nat} {e : TypeId} {z : Nat} (h : RowC w g n cap e z) (hb : Below B' w w') (hg : g < B') : RowC w' g n cap e z := by
 obtain ⟨cur, hc, hs, hd⟩ := h.row
 exact ⟨h.lt, h.fit, h.lim, cur, by rw [hb.block g hg]; exact hc, hs, hd⟩
theorem RowC.mag {w : World} {g n cap : Nat} {e : TypeId} {z : Nat} (h : RowC w g n cap e z) : Mag w (some ⟨g, 0, none⟩) n cap z :=
 ⟨h.lt, h.fit, h.lim, fun _ => rfl, fun i hi => by rw [ab_some, ao_some, Nat.zero_add]; exact h.cell i hi, fun _ => h.old⟩
theorem RowC.drewN {w : World} {g n cap : Nat} {e : TypeId} {z : Nat} (h : RowC w g n cap e z) (q : Nat) : RowC (w.drewN q) g n cap e z := ⟨h.lt, h.fit, h.lim, h.row⟩
def pc (Q V k : Nat) : Nat := Q * (V % B ^ k) / B ^ k
theorem dig_div (Z j k : Nat) : dig (Z / B ^ j) k = dig Z (k + j) := by
 unfold dig; rw [Nat.div_div_eq_div_mul, ← Bpow_add, Nat.add_comm j k]
end Go.Proofs.YtablcbgeeeboeaaGreatDoor
namespace Go.Proofs.YtablcbgeeeboeaaGreatDoor
open Go.RowKit Sp
attribute [local irreducible] Calls
class FZ (W : World) (a : Option Addr) (n c : Nat) (X : outParam (Nat → Nat)) : Prop where out : Fls W a n c X
section
variable {W : World} {a : Option Addr} {n c : Nat} {X : Nat → Nat}
instance FZ.dr [h : FZ W a n c X] : FZ W.drew a n c X := ⟨h.out.below (Below.refl _ _).drew⟩
instance FZ.dn (q : Nat) [h : FZ W a n c X] : FZ (W.drewN q) a n c X := ⟨h.out.below (below_drewN (Below.refl _ _) _)⟩
instance FZ.al (o : Obj) [h : FZ W a n c X] : FZ (W.alloc o) a n c X := ⟨h.out.below ((Below.refl _ _).alloc (Nat.le_refl _) _)⟩
instance FZ.fr (L : World) [k : From L W] [h : FZ L a n c X] : FZ W a n c X := ⟨h.out.below k.out⟩
end
theorem frT {P : Program} {f : FuncId} {args : Array Value} {W : World} {n : Nat} {X : Nat → Nat} (h : Calls P f args W fun e w' => ∃ oa ocap, e = .returned (.slice oa n ocap) ∧ Fls w' oa n ocap X ∧ Below W.heap.size W w') :
 Calls P f args W fun e w' => ∃ oa ocap, e = .returned (.slice oa n ocap) ∧ FZ w' oa n ocap X ∧ From W w' :=
 h.mono fun _ _ ⟨a, c, he, hm, hb⟩ => ⟨a, c, he, ⟨hm⟩, ⟨hb⟩⟩
end Go.Proofs.YtablcbgeeeboeaaGreatDoor
namespace Go.Proofs.YtablcbgeeeboeaaGreatDoor
open Go.RowKit Sp
class N3 (W : World) (b : Nat) (x0 x1 x2 : outParam Value) : Prop where
 c0 : W.cell? ⟨b, 0, none⟩ = some x0
 c1 : W.cell? ⟨b, 1, none⟩ = some x1
 c2 : W.cell? ⟨b, 2, none⟩ = some x2
 z : ∀ i, W.frozen? ⟨b, i, none⟩ = false
 lt : b < W.heap.size
theorem N3.below {W W' : World} {b : Nat} {x0 x1 x2 : Value} (h : N3 W b x0 x1 x2) (hb : Below W.heap.size W W') : N3 W' b x0 x1 x2 := by
 obtain ⟨h1, h2⟩ := bcell hb
 exact ⟨(h1 _ _ h.lt).trans h.c0, (h1 _ _ h.lt).trans h.c1, (h1 _ _ h.lt).trans h.c2, fun i => (h2 _ _ h.lt).trans (h.z i), Nat.lt_of_lt_of_le h.lt hb.size⟩
section
variable {W : World} {b : Nat} {x0 x1 x2 : Value}
instance N3.dr [h : N3 W b x0 x1 x2] : N3 W.drew b x0 x1 x2 := ⟨h.c0, h.c1, h.c2, h.z, h.lt⟩
instance N3.dn (q : Nat) [h : N3 W b x0 x1 x2] : N3 (W.drewN q) b x0 x1 x2 := ⟨h.c0, h.c1, h.c2, h.z, h.lt⟩
instance N3.al (o : Obj) [h : N3 W b x0 x1 x2] : N3 (W.alloc o) b x0 x1 x2 := N3.below h ((Below.refl _ _).alloc (Nat.le_refl _) _)
instance N3.fr (L : World) [f : From L W] [h : N3 L b x0 x1 x2] : N3 W b x0 x1 x2 := N3.below h f.out
end
theorem N3.made (W : World) (t : TypeId) (x0 x1 x2 : Value) {n : Nat} (hn : n = W.heap.size) : N3 (W.alloc (.cells #[x0, x1, x2] t)) n x0 x1 x2 := by
 subst hn
 exact ⟨by rw [World.cell?_alloc_new]; rfl, by rw [World.cell?_alloc_new]; rfl, by rw [World.cell?_alloc_new]; rfl, fun i => by simp [go_sem], by rw [World.size_alloc]; omega⟩
instance N3.mk' (W : World) (t : TypeId) (x0 x1 x2 : Value) (n : Nat) [h : Sz W n] : N3 (W.alloc (.cells #[x0, x1, x2] t)) n x0 x1 x2 := N3.made W t x0 x1 x2 h.out
@[go_sem] theorem N3.r0 (W : World) (b : Nat) {x0 x1 x2 : Value} [h : N3 W b x0 x1 x2] : W.cell? ⟨b, 0, none⟩ = some x0 := h.c0
@[go_sem] theorem N3.r1 (W : World) (b : Nat) {x0 x1 x2 : Value} [h : N3 W b x0 x1 x2] : W.cell? ⟨b, 1, none⟩ = some x1 := h.c1
@[go_sem] theorem N3.r2 (W : World) (b : Nat) {x0 x1 x2 : Value} [h : N3 W b x0 x1 x2] : W.cell? ⟨b, 2, none⟩ = some x2 := h.c2
@[go_sem] theorem N3.rz (W : World) (b i : Nat) {x0 x1 x2 : Value} [h : N3 W b x0 x1 x2] : W.frozen? ⟨b, i, none⟩ = false := h.z i
@[go_sem] theorem N3.rs (W : World) (b : Nat) {x0 x1 x2 : Value} [h : N3 W b x0 x1 x2] : b < W.heap.size := h.lt
theorem flist_set (L : Nat → Nat) {k i : Nat} (x : Nat) (h : i < k) : (flist L k).set i (.int .u64 ((x : Nat) : Int)) = flist (fun t => if t = i then x else L t) k := by
 refine List.ext_getElem? fun j => ?_
 rw [List.getElem?_set]
 by_cases hj : j < k
 · by_cases he : i = j
   · subst he; rw [if_pos rfl, if_pos (by rw [flist_length]; exact h), flist_get _ hj, if_pos rfl]
   · rw [if_neg he, flist_get _ hj, flist_get _ hj, if_neg (fun e => he e.symm)]
 · rw [List.getElem?_eq_none (l := flist (fun t => if t = i then x else L t) k) (by rw [flist_length]; omega), if_neg (by omega), List.getElem?_eq_none (by rw [flist_length]; omega)]
theorem flist_congr {L L' : Nat → Nat} {k : Nat} (h : ∀ i, i < k → L i = L' i) : flist L k = flist L' k := by
 induction k with
 | zero => rfl
 | succ k ih => show flist L k ++ _ = flist L' k ++ _; rw [ih fun i hi => h i (by omega), h k (by omega)]
theorem dcells_set (f : Nat → Value × Value × Value × Value) {k i : Nat} (p q r s : Value) (h : i < k) :
 ((((dcells f k).set (i * 4) p).set (i * 4 + 1) q).set (i * 4 + 2) r).set (i * 4 + 3) s = dcells (fun t => if t = i then (p, q, r, s) else f t) k := by
 refine List.ext_getElem? fun j => ?_
 simp only [List.getElem?_set, List.length_set, dcells_length]
 by_cases hj : j < k * 4
 · obtain ⟨a, b, rfl, hb⟩ : ∃ a b, j = a * 4 + b ∧ b < 4 := ⟨j / 4, j % 4, by omega, by omega⟩
   have hak : a < k := by omega
   have g := dcells_get f hak
   have g' := dcells_get (fun t => if t = i then (p, q, r, s) else f t) hak
   by_cases he : a = i
   · subst he
     simp only [if_true] at g'
     have l0 : a * 4 < k * 4 := by omega
     have l1 : a * 4 + 1 < k * 4 := by omega
     have l2 : a * 4 + 2 < k * 4 := by omega
     have l3 : a * 4 + 3 < k * 4 := by omega
     rcases b with _ | _ | _ | _ | b
     · simp [l0, g'.1]
     · simp [l1, g'.2.1]
     · simp [l2, g'.2.2.1]
     · simp [l3, g'.2.2.2]
     · omega
   · simp only [if_neg he] at g'
     rw [if_neg (by omega), if_neg (by omega), if_neg (by omega), if_neg (by omega)]
     rcases b with _ | _ | _ | _ | b
     · rw [Nat.add_zero]; exact g.1.trans g'.1.symm
     · exact g.2.1.trans g'.2.1.symm
     · exact g.2.2.1.trans g'.2.2.1.symm
     · exact g.2.2.2.trans g'.2.2.2.symm
     · omega
 · have h1 : (dcells (fun t => if t = i then (p, q, r, s) else f t) k)[j]? = none := List.getElem?_eq_none (by rw [dcells_length]; omega)
   have h2 : (dcells f k)[j]? = none := List.getElem?_eq_none (by rw [dcells_length]; omega)
   rw [h1, h2, if_neg (by omega), if_neg (by omega), if_neg (by omega), if_neg (by omega)]
theorem Dms.put {w : World} {base g n cap : Nat} {d : Nat → Option (Int × Int)} {A : Nat → Option Addr} {C : Nat → Nat} (h : Dms w base (.slice (some ⟨g, 0, none⟩) n cap) n d A C) {i : Nat} (hi : i < n)
 {dk : Option (Int × Int)} {a1 : Option Addr} {c1 : Nat} (hm : Mag w a1 (nl (dman dk).natAbs) c1 (dman dk).natAbs) (hne : 0 < nl (dman dk).natAbs → ab a1 ≠ g) :
 Dms ((((w.setCell ⟨g, i * 4, none⟩ (.bool (dbad dk))).setCell ⟨g, i * 4 + 1, none⟩ (.bool (decide (dman dk < 0)))).setCell ⟨g, i * 4 + 2, none⟩ (.slice a1 (nl (dman dk).natAbs) c1)).setCell ⟨g, i * 4 + 3, none⟩ (.int .i64 (dexp dk))) base
  (.slice (some ⟨g, 0, none⟩) n cap) n (fun t => if t = i then dk else d t) (fun t => if t = i then a1 else A t) (fun t => if t = i then c1 else C t) ∧
 w.grownBy ((((w.setCell ⟨g, i * 4, none⟩ (.bool (dbad dk))).setCell ⟨g, i * 4 + 1, none⟩ (.bool (decide (dman dk < 0)))).setCell ⟨g, i * 4 + 2, none⟩ (.slice a1 (nl (dman dk).natAbs) c1)).setCell ⟨g, i * 4 + 3, none⟩ (.int .i64 (dexp dk))) (some g) := by
 obtain ⟨o1, q1⟩ := h.own.stored (i * 4) (.bool (dbad dk))
 obtain ⟨o2, q2⟩ := o1.stored (i * 4 + 1) (.bool (decide (dman dk < 0)))
 obtain ⟨o3, q3⟩ := o2.stored (i * 4 + 2) (.slice a1 (nl (dman dk).natAbs) c1)
 obtain ⟨o4, q4⟩ := o3.stored (i * 4 + 3) (.int .i64 (dexp dk))
 have hg := only_trans q1 (only_trans q2 (only_trans q3 q4))
 rw [dcells_set _ _ _ _ _ hi] at o4
 refine ⟨⟨?_, fun t ht => ?_, fun t ht => ?_⟩, hg⟩
 · have e : dcells (mcell (fun t => if t = i then dk else d t) (fun t => if t = i then a1 else A t) (fun t => if t = i then c1 else C t)) n = dcells (fun t => if t = i then (.bool (dbad dk), .bool (decide (dman dk < 0)), .slice a1 (nl (dman dk).natAbs) c1, .int .i64 (dexp dk)) else mcell d A C t) n :=
    dcells_congr fun t _ => by
     unfold mcell
     by_cases he : t = i
     · simp only [if_pos he]
     · simp only [if_neg he]
   rw [e]; exact o4
 · by_cases he : t = i
   · subst he; simp only [if_true]; exact mag_grown hm hg (fun h0 h1 => hne h0 (Option.some.inj h1))
   · simp only [if_neg he]; exact mag_grown (h.m t ht) hg (h.ap t ht)
 · by_cases he : t = i
   · subst he; simp only [if_true]; exact fun h0 h1 => hne h0 (Option.some.inj h1)
   · simp only [if_neg he]; exact h.ap t ht
theorem Dms.congr {w : World} {base : Nat} {v : Value} {k : Nat} {d d' : Nat → Option (Int × Int)} {A : Nat → Option Addr} {C : Nat → Nat} (h : Dms w base v k d A C) (e : ∀ i, i < k → d i = d' i) : Dms w base v k d' A C := by
 refine ⟨?_, fun i hi => ?_, fun i hi => ?_⟩
 · have : dcells (mcell d' A C) k = dcells (mcell d A C) k := dcells_congr fun i hi => by unfold mcell; rw [e i hi]
   rw [this]; exact h.own
 · rw [← e i hi]; exact h.m i hi
 · rw [← e i hi]; exact h.ap i hi
theorem Dms.kept {w w' : World} {base : Nat} {v : Value} {k : Nat} {d : Nat → Option (Int × Int)} {A : Nat → Option Addr} {C : Nat → Nat} (h : Dms w base v k d A C) {row : Option Nat} (hg : w.grownBy w' row)
 (hv : v.ownBlock = none ∨ v.ownBlock ≠ row) (hA : ∀ i, i < k → 0 < nl (dman (d i)).natAbs → some (ab (A i)) ≠ row) : Dms w' base v k d A C :=
 ⟨h.own.kept hg hv, fun i hi => mag_grown (h.m i hi) hg (hA i hi), h.ap⟩
theorem madeF (n : Nat) : (madeCells #[.int .u64 0] (n * 1)).toList = flist (fun _ => 0) n := by
 rw [toList_madeCells_one, Nat.mul_one]
 refine List.ext_getElem? fun j => ?_
 by_cases hj : j < n
 · rw [flist_get _ hj, List.getElem?_replicate, if_pos hj]; rfl
 · rw [List.getElem?_eq_none (by simp; omega), List.getElem?_eq_none (by rw [flist_length]; omega)]
theorem madeD (n : Nat) : (madeCells (Value.agg #[.bool false, .bool false, .slice none 0 0, .int .i64 0]).cells (n * 4)).toList = dcells (mcell (fun _ => some (0, 0)) (fun _ => none) (fun _ => 0)) n := by
 have hs : (Value.agg #[.bool false, .bool false, .slice none 0 0, .int .i64 0]).cells = #[.bool false, .bool false, .slice none 0 0, .int .i64 0] := by simp [Value.cells]
 rw [hs]
 refine List.ext_getElem? fun j => ?_
 by_cases hj : j < n * 4
 · obtain ⟨a, b, rfl, hb⟩ : ∃ a b, j = a * 4 + b ∧ b < 4 := ⟨j / 4, j % 4, by omega, by omega⟩
   have g := dcells_get (mcell (fun _ => some (0, 0)) (fun _ => none) (fun _ => 0)) (show a < n by omega)
   have e : (madeCells #[.bool false, .bool false, .slice none 0 0, .int .i64 0] (n * 4)).toList[a * 4 + b]? = some (#[Value.bool false, .bool false, .slice none 0 0, .int .i64 0][(a * 4 + b) % 4]!) := by
    unfold madeCells
    rw [Array.getElem?_toList, Array.getElem?_map, Array.getElem?_range, if_pos hj]; rfl
   rw [e, show (a * 4 + b) % 4 = b by omega]
   rcases b with _ | _ | _ | _ | b
   · exact g.1.symm
   · exact g.2.1.symm
   · exact g.2.2.1.symm
   · exact g.2.2.2.symm
   · omega
 · rw [List.getElem?_eq_none (by rw [Array.length_toList, size_madeCells]; omega), List.getElem?_eq_none (by rw [dcells_length]; omega)]
end Go.Proofs.YtablcbgeeeboeaaGreatDoor

/-
  Lists of the call's own, written in place; boxes of three words. No function of the program in sight.
-/
import Derived.Test.YtablcbgeeeboeaaGreatDoorZfRva
import Derived.Test.YtablcbgeeeboeaaGreatDoorZfKw
import Derived.Test.YtablcbgeeeboeaaGreatDoorZfCs
import Derived.Test.YtablcbgeeeboeaaGreatDoorZfTj
import Derived.Test.YtablcbgeeeboeaaGreatDoorZfS3
namespace Go.Proofs.YtablcbgeeeboeaaGreatDoor
open Go.RowKit Sp
class N3 (W : World) (b : Nat) (x0 x1 x2 : outParam Value) : Prop where
 c0 : W.cell? ⟨b, 0, none⟩ = some x0
 c1 : W.cell? ⟨b, 1, none⟩ = some x1
 c2 : W.cell? ⟨b, 2, none⟩ = some x2
 z : ∀ i, W.frozen? ⟨b, i, none⟩ = false
 lt : b < W.heap.size
theorem N3.below {W W' : World} {b : Nat} {x0 x1 x2 : Value} (h : N3 W b x0 x1 x2) (hb : Below W.heap.size W W') : N3 W' b x0 x1 x2 := by
 obtain ⟨h1, h2⟩ := bcell hb
 exact ⟨(h1 _ _ h.lt).trans h.c0, (h1 _ _ h.lt).trans h.c1, (h1 _ _ h.lt).trans h.c2, fun i => (h2 _ _ h.lt).trans (h.z i), Nat.lt_of_lt_of_le h.lt hb.size⟩
section
variable {W : World} {b : Nat} {x0 x1 x2 : Value}
instance N3.dr [h : N3 W b x0 x1 x2] : N3 W.drew b x0 x1 x2 := ⟨h.c0, h.c1, h.c2, h.z, h.lt⟩
instance N3.dn (q : Nat) [h : N3 W b x0 x1 x2] : N3 (W.drewN q) b x0 x1 x2 := ⟨h.c0, h.c1, h.c2, h.z, h.lt⟩
instance N3.al (o : Obj) [h : N3 W b x0 x1 x2] : N3 (W.alloc o) b x0 x1 x2 := N3.below h ((Below.refl _ _).alloc (Nat.le_refl _) _)
instance N3.fr (L : World) [f : From L W] [h : N3 L b x0 x1 x2] : N3 W b x0 x1 x2 := N3.below h f.out
end
theorem N3.made (W : World) (t : TypeId) (x0 x1 x2 : Value) {n : Nat} (hn : n = W.heap.size) : N3 (W.alloc (.cells #[x0, x1, x2] t)) n x0 x1 x2 := by
 subst hn
 exact ⟨by rw [World.cell?_alloc_new]; rfl, by rw [World.cell?_alloc_new]; rfl, by rw [World.cell?_alloc_new]; rfl, fun i => by simp [go_sem], by rw [World.size_alloc]; omega⟩
instance N3.mk' (W : World) (t : TypeId) (x0 x1 x2 : Value) (n : Nat) [h : Sz W n] : N3 (W.alloc (.cells #[x0, x1, x2] t)) n x0 x1 x2 := N3.made W t x0 x1 x2 h.out
@[go_sem] theorem N3.r0 (W : World) (b : Nat) {x0 x1 x2 : Value} [h : N3 W b x0 x1 x2] : W.cell? ⟨b, 0, none⟩ = some x0 := h.c0
@[go_sem] theorem N3.r1 (W : World) (b : Nat) {x0 x1 x2 : Value} [h : N3 W b x0 x1 x2] : W.cell? ⟨b, 1, none⟩ = some x1 := h.c1
@[go_sem] theorem N3.r2 (W : World) (b : Nat) {x0 x1 x2 : Value} [h : N3 W b x0 x1 x2] : W.cell? ⟨b, 2, none⟩ = some x2 := h.c2
@[go_sem] theorem N3.rz (W : World) (b i : Nat) {x0 x1 x2 : Value} [h : N3 W b x0 x1 x2] : W.frozen? ⟨b, i, none⟩ = false := h.z i
@[go_sem] theorem N3.rs (W : World) (b : Nat) {x0 x1 x2 : Value} [h : N3 W b x0 x1 x2] : b < W.heap.size := h.lt
theorem flist_set (L : Nat → Nat) {k i : Nat} (x : Nat) (h : i < k) : (flist L k).set i (.int .u64 ((x : Nat) : Int)) = flist (fun t => if t = i then x else L t) k := by
 refine List.ext_getElem? fun j => ?_
 rw [List.getElem?_set]
 by_cases hj : j < k
 · by_cases he : i = j
   · subst he; rw [if_pos rfl, if_pos (by rw [flist_length]; exact h), flist_get _ hj, if_pos rfl]
   · rw [if_neg he, flist_get _ hj, flist_get _ hj, if_neg (fun e => he e.symm)]
 · rw [List.getElem?_eq_none (l := flist (fun t => if t = i then x else L t) k) (by rw [flist_length]; omega), if_neg (by omega), List.getElem?_eq_none (by rw [flist_length]; omega)]
theorem flist_congr {L L' : Nat → Nat} {k : Nat} (h : ∀ i, i < k → L i = L' i) : flist L k = flist L' k := by
 induction k with
 | zero => rfl
 | succ k ih => show flist L k ++ _ = flist L' k ++ _; rw [ih fun i hi => h i (by omega), h k (by omega)]
theorem dcells_set (f : Nat → Value × Value × Value × Value) {k i : Nat} (p q r s : Value) (h : i < k) :
 ((((dcells f k).set (i * 4) p).set (i * 4 + 1) q).set (i * 4 + 2) r).set (i * 4 + 3) s = dcells (fun t => if t = i then (p, q, r, s) else f t) k := by
 refine List.ext_getElem? fun j => ?_
 simp only [List.getElem?_set, List.length_set, dcells_length]
 by_cases hj : j < k * 4
 · obtain ⟨a, b, rfl, hb⟩ : ∃ a b, j = a * 4 + b ∧ b < 4 := ⟨j / 4, j % 4, by omega, by omega⟩
   have hak : a < k := by omega
   have g := dcells_get f hak
   have g' := dcells_get (fun t => if t = i then (p, q, r, s) else f t) hak
   by_cases he : a = i
   · subst he
     simp only [if_true] at g'
     have l0 : a * 4 < k * 4 := by omega
     have l1 : a * 4 + 1 < k * 4 := by omega
     have l2 : a * 4 + 2 < k * 4 := by omega
     have l3 : a * 4 + 3 < k * 4 := by omega
     rcases b with _ | _ | _ | _ | b
     · simp [l0, g'.1]
     · simp [l1, g'.2.1]
     · simp [l2, g'.2.2.1]
     · simp [l3, g'.2.2.2]
     · omega
   · simp only [if_neg he] at g'
     rw [if_neg (by omega), if_neg (by omega), if_neg (by omega), if_neg (by omega)]
     rcases b with _ | _ | _ | _ | b
     · rw [Nat.add_zero]; exact g.1.trans g'.1.symm
     · exact g.2.1.trans g'.2.1.symm
     · exact g.2.2.1.trans g'.2.2.1.symm
     · exact g.2.2.2.trans g'.2.2.2.symm
     · omega
 · have h1 : (dcells (fun t => if t = i then (p, q, r, s) else f t) k)[j]? = none := List.getElem?_eq_none (by rw [dcells_length]; omega)
   have h2 : (dcells f k)[j]? = none := List.getElem?_eq_none (by rw [dcells_length]; omega)
   rw [h1, h2, if_neg (by omega), if_neg (by omega), if_neg (by omega), if_neg (by omega)]
theorem Dms.put {w : World} {base g n cap : Nat} {d : Nat → Option (Int × Int)} {A : Nat → Option Addr} {C : Nat → Nat} (h : Dms w base (.slice (some ⟨g, 0, none⟩) n cap) n d A C) {i : Nat} (hi : i < n)
 {dk : Option (Int × Int)} {a1 : Option Addr} {c1 : Nat} (hm : Mag w a1 (nl (dman dk).natAbs) c1 (dman dk).natAbs) (hne : 0 < nl (dman dk).natAbs → ab a1 ≠ g) :
 Dms ((((w.setCell ⟨g, i * 4, none⟩ (.bool (dbad dk))).setCell ⟨g, i * 4 + 1, none⟩ (.bool (decide (dman dk < 0)))).setCell ⟨g, i * 4 + 2, none⟩ (.slice a1 (nl (dman dk).natAbs) c1)).setCell ⟨g, i * 4 + 3, none⟩ (.int .i64 (dexp dk))) base
  (.slice (some ⟨g, 0, none⟩) n cap) n (fun t => if t = i then dk else d t) (fun t => if t = i then a1 else A t) (fun t => if t = i then c1 else C t) ∧
 w.grownBy ((((w.setCell ⟨g, i * 4, none⟩ (.bool (dbad dk))).setCell ⟨g, i * 4 + 1, none⟩ (.bool (decide (dman dk < 0)))).setCell ⟨g, i * 4 + 2, none⟩ (.slice a1 (nl (dman dk).natAbs) c1)).setCell ⟨g, i * 4 + 3, none⟩ (.int .i64 (dexp dk))) (some g) := by
 obtain ⟨o1, q1⟩ := h.own.stored (i * 4) (.bool (dbad dk))
 obtain ⟨o2, q2⟩ := o1.stored (i * 4 + 1) (.bool (decide (dman dk < 0)))
 obtain ⟨o3, q3⟩ := o2.stored (i * 4 + 2) (.slice a1 (nl (dman dk).natAbs) c1)
 obtain ⟨o4, q4⟩ := o3.stored (i * 4 + 3) (.int .i64 (dexp dk))
 have hg := only_trans q1 (only_trans q2 (only_trans q3 q4))
 rw [dcells_set _ _ _ _ _ hi] at o4
 refine ⟨⟨?_, fun t ht => ?_, fun t ht => ?_⟩, hg⟩
 · have e : dcells (mcell (fun t => if t = i then dk else d t) (fun t => if t = i then a1 else A t) (fun t => if t = i then c1 else C t)) n = dcells (fun t => if t = i then (.bool (dbad dk), .bool (decide (dman dk < 0)), .slice a1 (nl (dman dk).natAbs) c1, .int .i64 (dexp dk)) else mcell d A C t) n :=
    dcells_congr fun t _ => by
     unfold mcell
     by_cases he : t = i
     · simp only [if_pos he]
     · simp only [if_neg he]
   rw [e]; exact o4
 · by_cases he : t = i
   · subst he; simp only [if_true]; exact mag_grown hm hg (fun h0 h1 => hne h0 (Option.some.inj h1))
   · simp only [if_neg he]; exact mag_grown (h.m t ht) hg (h.ap t ht)
 · by_cases he : t = i
   · subst he; simp only [if_true]; exact fun h0 h1 => hne h0 (Option.some.inj h1)
   · simp only [if_neg he]; exact h.ap t ht
theorem Dms.congr {w : World} {base : Nat} {v : Value} {k : Nat} {d d' : Nat → Option (Int × Int)} {A : Nat → Option Addr} {C : Nat → Nat} (h : Dms w base v k d A C) (e : ∀ i, i < k → d i = d' i) : Dms w base v k d' A C := by
 refine ⟨?_, fun i hi => ?_, fun i hi => ?_⟩
 · have : dcells (mcell d' A C) k = dcells (mcell d A C) k := dcells_congr fun i hi => by unfold mcell; rw [e i hi]
   rw [this]; exact h.own
 · rw [← e i hi]; exact h.m i hi
 · rw [← e i hi]; exact h.ap i hi
theorem Dms.kept {w w' : World} {base : Nat} {v : Value} {k : Nat} {d : Nat → Option (Int × Int)} {A : Nat → Option Addr} {C : Nat → Nat} (h : Dms w base v k d A C) {row : Option Nat} (hg : w.grownBy w' row)
 (hv : v.ownBlock = none ∨ v.ownBlock ≠ row) (hA : ∀ i, i < k → 0 < nl (dman (d i)).natAbs → some (ab (A i)) ≠ row) : Dms w' base v k d A C :=
 ⟨h.own.kept hg hv, fun i hi => mag_grown (h.m i hi) hg (hA i hi), h.ap⟩
theorem madeF (n : Nat) : (madeCells #[.int .u64 0] (n * 1)).toList = flist (fun _ => 0) n := by
 rw [toList_madeCells_one, Nat.mul_one]
 refine List.ext_getElem? fun j => ?_
 by_cases hj : j < n
 · rw [flist_get _ hj, List.getElem?_replicate, if_pos hj]; rfl
 · rw [List.getElem?_eq_none (by simp; omega), List.getElem?_eq_none (by rw [flist_length]; omega)]
theorem madeD (n : Nat) : (madeCells (Value.agg #[.bool false, .bool false, .slice none 0 0, .int .i64 0]).cells (n * 4)).toList = dcells (mcell (fun _ => some (0, 0)) (fun _ => none) (fun _ => 0)) n := by
 have hs : (Value.agg #[.bool false, .bool false, .slice none 0 0, .int .i64 0]).cells = #[.bool false, .bool false, .slice none 0 0, .int .i64 0] := by simp [Value.cells]
 rw [hs]
 refine List.ext_getElem? fun j => ?_
 by_cases hj : j < n * 4
 · obtain ⟨a, b, rfl, hb⟩ : ∃ a b, j = a * 4 + b ∧ b < 4 := ⟨j / 4, j % 4, by omega, by omega⟩
   have g := dcells_get (mcell (fun _ => some (0, 0)) (fun _ => none) (fun _ => 0)) (show a < n by omega)
   have e : (madeCells #[.bool false, .bool false, .slice none 0 0, .int .i64 0] (n * 4)).toList[a * 4 + b]? = some (#[Value.bool false, .bool false, .slice none 0 0, .int .i64 0][(a * 4 + b) % 4]!) := by
    unfold madeCells
    rw [Array.getElem?_toList, Array.getElem?_map, Array.getElem?_range, if_pos hj]; rfl
   rw [e, show (a * 4 + b) % 4 = b by omega]
   rcases b with _ | _ | _ | _ | b
   · exact g.1.symm
   · exact g.2.1.symm
   · exact g.2.2.1.symm
   · exact g.2.2.2.symm
   · omega
 · rw [List.getElem?_eq_none (by rw [Array.length_toList, size_madeCells]; omega), List.getElem?_eq_none (by rw [dcells_length]; omega)]
end Go.Proofs.YtablcbgeeeboeaaGreatDoor
namespace Go.Proofs.YtablcbgeeeboeaaGreatDoor
open Go.RowKit Sp
class BG (W : World) (n : Nat) : Prop where out : n ≤ W.heap.size
section
variable {W : World} {n : Nat}
instance BG.dr [h : BG W n] : BG W.drew n := ⟨h.out⟩
instance BG.dn (q : Nat) [h : BG W n] : BG (W.drewN q) n := ⟨h.out⟩
instance BG.al (o : Obj) [h : BG W n] : BG (W.alloc o) n := ⟨by rw [World.size_alloc]; exact Nat.le_succ_of_le h.out⟩
instance BG.fr (L : World) [f : From L W] [h : BG L n] : BG W n := ⟨Nat.le_trans h.out f.out.size⟩
instance BG.se (p : Addr) (v : Value) [h : BG W n] : BG (W.setCell p v) n := ⟨by rw [World.size_setCell]; exact h.out⟩
end
class BL (base : Nat) (wr W : World) : Prop where out : Below base wr W
section
variable {base : Nat} {wr W : World}
instance BL.rf : BL base wr wr := ⟨Below.refl _ _⟩
instance BL.dr [h : BL base wr W] : BL base wr W.drew := ⟨h.out.drew⟩
instance BL.dn (q : Nat) [h : BL base wr W] : BL base wr (W.drewN q) := ⟨below_drewN h.out _⟩
instance BL.al (o : Obj) [h : BL base wr W] [k : BG W base] : BL base wr (W.alloc o) := ⟨h.out.alloc k.out o⟩
instance BL.fr (L : World) [f : From L W] [h : BL base wr L] [k : BG L base] : BL base wr W := ⟨h.out.trans (f.out.mono k.out)⟩
end
theorem N3.lo {W W' : World} {b base : Nat} {x0 x1 x2 : Value} (h : N3 W b x0 x1 x2) (hb : Below base W W') (lt : b < base) : N3 W' b x0 x1 x2 := by
 obtain ⟨h1, h2⟩ := bcell hb
 exact ⟨(h1 _ _ lt).trans h.c0, (h1 _ _ lt).trans h.c1, (h1 _ _ lt).trans h.c2, fun i => (h2 _ _ lt).trans (h.z i), Nat.lt_of_lt_of_le h.lt hb.size⟩
theorem CE.lo {W W' : World} {b i base : Nat} {v : Value} (h : CE W b i v) (hb : Below base W W') (lt : b < base) : CE W' b i v := ⟨((bcell hb).1 _ _ lt).trans h.out, Nat.lt_of_lt_of_le h.lt hb.size⟩
theorem Beh.size {w w' : World} [h : Beh w w'] : w.heap.size ≤ w'.heap.size := h.out.size
end Go.Proofs.YtablcbgeeeboeaaGreatDoor
set_option maxRecDepth 100000
set_option maxHeartbeats 20000000
namespace Go.Proofs.YtablcbgeeeboeaaGreatDoor
open Go.RowKit Sp
theorem undU8 : Tryz.prog.underlying 22 = some (.slice (Tryz.prog.elem 22)) := by kernel_rfl
theorem sizU8 (w : World) : (Go.sizeOf (Tryz.prog.elem 22)).run Tryz.prog w = .ok 1 w := by kernel_rfl
theorem Fls.idxU {w : World} {a : Option Addr} {n cap : Nat} {L : Nat → Nat} (h : Fls w a n cap L) (i : Nat) (hi : i < n) (W : World) :
 (Instr.indexAt 22 (.slice a n cap) (.int .i64 i)).run Tryz.prog W = .ok (.pointer (some ⟨ab a, ao a + i, none⟩)) W := by
 have ha := h.addr (by omega)
 generalize ab a = b at *
 generalize ao a = o at *
 subst ha
 rw [run_indexAt_slice _ _ _ _ _ _ _ undU8, if_pos ⟨by omega, by omega⟩, sizU8]
 simp only [Result.andThen, Int.toNat_natCast, Nat.mul_one, Addr.add_lit]
theorem bx {op : BinOp} (x y : Int) : (bits op .u64 x y).toNat < 18446744073709551616 := by have := bits_lo_u64 op x y; have := bits_hi_u64 op x y; omega
theorem bx_eq {op : BinOp} (x y : Int) : (((bits op .u64 x y).toNat : Nat) : Int) = bits op .u64 x y := by have := bits_lo_u64 op x y; omega
theorem ex_bits {op : BinOp} {x y : Int} {w : World} : ∃ z : Nat, z < 18446744073709551616 ∧ Ending.returned (.int .u64 (bits op .u64 x y)) = .returned (.int .u64 ((z : Nat) : Int)) ∧ w = w := ⟨_, bx x y, by rw [bx_eq], rfl⟩
def Sty (s : Int) (y : Nat) : Prop := y < 18446744073709551616 ∧ ffin y = true ∧ (placeI s 4 ≠ 3 → fM y < 4791830003522207744)
theorem ex_num {x e K : Nat} (hK : K % 9223372036854775808 < 4503599627370496) (hK2 : K < 18446744073709551616) (he : e < 2000) : ((x &&& K) ||| (e * 4503599627370496)) < 18446744073709551616 ∧ ffin ((x &&& K) ||| (e * 4503599627370496)) = true ∧ fM ((x &&& K) ||| (e * 4503599627370496)) < (e + 1) * 4503599627370496 := by
 have h1 : x &&& K ≤ K := Nat.and_le_right
 have h2 : ((x &&& K) ||| (e * 4503599627370496)) < 2 ^ 64 := Nat.or_lt_two_pow (by omega) (by omega)
 have key : fM ((x &&& K) ||| (e * 4503599627370496)) < (e + 1) * 4503599627370496 := ?_
 · exact ⟨h2, decide_eq_true (by omega), key⟩
 show ((x &&& K) ||| (e * 4503599627370496)) % 2 ^ 63 < _
 rw [Nat.or_mod_two_pow, Nat.and_mod_two_pow]
 have h3 : (x % 2 ^ 63) &&& (K % 2 ^ 63) ≤ K % 2 ^ 63 := Nat.and_le_right
 have h4 : e * 4503599627370496 % 2 ^ 63 = e * 4503599627370496 := Nat.mod_eq_of_lt (by omega)
 rw [h4, Nat.or_comm, Nat.mul_comm e, show (4503599627370496 : Nat) = 2 ^ 52 from rfl, ← Nat.two_pow_add_eq_or_of_lt (by omega)]
 omega
theorem ex_num1 {s : Int} {x : Nat} (hx : x < 18446744073709551616) {P : Prop} (hP : P) : ∃ y : Nat, Sty s y ∧
 Ending.returned (.int .u64 (bits .or .u64 (bits .and .u64 (x : Int) 9227875636482146303) (IntKind.u64.wrap (IntKind.u64.wrap (1019 + bits .and .u64 ((x : Int) / 4503599627370496) 7) * 4503599627370496)))) = .returned (.int .u64 ((y : Nat) : Int)) ∧ P := by
 have h7 : x / 4503599627370496 &&& 7 ≤ 7 := Nat.and_le_right
 obtain ⟨h1, h2, h3⟩ := ex_num (x := x) (e := 1019 + (x / 4503599627370496 &&& 7)) (K := 9227875636482146303) (by decide) (by decide) (by omega)
 refine ⟨_, ⟨h1, h2, fun _ => by omega⟩, ?_, hP⟩
 have e1 := bits_and_u64_nat (x / 4503599627370496) 7 (by omega) (by omega)
 have e2 := bits_and_u64_nat x 9227875636482146303 hx (by omega)
 have e3 := bits_or_u64_nat (x &&& 9227875636482146303) ((1019 + (x / 4503599627370496 &&& 7)) * 4503599627370496) (by have : x &&& 9227875636482146303 ≤ 9227875636482146303 := Nat.and_le_right; omega) (by omega)
 rw [← e3, ← e2]
 have e4 : ((x / 4503599627370496 : Nat) : Int) = (x : Int) / 4503599627370496 := by omega
 rw [e4] at e1
 rw [show ((7 : Nat) : Int) = 7 from rfl] at e1
 rw [e1, show ((9227875636482146303 : Nat) : Int) = 9227875636482146303 from rfl]
 have e5 : IntKind.u64.wrap (IntKind.u64.wrap (1019 + ((x / 4503599627370496 &&& 7 : Nat) : Int)) * 4503599627370496) = (((1019 + (x / 4503599627370496 &&& 7)) * 4503599627370496 : Nat) : Int) := by
  rw [IntKind.wrap_u64, IntKind.wrap_u64]; omega
 rw [e5]
theorem ex_num2 {s : Int} {x : Nat} (hx : x < 18446744073709551616) {P : Prop} (hP : P) : ∃ y : Nat, Sty s y ∧
 Ending.returned (.int .u64 (bits .or .u64 (bits .and .u64 (x : Int) 9225623836668461056) ((983 + (x : Int) / 256 % 81) * 4503599627370496))) = .returned (.int .u64 ((y : Nat) : Int)) ∧ P := by
 obtain ⟨h1, h2, h3⟩ := ex_num (x := x) (e := 983 + x / 256 % 81) (K := 9225623836668461056) (by decide) (by decide) (by omega)
 refine ⟨_, ⟨h1, h2, fun _ => by omega⟩, ?_, hP⟩
 have e2 := bits_and_u64_nat x 9225623836668461056 hx (by omega)
 have e3 := bits_or_u64_nat (x &&& 9225623836668461056) ((983 + x / 256 % 81) * 4503599627370496) (by have : x &&& 9225623836668461056 ≤ 9225623836668461056 := Nat.and_le_right; omega) (by omega)
 rw [← e3, ← e2]
 have e5 : (983 + (x : Int) / 256 % 81) * 4503599627370496 = (((983 + x / 256 % 81) * 4503599627370496 : Nat) : Int) := by omega
 rw [e5]; rfl
theorem small_fin {r : Int} (h0 : -9 ≤ r) (h1 : r ≤ 9) : ffin (fround (nrm r 0) 0) = true ∧ fround (nrm r 0) 0 < 18446744073709551616 ∧ fM (fround (nrm r 0) 0) < 4791830003522207744 := by
 have : ∀ k : Fin 19, ffin (fround (nrm ((k.val : Int) - 9) 0) 0) = true ∧ fround (nrm ((k.val : Int) - 9) 0) 0 < 18446744073709551616 ∧ fM (fround (nrm ((k.val : Int) - 9) 0) 0) < 4791830003522207744 := by decide +kernel
 have h := this ⟨(r + 9).toNat, by omega⟩
 have e : (((r + 9).toNat : Nat) : Int) - 9 = r := by omega
 rw [show ((⟨(r + 9).toNat, by omega⟩ : Fin 19).val : Int) - 9 = r from e] at h
 exact h
attribute [local irreducible] Calls
theorem gmod_any (w : World) (a n : Int) (hn0 : 1 ≤ n) (hn1 : n ≤ 9223372036854775807) :
 Calls Tryz.prog 12 #[.int .i64 a, .int .i64 n] w fun o w' => o = .returned (.int .i64 (placeI a n)) ∧ w = w' := by
 have hw : IntKind.u64.wrap a = a % 18446744073709551616 := by rw [IntKind.wrap_u64]
 obtain ⟨u, hu⟩ : ∃ u, u = a % 18446744073709551616 := ⟨_, rfl⟩
 have hp : placeI a n = u % n := by unfold placeI; rw [← hu]
 have hu0 : 0 ≤ u := by omega
 have hu1 : u ≤ 18446744073709551615 := by omega
 rw [← hu] at hw
 rw [hp]
 have hr0 := Int.emod_nonneg u (show n ≠ 0 by omega)
 have hr1 := Int.emod_lt_of_pos u (show 0 < n by omega)
 clear hu hp
 go_enter Tryz.func12, Tryz.ntmps12
 go_wp2
 go_ret
 exact ⟨rfl, rfl⟩
theorem pl_nat (a : Int) (n : Nat) (h : 0 < n) : ∃ k : Nat, placeI a n = (k : Int) ∧ k < n := by
 have h1 := Int.emod_nonneg (a % 18446744073709551616) (show ((n : Nat) : Int) ≠ 0 by omega)
 have h2 := Int.emod_lt_of_pos (a % 18446744073709551616) (show 0 < ((n : Nat) : Int) by omega)
 exact ⟨(placeI a n).toNat, by unfold placeI; omega, by unfold placeI; omega⟩
theorem gword_any (w : World) (a : Option Addr) (n cap : Nat) (L : Nat → Nat) (hL : Fls w a n cap L) (k : Int) (hk0 : 0 ≤ k) (hk : k ≤ 1000000) :
 Calls Tryz.prog 26 #[.slice a n cap, .int .i64 k] w fun o w' => ∃ x : Nat, x < 18446744073709551616 ∧ o = .returned (.int .u64 ((x : Nat) : Int)) ∧ w = w' := by
 have l1 := hL.lim
 have l2 := hL.fits
 by_cases h0 : 0 < n
 · obtain ⟨j, hj, hjn⟩ := pl_nat k n h0
   have HM := fun W => Lib.hid (gmod_any W k n (by omega) (by omega))
   rw [hj] at HM
   have k0 := hL.cell j hjn
   have i0 := hL.idxU j hjn
   clear hj
   generalize ((L j : Nat) : Int) = y at *
   go_enter Tryz.func26, Tryz.ntmps26
   go_wp2_with fail
   refine (HM _).out.mono ?_; rintro o w1 ⟨rfl, rfl⟩; go_wp2_with fail
   go_ret
   exact ex_bits
 · obtain rfl : n = 0 := by omega
   go_enter Tryz.func26, Tryz.ntmps26
   go_wp2_with fail
   go_ret
   exact ex_bits
theorem gsmall_any (w : World) (x : Nat) (hx : x < 18446744073709551616) (hT : Tab w) :
 Calls Tryz.prog 65 #[.int .u64 x] w fun o w' => ∃ y : Nat, (y < 18446744073709551616 ∧ ffin y = true ∧ fM y < 4791830003522207744) ∧ o = .returned (.int .u64 ((y : Nat) : Int)) ∧ Below w.heap.size w w' := by
 obtain ⟨r, hr⟩ : ∃ r : Int, r = ((x : Nat) : Int) % 19 - 9 := ⟨_, rfl⟩
 have hr0 : -9 ≤ r := by omega
 have hr1 : r ≤ 9 := by omega
 obtain ⟨y, hy⟩ : ∃ y, y = fround (nrm r 0) 0 := ⟨_, rfl⟩
 have hf : ffin y = true ∧ y < 18446744073709551616 ∧ fM y < 4791830003522207744 := by rw [hy]; exact small_fin hr0 hr1
 have HF := fun W [Tb W] => Lib.hid (frm (r3fromInt_any W r 0 (by omega) (by omega) tb))
 rw [← hy] at HF
 haveI HT : Tb w := ⟨hT⟩
 clear hy
 subst hr
 go_enter Tryz.func65, Tryz.ntmps65
 go_wp2_with fail
 refine (HF _).out.mono ?_; rintro o w1 ⟨rfl, b1⟩; go_wp2_with fail
 go_ret
 exact ⟨_, ⟨hf.2.1, hf.1, hf.2.2⟩, rfl, zbh⟩
theorem gnum_any (w : World) (x : Nat) (hx : x < 18446744073709551616) (s : Int) (hT : Tab w) :
 Calls Tryz.prog 25 #[.int .u64 x, .int .i64 s] w fun o w' => ∃ y : Nat, Sty s y ∧ o = .returned (.int .u64 ((y : Nat) : Int)) ∧ Below w.heap.size w w' := by
 obtain ⟨k, hk, hk4⟩ := pl_nat s 4 (by omega)
 have HM := fun W => Lib.hid (gmod_any W s 4 (by omega) (by omega))
 have HS := fun W [Tb W] => Lib.hid ((gsmall_any W x hx tb).mono fun _ _ ⟨y, h1, h3, h4⟩ => (⟨y, h1, h3, ⟨h4⟩⟩ : ∃ y : Nat, (y < 18446744073709551616 ∧ ffin y = true ∧ fM y < 4791830003522207744) ∧ _ = Ending.returned (.int .u64 ((y : Nat) : Int)) ∧ From W _))
 have HI := fun W => Lib.hid (rfin_any W x)
 haveI HT : Tb w := ⟨hT⟩
 rw [show ((4 : Nat) : Int) = 4 from rfl] at hk
 rw [hk] at HM
 have HK := Lib.hid hk
 clear hk
 rcases (show k = 1 ∨ k = 2 ∨ k = 3 ∨ k = 0 by omega) with rfl | rfl | rfl | rfl
 · go_enter Tryz.func25, Tryz.ntmps25
   go_wp2_with fail
   refine (HM _).out.mono ?_; rintro o w1 ⟨rfl, rfl⟩; go_wp2_with fail
   go_ret
   exact ex_num1 hx (Below.refl w.heap.size w)
 · go_enter Tryz.func25, Tryz.ntmps25
   go_wp2_with fail
   refine (HM _).out.mono ?_; rintro o w1 ⟨rfl, rfl⟩; go_wp2_with fail
   go_ret
   exact ex_num2 hx (Below.refl w.heap.size w)
 · cases hf : ffin x with
   | true =>
    rw [hf] at HI
    go_enter Tryz.func25, Tryz.ntmps25
    go_wp2_with fail
    refine (HM _).out.mono ?_; rintro o w1 ⟨rfl, rfl⟩; go_wp2_with fail
    refine (HI _).out.mono ?_; rintro o w1 ⟨rfl, rfl⟩; go_wp2_with fail
    go_ret
    exact ⟨x, ⟨hx, hf, fun h => absurd HK.out h⟩, rfl, zbh⟩
   | false =>
    rw [hf] at HI
    go_enter Tryz.func25, Tryz.ntmps25
    go_wp2_with fail
    refine (HM _).out.mono ?_; rintro o w1 ⟨rfl, rfl⟩; go_wp2_with fail
    refine (HI _).out.mono ?_; rintro o w1 ⟨rfl, rfl⟩; go_wp2_with fail
    go_ret
    exact ⟨0, ⟨by omega, by decide, fun _ => by decide⟩, rfl, zbh⟩
 · go_enter Tryz.func25, Tryz.ntmps25
   go_wp2_with fail
   refine (HM _).out.mono ?_; rintro o w1 ⟨rfl, rfl⟩; go_wp2_with fail
   refine (HS _).out.mono ?_; rintro o w1 ⟨y, hy, rfl, b1⟩; go_wp2_with fail
   go_ret
   exact ⟨y, ⟨hy.1, hy.2.1, fun _ => hy.2.2⟩, rfl, zbh⟩
end Go.Proofs.YtablcbgeeeboeaaGreatDoor

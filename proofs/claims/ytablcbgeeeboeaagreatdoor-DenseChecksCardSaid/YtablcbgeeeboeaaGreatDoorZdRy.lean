/-
  Walks: package sparsekit: Limbs, Big, Dyad (equality of plain data).
-/
import Derived.Test.YtablcbgeeeboeaaGreatDoorZdBg
import Derived.Test.YtablcbgeeeboeaaGreatDoorZdOpenW
import Derived.Test.YtablcbgeeeboeaaGreatDoorZdS3
import Derived.Test.YtablcbgeeeboeaaGreatDoorZdGq
import Derived.Test.YtablcbgeeeboeaaGreatDoorZdCm
import Derived.Maps.AppendAt
import Derived.Test.YtablcbgeeeboeaaGreatDoorZdRm
import Derived.Test.YtablcbgeeeboeaaGreatDoorZdBL
import Derived.Deep.RegionLaw
import Derived.Deep.DeepCutAuto
import Derived.Test.YtablcbgeeeboeaaGreatDoorZdRq
set_option maxRecDepth 100000
set_option maxHeartbeats 2000000
namespace Go.Proofs.YtablcbgeeeboeaaGreatDoor
open Go.RowKit Sp
theorem limbs_any (w : World) (a a' : Option Addr) (n m cap cap' x y : Nat) (hx : Mag w a n cap x) (hy : Mag w a' m cap' y) (hn : n = nl x) (hm : m = nl y) :
 Calls Tryz.prog 145 #[.slice a n cap, .slice a' m cap'] w fun e w' => e = .returned (.bool (decide (x = y))) ∧ ∃ q, w' = w.drewN q := by
 have l1 := hx.lim
 have l2 := hy.lim
 have l3 := hx.fits
 have l4 := hy.fits
 by_cases hnm : n = m
 · subst hnm
   clear hn hm
   go_enter Tryz.func145, Tryz.ntmps145
   go_wp2
   go_loopw [5] (fun t wr => ∃ k : Nat, k ≤ n ∧ x % B ^ k = y % B ^ k ∧ t = .int .i64 k ∧ ∃ q, wr = w.drewN q) (fun t _ => n - (intOf t).toNat)
   case atStart => exact ⟨0, Nat.zero_le _, by rw [mod_zero_pow, mod_zero_pow], rfl, 0, rfl⟩
   case round =>
    obtain ⟨k, hk, hq, rfl, q, rfl⟩ := hrel
    have HQ := Lib.hid hq
    clear hq
    by_cases h0 : k < n
    · have c1 := hx.cell k h0
      have c2 := hy.cell k h0
      have i1 := hx.idx 42 und siz k h0
      have i2 := hy.idx 42 und siz k h0
      go_wp2
      go_quiet (fail)
      go_wp2
      · have hd := bne_true (by assumption : (((dig x k : Nat) : Int) != ((dig y k : Nat) : Int)) = true)
        go_ret
        refine ⟨?_, _, by rw [World.drewN_drewN]⟩
        have : ¬ x = y := fun h => hd (by rw [h])
        simp [this]
      · have hd := bne_false (by assumption : (((dig x k : Nat) : Int) != ((dig y k : Nat) : Int)) = false)
        go_roundw
        case rel => exact ⟨k + 1, by omega, by rw [mod_succ, mod_succ, HQ.out, hd], by go_num, _, rfl⟩
        case measure => simp [intOf]; omega
    · obtain rfl : k = n := by omega
      go_wp2
      go_ret
      refine ⟨?_, _, rfl⟩
      have : x = y := by rw [← mod_of_lt hx.lt, ← mod_of_lt hy.lt]; exact HQ.out
      simp [this]
 · have hnm' : ((n : Int) != (m : Int)) = true := by rw [bne_iff_ne]; omega
   have hxy : decide (x = y) = false := by
    have : ¬ x = y := fun h => hnm (by rw [hn, hm, h])
    simpa using this
   rw [hxy]
   clear hn hm
   go_enter Tryz.func145, Tryz.ntmps145
   go_wp2
   go_ret
   exact ⟨rfl, 0, rfl⟩
theorem kbig_any (w : World) (s s' : Bool) (a a' : Option Addr) (n m cap cap' x y : Nat) (hx : Mag w a n cap x) (hy : Mag w a' m cap' y) (hn : n = nl x) (hm : m = nl y) (v : Bool) (hv : v = ((s == s') && decide (x = y))) :
 Calls Tryz.prog 114 #[.agg #[.bool s, .slice a n cap], .agg #[.bool s', .slice a' m cap']] w fun e w' => e = .returned (.bool v) ∧ Below w.heap.size w w' := by
 have e1 : ¬ w.heap.size + 1 = w.heap.size := by omega
 have HL := fun W h h' => Lib.hid (limbs_any W a a' n m cap cap' x y h h' hn hm)
 clear hn hm
 cases hs : (s == s') with
 | false =>
  have hv' : v = false := by rw [hv, hs]; rfl
  subst hv'
  clear hv
  go_enter Tryz.func114, Tryz.ntmps114
  go_wp2_with fail
  go_ret
  exact ⟨rfl, zbh⟩
 | true =>
  have hv' : v = decide (x = y) := by rw [hv, hs]; rfl
  subst hv'
  clear hv
  generalize decide (x = y) = v at HL ⊢
  go_enter Tryz.func114, Tryz.ntmps114
  go_wp2_with fail
  refine (HL _ (hx.below zbh) (hy.below zbh)).out.mono ?_
  rintro e w1 ⟨rfl, q, rfl⟩
  go_wp2_with fail
  go_ret
  exact ⟨rfl, zbh⟩
def dyEq (b b' s s' : Bool) (x y : Nat) (f f' : Int) : Bool := (b == b') && ((f == f') && (s == s' && decide (x = y)))
theorem kdyad_any (w : World) (b b' s s' : Bool) (a a' : Option Addr) (n m cap cap' x y : Nat) (f f' : Int) (hx : Mag w a n cap x) (hy : Mag w a' m cap' y) (hn : n = nl x) (hm : m = nl y) (v : Bool) (hv : v = dyEq b b' s s' x y f f') :
 Calls Tryz.prog 64 #[.agg #[.bool b, .bool s, .slice a n cap, .int .i64 f], .agg #[.bool b', .bool s', .slice a' m cap', .int .i64 f']] w fun e w' => e = .returned (.bool v) ∧ Below w.heap.size w w' := by
 have e1 : ¬ w.heap.size + 1 = w.heap.size := by omega
 have HL := fun W h h' => Lib.hid (kbig_any W s s' a a' n m cap cap' x y h h' hn hm _ rfl)
 clear hn hm
 unfold dyEq at hv
 cases hs : (b == b') with
 | false =>
  have hv' : v = false := by rw [hv, hs]; rfl
  subst hv'
  clear hv
  go_enter Tryz.func64, Tryz.ntmps64
  go_wp2_with fail
  go_ret
  exact ⟨rfl, zbh⟩
 | true =>
  cases hf : (f == f') with
  | false =>
   have hv' : v = false := by rw [hv, hs, hf]; rfl
   subst hv'
   clear hv
   go_enter Tryz.func64, Tryz.ntmps64
   go_wp2_with fail
   go_ret
   exact ⟨rfl, zbh⟩
  | true =>
   have hv' : v = (s == s' && decide (x = y)) := by rw [hv, hs, hf]; simp
   subst hv'
   clear hv
   generalize (s == s' && decide (x = y)) = v at HL ⊢
   go_enter Tryz.func64, Tryz.ntmps64
   go_wp2_with fail
   refine (HL _ (hx.below zbh) (hy.below zbh)).out.mono ?_
   rintro e w1 ⟨rfl, hb1⟩
   have hbw := below_box (w := w) zbh hb1
   go_wp2_with fail
   go_ret
   exact ⟨rfl, (have := Beh.mk hbw; zbh)⟩
end Go.Proofs.YtablcbgeeeboeaaGreatDoor
namespace Go.Proofs.YtablcbgeeeboeaaGreatDoor
open Go.RowKit Sp
theorem infF : (Tryz.prog.info? 40).map (fun i => (i.zero, i.size, i.bytes)) = some (some (.int .u64 0), 1, 8) := by kernel_rfl
theorem undFe : Tryz.prog.underlying 28 = some (.slice 40) := by kernel_rfl
def flist (L : Nat → Nat) : Nat → List Value
 | 0 => []
 | k + 1 => flist L k ++ [.int .u64 (L k : Nat)]
theorem flist_length (L : Nat → Nat) (k : Nat) : (flist L k).length = k := by
 induction k with
 | zero => rfl
 | succ n ih => simp [flist, ih]
theorem flist_get (L : Nat → Nat) {k i : Nat} (h : i < k) : (flist L k)[i]? = some (.int .u64 (L i : Nat)) := by
 induction k with
 | zero => omega
 | succ n ih =>
  show (flist L n ++ [.int .u64 (L n : Nat)])[i]? = _
  by_cases hi : i < n
  · rw [List.getElem?_append_left (by rw [flist_length]; exact hi)]; exact ih hi
  · obtain rfl : i = n := by omega
    rw [List.getElem?_append_right (by rw [flist_length]; omega), flist_length, Nat.sub_self]; rfl
theorem own_fls {w : World} {base : Nat} {v : Value} {k : Nat} {L : Nat → Nat} (h : w.ownsRow base 40 1 v k (flist L k)) (hb : ∀ i, i < k → L i < 18446744073709551616) :
 ∃ a cap, v = .slice a k cap ∧ Fls w a k cap L := by
 rcases h.2 with ⟨hv, hk⟩ | ⟨g, cap, cur, hv, hbg, hgg, hkc, hcm, hcs, htake⟩
 · subst hk
   exact ⟨none, 0, hv, ⟨by omega, by omega, by omega, fun i hi => by omega, fun i hi => by omega, by omega⟩⟩
 · have ho := h
   rw [hv] at ho
   have hc : ∀ j, j < k → w.cell? ⟨g, j, none⟩ = (flist L k)[j]? := fun j hj => ho.cellAt j (by omega)
   refine ⟨some ⟨g, 0, none⟩, cap, hv, hkc, by unfold maxLen at hcm; omega, fun _ => rfl, fun i hi => ?_, hb, fun _ => (Array.getElem?_eq_some_iff.1 hgg).1⟩
   rw [ab_some, ao_some, Nat.zero_add, hc _ (by omega)]; exact flist_get L hi
end Go.Proofs.YtablcbgeeeboeaaGreatDoor
namespace Go.Proofs.YtablcbgeeeboeaaGreatDoor
open Go.RowKit Sp
theorem infI : (Tryz.prog.info? 3).map (fun i => (i.zero, i.size, i.bytes)) = some (some (.int .i64 0), 1, 8) := by kernel_rfl
theorem undIe : Tryz.prog.underlying 62 = some (.slice 3) := by kernel_rfl
theorem app_int2 {ops : Array Oper} {rest : List Oper} {o : Oper} {a : Act} {Q : Exit → Act → World → Prop} {w : World} (hgd : o.guard = none) (s x : Operand)
 (ho : o.op = .call { callee := .builtin .append, args := #[s, x], argTypes := #[62, 62] }) (base : Nat) (v : Value) (n : Nat) (xs : List Value) (hs : a.eval s = v) (g : Nat) (d : Int)
 (hx : a.eval x = .slice (some ⟨g, 0, none⟩) 1 1) (hown : w.ownsRow base 3 1 v n xs) (hcell : w.cell? ⟨g, 0, none⟩ = some (.int .i64 d)) (hn : n ≤ 4398046511104)
 (hbase : base ≤ w.heap.size) (h : ∀ v' w', w'.ownsRow base 3 1 v' (n + 1) (xs ++ [.int .i64 d]) → w.grownBy w' v.ownBlock → (v'.ownBlock = v.ownBlock ∨ v'.ownBlock = some w.heap.size) → wpList Tryz.prog ops Q rest (a.put o.dst v') w') : wpList Tryz.prog ops Q (o :: rest) a w := by
 obtain ⟨i0, hi, hz0, hz1, hz2⟩ := info_parts infI
 refine wpList_append_own_at w hgd s x _ ho base _ i0 (.int .i64 0) 1 8 undIe hi hz0 hz1 hz2 rfl (by decide) v n _ hs hown ⟨g, 0, none⟩ 1 1 [.int .i64 d] hx rfl ?_ ?_ ?_ ?_ hbase ?_
 · intro j u hu
   have : j = 0 := by
    rcases Nat.eq_zero_or_pos j with h | h
    · exact h
    · rw [List.getElem?_eq_none (by simp; omega)] at hu; cases hu
   subst this
   simp at hu; subst hu
   rw [Addr.add_zero']; exact hcell
 · intro u hu; simp at hu; subst hu; rfl
 · unfold maxLen; omega
 · omega
 · intro v' w' h1 h2 _ h4
   exact h v' w' h1 h2 h4
theorem own_cell {w : World} {base : Nat} {v : Value} {k : Nat} {xs : List Value} (h : w.ownsRow base 3 1 v k xs) :
 (k = 0 ∧ v = .slice none 0 0) ∨ ∃ g cap, v = .slice (some ⟨g, 0, none⟩) k cap ∧ base ≤ g ∧ g < w.heap.size ∧ k ≤ cap ∧ cap ≤ 9223372036854775807 ∧ ∀ j, j < k → w.cell? ⟨g, j, none⟩ = xs[j]? := by
 rcases h.2 with ⟨hv, hk⟩ | ⟨g, cap, cur, hv, hbg, hgg, hkc, hcm, hcs, htake⟩
 · left; exact ⟨hk, hv⟩
 · right
   have ho := h
   rw [hv] at ho
   exact ⟨g, cap, hv, hbg, (Array.getElem?_eq_some_iff.1 hgg).1, hkc, by unfold maxLen at hcm; omega, fun j hj => ho.cellAt j (by omega)⟩
end Go.Proofs.YtablcbgeeeboeaaGreatDoor
namespace Go.Proofs.YtablcbgeeeboeaaGreatDoor
open Go.RowKit Sp
def placeI (a n : Int) : Int := a % 18446744073709551616 % n
theorem dyEq_dec (d d' : Option (Int × Int)) : dyEq (dbad d) (dbad d') (decide (dman d < 0)) (decide (dman d' < 0)) (dman d).natAbs (dman d').natAbs (dexp d) (dexp d') = decide (d = d') := by
 unfold dyEq
 rw [Bool.eq_iff_iff]
 cases d with
 | none => cases d' with
  | none => simp
  | some q => simp [dbad]
 | some p => cases d' with
  | none => simp [dbad]
  | some q =>
   obtain ⟨m, e⟩ := p
   obtain ⟨n, f⟩ := q
   have hs : (m < 0 ↔ n < 0) ∧ m.natAbs = n.natAbs ↔ m = n := by omega
   have h0 : (decide (m < 0) = decide (n < 0)) = (m < 0 ↔ n < 0) := propext decide_eq_decide
   show ((false == false) && ((e == f) && (decide (m < 0) == decide (n < 0) && decide (m.natAbs = n.natAbs)))) = true ↔ decide ((some (m, e) : Option (Int × Int)) = some (n, f)) = true
   simp only [beq_self_eq_true, Bool.true_and, Bool.and_eq_true, beq_iff_eq, decide_eq_true_eq, Option.some.injEq, Prod.mk.injEq]
   rw [h0, ← hs]
   constructor
   · rintro ⟨h1, h2, h3⟩; exact ⟨⟨h2, h3⟩, h1⟩
   · rintro ⟨⟨h2, h3⟩, h1⟩; exact ⟨h1, h2, h3⟩
end Go.Proofs.YtablcbgeeeboeaaGreatDoor
namespace Go.Proofs.YtablcbgeeeboeaaGreatDoor
open Go.RowKit Sp
def icells (l : List Nat) : List Value := l.map fun (x : Nat) => Value.int .i64 (x : Int)
theorem icells_get {l : List Nat} {j x : Nat} (h : l[j]? = some x) : (icells l)[j]? = some (.int .i64 (x : Int)) := by unfold icells; rw [List.getElem?_map, h]; rfl
theorem icells_app (l m : List Nat) : icells (l ++ m) = icells l ++ icells m := List.map_append
structure Ils (w : World) (a : Option Addr) (n cap : Nat) (L : Nat → Int) : Prop where
 fits : n ≤ cap
 lim : cap ≤ 9223372036854775807
 addr : 0 < n → a = some ⟨ab a, ao a, none⟩
 cell : ∀ i, i < n → w.cell? ⟨ab a, ao a + i, none⟩ = some (.int .i64 (L i))
 old : 0 < n → ab a < w.heap.size
theorem Ils.below {w w' : World} {a : Option Addr} {n cap : Nat} {L : Nat → Int} (h : Ils w a n cap L) (hb : Below w.heap.size w w') : Ils w' a n cap L :=
 ⟨h.fits, h.lim, h.addr, fun i hi => by rw [hb.cell (p := ⟨ab a, ao a + i, none⟩) (h.old (by omega))]; exact h.cell i hi, fun hn => Nat.lt_of_lt_of_le (h.old hn) hb.size⟩
theorem undIl : Tryz.prog.underlying 62 = some (.slice (Tryz.prog.elem 62)) := by kernel_rfl
theorem sizIl (w : World) : (Go.sizeOf (Tryz.prog.elem 62)).run Tryz.prog w = .ok 1 w := by kernel_rfl
theorem Ils.idx {w : World} {a : Option Addr} {n cap : Nat} {L : Nat → Int} (h : Ils w a n cap L) (i : Nat) (hi : i < n) (W : World) :
 (Instr.indexAt 62 (.slice a n cap) (.int .i64 i)).run Tryz.prog W = .ok (.pointer (some ⟨ab a, ao a + i, none⟩)) W := by
 have ha := h.addr (by omega)
 generalize ab a = b at *
 generalize ao a = o at *
 subst ha
 rw [run_indexAt_slice _ _ _ _ _ _ _ undIl, if_pos ⟨by omega, by omega⟩, sizIl]
 simp only [Result.andThen, Int.toNat_natCast, Nat.mul_one, Addr.add_lit]
attribute [local irreducible] Calls
end Go.Proofs.YtablcbgeeeboeaaGreatDoor
set_option maxRecDepth 100000
set_option maxHeartbeats 20000000
namespace Go.Proofs.YtablcbgeeeboeaaGreatDoor
open Go.RowKit Sp
theorem kfloats_any (w : World) (a a' : Option Addr) (n cap cap' : Nat) (X : Nat → Nat) (hX : Fls w a n cap X) (hY : Fls w a' n cap' X) :
 Calls Tryz.prog 53 #[.slice a n cap, .slice a' n cap'] w fun e w' => e = .returned (.bool true) ∧ Below w.heap.size w w' := by
 have l1 := hX.lim
 have l2 := hX.fits
 have l3 := hY.lim
 have l4 := hY.fits
 have HX := Lib.hid hX
 have HY := Lib.hid hY
 clear hX hY
 go_enter Tryz.func53, Tryz.ntmps53
 go_wp2
 go_loopw [5] (fun t wr => ∃ k : Nat, k ≤ n ∧ t = .int .i64 k ∧ ∃ q, wr = w.drewN q) (fun t _ => n - (intOf t).toNat)
 case atStart => exact ⟨0, Nat.zero_le _, rfl, 0, rfl⟩
 case round =>
  obtain ⟨k, hk, rfl, q, rfl⟩ := hrel
  by_cases h0 : k < n
  · have c1 := HX.out.cell k h0
    have c2 := HY.out.cell k h0
    have i1 := HX.out.idx k h0
    have i2 := HY.out.idx k h0
    generalize (((X k : Nat)) : Int) = x at c1 c2
    go_wp2
    go_quiet (fail)
    go_wp2
    go_roundw
    case rel => exact ⟨k + 1, by omega, by go_num, _, rfl⟩
    case measure => simp [intOf]; omega
  · obtain rfl : k = n := by omega
    go_wp2
    go_ret
    exact ⟨rfl, below_drewN (Below.refl _ _) _⟩
end Go.Proofs.YtablcbgeeeboeaaGreatDoor
set_option maxRecDepth 100000
set_option maxHeartbeats 4000000
namespace Go.Proofs.YtablcbgeeeboeaaGreatDoor
open Go.RowKit Sp
structure RowC (w : World) (g n cap : Nat) (e : TypeId) (z : Nat) : Prop where
 lt : z < B ^ n
 fit : n ≤ cap
 lim : cap ≤ 9223372036854775807
 row : ∃ cur : Array Value, w.heap[g]? = some (.cells cur e (0, 0)) ∧ cur.size = cap ∧ ∀ i, i < n → cur[i]? = some (.int .u32 (dig z i))
theorem RowC.old {w : World} {g n cap : Nat} {e : TypeId} {z : Nat} (h : RowC w g n cap e z) : g < w.heap.size := by
 obtain ⟨cur, hc, _⟩ := h.row
 exact (Array.getElem?_eq_some_iff.1 hc).1
theorem RowC.cell {w : World} {g n cap : Nat} {e : TypeId} {z : Nat} (h : RowC w g n cap e z) (i : Nat) (hi : i < n) : w.cell? ⟨g, i, none⟩ = some (.int .u32 (dig z i)) := by
 obtain ⟨cur, hc, hs, hd⟩ := h.row
 rw [cell_of_row w g i cur e (0, 0) hc]; exact hd i hi
theorem RowC.free {w : World} {g n cap : Nat} {e : TypeId} {z : Nat} (h : RowC w g n cap e z) (i : Nat) : w.frozen? ⟨g, i, none⟩ = false := by
 obtain ⟨cur, hc, hs, hd⟩ := h.row
 exact frozen_of_row w g i cur e hc
theorem RowC.store {w : World} {g n cap : Nat} {e : TypeId} {z : Nat} (h : RowC w g n cap e z) (i d : Nat) (hi : i < n) (hd : d < 4294967296) :
 RowC (w.setCell ⟨g, i, none⟩ (.int .u32 d)) g n cap e (setd z i d) := by
 obtain ⟨cur, hc, hs, hdig⟩ := h.row
 have hf := h.fit
 refine ⟨setd_lt hd hi h.lt, h.fit, h.lim, cur.setIfInBounds i (.int .u32 d), heap_setCell_same w g i cur e _ hc, by simpa using hs, fun k hk => ?_⟩
 by_cases hki : k = i
 · subst hki; rw [dig_setd_same _ _ _ hd, Array.getElem?_setIfInBounds_self_of_lt (by omega)]
 · rw [dig_setd_other hd hki, Array.getElem?_setIfInBounds_ne (Ne.symm hki)]; exact hdig k hk
theorem RowC.below {B' : Nat} {w w' : World} {g n cap : Nat} {e : TypeId} {z : Nat} (h : RowC w g n cap e z) (hb : Below B' w w') (hg : g < B') : RowC w' g n cap e z := by
 obtain ⟨cur, hc, hs, hd⟩ := h.row
 exact ⟨h.lt, h.fit, h.lim, cur, by rw [hb.block g hg]; exact hc, hs, hd⟩
theorem RowC.mag {w : World} {g n cap : Nat} {e : TypeId} {z : Nat} (h : RowC w g n cap e z) : Mag w (some ⟨g, 0, none⟩) n cap z :=
 ⟨h.lt, h.fit, h.lim, fun _ => rfl, fun i hi => by rw [ab_some, ao_some, Nat.zero_add]; exact h.cell i hi, fun _ => h.old⟩
theorem RowC.drewN {w : World} {g n cap : Nat} {e : TypeId} {z : Nat} (h : RowC w g n cap e z) (q : Nat) : RowC (w.drewN q) g n cap e z := ⟨h.lt, h.fit, h.lim, h.row⟩
theorem rowC_of_owns {w : World} {base : Nat} {e : TypeId} {v : Value} {n z : Nat} (h : w.ownsRow base e 1 v n (digs z n)) (hz : z < B ^ n) (hn : 0 < n) :
 ∃ g cap, v = .slice (some ⟨g, 0, none⟩) n cap ∧ base ≤ g ∧ RowC w g n cap e z := by
 rcases h.2 with ⟨_, h0⟩ | ⟨g, cap, cur, rfl, hbg, hg, hnc, hcm, hcs, htake⟩
 · omega
 · refine ⟨g, cap, rfl, hbg, hz, hnc, by simp only [maxLen] at hcm; omega, cur, hg, by rw [hcs, Nat.mul_one], fun i hi => ?_⟩
   have h1 : (digs z n)[i]? = some (.int .u32 (dig z i)) := digs_get hi
   rw [← htake, List.getElem?_take, if_pos (by omega)] at h1
   simpa using h1
def pc (Q V k : Nat) : Nat := Q * (V % B ^ k) / B ^ k
theorem pc_zero (Q V : Nat) : pc Q V 0 = 0 := by unfold pc; rw [mod_zero_pow, Nat.mul_zero, Nat.zero_div]
theorem pc_step (Q V k : Nat) : (pc Q V k + Q * dig V k) % B = dig (Q * V) k ∧ (pc Q V k + Q * dig V k) / B = pc Q V (k + 1) := by
 have h1 : pc Q V k + Q * dig V k = Q * (V % B ^ (k + 1)) / B ^ k := by
  unfold pc
  rw [mod_succ, Nat.mul_add, ← Nat.mul_assoc, Nat.add_mul_div_right _ _ (Bpow_pos k)]
 rw [h1]
 refine ⟨?_, by unfold pc; rw [Nat.div_div_eq_div_mul, ← Bpow_succ]⟩
 have h2 : Q * V = Q * (V % B ^ (k + 1)) + Q * (V / B ^ (k + 1)) * B * B ^ k := by
  have := Nat.mod_add_div V (B ^ (k + 1))
  conv => lhs; rw [← this]
  rw [Nat.mul_add, Bpow_succ, Nat.mul_comm (B ^ k * B) (V / _), ← Nat.mul_assoc, ← Nat.mul_assoc]
  congr 1
  rw [Nat.mul_assoc (Q * _), Nat.mul_assoc (Q * _), Nat.mul_comm (B ^ k) B]
 unfold dig
 rw [h2, Nat.add_mul_div_right _ _ (Bpow_pos k), Nat.add_mul_mod_self_right]
theorem pc_lt {Q V k : Nat} (hQ : 0 < Q) : pc Q V k < Q := by
 unfold pc
 rw [Nat.div_lt_iff_lt_mul (Bpow_pos k)]
 exact Nat.mul_lt_mul_of_pos_left (mod_lt' V k) hQ
theorem pc_le {Q V k : Nat} (hQ : Q ≤ 4294967295) : pc Q V k ≤ 4294967295 := by
 rcases Nat.eq_zero_or_pos Q with h | h
 · subst h; unfold pc; simp
 · have := pc_lt (V := V) (k := k) h; omega
theorem pc_top {Q V n : Nat} (hV : V < B ^ n) (hQ : Q ≤ 4294967295) : pc Q V n = dig (Q * V) n := by
 have h := pc_le (V := V) (k := n) hQ
 have e : pc Q V n = Q * V / B ^ n := by unfold pc; rw [mod_of_lt hV]
 unfold dig
 rw [← e, Nat.mod_eq_of_lt]
 rw [B_eq]; omega
theorem dig_div (Z j k : Nat) : dig (Z / B ^ j) k = dig Z (k + j) := by
 unfold dig; rw [Nat.div_div_eq_div_mul, ← Bpow_add, Nat.add_comm j k]
theorem take_plain {U P n : Nat} (hU : U < B ^ (n + 1)) (hP : P < B ^ (n + 1)) :
 ∃ X d, P + d = X ∧ d < B ^ (n + 1) ∧ (∀ k, k ≤ n → dig X k = dig U k) ∧ car P d (n + 1) = (if P ≤ U then 0 else 1) ∧ (P ≤ U → d = U - P) := by
 by_cases h : P ≤ U
 · refine ⟨U, U - P, by omega, by omega, fun _ _ => rfl, ?_, fun _ => rfl⟩
   rw [if_pos h]; unfold car
   rw [mod_of_lt hP, mod_of_lt (by omega : U - P < B ^ (n + 1)), show P + (U - P) = U by omega]
   exact Nat.div_eq_of_lt hU
 · refine ⟨U + B ^ (n + 1), U + B ^ (n + 1) - P, by omega, by omega, fun k hk => ?_, ?_, fun h' => absurd h' h⟩
   · rw [← dig_mod (x := U + B ^ (n + 1)) (show k < n + 1 by omega), Nat.add_mod_right, mod_of_lt hU]
   · rw [if_neg h]; unfold car
     rw [mod_of_lt hP, mod_of_lt (by omega : U + B ^ (n + 1) - P < B ^ (n + 1)), show P + (U + B ^ (n + 1) - P) = U + 1 * B ^ (n + 1) by omega, Nat.add_mul_div_right _ _ (Bpow_pos _), Nat.div_eq_of_lt hU]
def tmid (Z j d k : Nat) : Nat := Z % B ^ j + (d % B ^ k + Z / B ^ j / B ^ k * B ^ k) * B ^ j
theorem tmid_zero (Z j d : Nat) : tmid Z j d 0 = Z := by
 unfold tmid
 rw [mod_zero_pow, Nat.pow_zero, Nat.div_one, Nat.mul_one, Nat.zero_add]
 have := Nat.mod_add_div Z (B ^ j)
 rw [Nat.mul_comm] at this; exact this
theorem tmid_succ (Z j d k : Nat) : setd (tmid Z j d k) (j + k) (dig d k) = tmid Z j d (k + 1) := by
 unfold tmid
 rw [setd_hi (mod_lt' Z j)]
 congr 2
 have h1 : (d % B ^ k + Z / B ^ j / B ^ k * B ^ k) % B ^ k = d % B ^ k := by rw [Nat.add_mul_mod_self_right, Nat.mod_mod]
 have h2 : (d % B ^ k + Z / B ^ j / B ^ k * B ^ k) / B ^ (k + 1) = Z / B ^ j / B ^ (k + 1) := by
  rw [Bpow_succ, ← Nat.div_div_eq_div_mul, Nat.add_mul_div_right _ _ (Bpow_pos k), Nat.div_eq_of_lt (mod_lt' d k), Nat.zero_add, Nat.div_div_eq_div_mul]
 unfold setd
 rw [h1, h2, mod_succ]
theorem tmid_top {Z j d n : Nat} (hZ : Z < B ^ (j + n + 1)) (hd : d < B ^ (n + 1)) : tmid Z j d (n + 1) = Z % B ^ j + d * B ^ j := by
 unfold tmid
 have : Z / B ^ j < B ^ (n + 1) := by rw [Nat.div_lt_iff_lt_mul (Bpow_pos j), ← Bpow_add, show n + 1 + j = j + n + 1 by omega]; exact hZ
 rw [mod_of_lt hd, Nat.div_eq_of_lt this, Nat.zero_mul, Nat.add_zero]
theorem take_end0 {Z R U P E A C : Nat} (h1 : R + A = Z) (h2 : C ≤ A) (hA : A = U * E) (hC : C = P * E) : R + (U - P) * E = Z - P * E := by
 rw [Nat.sub_mul, ← hA, ← hC]; omega
theorem take_end {Z j P : Nat} (h : P ≤ Z / B ^ j) : Z % B ^ j + (Z / B ^ j - P) * B ^ j = Z - P * B ^ j :=
 take_end0 (by rw [Nat.mul_comm (Z / B ^ j)]; exact Nat.mod_add_div Z _) (Nat.mul_le_mul_right (B ^ j) h) rfl rfl
theorem rtake_any (w : World) (g N cu n cv j Q V Z : Nat) (av : Option Addr) (hrow : RowC w g N cu 96 Z) (hN : j + n + 1 ≤ N) (hlim : N ≤ 549755813888) (hv : Mag w av n cv V) (hva : 0 < n → ab av ≠ g) (hQ : Q ≤ 4294967295) (hZ : Z < B ^ (j + n + 1)) (b : Bool) (hb : b = decide (Q * V ≤ Z / B ^ j)) :
 Calls Tryz.prog 193 #[.slice (some ⟨g, 0, none⟩) N cu, .slice av n cv, .int .i64 j, .int .u64 Q] w fun e w' =>
  e = .returned (.bool b) ∧ RowC w' g N cu 96 (if b then Z - Q * V * B ^ j else Z) ∧ w.grownBy w' (some g) := by
 have hmk := make_len 42 96 infU undU ((n : Int) + 1) (by omega) (by omega)
 have l1 := hv.lim
 have l2 := hv.fits
 have l3 := hrow.lim
 have l4 := hrow.fit
 have lg := hrow.old
 have hU : Z / B ^ j < B ^ (n + 1) := by rw [Nat.div_lt_iff_lt_mul (Bpow_pos j), ← Bpow_add, show n + 1 + j = j + n + 1 by omega]; exact hZ
 have hP : Q * V < B ^ (n + 1) := by
  rw [Bpow_succ, Nat.mul_comm (B ^ n) B]
  have hQB : Q < B := by rw [B_eq]; omega
  exact Nat.mul_lt_mul'' hQB hv.lt
 obtain ⟨X, d, hX, hd, hXd, hcar, hdd⟩ := take_plain hU hP
 obtain ⟨U, hUe⟩ : ∃ U, U = Z / B ^ j := ⟨_, rfl⟩
 have hXU : ∀ k, k ≤ n → dig X k = dig Z (k + j) := fun k hk => by rw [hXd k hk, dig_div]
 obtain ⟨P, hPe⟩ : ∃ P, P = Q * V := ⟨_, rfl⟩
 rw [← hPe] at hX hcar hb hdd
 rw [← hUe] at hcar hb hdd
 have HUE := Lib.hid hUe
 have HX := Lib.hid hX
 have HXU := Lib.hid hXU
 have HCAR := Lib.hid hcar
 have HB := Lib.hid hb
 have HDD := Lib.hid hdd
 have HD := Lib.hid hd
 have HZ := Lib.hid hZ
 have HPE := Lib.hid hPe
 clear hX hXU hcar hb hdd hd hZ hPe hXd hU hP hUe
 go_enter Tryz.func193, Tryz.ntmps193
 go_wp2
 clear hmk
 have hrow0 := Row.made w (n + 1) 96 (by omega)
 have hbm : Below w.heap.size w (w.alloc (.cells (madeCells #[.int .u32 0] (n + 1)) 96)) := (Below.refl _ _).alloc (Nat.le_refl _) _
 go_loopw [11, 12, 13] (fun br ca i wr => ∃ k : Nat, k ≤ n + 1 ∧ i = .int .i64 k ∧ br = .int .u64 (car P d k : Nat) ∧ (∃ cc : Nat, ca = .int .u64 cc ∧ cc ≤ 4294967295 ∧ (k ≤ n → cc = pc Q V k)) ∧ Row wr w.heap.size (n + 1) 96 (d % B ^ k) ∧ Below w.heap.size w wr) (fun _ _ i _ => n + 1 - (intOf i).toNat)
 case atStart => exact ⟨0, by omega, rfl, by rw [car_zero]; rfl, ⟨0, rfl, by omega, fun _ => (pc_zero _ _).symm⟩, by rw [mod_zero_pow]; exact hrow0, hbm⟩
 case round =>
  clear hrow0 hbm
  obtain ⟨k, hk, rfl, rfl, ⟨cc, rfl, hcc, hcp⟩, hro, hbw⟩ := hrel
  have HCP := Lib.hid hcp
  clear hcp
  have hv' := hv.below hbw
  have hr' := hrow.below hbw lg
  have hc1 := car_le P d k
  by_cases hkn : k ≤ n
  · have c2 := hr'.cell (k + j) (by omega)
    rw [← HXU.out k hkn] at c2
    have hd2 := dig_lt X k
    have c3 := hro.cell k (by omega)
    have f3 := hro.free k
    have HS1 := Lib.hid (sub_word X P d k HX.out).1
    have HS2 := Lib.hid (rsub_word X P d k HX.out)
    have hsd : setd (d % B ^ k) k (dig d k) = d % B ^ (k + 1) := by rw [setd_zero (mod_lt' d k), mod_succ]
    have HSD := Lib.hid hsd
    clear hsd
    by_cases hlt : k < n
    · have c1 := hv'.cell k hlt
      have i1 := hv'.idx 42 und siz k hlt
      have hd1 := dig_lt V k
      have hps := pc_step Q V k
      rw [← HCP.out hkn, ← HPE.out] at hps
      obtain ⟨m1, m2⟩ := mul_carry (x := Q) (y := dig V k) (z := 0) (c := cc) (by omega) hd1 (by omega) (by omega)
      have m2' : (cc : Int) + (Q : Int) * ((dig V k : Nat) : Int) < 18446744073709551616 := by rw [← Int.natCast_mul]; omega
      have m0 : (0 : Int) ≤ (Q : Int) * ((dig V k : Nat) : Int) := by rw [← Int.natCast_mul]; omega
      obtain ⟨T, hT⟩ : ∃ T : Nat, T = cc + Q * dig V k := ⟨_, rfl⟩
      have hTI : ((T : Nat) : Int) = (cc : Int) + (Q : Int) * ((dig V k : Nat) : Int) := by rw [hT]; simp
      rw [← hT] at hps
      have hTL : ((T : Nat) : Int) % 4294967296 = ((dig P k : Nat) : Int) := by rw [← hps.1, B_eq]; omega
      have hTD : ((T : Nat) : Int) / 4294967296 = ((pc Q V (k + 1) : Nat) : Int) := by rw [← hps.2, B_eq]; omega
      have hpl := pc_le (V := V) (k := k + 1) hQ
      have HTI := Lib.hid hTI
      have HTL := Lib.hid hTL
      have HTD := Lib.hid hTD
      clear m1 m2 hT hTI hps hTL hTD
      go_wp2
      go_roundw
      case rel =>
       refine ⟨k + 1, by omega, by go_num, ?_, ⟨pc Q V (k + 1), ?_, hpl, fun _ => rfl⟩, ?_, hbw.setCell (Nat.le_refl _) _⟩
       · rw [← HTI.out, HTL.out, HS2.out]
       · rw [← HTI.out, HTD.out]
       · rw [← HTI.out, HTL.out, HS1.out, ← HSD.out]
         exact hro.store k (dig d k) (by omega) (dig_lt d k)
      case measure => simp [intOf]; omega
    · obtain rfl : k = n := by omega
      have hcd : cc = dig P k := by rw [HCP.out hkn, HPE.out]; exact pc_top hv.lt hQ
      have hd3 := dig_lt P k
      subst hcd
      have hz : ((dig P k : Nat) : Int) / 4294967296 = 0 := by omega
      have hy : ((dig P k : Nat) : Int) % 4294967296 = ((dig P k : Nat) : Int) := by omega
      have hlt' : decide (k < k) = false := by simp
      go_wp2
      go_roundw
      case rel =>
       refine ⟨k + 1, by omega, by go_num, ?_, ⟨0, rfl, by omega, fun h => absurd h (by omega)⟩, ?_, hbw.setCell (Nat.le_refl _) _⟩
       · rw [HS2.out]
       · rw [HS1.out, ← HSD.out]
         exact hro.store k (dig d k) (by omega) (dig_lt d k)
      case measure => simp [intOf]
  · obtain rfl : k = n + 1 := by omega
    rw [mod_of_lt HD.out] at hro
    have hcar := HCAR.out
    have hon : w.grownBy wr (some g) := ⟨hbw.os, hbw.tape, hbw.output, hbw.size, fun b h _ => hbw.block b h⟩
    have hsz := hbw.size
    by_cases hPU : P ≤ U
    · rw [if_pos hPU] at hcar
      have hbt : b = true := by rw [HB.out]; simpa using hPU
      subst hbt
      have hdv := HDD.out hPU
      have HPU := Lib.hid hPU
      clear hPU
      have HDV := Lib.hid hdv
      clear hdv
      rw [hcar]
      clear hcar
      obtain ⟨wo, rfl⟩ : ∃ wo : World, wo = wr := ⟨_, rfl⟩
      go_wp2
      go_loopw [15] (fun i wi => ∃ q : Nat, q ≤ n + 1 ∧ i = .int .i64 q ∧ RowC wi g N cu 96 (tmid Z j d q) ∧ Row wi w.heap.size (n + 1) 96 d ∧ w.grownBy wi (some g)) (fun i _ => n + 1 - (intOf i).toNat)
      case atStart => exact ⟨0, by omega, rfl, by rw [tmid_zero]; exact hr', hro, hon⟩
      case round =>
       clear hr' hro hon
       obtain ⟨q, hq, rfl, hru, hro, hon⟩ := hrel
       by_cases hqn : q ≤ n
       · have c1 := hro.cell q (by omega)
         have c2 := hru.cell (q + j) (by omega)
         have f2 := hru.free (q + j)
         go_wp2
         go_roundw
         case rel =>
          refine ⟨q + 1, by omega, by go_num, ?_, ?_, only_set hon _ _⟩
          · rw [← tmid_succ, Nat.add_comm j q]
            exact hru.store (q + j) (dig d q) (by omega) (dig_lt d q)
          · exact hro.only (only_set (only_refl _ g) _ _) (by omega)
         case measure => simp [intOf]; (try omega)
       · obtain rfl : q = n + 1 := by omega
         rw [tmid_top HZ.out HD.out] at hru
         have he : Z % B ^ j + d * B ^ j = Z - P * B ^ j := by
          rw [HDV.out, HUE.out]
          exact take_end (by rw [← HUE.out]; exact HPU.out)
         go_wp2
         go_ret
         refine ⟨rfl, ?_, hon⟩
         have hru2 := hru
         rw [he, HPE.out] at hru2
         exact hru2
    · rw [if_neg hPU] at hcar
      have hbt : b = false := by rw [HB.out]; simpa using hPU
      subst hbt
      rw [hcar]
      clear hcar
      go_wp2
      go_ret
      exact ⟨rfl, hr', hon⟩
end Go.Proofs.YtablcbgeeeboeaaGreatDoor

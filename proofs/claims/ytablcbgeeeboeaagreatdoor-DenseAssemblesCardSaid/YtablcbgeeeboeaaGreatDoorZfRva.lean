/-
  Walks: package sparsekit: Limbs, Big, Dyad (equality of plain data).
-/
import Derived.Test.YtablcbgeeeboeaaGreatDoorZfBg
import Derived.Test.YtablcbgeeeboeaaGreatDoorZfTj
import Derived.Test.YtablcbgeeeboeaaGreatDoorZfS3
import Derived.Test.YtablcbgeeeboeaaGreatDoorZfRm
import Derived.Test.YtablcbgeeeboeaaGreatDoorZfFP
import Derived.Test.YtablcbgeeeboeaaGreatDoorZfGq
import Derived.Test.YtablcbgeeeboeaaGreatDoorZfCm
import Derived.Maps.AppendAt
import Derived.Deep.RegionLaw
import Derived.Deep.DeepCutAuto
import Derived.Test.YtablcbgeeeboeaaGreatDoorZfRq
import Derived.Test.YtablcbgeeeboeaaGreatDoorZfRt
import Derived.Test.YtablcbgeeeboeaaGreatDoorZfBf
import Derived.Test.YtablcbgeeeboeaaGreatDoorZfCs
set_option maxRecDepth 100000
set_option maxHeartbeats 2000000
namespace Go.Proofs.YtablcbgeeeboeaaGreatDoor
open Go.RowKit Sp
theorem limbs_any (w : World) (a a' : Option Addr) (n m cap cap' x y : Nat) (hx : Mag w a n cap x) (hy : Mag w a' m cap' y) (hn : n = nl x) (hm : m = nl y) :
 Calls Tryz.prog 145 #[.slice a n cap, .slice a' m cap'] w fun e w' => e = .returned (.bool (decide (x = y))) ∧ ∃ q, w' = w.drewN q := by
 have l1 := hx.lim
 have l2 := hy.lim
 have l3 := hx.fits
 have l4 := hy.fits
 by_cases hnm : n = m
 · subst hnm
   clear hn hm
   go_enter Tryz.func145, Tryz.ntmps145
   go_wp2
   go_loopw [5] (fun t wr => ∃ k : Nat, k ≤ n ∧ x % B ^ k = y % B ^ k ∧ t = .int .i64 k ∧ ∃ q, wr = w.drewN q) (fun t _ => n - (intOf t).toNat)
   case atStart => exact ⟨0, Nat.zero_le _, by rw [mod_zero_pow, mod_zero_pow], rfl, 0, rfl⟩
   case round =>
    obtain ⟨k, hk, hq, rfl, q, rfl⟩ := hrel
    have HQ := Lib.hid hq
    clear hq
    by_cases h0 : k < n
    · have c1 := hx.cell k h0
      have c2 := hy.cell k h0
      have i1 := hx.idx 42 und siz k h0
      have i2 := hy.idx 42 und siz k h0
      go_wp2
      go_quiet (fail)
      go_wp2
      · have hd := bne_true (by assumption : (((dig x k : Nat) : Int) != ((dig y k : Nat) : Int)) = true)
        go_ret
        refine ⟨?_, _, by rw [World.drewN_drewN]⟩
        have : ¬ x = y := fun h => hd (by rw [h])
        simp [this]
      · have hd := bne_false (by assumption : (((dig x k : Nat) : Int) != ((dig y k : Nat) : Int)) = false)
        go_roundw
        case rel => exact ⟨k + 1, by omega, by rw [mod_succ, mod_succ, HQ.out, hd], by go_num, _, rfl⟩
        case measure => simp [intOf]; omega
    · obtain rfl : k = n := by omega
      go_wp2
      go_ret
      refine ⟨?_, _, rfl⟩
      have : x = y := by rw [← mod_of_lt hx.lt, ← mod_of_lt hy.lt]; exact HQ.out
      simp [this]
 · have hnm' : ((n : Int) != (m : Int)) = true := by rw [bne_iff_ne]; omega
   have hxy : decide (x = y) = false := by
    have : ¬ x = y := fun h => hnm (by rw [hn, hm, h])
    simpa using this
   rw [hxy]
   clear hn hm
   go_enter Tryz.func145, Tryz.ntmps145
   go_wp2
   go_ret
   exact ⟨rfl, 0, rfl⟩
theorem kbig_any (w : World) (s s' : Bool) (a a' : Option Addr) (n m cap cap' x y : Nat) (hx : Mag w a n cap x) (hy : Mag w a' m cap' y) (hn : n = nl x) (hm : m = nl y) (v : Bool) (hv : v = ((s == s') && decide (x = y))) :
 Calls Tryz.prog 114 #[.agg #[.bool s, .slice a n cap], .agg #[.bool s', .slice a' m cap']] w fun e w' => e = .returned (.bool v) ∧ Below w.heap.size w w' := by
 have e1 : ¬ w.heap.size + 1 = w.heap.size := by omega
 have HL := fun W h h' => Lib.hid (limbs_any W a a' n m cap cap' x y h h' hn hm)
 clear hn hm
 cases hs : (s == s') with
 | false =>
  have hv' : v = false := by rw [hv, hs]; rfl
  subst hv'
  clear hv
  go_enter Tryz.func114, Tryz.ntmps114
  go_wp2_with fail
  go_ret
  exact ⟨rfl, zbh⟩
 | true =>
  have hv' : v = decide (x = y) := by rw [hv, hs]; rfl
  subst hv'
  clear hv
  generalize decide (x = y) = v at HL ⊢
  go_enter Tryz.func114, Tryz.ntmps114
  go_wp2_with fail
  refine (HL _ (hx.below zbh) (hy.below zbh)).out.mono ?_
  rintro e w1 ⟨rfl, q, rfl⟩
  go_wp2_with fail
  go_ret
  exact ⟨rfl, zbh⟩
def dyEq (b b' s s' : Bool) (x y : Nat) (f f' : Int) : Bool := (b == b') && ((f == f') && (s == s' && decide (x = y)))
theorem kdyad_any (w : World) (b b' s s' : Bool) (a a' : Option Addr) (n m cap cap' x y : Nat) (f f' : Int) (hx : Mag w a n cap x) (hy : Mag w a' m cap' y) (hn : n = nl x) (hm : m = nl y) (v : Bool) (hv : v = dyEq b b' s s' x y f f') :
 Calls Tryz.prog 64 #[.agg #[.bool b, .bool s, .slice a n cap, .int .i64 f], .agg #[.bool b', .bool s', .slice a' m cap', .int .i64 f']] w fun e w' => e = .returned (.bool v) ∧ Below w.heap.size w w' := by
 have e1 : ¬ w.heap.size + 1 = w.heap.size := by omega
 have HL := fun W h h' => Lib.hid (kbig_any W s s' a a' n m cap cap' x y h h' hn hm _ rfl)
 clear hn hm
 unfold dyEq at hv
 cases hs : (b == b') with
 | false =>
  have hv' : v = false := by rw [hv, hs]; rfl
  subst hv'
  clear hv
  go_enter Tryz.func64, Tryz.ntmps64
  go_wp2_with fail
  go_ret
  exact ⟨rfl, zbh⟩
 | true =>
  cases hf : (f == f') with
  | false =>
   have hv' : v = false := by rw [hv, hs, hf]; rfl
   subst hv'
   clear hv
   go_enter Tryz.func64, Tryz.ntmps64
   go_wp2_with fail
   go_ret
   exact ⟨rfl, zbh⟩
  | true =>
   have hv' : v = (s == s' && decide (x = y)) := by rw [hv, hs, hf]; simp
   subst hv'
   clear hv
   generalize (s == s' && decide (x = y)) = v at HL ⊢
   go_enter Tryz.func64, Tryz.ntmps64
   go_wp2_with fail
   refine (HL _ (hx.below zbh) (hy.below zbh)).out.mono ?_
   rintro e w1 ⟨rfl, hb1⟩
   have hbw := below_box (w := w) zbh hb1
   go_wp2_with fail
   go_ret
   exact ⟨rfl, (have := Beh.mk hbw; zbh)⟩
end Go.Proofs.YtablcbgeeeboeaaGreatDoor
namespace Go.Proofs.YtablcbgeeeboeaaGreatDoor
open Go.RowKit Sp
theorem infF : (Tryz.prog.info? 40).map (fun i => (i.zero, i.size, i.bytes)) = some (some (.int .u64 0), 1, 8) := by kernel_rfl
theorem undFe : Tryz.prog.underlying 28 = some (.slice 40) := by kernel_rfl
def flist (L : Nat → Nat) : Nat → List Value
 | 0 => []
 | k + 1 => flist L k ++ [.int .u64 (L k : Nat)]
theorem flist_length (L : Nat → Nat) (k : Nat) : (flist L k).length = k := by
 induction k with
 | zero => rfl
 | succ n ih => simp [flist, ih]
theorem flist_get (L : Nat → Nat) {k i : Nat} (h : i < k) : (flist L k)[i]? = some (.int .u64 (L i : Nat)) := by
 induction k with
 | zero => omega
 | succ n ih =>
  show (flist L n ++ [.int .u64 (L n : Nat)])[i]? = _
  by_cases hi : i < n
  · rw [List.getElem?_append_left (by rw [flist_length]; exact hi)]; exact ih hi
  · obtain rfl : i = n := by omega
    rw [List.getElem?_append_right (by rw [flist_length]; omega), flist_length, Nat.sub_self]; rfl
theorem own_fls {w : World} {base : Nat} {v : Value} {k : Nat} {L : Nat → Nat} (h : w.ownsRow base 40 1 v k (flist L k)) (hb : ∀ i, i < k → L i < 18446744073709551616) :
 ∃ a cap, v = .slice a k cap ∧ Fls w a k cap L := by
 rcases h.2 with ⟨hv, hk⟩ | ⟨g, cap, cur, hv, hbg, hgg, hkc, hcm, hcs, htake⟩
 · subst hk
   exact ⟨none, 0, hv, ⟨by omega, by omega, by omega, fun i hi => by omega, fun i hi => by omega, by omega⟩⟩
 · have ho := h
   rw [hv] at ho
   have hc : ∀ j, j < k → w.cell? ⟨g, j, none⟩ = (flist L k)[j]? := fun j hj => ho.cellAt j (by omega)
   refine ⟨some ⟨g, 0, none⟩, cap, hv, hkc, by unfold maxLen at hcm; omega, fun _ => rfl, fun i hi => ?_, hb, fun _ => (Array.getElem?_eq_some_iff.1 hgg).1⟩
   rw [ab_some, ao_some, Nat.zero_add, hc _ (by omega)]; exact flist_get L hi
end Go.Proofs.YtablcbgeeeboeaaGreatDoor
namespace Go.Proofs.YtablcbgeeeboeaaGreatDoor
open Go.RowKit Sp
def placeI (a n : Int) : Int := a % 18446744073709551616 % n
theorem dyEq_dec (d d' : Option (Int × Int)) : dyEq (dbad d) (dbad d') (decide (dman d < 0)) (decide (dman d' < 0)) (dman d).natAbs (dman d').natAbs (dexp d) (dexp d') = decide (d = d') := by
 unfold dyEq
 rw [Bool.eq_iff_iff]
 cases d with
 | none => cases d' with
  | none => simp
  | some q => simp [dbad]
 | some p => cases d' with
  | none => simp [dbad]
  | some q =>
   obtain ⟨m, e⟩ := p
   obtain ⟨n, f⟩ := q
   have hs : (m < 0 ↔ n < 0) ∧ m.natAbs = n.natAbs ↔ m = n := by omega
   have h0 : (decide (m < 0) = decide (n < 0)) = (m < 0 ↔ n < 0) := propext decide_eq_decide
   show ((false == false) && ((e == f) && (decide (m < 0) == decide (n < 0) && decide (m.natAbs = n.natAbs)))) = true ↔ decide ((some (m, e) : Option (Int × Int)) = some (n, f)) = true
   simp only [beq_self_eq_true, Bool.true_and, Bool.and_eq_true, beq_iff_eq, decide_eq_true_eq, Option.some.injEq, Prod.mk.injEq]
   rw [h0, ← hs]
   constructor
   · rintro ⟨h1, h2, h3⟩; exact ⟨⟨h2, h3⟩, h1⟩
   · rintro ⟨⟨h2, h3⟩, h1⟩; exact ⟨h1, h2, h3⟩
end Go.Proofs.YtablcbgeeeboeaaGreatDoor
namespace Go.Proofs.YtablcbgeeeboeaaGreatDoor
open Go.RowKit Sp
def icells (l : List Nat) : List Value := l.map fun (x : Nat) => Value.int .i64 (x : Int)
structure Ils (w : World) (a : Option Addr) (n cap : Nat) (L : Nat → Int) : Prop where
 fits : n ≤ cap
 lim : cap ≤ 9223372036854775807
 addr : 0 < n → a = some ⟨ab a, ao a, none⟩
 cell : ∀ i, i < n → w.cell? ⟨ab a, ao a + i, none⟩ = some (.int .i64 (L i))
 old : 0 < n → ab a < w.heap.size
theorem Ils.below {w w' : World} {a : Option Addr} {n cap : Nat} {L : Nat → Int} (h : Ils w a n cap L) (hb : Below w.heap.size w w') : Ils w' a n cap L :=
 ⟨h.fits, h.lim, h.addr, fun i hi => by rw [hb.cell (p := ⟨ab a, ao a + i, none⟩) (h.old (by omega))]; exact h.cell i hi, fun hn => Nat.lt_of_lt_of_le (h.old hn) hb.size⟩
theorem undIl : Tryz.prog.underlying 62 = some (.slice (Tryz.prog.elem 62)) := by kernel_rfl
theorem sizIl (w : World) : (Go.sizeOf (Tryz.prog.elem 62)).run Tryz.prog w = .ok 1 w := by kernel_rfl
theorem Ils.idx {w : World} {a : Option Addr} {n cap : Nat} {L : Nat → Int} (h : Ils w a n cap L) (i : Nat) (hi : i < n) (W : World) :
 (Instr.indexAt 62 (.slice a n cap) (.int .i64 i)).run Tryz.prog W = .ok (.pointer (some ⟨ab a, ao a + i, none⟩)) W := by
 have ha := h.addr (by omega)
 generalize ab a = b at *
 generalize ao a = o at *
 subst ha
 rw [run_indexAt_slice _ _ _ _ _ _ _ undIl, if_pos ⟨by omega, by omega⟩, sizIl]
 simp only [Result.andThen, Int.toNat_natCast, Nat.mul_one, Addr.add_lit]
attribute [local irreducible] Calls
end Go.Proofs.YtablcbgeeeboeaaGreatDoor
set_option maxRecDepth 100000
set_option maxHeartbeats 20000000
namespace Go.Proofs.YtablcbgeeeboeaaGreatDoor
open Go.RowKit Sp
theorem kfloats_any (w : World) (a a' : Option Addr) (n cap cap' : Nat) (X : Nat → Nat) (hX : Fls w a n cap X) (hY : Fls w a' n cap' X) :
 Calls Tryz.prog 53 #[.slice a n cap, .slice a' n cap'] w fun e w' => e = .returned (.bool true) ∧ Below w.heap.size w w' := by
 have l1 := hX.lim
 have l2 := hX.fits
 have l3 := hY.lim
 have l4 := hY.fits
 have HX := Lib.hid hX
 have HY := Lib.hid hY
 clear hX hY
 go_enter Tryz.func53, Tryz.ntmps53
 go_wp2
 go_loopw [5] (fun t wr => ∃ k : Nat, k ≤ n ∧ t = .int .i64 k ∧ ∃ q, wr = w.drewN q) (fun t _ => n - (intOf t).toNat)
 case atStart => exact ⟨0, Nat.zero_le _, rfl, 0, rfl⟩
 case round =>
  obtain ⟨k, hk, rfl, q, rfl⟩ := hrel
  by_cases h0 : k < n
  · have c1 := HX.out.cell k h0
    have c2 := HY.out.cell k h0
    have i1 := HX.out.idx k h0
    have i2 := HY.out.idx k h0
    generalize (((X k : Nat)) : Int) = x at c1 c2
    go_wp2
    go_quiet (fail)
    go_wp2
    go_roundw
    case rel => exact ⟨k + 1, by omega, by go_num, _, rfl⟩
    case measure => simp [intOf]; omega
  · obtain rfl : k = n := by omega
    go_wp2
    go_ret
    exact ⟨rfl, below_drewN (Below.refl _ _) _⟩
end Go.Proofs.YtablcbgeeeboeaaGreatDoor
namespace Go.Proofs.YtablcbgeeeboeaaGreatDoor
open Go.RowKit Sp
structure RowC (w : World) (g n cap : Nat) (e : TypeId) (z : Nat) : Prop where
 lt : z < B ^ n
 fit : n ≤ cap
 lim : cap ≤ 9223372036854775807
 row : ∃ cur : Array Value, w.heap[g]? = some (.cells cur e (0, 0)) ∧ cur.size = cap ∧ ∀ i, i < n → cur[i]? = some (.int .u32 (dig z i))
theorem RowC.old {w : World} {g n cap : Nat} {e : TypeId} {z : Nat} (h : RowC w g n cap e z) : g < w.heap.size := by
 obtain ⟨cur, hc, _⟩ := h.row
 exact (Array.getElem?_eq_some_iff.1 hc).1
theorem RowC.cell {w : World} {g n cap : Nat} {e : TypeId} {z : Nat} (h : RowC w g n cap e z) (i : Nat) (hi : i < n) : w.cell? ⟨g, i, none⟩ = some (.int .u32 (dig z i)) := by
 obtain ⟨cur, hc, hs, hd⟩ := h.row
 rw [cell_of_row w g i cur e (0, 0) hc]; exact hd i hi
theorem RowC.free {w : World} {g n cap : Nat} {e : TypeId} {z : Nat} (h : RowC w g n cap e z) (i : Nat) : w.frozen? ⟨g, i, none⟩ = false := by
 obtain ⟨cur, hc, hs, hd⟩ := h.row
 exact frozen_of_row w g i cur e hc
theorem RowC.store {w : World} {g n cap : Nat} {e : TypeId} {z : Nat} (h : RowC w g n cap e z) (i d : Nat) (hi : i < n) (hd : d < 4294967296) :
 RowC (w.setCell ⟨g, i, none⟩ (.int .u32 d)) g n cap e (setd z i d) := by
 obtain ⟨cur, hc, hs, hdig⟩ := h.row
 have hf := h.fit
 refine ⟨setd_lt hd hi h.lt, h.fit, h.lim, cur.setIfInBounds i (.int .u32 d), heap_setCell_same w g i cur e _ hc, by simpa using hs, fun k hk => ?_⟩
 by_cases hki : k = i
 · subst hki; rw [dig_setd_same _ _ _ hd, Array.getElem?_setIfInBounds_self_of_lt (by omega)]
 · rw [dig_setd_other hd hki, Array.getElem?_setIfInBounds_ne (Ne.symm hki)]; exact hdig k hk
theorem RowC.below {B' : Nat} {w w' : World} {g n cap : Nat} {e : TypeId} {z : Nat} (h : RowC w g n cap e z) (hb : Below B' w w') (hg : g < B') : RowC w' g n cap e z := by
 obtain ⟨cur, hc, hs, hd⟩ := h.row
 exact ⟨h.lt, h.fit, h.lim, cur, by rw [hb.block g hg]; exact hc, hs, hd⟩
theorem RowC.mag {w : World} {g n cap : Nat} {e : TypeId} {z : Nat} (h : RowC w g n cap e z) : Mag w (some ⟨g, 0, none⟩) n cap z :=
 ⟨h.lt, h.fit, h.lim, fun _ => rfl, fun i hi => by rw [ab_some, ao_some, Nat.zero_add]; exact h.cell i hi, fun _ => h.old⟩
theorem RowC.drewN {w : World} {g n cap : Nat} {e : TypeId} {z : Nat} (h : RowC w g n cap e z) (q : Nat) : RowC (w.drewN q) g n cap e z := ⟨h.lt, h.fit, h.lim, h.row⟩
def pc (Q V k : Nat) : Nat := Q * (V % B ^ k) / B ^ k
theorem dig_div (Z j k : Nat) : dig (Z / B ^ j) k = dig Z (k + j) := by
 unfold dig; rw [Nat.div_div_eq_div_mul, ← Bpow_add, Nat.add_comm j k]
end Go.Proofs.YtablcbgeeeboeaaGreatDoor
namespace Go.Proofs.YtablcbgeeeboeaaGreatDoor
open Go.RowKit Sp
theorem sg0 {z : Int} (h : z = 0) : (sg z == 0) = true := by rw [h]; rfl
theorem sg1 {z : Int} (h : z ≠ 0) : (sg z == 0) = false := by
 rw [beq_eq_false_iff_ne]; unfold sg cmpI; split <;> (try split) <;> omega
end Go.Proofs.YtablcbgeeeboeaaGreatDoor
set_option maxRecDepth 100000
set_option maxHeartbeats 20000000
namespace Go.Proofs.YtablcbgeeeboeaaGreatDoor
open Go.RowKit Sp
def RetAlp (w : World) (x y E : Int) (e : Ending) (w' : World) : Prop :=
 ∃ a c a' c', e = .returned (.tuple #[.agg #[.bool (decide (x < 0)), .slice a (nl x.natAbs) c], .agg #[.bool (decide (y < 0)), .slice a' (nl y.natAbs) c'], .int .i64 E]) ∧ Mag w' a (nl x.natAbs) c x.natAbs ∧ Mag w' a' (nl y.natAbs) c' y.natAbs ∧ Below w.heap.size w w'
def ale (z f z' f' : Int) : Int := if z = 0 then f' else if z' = 0 then f else min f f'
attribute [local irreducible] Calls
theorem al_cases (z f z' f' : Int) : (z = 0 ∧ up z f (ale z f z' f') = z ∧ up z' f' (ale z f z' f') = z' ∧ ale z f z' f' = f') ∨ (z ≠ 0 ∧ z' = 0 ∧ up z f (ale z f z' f') = z ∧ up z' f' (ale z f z' f') = z' ∧ ale z f z' f' = f) ∨
 (z ≠ 0 ∧ z' ≠ 0 ∧ f' < f ∧ up z f (ale z f z' f') = z * 2 ^ (f - f').toNat ∧ up z' f' (ale z f z' f') = z' ∧ ale z f z' f' = f') ∨ (z ≠ 0 ∧ z' ≠ 0 ∧ ¬ f' < f ∧ up z f (ale z f z' f') = z ∧ up z' f' (ale z f z' f') = z' * 2 ^ (f' - f).toNat ∧ ale z f z' f' = f) := by
 unfold ale
 by_cases hz : z = 0
 · left; rw [if_pos hz, up_self]; exact ⟨hz, by rw [hz, up_zero], rfl, rfl⟩
 · rw [if_neg hz]
   by_cases hz' : z' = 0
   · right; left; rw [if_pos hz', up_self]; exact ⟨hz, hz', rfl, by rw [hz', up_zero], rfl⟩
   · rw [if_neg hz']
     by_cases hf : f' < f
     · right; right; left; rw [show min f f' = f' by omega, up_self]; exact ⟨hz, hz', hf, rfl, rfl, rfl⟩
     · right; right; right; rw [show min f f' = f by omega, up_self]; exact ⟨hz, hz', hf, rfl, rfl, rfl⟩
theorem ralign_any (w : World) (bd bd' : Bool) (a a' : Option Addr) (c c' : Nat) (z z' f f' : Int) (hx : Mag w a (nl z.natAbs) c z.natAbs) (hy : Mag w a' (nl z'.natAbs) c' z'.natAbs) (hl : nl z.natAbs ≤ 549755813888) (hl' : nl z'.natAbs ≤ 549755813888) (h0 : -65536 ≤ f) (h1 : f ≤ 65536) (h0' : -65536 ≤ f') (h1' : f' ≤ 65536) :
 Calls Tryz.prog 124 #[.agg #[.bool bd, .bool (decide (z < 0)), .slice a (nl z.natAbs) c, .int .i64 f], .agg #[.bool bd', .bool (decide (z' < 0)), .slice a' (nl z'.natAbs) c', .int .i64 f']] w (RetAlp w (up z f (ale z f z' f')) (up z' f' (ale z f z' f')) (ale z f z' f')) := by
 have hC := al_cases z f z' f'
 obtain ⟨X, hX⟩ : ∃ X, X = up z f (ale z f z' f') := ⟨_, rfl⟩
 obtain ⟨Y, hY⟩ : ∃ Y, Y = up z' f' (ale z f z' f') := ⟨_, rfl⟩
 obtain ⟨K, hK⟩ : ∃ K, K = ale z f z' f' := ⟨_, rfl⟩
 rw [← hX, ← hY, ← hK] at hC ⊢
 have hC := Lib.hid hC
 have HX := Lib.hid hx
 have HY := Lib.hid hy
 have HS := fun W (h : Below w.heap.size w W) => Lib.hid (frm (rsgn_z W a c z _ rfl (hx.below h) hl))
 have HS2 := fun W (h : Below w.heap.size w W) => Lib.hid (frm (rsgn_z W a' c' z' _ rfl (hy.below h) hl'))
 clear hx hy hX hY hK
 go_enter Tryz.func124, Tryz.ntmps124
 go_upto_region 1 with fail
 go_cut [7, 8] (fun p7 p8 wx => ∃ y1 y2, p7 = .pointer (some ⟨y1, 0, none⟩) ∧ p8 = .pointer (some ⟨y2, 0, none⟩) ∧ w.heap.size + 3 < y1 ∧ w.heap.size + 3 < y2 ∧ DB wx w.heap.size bd (decide (z < 0)) (.slice a (nl z.natAbs) c) f ∧ DB wx (w.heap.size + 1) bd' (decide (z' < 0)) (.slice a' (nl z'.natAbs) c') f' ∧ BB wx (w.heap.size + 1 + 1) false (.slice none 0 0) ∧ BB wx (w.heap.size + 1 + 1 + 1) false (.slice none 0 0) ∧ BB wx y1 (decide (z < 0)) (.slice a (nl z.natAbs) c) ∧ BB wx y2 (decide (z' < 0)) (.slice a' (nl z'.natAbs) c') ∧ Beh w wx)
 case first =>
  first
  | go_big_region
  | fail "region"
  all_goals (
   go_wp2_with fail
   go_meet
   exact ⟨_, _, rfl, rfl, by first | omega | (simp only [World.size_alloc]; omega), by first | omega | (simp only [World.size_alloc]; omega), inferInstance, inferInstance, inferInstance, inferInstance, inferInstance, inferInstance, inferInstance⟩)
 case rest =>
  obtain ⟨y1, y2, rfl, rfl, q1, q2, V1, V2, V3, V4, V5, V6, b1⟩ := hcut
  generalize wc = v1 at *
  have hx := HX.out
  have hy := HY.out
  haveI n1 : NB y1 (w.heap.size + 1 + 1) := ⟨by omega⟩
  haveI n2 : NB y2 (w.heap.size + 1 + 1) := ⟨by omega⟩
  haveI n3 : NB y1 (w.heap.size + 1 + 1 + 1) := ⟨by omega⟩
  haveI n4 : NB y2 (w.heap.size + 1 + 1 + 1) := ⟨by omega⟩
  rcases hC.out with ⟨hz, rfl, rfl, rfl⟩ | ⟨hz, hz', rfl, rfl, rfl⟩ | ⟨hz, hz', hf, hX, rfl, rfl⟩ | ⟨hz, hz', hf, rfl, hY, rfl⟩
  · have g1 := sg0 hz
    generalize sg X = g at *
    clear hC hz
    go_wp2_with fail
    refine (HS _ zbh).out.mono ?_
    rintro o w2 ⟨rfl, b2⟩
    go_wp2_with fail
    first
    | go_big_region
    | fail "region"
    all_goals (
     go_wp2_with fail
     refine bodyPost_ret2 (v := .tuple #[.agg #[.bool (decide (X < 0)), .slice a (nl X.natAbs) c], .agg #[.bool (decide (Y < 0)), .slice a' (nl Y.natAbs) c'], .int .i64 K]) (by simp only [results, Tryz.results124]; go_simp) rfl ?_
     exact ⟨a, c, a', c', rfl, hx.below zbh, hy.below zbh, zbh⟩)
  · have g1 := sg1 hz
    have g2 := sg0 hz'
    generalize sg X = g at *
    generalize sg Y = g' at *
    clear hC hz hz'
    go_wp2_with fail
    refine (HS _ zbh).out.mono ?_
    rintro o w2 ⟨rfl, b2⟩
    go_wp2_with fail
    refine (HS2 _ zbh).out.mono ?_
    rintro o w3 ⟨rfl, b3⟩
    go_wp2_with fail
    first
    | go_big_region
    | fail "region"
    all_goals (
     go_wp2_with fail
     refine bodyPost_ret2 (v := .tuple #[.agg #[.bool (decide (X < 0)), .slice a (nl X.natAbs) c], .agg #[.bool (decide (Y < 0)), .slice a' (nl Y.natAbs) c'], .int .i64 K]) (by simp only [results, Tryz.results124]; go_simp) rfl ?_
     exact ⟨a, c, a', c', rfl, hx.below zbh, hy.below zbh, zbh⟩)
  · have g1 := sg1 hz
    have g2 := sg1 hz'
    have hc : decide (K < f) = true := by simpa using hf
    obtain ⟨k, hk⟩ : ∃ k, k = f - K := ⟨_, rfl⟩
    rw [← hk] at hX
    have hw : IntKind.i64.wrap (f - K) = k := by rw [IntKind.wrap_i64]; omega
    have HG := fun W (h : Below w.heap.size w W) => Lib.hid (frb (rshl_z W a c z k X hX (hx.below h) hl (by omega) (by omega)))
    generalize sg z = g at *
    generalize sg Y = g' at *
    clear hC hz hz' hX hk
    go_wp2_with fail
    refine (HS _ zbh).out.mono ?_
    rintro o w2 ⟨rfl, b2⟩
    go_wp2_with fail
    refine (HS2 _ zbh).out.mono ?_
    rintro o w3 ⟨rfl, b3⟩
    go_wp2_with fail
    first
    | go_region_held3 (fun w' => w'.cell? ⟨w.heap.size, 3, none⟩ = some (.int .i64 f) ∧ w'.cell? ⟨w.heap.size + 1, 3, none⟩ = some (.int .i64 K) ∧ w'.cell? ⟨y1, 0, none⟩ = some (.bool (decide (z < 0))) ∧ w'.cell? ⟨y1, 1, none⟩ = some (.slice a (nl z.natAbs) c) ∧ w'.cell? ⟨y2, 0, none⟩ = some (.bool (decide (Y < 0))) ∧ w'.cell? ⟨y2, 1, none⟩ = some (.slice a' (nl Y.natAbs) c')) (first | (go_simp; done)) (first | (go_at_call 63; refine (HG _ zbh).out.mono ?_; rintro o w5 ⟨av, cv, rfl, i5, b5, f5⟩; haveI g5 := FA.mk f5) | fail)
    | fail "region"
    all_goals (
     go_wp2_with fail
     refine bodyPost_ret2 (v := .tuple #[.agg #[.bool (decide (X < 0)), .slice av (nl X.natAbs) cv], .agg #[.bool (decide (Y < 0)), .slice a' (nl Y.natAbs) c'], .int .i64 K]) (by simp only [results, Tryz.results124]; go_simp) rfl ?_
     exact ⟨av, cv, a', c', rfl, BI.out, hy.below zbh, zbh⟩)
  · have g1 := sg1 hz
    have g2 := sg1 hz'
    have hc : decide (f' < K) = false := by simpa using hf
    obtain ⟨k, hk⟩ : ∃ k, k = f' - K := ⟨_, rfl⟩
    rw [← hk] at hY
    have hw : IntKind.i64.wrap (f' - K) = k := by rw [IntKind.wrap_i64]; omega
    have HG := fun W (h : Below w.heap.size w W) => Lib.hid (frb (rshl_z W a' c' z' k Y hY (hy.below h) hl' (by omega) (by omega)))
    generalize sg X = g at *
    generalize sg z' = g' at *
    clear hC hz hz' hY hk
    go_wp2_with fail
    refine (HS _ zbh).out.mono ?_
    rintro o w2 ⟨rfl, b2⟩
    go_wp2_with fail
    refine (HS2 _ zbh).out.mono ?_
    rintro o w3 ⟨rfl, b3⟩
    go_wp2_with fail
    first
    | go_region_held3 (fun w' => w'.cell? ⟨w.heap.size, 3, none⟩ = some (.int .i64 K) ∧ w'.cell? ⟨w.heap.size + 1, 3, none⟩ = some (.int .i64 f') ∧ w'.cell? ⟨y1, 0, none⟩ = some (.bool (decide (X < 0))) ∧ w'.cell? ⟨y1, 1, none⟩ = some (.slice a (nl X.natAbs) c) ∧ w'.cell? ⟨y2, 0, none⟩ = some (.bool (decide (z' < 0))) ∧ w'.cell? ⟨y2, 1, none⟩ = some (.slice a' (nl z'.natAbs) c')) (first | (go_simp; done)) (first | (go_at_call 63; refine (HG _ zbh).out.mono ?_; rintro o w5 ⟨av, cv, rfl, i5, b5, f5⟩; haveI g5 := FA.mk f5) | fail)
    | fail "region"
    all_goals (
     go_wp2_with fail
     refine bodyPost_ret2 (v := .tuple #[.agg #[.bool (decide (X < 0)), .slice a (nl X.natAbs) c], .agg #[.bool (decide (Y < 0)), .slice av (nl Y.natAbs) cv], .int .i64 K]) (by simp only [results, Tryz.results124]; go_simp) rfl ?_
     exact ⟨a, c, av, cv, rfl, hx.below zbh, BI.out, zbh⟩)
theorem ale_cmp (z f z' f' : Int) : cmpI (up z f (ale z f z' f')) (up z' f' (ale z f z' f')) = cmpI (up z f (min f f')) (up z' f' (min f f')) := by
 unfold ale
 by_cases hz : z = 0
 · subst hz
   rw [if_pos rfl, up_zero, up_zero, up_self]
   exact (cmpI_sign (mul_pow_neg z' (f' - min f f').toNat).1 (mul_pow_neg z' (f' - min f f').toNat).2).2.symm
 · rw [if_neg hz]
   by_cases hz' : z' = 0
   · subst hz'
     rw [if_pos rfl, up_zero, up_zero, up_self]
     exact (cmpI_sign (mul_pow_neg z (f - min f f').toNat).1 (mul_pow_neg z (f - min f f').toNat).2).1.symm
   · rw [if_neg hz']
theorem ale_add (z f z' f' : Int) (h : Okd z f) (h' : Okd z' f') : nrm (up z f (ale z f z' f') + up z' f' (ale z f z' f')) (ale z f z' f') = nrm (up z f (min f f') + up z' f' (min f f')) (min f f') := by
 unfold ale
 by_cases hz : z = 0
 · subst hz
   rw [if_pos rfl, up_zero, up_zero, up_self, Int.zero_add, Int.zero_add, nrm_up _ _ _ (by omega)]
 · rw [if_neg hz]
   by_cases hz' : z' = 0
   · subst hz'
     rw [if_pos rfl, up_zero, up_zero, up_self, Int.add_zero, Int.add_zero, nrm_up _ _ _ (by omega)]
   · rw [if_neg hz']
theorem ale_ge (z f z' f' : Int) (h : -65536 ≤ f ∧ f ≤ 65536) (h' : -65536 ≤ f' ∧ f' ≤ 65536) : -65536 ≤ ale z f z' f' ∧ ale z f z' f' ≤ 65536 := by
 unfold ale; split <;> (try split) <;> omega
theorem ale_bl (z f z' f' : Int) (h : -65536 ≤ f ∧ f ≤ 65536) (h' : -65536 ≤ f' ∧ f' ≤ 65536) (hb : blen z.natAbs ≤ 131072) (hb' : blen z'.natAbs ≤ 131072) : blen (up z f (ale z f z' f')).natAbs ≤ 262144 ∧ blen (up z' f' (ale z f z' f')).natAbs ≤ 262144 := by
 unfold ale
 by_cases hz : z = 0
 · subst hz
   rw [if_pos rfl, up_zero, up_self]; exact ⟨by decide, by omega⟩
 · rw [if_neg hz]
   by_cases hz' : z' = 0
   · subst hz'
     rw [if_pos rfl, up_zero, up_self]; exact ⟨by omega, by decide⟩
   · rw [if_neg hz']
     exact ⟨blen_up_le (by omega) (by omega), blen_up_le (by omega) (by omega)⟩
end Go.Proofs.YtablcbgeeeboeaaGreatDoor

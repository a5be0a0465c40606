/-
  Walks: package accum: lists of floats; finite; the references' Finite, TwinFloats, Floats.
  Walks: package accum: Sum, products, sizes.
  Walks: package accum: products.
  Walks: package accum: Dot, Residual, rest, TwoSum, TwoMul, the norms.
  Walks: package accum: rest, TwoSum, TwoMul, the norms.
-/
import Derived.Test.YtablcbgeeeboeaaGreatDoorZaS3
import Derived.Test.YtablcbgeeeboeaaGreatDoorZaSum
import Derived.Test.YtablcbgeeeboeaaGreatDoorZaBh
import Derived.Test.YtablcbgeeeboeaaGreatDoorZaGq
import Derived.Test.YtablcbgeeeboeaaGreatDoorZaGo
import Derived.Deep.AppendLies
import Derived.Test.YtablcbgeeeboeaaGreatDoorZaGt
import Derived.Test.YtablcbgeeeboeaaGreatDoorZaBg
import Derived.Test.YtablcbgeeeboeaaGreatDoorZaCm
import Derived.Test.YtablcbgeeeboeaaGreatDoorZaGu
import Derived.Test.YtablcbgeeeboeaaGreatDoorZaOpen
set_option maxRecDepth 100000
set_option maxHeartbeats 2000000
namespace Go.Proofs.YtablcbgeeeboeaaGreatDoor
open Go.RowKit Sp
theorem undFl : Tryz.prog.underlying 28 = some (.slice (Tryz.prog.elem 28)) := by kernel_rfl
theorem sizFl (w : World) : (Go.sizeOf (Tryz.prog.elem 28)).run Tryz.prog w = .ok 1 w := by kernel_rfl
structure Fls (w : World) (a : Option Addr) (n cap : Nat) (L : Nat → Nat) : Prop where
 fits : n ≤ cap
 lim : cap ≤ 9223372036854775807
 addr : 0 < n → a = some ⟨ab a, ao a, none⟩
 cell : ∀ i, i < n → w.cell? ⟨ab a, ao a + i, none⟩ = some (.int .u64 (L i : Nat))
 b : ∀ i, i < n → L i < 18446744073709551616
 old : 0 < n → ab a < w.heap.size
theorem Fls.below {w w' : World} {a : Option Addr} {n cap : Nat} {L : Nat → Nat} (h : Fls w a n cap L) (hb : Below w.heap.size w w') : Fls w' a n cap L :=
 ⟨h.fits, h.lim, h.addr, fun i hi => by rw [hb.cell (p := ⟨ab a, ao a + i, none⟩) (h.old (by omega))]; exact h.cell i hi, h.b, fun hn => Nat.lt_of_lt_of_le (h.old hn) hb.size⟩
theorem Fls.idx {w : World} {a : Option Addr} {n cap : Nat} {L : Nat → Nat} (h : Fls w a n cap L) (i : Nat) (hi : i < n) (W : World) :
 (Instr.indexAt 28 (.slice a n cap) (.int .i64 i)).run Tryz.prog W = .ok (.pointer (some ⟨ab a, ao a + i, none⟩)) W := by
 have ha := h.addr (by omega)
 generalize ab a = b at *
 generalize ao a = o at *
 subst ha
 rw [run_indexAt_slice _ _ _ _ _ _ _ undFl, if_pos ⟨by omega, by omega⟩, sizFl]
 simp only [Result.andThen, Int.toNat_natCast, Nat.mul_one, Addr.add_lit]
def allfin (L : Nat → Nat) : Nat → Bool
 | 0 => true
 | k + 1 => allfin L k && ffin (L k)
theorem allfin_iff (L : Nat → Nat) (n : Nat) : allfin L n = true ↔ ∀ i, i < n → ffin (L i) = true := by
 induction n with
 | zero => simp [allfin]
 | succ n ih =>
  simp only [allfin, Bool.and_eq_true, ih]
  constructor
  · rintro ⟨h, h'⟩ i hi
    by_cases hin : i < n
    · exact h i hin
    · obtain rfl : i = n := by omega
      exact h'
  · intro h; exact ⟨fun i hi => h i (by omega), h n (by omega)⟩
theorem allfin_not {L : Nat → Nat} {n i : Nat} (hi : i < n) (h : ffin (L i) = false) : allfin L n = false := by
 cases hc : allfin L n with
 | false => rfl
 | true => rw [(allfin_iff L n).1 hc i hi] at h; cases h
theorem rfinite_any (w : World) (a : Option Addr) (n cap : Nat) (L : Nat → Nat) (hL : Fls w a n cap L) :
 Calls Tryz.prog 165 #[.slice a n cap] w fun e w' => e = .returned (.bool (allfin L n)) ∧ w = w' := by
 have l1 := hL.lim
 have l2 := hL.fits
 have HL := Lib.hid hL
 clear hL
 go_enter Tryz.func165, Tryz.ntmps165
 go_wp2
 go_loop [3] (fun i => ∃ k : Nat, k ≤ n ∧ i = .int .i64 k ∧ allfin L k = true) (fun i => n - (intOf i).toNat)
 case atStart => exact ⟨0, by omega, rfl, rfl⟩
 case round =>
  obtain ⟨k, hk, rfl, hz⟩ := hrel
  have HZ := Lib.hid hz
  clear hz
  by_cases hlt : k < n
  · have c1 := HL.out.cell k hlt
    have i1 := HL.out.idx k hlt
    have HT := fun W => Lib.hid (rfin_any W (L k))
    obtain ⟨v, hv⟩ : ∃ v, v = ffin (L k) := ⟨_, rfl⟩
    rw [← hv] at HT
    have HV := Lib.hid hv
    clear hv
    cases v with
    | false =>
     go_wp2_with fail
     (refine (HT _).out.mono ?_; rintro e w1 ⟨rfl, rfl⟩; go_wp2_with fail)
     go_ret
     exact ⟨by rw [allfin_not hlt HV.out.symm]; rfl, rfl⟩
    | true =>
     go_wp2_with fail
     (refine (HT _).out.mono ?_; rintro e w1 ⟨rfl, rfl⟩; go_wp2_with fail)
     go_round
     case rel => exact ⟨k + 1, by omega, by go_num, by show (allfin L k && ffin (L k)) = true; rw [HZ.out, ← HV.out]; rfl⟩
     case measure => simp [intOf]; omega
  · obtain rfl : k = n := by omega
    go_wp2
    go_ret
    exact ⟨by rw [HZ.out]; rfl, rfl⟩
def mcell (d : Nat → Option (Int × Int)) (A : Nat → Option Addr) (C : Nat → Nat) (i : Nat) : Value × Value × Value × Value :=
 (.bool (dbad (d i)), .bool (decide (dman (d i) < 0)), .slice (A i) (nl (dman (d i)).natAbs) (C i), .int .i64 (dexp (d i)))
structure Dms (w : World) (base : Nat) (v : Value) (k : Nat) (d : Nat → Option (Int × Int)) (A : Nat → Option Addr) (C : Nat → Nat) : Prop where
 own : w.ownsRow base 46 4 v k (dcells (mcell d A C) k)
 m : ∀ i, i < k → Mag w (A i) (nl (dman (d i)).natAbs) (C i) (dman (d i)).natAbs
 ap : ∀ i, i < k → 0 < nl (dman (d i)).natAbs → some (ab (A i)) ≠ v.ownBlock
theorem Dms.below {w w' : World} {base : Nat} {v : Value} {k : Nat} {d : Nat → Option (Int × Int)} {A : Nat → Option Addr} {C : Nat → Nat} (h : Dms w base v k d A C) (hb : Below w.heap.size w w') : Dms w' base v k d A C :=
 ⟨ownsRow_below h.own hb, fun i hi => (h.m i hi).below hb, h.ap⟩
theorem Dms.app {w w' : World} {base : Nat} {v v' : Value} {k : Nat} {d : Nat → Option (Int × Int)} {A : Nat → Option Addr} {C : Nat → Nat} {a1 : Option Addr} {c1 : Nat} (h : Dms w base v k d A C)
 (ho : w'.ownsRow base 46 4 v' (k + 1) (dcells (mcell d A C) k ++ [.bool (dbad (d k)), .bool (decide (dman (d k) < 0)), .slice a1 (nl (dman (d k)).natAbs) c1, .int .i64 (dexp (d k))]))
 (hg : w.grownBy w' v.ownBlock) (hv : v'.ownBlock = v.ownBlock ∨ v'.ownBlock = some w.heap.size) (hm : Mag w a1 (nl (dman (d k)).natAbs) c1 (dman (d k)).natAbs) (hne : 0 < nl (dman (d k)).natAbs → some (ab a1) ≠ v.ownBlock) :
 Dms w' base v' (k + 1) d (fun i => if i = k then a1 else A i) (fun i => if i = k then c1 else C i) := by
 have hap : ∀ (x : Option Addr) (n : Nat), (0 < n → ab x < w.heap.size) → (0 < n → some (ab x) ≠ v.ownBlock) → 0 < n → some (ab x) ≠ v'.ownBlock := fun x n h1 h2 h3 h4 => by
  rcases hv with hv | hv
  · rw [hv] at h4; exact h2 h3 h4
  · rw [hv] at h4; injection h4 with h4; have := h1 h3; omega
 refine ⟨?_, fun i hi => ?_, fun i hi => ?_⟩
 · have e1 : dcells (mcell d (fun i => if i = k then a1 else A i) (fun i => if i = k then c1 else C i)) k = dcells (mcell d A C) k := dcells_congr fun i hi => by
    unfold mcell; simp only [if_neg (show ¬ i = k by omega)]
   simp only [dcells]
   rw [e1]
   unfold mcell
   simp only [if_pos]
   exact ho
 · by_cases hk : i = k
   · subst hk; simp only [if_pos]; exact mag_grown hm hg hne
   · simp only [if_neg hk]; exact mag_grown (h.m i (by omega)) hg (h.ap i (by omega))
 · by_cases hk : i = k
   · subst hk; simp only [if_pos]; exact hap _ _ hm.old hne
   · simp only [if_neg hk]; exact hap _ _ (h.m i (by omega)).old (h.ap i (by omega))
theorem Dms.dys {w : World} {base : Nat} {v : Value} {k : Nat} {d : Nat → Option (Int × Int)} {A : Nat → Option Addr} {C : Nat → Nat} (h : Dms w base v k d A C) (hd : ∀ i, IsN (d i)) :
 ∃ a cap, v = .slice a k cap ∧ Dys w a k cap (fun i => ⟨dbad (d i), decide (dman (d i) < 0), A i, nl (dman (d i)).natAbs, C i, dexp (d i), (dman (d i)).natAbs⟩) := by
 have hbd : ∀ i, i < k → -9223372036854775808 ≤ dexp (d i) ∧ dexp (d i) ≤ 9223372036854775807 := fun i _ => by have := isN_bounds (hd i); omega
 rcases h.own.2 with ⟨hv, hk⟩ | ⟨g, cap, cur, hv, hbg, hgg, hkc, hcm, hcs, htake⟩
 · subst hk
   exact ⟨none, 0, hv, ⟨by omega, by omega, by omega, fun i hi => by omega, fun i hi => by omega, fun i hi => by omega, fun i hi => by omega, fun i hi => by omega, fun i hi => by omega, by omega⟩⟩
 · have ho := h.own
   rw [hv] at ho
   have hc : ∀ j, j < k * 4 → w.cell? ⟨g, j, none⟩ = (dcells (mcell d A C) k)[j]? := fun j hj => ho.cellAt j hj
   refine ⟨some ⟨g, 0, none⟩, cap, hv, hkc, by unfold maxLen at hcm; omega, fun _ => rfl, fun i hi => ?_, fun i hi => ?_, fun i hi => ?_, fun i hi => ?_, h.m, hbd, fun _ => (Array.getElem?_eq_some_iff.1 hgg).1⟩
   · rw [ab_some, ao_some, Nat.zero_add, hc _ (by omega)]; exact (dcells_get _ hi).1
   · rw [ab_some, ao_some, Nat.zero_add, hc _ (by omega)]; exact (dcells_get _ hi).2.1
   · rw [ab_some, ao_some, Nat.zero_add, hc _ (by omega)]; exact (dcells_get _ hi).2.2.1
   · rw [ab_some, ao_some, Nat.zero_add, hc _ (by omega)]; exact (dcells_get _ hi).2.2.2
theorem els_d {d : Nat → Option (Int × Int)} {A : Nat → Option Addr} {C : Nat → Nat} (hd : ∀ i, IsN (d i)) (n : Nat) :
 dsum (fun i => (El.mk (dbad (d i)) (decide (dman (d i) < 0)) (A i) (nl (dman (d i)).natAbs) (C i) (dexp (d i)) (dman (d i)).natAbs).d) n = dsum d n := by
 congr 1
 funext i
 show nrmB (dbad (d i)) (sgn (decide (dman (d i) < 0)) (dman (d i)).natAbs) (dexp (d i)) = d i
 rw [sgn_self]; exact isN_self (hd i)
theorem own_slice' {w : World} {base : Nat} {e : TypeId} {size : Nat} {v : Value} {n : Nat} {xs : List Value} (h : w.ownsRow base e size v n xs) : ∃ a c, v = .slice a n c := by
 rcases h.2 with ⟨rfl, rfl⟩ | ⟨g, cap, cur, rfl, _⟩
 · exact ⟨none, 0, rfl⟩
 · exact ⟨_, _, rfl⟩
theorem dms_sum {w : World} {base : Nat} {v : Value} {k : Nat} {d : Nat → Option (Int × Int)} {A : Nat → Option Addr} {C : Nat → Nat} (hT : Tab w) (h : Dms w base v k d A C) (hd : ∀ i, IsN (d i)) (hk : k ≤ 1048576) :
 ∃ a cap, v = .slice a k cap ∧ Calls Tryz.prog 79 #[.slice a k cap] w (RetDy w (dsum d k)) := by
 obtain ⟨a, cap, hv, hD⟩ := h.dys hd
 refine ⟨a, cap, hv, ?_⟩
 have s := dsum_any w hT a k cap _ hD hk (fun i hi => by
  have := isN_bounds (hd i)
  refine ⟨nl_lim (by omega), ?_⟩
  show blen (dman (d i)).natAbs ≤ 1048576
  omega)
 rwa [els_d hd] at s
theorem step_app_dyad {ops : Array Oper} {o : Oper} {a : Act} {K : Act → World → Prop} {Q : Exit → Act → World → Prop} {w : World} {E : Prop} (hgd : o.guard = none) (s x : Operand)
 (ho : o.op = .call { callee := .builtin .append, args := #[s, x], argTypes := #[23, 23] }) (base : Nat) (v : Value) (n : Nat) (xs : List Value) (hs : a.eval s = v) (g : Nat) (b0 s0 : Bool) (sl : Value) (f0 : Int) (hsl : sl.oneCell' = true)
 (hx : a.eval x = .slice (some ⟨g, 0, none⟩) 1 1) (hown : w.ownsRow base 46 4 v n xs) (k0 : w.cell? ⟨g, 0, none⟩ = some (.bool b0)) (k1 : w.cell? ⟨g, 1, none⟩ = some (.bool s0)) (k2 : w.cell? ⟨g, 2, none⟩ = some sl) (k3 : w.cell? ⟨g, 3, none⟩ = some (.int .i64 f0)) (hn : n ≤ 1048576)
 (hbase : base ≤ w.heap.size) (h : ∀ g' cap' w', w'.ownsRow base 46 4 (.slice (some ⟨g', 0, none⟩) (n + 1) cap') (n + 1) (xs ++ [.bool b0, .bool s0, sl, .int .i64 f0]) → w.grownBy w' v.ownBlock → ((Value.slice (some ⟨g', 0, none⟩) (n + 1) cap').ownBlock = v.ownBlock ∨ (Value.slice (some ⟨g', 0, none⟩) (n + 1) cap').ownBlock = some w.heap.size) → K (a.put o.dst (.slice (some ⟨g', 0, none⟩) (n + 1) cap')) w') :
 if Region.wanted o (yielded ops a.tmps) = true then Oper.wp Tryz.prog o a w K Q else E := by
 obtain ⟨i0, hi, hz0, hz1, hz2⟩ := info_parts infD
 refine step_append_lies w hgd s x _ ho base _ i0 _ 4 48 undD hi hz0 hz1 hz2 rfl (by decide) v n xs hs hown ⟨g, 0, none⟩ 1 1 [.bool b0, .bool s0, sl, .int .i64 f0] hx rfl ?_ ?_ (by decide) (by unfold maxLen; omega) (by omega) hbase _ rfl (fun g' cap' w' h1 h2 h3 _ => h g' cap' w' h1 h2 ?_)
 · intro j u hu
   rw [Addr.add_lit, Nat.zero_add]
   rcases j with _ | _ | _ | _ | j
   · simp at hu; subst hu; exact k0
   · simp at hu; subst hu; exact k1
   · simp at hu; subst hu; exact k2
   · simp at hu; subst hu; exact k3
   · simp at hu
 · intro u hu
   simp only [List.mem_cons, List.not_mem_nil, or_false] at hu
   rcases hu with rfl | rfl | rfl | rfl
   · rfl
   · rfl
   · exact hsl
   · rfl
 · have e : (Value.slice (some ⟨g', 0, none⟩) (n + 1) cap').ownBlock = some g' := rfl
   rw [e]
   rcases h3 with h3 | h3
   · exact Or.inl h3.symm
   · exact Or.inr (by rw [h3])
end Go.Proofs.YtablcbgeeeboeaaGreatDoor
set_option maxRecDepth 100000
namespace Go.Proofs.YtablcbgeeeboeaaGreatDoor
open Go.ChangeShapes Go.WideShapes Go.ChangeAt Go.RowKit Sp
theorem cellsW : Tryz.prog.cellsOf 39 = 1 := by kernel_rfl
theorem readWords : Tryz.prog.readableRec 22 = true := by kernel_rfl
theorem rowWords : 22 < Tryz.prog.types.size := of_decide_eq_true (by kernel_rfl)
theorem words_open {H : Type} {enc : TypeId × Value → H} {W : World} {base : Nat} {sp : Nat → Bool} {hd : Bool} {r : Reach} {b0 : Nat} {v : Value} {d : DataW H} {p : List MemPlace} (hsp : ∀ b, sp b = true)
 (hv : Value.okWide Tryz.prog W r b0 22 v) (h : DataW.Trod enc Tryz.prog W base sp hd 22 v d p) :
 ∃ (a : Option Addr) (n cap : Nat) (L : Nat → Nat), v = .slice a n cap ∧ Fls W a n cap L := by
 obtain ⟨a0, n0, c0, rfl⟩ := okWide_slice Tryz.underlying22 hv
 obtain ⟨fuel, hf⟩ := h
 rcases open_ints Tryz.underlying22 Tryz.underlying39 cellsW hf with ⟨hcs, _⟩ | ⟨a, len, cap, ns, hcs, _, hle, hmax, hl, _, hall, hns⟩
 · simp [Value.cells] at hcs
   obtain ⟨rfl, rfl, rfl⟩ := hcs
   exact ⟨none, 0, 0, fun _ => 0, rfl, ⟨by omega, by omega, by omega, fun i hi => by omega, fun i hi => by omega, by omega⟩⟩
 · simp [Value.cells] at hcs
   obtain ⟨rfl, rfl, rfl⟩ := hcs
   rw [hsp, if_pos rfl] at hl
   have hb : ∀ i, i < ns.length → 0 ≤ ns.getD i 0 ∧ ns.getD i 0 ≤ 18446744073709551615 := fun i hi => by
    have h1 : ns.getD i 0 = ns[i] := by rw [List.getD_eq_getElem?_getD, List.getElem?_eq_getElem hi]; rfl
    rw [h1]
    exact bounds_u64 (hns _ (List.getElem_mem hi))
   have hspot : 0 < n0 → a.spot = none := fun h0 => by
    obtain ⟨_, _, _, _, hs⟩ := World.shape?_of_cell? (hall 0 (by omega))
    exact hs
   obtain ⟨b, o, q⟩ := a
   refine ⟨_, _, _, fun i => (ns.getD i 0).toNat, rfl, ⟨hle, by unfold maxLen at hmax; omega, fun h0 => ?_, fun i hi => ?_, fun i hi => ?_, fun h0 => ?_⟩⟩
   · have hq : q = none := hspot h0
     subst hq; rfl
   · have hq : q = none := hspot (by omega)
     subst hq
     have h1 := hall i (by omega)
     have h2 := hb i (by omega)
     rw [show (((ns.getD i 0).toNat : Nat) : Int) = ns.getD i 0 by omega]
     rw [Addr.add_lit] at h1
     exact h1
   · have h2 := hb i (by omega)
     show (ns.getD i 0).toNat < 18446744073709551616
     omega
   · exact lt_of_cell2 (hall 0 (by omega))
end Go.Proofs.YtablcbgeeeboeaaGreatDoor
set_option maxRecDepth 100000
set_option maxHeartbeats 2000000
namespace Go.Proofs.YtablcbgeeeboeaaGreatDoor
open Go.RowKit Sp
theorem limbs_any (w : World) (a a' : Option Addr) (n m cap cap' x y : Nat) (hx : Mag w a n cap x) (hy : Mag w a' m cap' y) (hn : n = nl x) (hm : m = nl y) :
 Calls Tryz.prog 145 #[.slice a n cap, .slice a' m cap'] w fun e w' => e = .returned (.bool (decide (x = y))) ∧ ∃ q, w' = w.drewN q := by
 have l1 := hx.lim
 have l2 := hy.lim
 have l3 := hx.fits
 have l4 := hy.fits
 by_cases hnm : n = m
 · subst hnm
   clear hn hm
   go_enter Tryz.func145, Tryz.ntmps145
   go_wp2
   go_loopw [5] (fun t wr => ∃ k : Nat, k ≤ n ∧ x % B ^ k = y % B ^ k ∧ t = .int .i64 k ∧ ∃ q, wr = w.drewN q) (fun t _ => n - (intOf t).toNat)
   case atStart => exact ⟨0, Nat.zero_le _, by rw [mod_zero_pow, mod_zero_pow], rfl, 0, rfl⟩
   case round =>
    obtain ⟨k, hk, hq, rfl, q, rfl⟩ := hrel
    have HQ := Lib.hid hq
    clear hq
    by_cases h0 : k < n
    · have c1 := hx.cell k h0
      have c2 := hy.cell k h0
      have i1 := hx.idx 42 und siz k h0
      have i2 := hy.idx 42 und siz k h0
      go_wp2
      go_quiet (fail)
      go_wp2
      · have hd := bne_true (by assumption : (((dig x k : Nat) : Int) != ((dig y k : Nat) : Int)) = true)
        go_ret
        refine ⟨?_, _, by rw [World.drewN_drewN]⟩
        have : ¬ x = y := fun h => hd (by rw [h])
        simp [this]
      · have hd := bne_false (by assumption : (((dig x k : Nat) : Int) != ((dig y k : Nat) : Int)) = false)
        go_roundw
        case rel => exact ⟨k + 1, by omega, by rw [mod_succ, mod_succ, HQ.out, hd], by go_num, _, rfl⟩
        case measure => simp [intOf]; omega
    · obtain rfl : k = n := by omega
      go_wp2
      go_ret
      refine ⟨?_, _, rfl⟩
      have : x = y := by rw [← mod_of_lt hx.lt, ← mod_of_lt hy.lt]; exact HQ.out
      simp [this]
 · have hnm' : ((n : Int) != (m : Int)) = true := by rw [bne_iff_ne]; omega
   have hxy : decide (x = y) = false := by
    have : ¬ x = y := fun h => hnm (by rw [hn, hm, h])
    simpa using this
   rw [hxy]
   clear hn hm
   go_enter Tryz.func145, Tryz.ntmps145
   go_wp2
   go_ret
   exact ⟨rfl, 0, rfl⟩
theorem kbig_any (w : World) (s s' : Bool) (a a' : Option Addr) (n m cap cap' x y : Nat) (hx : Mag w a n cap x) (hy : Mag w a' m cap' y) (hn : n = nl x) (hm : m = nl y) (v : Bool) (hv : v = ((s == s') && decide (x = y))) :
 Calls Tryz.prog 114 #[.agg #[.bool s, .slice a n cap], .agg #[.bool s', .slice a' m cap']] w fun e w' => e = .returned (.bool v) ∧ Below w.heap.size w w' := by
 have e1 : ¬ w.heap.size + 1 = w.heap.size := by omega
 have HL := fun W h h' => Lib.hid (limbs_any W a a' n m cap cap' x y h h' hn hm)
 clear hn hm
 cases hs : (s == s') with
 | false =>
  have hv' : v = false := by rw [hv, hs]; rfl
  subst hv'
  clear hv
  go_enter Tryz.func114, Tryz.ntmps114
  go_wp2_with fail
  go_ret
  exact ⟨rfl, zbh⟩
 | true =>
  have hv' : v = decide (x = y) := by rw [hv, hs]; rfl
  subst hv'
  clear hv
  generalize decide (x = y) = v at HL ⊢
  go_enter Tryz.func114, Tryz.ntmps114
  go_wp2_with fail
  refine (HL _ (hx.below zbh) (hy.below zbh)).out.mono ?_
  rintro e w1 ⟨rfl, q, rfl⟩
  go_wp2_with fail
  go_ret
  exact ⟨rfl, zbh⟩
def dyEq (b b' s s' : Bool) (x y : Nat) (f f' : Int) : Bool := (b == b') && ((f == f') && (s == s' && decide (x = y)))
theorem kdyad_any (w : World) (b b' s s' : Bool) (a a' : Option Addr) (n m cap cap' x y : Nat) (f f' : Int) (hx : Mag w a n cap x) (hy : Mag w a' m cap' y) (hn : n = nl x) (hm : m = nl y) (v : Bool) (hv : v = dyEq b b' s s' x y f f') :
 Calls Tryz.prog 64 #[.agg #[.bool b, .bool s, .slice a n cap, .int .i64 f], .agg #[.bool b', .bool s', .slice a' m cap', .int .i64 f']] w fun e w' => e = .returned (.bool v) ∧ Below w.heap.size w w' := by
 have e1 : ¬ w.heap.size + 1 = w.heap.size := by omega
 have HL := fun W h h' => Lib.hid (kbig_any W s s' a a' n m cap cap' x y h h' hn hm _ rfl)
 clear hn hm
 unfold dyEq at hv
 cases hs : (b == b') with
 | false =>
  have hv' : v = false := by rw [hv, hs]; rfl
  subst hv'
  clear hv
  go_enter Tryz.func64, Tryz.ntmps64
  go_wp2_with fail
  go_ret
  exact ⟨rfl, zbh⟩
 | true =>
  cases hf : (f == f') with
  | false =>
   have hv' : v = false := by rw [hv, hs, hf]; rfl
   subst hv'
   clear hv
   go_enter Tryz.func64, Tryz.ntmps64
   go_wp2_with fail
   go_ret
   exact ⟨rfl, zbh⟩
  | true =>
   have hv' : v = (s == s' && decide (x = y)) := by rw [hv, hs, hf]; simp
   subst hv'
   clear hv
   generalize (s == s' && decide (x = y)) = v at HL ⊢
   go_enter Tryz.func64, Tryz.ntmps64
   go_wp2_with fail
   refine (HL _ (hx.below zbh) (hy.below zbh)).out.mono ?_
   rintro e w1 ⟨rfl, hb1⟩
   have hbw := below_box (w := w) zbh hb1
   go_wp2_with fail
   go_ret
   exact ⟨rfl, (have := Beh.mk hbw; zbh)⟩
end Go.Proofs.YtablcbgeeeboeaaGreatDoor
namespace Go.Proofs.YtablcbgeeeboeaaGreatDoor
open Go.RowKit Sp
theorem infF : (Tryz.prog.info? 40).map (fun i => (i.zero, i.size, i.bytes)) = some (some (.int .u64 0), 1, 8) := by kernel_rfl
theorem undFe : Tryz.prog.underlying 28 = some (.slice 40) := by kernel_rfl
def flist (L : Nat → Nat) : Nat → List Value
 | 0 => []
 | k + 1 => flist L k ++ [.int .u64 (L k : Nat)]
theorem flist_length (L : Nat → Nat) (k : Nat) : (flist L k).length = k := by
 induction k with
 | zero => rfl
 | succ n ih => simp [flist, ih]
theorem flist_get (L : Nat → Nat) {k i : Nat} (h : i < k) : (flist L k)[i]? = some (.int .u64 (L i : Nat)) := by
 induction k with
 | zero => omega
 | succ n ih =>
  show (flist L n ++ [.int .u64 (L n : Nat)])[i]? = _
  by_cases hi : i < n
  · rw [List.getElem?_append_left (by rw [flist_length]; exact hi)]; exact ih hi
  · obtain rfl : i = n := by omega
    rw [List.getElem?_append_right (by rw [flist_length]; omega), flist_length, Nat.sub_self]; rfl
theorem own_fls {w : World} {base : Nat} {v : Value} {k : Nat} {L : Nat → Nat} (h : w.ownsRow base 40 1 v k (flist L k)) (hb : ∀ i, i < k → L i < 18446744073709551616) :
 ∃ a cap, v = .slice a k cap ∧ Fls w a k cap L := by
 rcases h.2 with ⟨hv, hk⟩ | ⟨g, cap, cur, hv, hbg, hgg, hkc, hcm, hcs, htake⟩
 · subst hk
   exact ⟨none, 0, hv, ⟨by omega, by omega, by omega, fun i hi => by omega, fun i hi => by omega, by omega⟩⟩
 · have ho := h
   rw [hv] at ho
   have hc : ∀ j, j < k → w.cell? ⟨g, j, none⟩ = (flist L k)[j]? := fun j hj => ho.cellAt j (by omega)
   refine ⟨some ⟨g, 0, none⟩, cap, hv, hkc, by unfold maxLen at hcm; omega, fun _ => rfl, fun i hi => ?_, hb, fun _ => (Array.getElem?_eq_some_iff.1 hgg).1⟩
   rw [ab_some, ao_some, Nat.zero_add, hc _ (by omega)]; exact flist_get L hi
end Go.Proofs.YtablcbgeeeboeaaGreatDoor

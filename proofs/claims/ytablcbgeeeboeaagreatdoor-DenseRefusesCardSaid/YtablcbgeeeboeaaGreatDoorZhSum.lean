/-
  Lists of dyads in memory; a list of the call's own that grows by append.
-/
import Derived.Test.YtablcbgeeeboeaaGreatDoorZhBf
import Derived.Test.YtablcbgeeeboeaaGreatDoorZhBe
import Derived.Maps.AppendAt
import Derived.Test.YtablcbgeeeboeaaGreatDoorZhFP
import Derived.Test.YtablcbgeeeboeaaGreatDoorZhBg
set_option maxRecDepth 100000
namespace Go.Proofs.YtablcbgeeeboeaaGreatDoor
open Go.RowKit Sp
structure El where
 bd : Bool
 s : Bool
 a : Option Addr
 n : Nat
 p : Nat
 e : Int
 x : Nat
def El.d (E : El) : Option (Int × Int) := zFm E.bd (sgn E.s E.x) E.e
structure Dys (w : World) (a : Option Addr) (n cap : Nat) (L : Nat → El) : Prop where
 fits : n ≤ cap
 lim : cap ≤ 9223372036854775807
 addr : 0 < n → a = some ⟨ab a, ao a, none⟩
 c0 : ∀ i, i < n → w.cell? ⟨ab a, ao a + i * 4, none⟩ = some (.bool (L i).bd)
 c1 : ∀ i, i < n → w.cell? ⟨ab a, ao a + i * 4 + 1, none⟩ = some (.bool (L i).s)
 c2 : ∀ i, i < n → w.cell? ⟨ab a, ao a + i * 4 + 2, none⟩ = some (.slice (L i).a (L i).n (L i).p)
 c3 : ∀ i, i < n → w.cell? ⟨ab a, ao a + i * 4 + 3, none⟩ = some (.int .i64 (L i).e)
 m : ∀ i, i < n → Mag w (L i).a (L i).n (L i).p (L i).x
 b : ∀ i, i < n → -9223372036854775808 ≤ (L i).e ∧ (L i).e ≤ 9223372036854775807
 old : 0 < n → ab a < w.heap.size
theorem Dys.below {w w' : World} {a : Option Addr} {n cap : Nat} {L : Nat → El} (h : Dys w a n cap L) (hb : Below w.heap.size w w') : Dys w' a n cap L := by
 obtain ⟨h1, _⟩ := zA8 hb
 exact ⟨h.fits, h.lim, h.addr, fun i hi => (h1 _ _ (h.old (by omega))).trans (h.c0 i hi), fun i hi => (h1 _ _ (h.old (by omega))).trans (h.c1 i hi), fun i hi => (h1 _ _ (h.old (by omega))).trans (h.c2 i hi),
  fun i hi => (h1 _ _ (h.old (by omega))).trans (h.c3 i hi), fun i hi => (h.m i hi).below hb, h.b, fun hn => Nat.lt_of_lt_of_le (h.old hn) hb.size⟩
theorem zP4 : (Tryz.prog.info? 46).map (fun i => (i.zero, i.size, i.bytes)) = some (some (.agg #[.bool false, .bool false, .slice none 0 0, .int .i64 0]), 4, 48) := by kernel_rfl
theorem zLk : Tryz.prog.underlying 23 = some (.slice 46) := by kernel_rfl
theorem zNJ : Tryz.prog.elem 23 = 46 := by kernel_rfl
theorem zPl (W : World) : (Go.sizeOf 46).run Tryz.prog W = .ok 4 W := by kernel_rfl
theorem Dys.idx {w : World} {a : Option Addr} {n cap : Nat} {L : Nat → El} (h : Dys w a n cap L) (i : Nat) (hi : i < n) (W : World) :
 (Instr.indexAt 23 (.slice a n cap) (.int .i64 i)).run Tryz.prog W = .ok (.pointer (some ⟨ab a, ao a + i * 4, none⟩)) W := by
 have ha := h.addr (by omega)
 generalize ab a = b at *
 generalize ao a = o at *
 subst ha
 rw [run_indexAt_slice _ _ _ _ _ _ _ zLk, if_pos ⟨by omega, by omega⟩, zNJ, zPl]
 simp only [Result.andThen, Int.toNat_natCast, Addr.add_lit]
def zAm (f : Nat → Value × Value × Value × Value) : Nat → List Value
 | 0 => []
 | k + 1 => zAm f k ++ [(f k).1, (f k).2.1, (f k).2.2.1, (f k).2.2.2]
theorem zAV (f : Nat → Value × Value × Value × Value) (k : Nat) : (zAm f k).length = k * 4 := by
 induction k with
 | zero => rfl
 | succ n ih => simp [zAm, ih]; omega
theorem zAC (f : Nat → Value × Value × Value × Value) {k i : Nat} (h : i < k) :
 (zAm f k)[i * 4]? = some (f i).1 ∧ (zAm f k)[i * 4 + 1]? = some (f i).2.1 ∧ (zAm f k)[i * 4 + 2]? = some (f i).2.2.1 ∧ (zAm f k)[i * 4 + 3]? = some (f i).2.2.2 := by
 induction k with
 | zero => omega
 | succ n ih =>
  have hl := zAV f n
  by_cases hin : i < n
  · obtain ⟨h0, h1, h2, h3⟩ := ih hin
    simp only [zAm]
    rw [List.getElem?_append_left (by omega), List.getElem?_append_left (by omega), List.getElem?_append_left (by omega), List.getElem?_append_left (by omega)]
    exact ⟨h0, h1, h2, h3⟩
  · obtain rfl : i = n := by omega
    simp only [zAm]
    rw [List.getElem?_append_right (by omega), List.getElem?_append_right (by omega), List.getElem?_append_right (by omega), List.getElem?_append_right (by omega), hl]
    simp
theorem zBH {f g : Nat → Value × Value × Value × Value} {k : Nat} (h : ∀ i, i < k → f i = g i) : zAm f k = zAm g k := by
 induction k with
 | zero => rfl
 | succ n ih => simp only [zAm]; rw [ih (fun i hi => h i (by omega)), h n (by omega)]
theorem zMt {ops : Array Oper} {rest : List Oper} {o : Oper} {a : Act} {Q : Exit → Act → World → Prop} {w : World} (hgd : o.guard = none) (s x : Operand)
 (ho : o.op = .call { callee := .builtin .append, args := #[s, x], argTypes := #[23, 23] }) (base : Nat) (v : Value) (n : Nat) (xs : List Value) (hs : a.eval s = v) (g : Nat) (b0 s0 : Bool) (sl : Value) (f0 : Int) (hsl : sl.oneCell' = true)
 (hx : a.eval x = .slice (some ⟨g, 0, none⟩) 1 1) (hown : w.ownsRow base 46 4 v n xs) (k0 : w.cell? ⟨g, 0, none⟩ = some (.bool b0)) (k1 : w.cell? ⟨g, 1, none⟩ = some (.bool s0)) (k2 : w.cell? ⟨g, 2, none⟩ = some sl) (k3 : w.cell? ⟨g, 3, none⟩ = some (.int .i64 f0)) (hn : n ≤ 1048576)
 (hbase : base ≤ w.heap.size) (h : ∀ v' w', w'.ownsRow base 46 4 v' (n + 1) (xs ++ [.bool b0, .bool s0, sl, .int .i64 f0]) → w.grownBy w' v.ownBlock → (v'.ownBlock = v.ownBlock ∨ v'.ownBlock = some w.heap.size) → wpList Tryz.prog ops Q rest (a.put o.dst v') w') :
 wpList Tryz.prog ops Q (o :: rest) a w := by
 obtain ⟨i0, hi, hz0, hz1, hz2⟩ := info_parts zP4
 refine wpList_append_own_at w hgd s x _ ho base _ i0 _ 4 48 zLk hi hz0 hz1 hz2 rfl (by decide) v n xs hs hown ⟨g, 0, none⟩ 1 1 [.bool b0, .bool s0, sl, .int .i64 f0] hx rfl ?_ ?_ (by unfold maxLen; omega) (by omega) hbase (fun v' w' h1 h2 _ h4 => h v' w' h1 h2 h4)
 · intro j u hu
   rw [Addr.add_lit, Nat.zero_add]
   rcases j with _ | _ | _ | _ | j
   · simp at hu; subst hu; exact k0
   · simp at hu; subst hu; exact k1
   · simp at hu; subst hu; exact k2
   · simp at hu; subst hu; exact k3
   · simp at hu
 · intro u hu
   simp only [List.mem_cons, List.not_mem_nil, or_false] at hu
   rcases hu with rfl | rfl | rfl | rfl
   · rfl
   · rfl
   · exact hsl
   · rfl
theorem zBD {w w' : World} {a : Option Addr} {n cap x : Nat} {row : Option Nat} (h : Mag w a n cap x) (hg : w.grownBy w' row) (hne : 0 < n → some (ab a) ≠ row) : Mag w' a n cap x :=
 ⟨h.lt, h.fits, h.lim, h.addr, fun i hi => by
  rw [World.cell?_of_block (a := ⟨ab a, ao a + i, none⟩) (hg.block (ab a) (h.old (by omega)) (hne (by omega)))]; exact h.cell i hi,
  fun hn => Nat.lt_of_lt_of_le (h.old hn) hg.size⟩
theorem zB3 {w w' : World} {base : Nat} {e : TypeId} {size : Nat} {v : Value} {n : Nat} {xs : List Value} (h : w.ownsRow base e size v n xs) (hg : w.grownBy w' v.ownBlock) (hb : base ≤ w.heap.size) : Below base w w' := zCq h hg hb
end Go.Proofs.YtablcbgeeeboeaaGreatDoor
namespace Go.Proofs.YtablcbgeeeboeaaGreatDoor
open Go.RowKit Sp
def mnE (d : Nat → Option (Int × Int)) : Nat → Int
 | 0 => 0
 | k + 1 => min (mnE d k) (zA2 (d k))
def smE (d : Nat → Option (Int × Int)) (E : Int) : Nat → Int
 | 0 => 0
 | k + 1 => smE d E k + up (zA1 (d k)) (zA2 (d k)) E
def zA5 (d : Nat → Option (Int × Int)) : Nat → Bool
 | 0 => false
 | k + 1 => zA5 d k || zA3 (d k)
def zBv (d : Nat → Option (Int × Int)) (n : Nat) : Option (Int × Int) := if zA5 d n then none else nrm (smE d (mnE d n) n) (mnE d n)
theorem zK7 (d : Nat → Option (Int × Int)) (k : Nat) : mnE d k ≤ 0 := by
 induction k with
 | zero => exact Int.le_refl _
 | succ n ih => simp only [mnE]; omega
theorem zK8 (d : Nat → Option (Int × Int)) {i k : Nat} (h : i < k) : mnE d k ≤ zA2 (d i) := by
 induction k with
 | zero => omega
 | succ n ih =>
  simp only [mnE]
  by_cases hi : i < n
  · have := ih hi; omega
  · obtain rfl : i = n := by omega
    omega
theorem zMN (d : Nat → Option (Int × Int)) (h : ∀ i, IsN (d i)) (k : Nat) : -65536 ≤ mnE d k := by
 induction k with
 | zero => show (-65536 : Int) ≤ 0; omega
 | succ n ih =>
  have := (zA7 (h n)).2.1
  simp only [mnE]; omega
theorem zOc (d : Nat → Option (Int × Int)) {E F : Int} (h : E ≤ F) (k : Nat) (hF : ∀ i, i < k → F ≤ zA2 (d i)) : up (smE d F k) F E = smE d E k := by
 induction k with
 | zero => simp only [smE]; exact zB6 _ _
 | succ n ih =>
  simp only [smE]
  rw [zHi, ih (fun i hi => hF i (by omega)), zJ1 _ h (hF n (by omega))]
theorem zL3 {d : Option (Int × Int)} (h : IsN d) {E : Int} (h0 : -65536 ≤ E) (h1 : E ≤ zA2 d) : zA4 (up (zA1 d) (zA2 d) E).natAbs ≤ 131072 := by
 refine zBx h1 ?_
 cases d with
 | none => simp [zA1, zA2] at *; rw [show zA4 0 = 0 from rfl]; omega
 | some p =>
  obtain ⟨m, e⟩ := p
  have := zDs (h m e rfl)
  simp only [zA1, zA2, Option.getD_some] at *
  omega
theorem zF2 {x : Int} {k : Nat} (h : zA4 x.natAbs ≤ k) : x.natAbs < 2 ^ k := Nat.lt_of_lt_of_le (zAH _) (Nat.pow_le_pow_right (by decide) h)
theorem zN5 (d : Nat → Option (Int × Int)) (h : ∀ i, IsN (d i)) {E : Int} (h0 : -65536 ≤ E) (p : Nat) (hp : p = 131072) (k : Nat) (hE : ∀ i, i < k → E ≤ zA2 (d i)) : (smE d E k).natAbs ≤ k * 2 ^ p := by
 induction k with
 | zero => simp [smE]
 | succ n ih =>
  have h1 := ih (fun i hi => hE i (by omega))
  have h2 := zF2 (k := p) (by rw [hp]; exact zL3 (h n) h0 (hE n (by omega)))
  simp only [smE]
  have h3 := Int.natAbs_add_le (smE d E n) (up (zA1 (d n)) (zA2 (d n)) E)
  rw [Nat.add_mul, Nat.one_mul]
  omega
theorem zHm (d : Nat → Option (Int × Int)) (h : ∀ i, IsN (d i)) {E : Int} (h0 : -65536 ≤ E) {k : Nat} (hk : k ≤ 1048576) (hE : ∀ i, i < k → E ≤ zA2 (d i)) : zA4 (smE d E k).natAbs ≤ 131100 := by
 obtain ⟨p, hp⟩ : ∃ p : Nat, p = 131072 := ⟨_, rfl⟩
 have h1 := zN5 d h h0 p hp k hE
 have h2 : (smE d E k).natAbs < 2 ^ (21 + p) := by
  refine Nat.lt_of_le_of_lt h1 ?_
  rw [Nat.pow_add]
  exact Nat.mul_lt_mul_of_pos_right (by omega) (Nat.pow_pos (by decide))
 have := zAq h2
 omega
theorem zCe (d : Nat → Option (Int × Int)) (n : Nat) : zA5 d n = true ↔ ∃ i, i < n ∧ zA3 (d i) = true := by
 induction n with
 | zero => simp [zA5]
 | succ n ih =>
  simp only [zA5, Bool.or_eq_true, ih]
  constructor
  · rintro (⟨i, hi, h⟩ | h)
    · exact ⟨i, by omega, h⟩
    · exact ⟨n, by omega, h⟩
  · rintro ⟨i, hi, h⟩
    by_cases hin : i < n
    · exact .inl ⟨i, hin, h⟩
    · obtain rfl : i = n := by omega
      exact .inr h
theorem zKE (d : Nat → Option (Int × Int)) {n : Nat} (hb : zA5 d n = false) {E : Int} (hE : ∀ i, i < n → E ≤ zA2 (d i)) (h0 : E ≤ 0) : zBv d n = nrm (smE d E n) E := by
 unfold zBv
 rw [hb]
 show nrm _ _ = _
 have hm : E ≤ mnE d n := by
  clear hb
  induction n with
  | zero => exact h0
  | succ k ih =>
   have := ih (fun i hi => hE i (by omega))
   have := hE k (by omega)
   simp only [mnE]; omega
 rw [← zEb _ _ E hm, zOc d hm n (fun i hi => zK8 d hi)]
theorem zJh {d d' : Nat → Option (Int × Int)} {E : Int} {n : Nat} (h : ∀ i, i < n → d i = d' i) : smE d E n = smE d' E n := by
 induction n with
 | zero => rfl
 | succ n ih => simp only [smE]; rw [ih (fun i hi => h i (by omega)), h n (by omega)]
end Go.Proofs.YtablcbgeeeboeaaGreatDoor
set_option maxRecDepth 100000
set_option maxHeartbeats 2000000
namespace Go.Proofs.YtablcbgeeeboeaaGreatDoor
open Go.RowKit Sp
def zGT (d : Nat → Option (Int × Int)) (A : Nat → Option Addr) (C : Nat → Nat) (i : Nat) : Value × Value × Value × Value :=
 (.bool false, .bool (decide (zA1 (d i) < 0)), .slice (A i) (nl (zA1 (d i)).natAbs) (C i), .int .i64 (zA2 (d i)))
structure Nms (w : World) (base : Nat) (v : Value) (k : Nat) (d : Nat → Option (Int × Int)) (A : Nat → Option Addr) (C : Nat → Nat) : Prop where
 own : w.ownsRow base 46 4 v k (zAm (zGT d A C) k)
 m : ∀ i, i < k → Mag w (A i) (nl (zA1 (d i)).natAbs) (C i) (zA1 (d i)).natAbs
 ap : ∀ i, i < k → 0 < nl (zA1 (d i)).natAbs → some (ab (A i)) ≠ v.ownBlock
theorem zAx {w w' : World} {base : Nat} {e : TypeId} {size : Nat} {v : Value} {n : Nat} {xs : List Value} (h : w.ownsRow base e size v n xs) (hb : Below w.heap.size w w') : w'.ownsRow base e size v n xs := by
 refine h.kept (row := none) ⟨hb.os, hb.tape, hb.output, hb.size, fun k hk _ => hb.block k hk⟩ ?_
 cases ho : v.ownBlock with
 | none => exact .inl rfl
 | some g => exact .inr (by simp)
theorem Nms.below {w w' : World} {base : Nat} {v : Value} {k : Nat} {d : Nat → Option (Int × Int)} {A : Nat → Option Addr} {C : Nat → Nat} (h : Nms w base v k d A C) (hb : Below w.heap.size w w') : Nms w' base v k d A C :=
 ⟨zAx h.own hb, fun i hi => (h.m i hi).below hb, h.ap⟩
theorem Nms.app {w w' : World} {base : Nat} {v v' : Value} {k : Nat} {d : Nat → Option (Int × Int)} {A : Nat → Option Addr} {C : Nat → Nat} {a1 : Option Addr} {c1 : Nat} (h : Nms w base v k d A C)
 (ho : w'.ownsRow base 46 4 v' (k + 1) (zAm (zGT d A C) k ++ [.bool false, .bool (decide (zA1 (d k) < 0)), .slice a1 (nl (zA1 (d k)).natAbs) c1, .int .i64 (zA2 (d k))]))
 (hg : w.grownBy w' v.ownBlock) (hv : v'.ownBlock = v.ownBlock ∨ v'.ownBlock = some w.heap.size) (hm : Mag w a1 (nl (zA1 (d k)).natAbs) c1 (zA1 (d k)).natAbs) (hne : 0 < nl (zA1 (d k)).natAbs → some (ab a1) ≠ v.ownBlock) :
 Nms w' base v' (k + 1) d (fun i => if i = k then a1 else A i) (fun i => if i = k then c1 else C i) := by
 have hap : ∀ (x : Option Addr) (n : Nat), (0 < n → ab x < w.heap.size) → (0 < n → some (ab x) ≠ v.ownBlock) → 0 < n → some (ab x) ≠ v'.ownBlock := fun x n h1 h2 h3 h4 => by
  rcases hv with hv | hv
  · rw [hv] at h4; exact h2 h3 h4
  · rw [hv] at h4; injection h4 with h4; have := h1 h3; omega
 refine ⟨?_, fun i hi => ?_, fun i hi => ?_⟩
 · have e1 : zAm (zGT d (fun i => if i = k then a1 else A i) (fun i => if i = k then c1 else C i)) k = zAm (zGT d A C) k := zBH fun i hi => by
    unfold zGT; simp only [if_neg (show ¬ i = k by omega)]
   simp only [zAm]
   rw [e1]
   unfold zGT
   simp only [if_pos]
   exact ho
 · by_cases hk : i = k
   · subst hk; simp only [if_pos]; exact zBD hm hg hne
   · simp only [if_neg hk]; exact zBD (h.m i (by omega)) hg (h.ap i (by omega))
 · by_cases hk : i = k
   · subst hk; simp only [if_pos]; exact hap _ _ hm.old hne
   · simp only [if_neg hk]; exact hap _ _ (h.m i (by omega)).old (h.ap i (by omega))
theorem Nms.dys {w : World} {base : Nat} {v : Value} {k : Nat} {d : Nat → Option (Int × Int)} {A : Nat → Option Addr} {C : Nat → Nat} (h : Nms w base v k d A C) (hd : ∀ i, IsN (d i)) :
 ∃ a cap, v = .slice a k cap ∧ Dys w a k cap (fun i => ⟨false, decide (zA1 (d i) < 0), A i, nl (zA1 (d i)).natAbs, C i, zA2 (d i), (zA1 (d i)).natAbs⟩) := by
 have hbd : ∀ i, i < k → -9223372036854775808 ≤ zA2 (d i) ∧ zA2 (d i) ≤ 9223372036854775807 := fun i _ => by have := zA7 (hd i); omega
 rcases h.own.2 with ⟨hv, hk⟩ | ⟨g, cap, cur, hv, hbg, hgg, hkc, hcm, hcs, htake⟩
 · subst hk
   exact ⟨none, 0, hv, ⟨by omega, by omega, by omega, fun i hi => by omega, fun i hi => by omega, fun i hi => by omega, fun i hi => by omega, fun i hi => by omega, fun i hi => by omega, by omega⟩⟩
 · have ho := h.own
   rw [hv] at ho
   have hc : ∀ j, j < k * 4 → w.cell? ⟨g, j, none⟩ = (zAm (zGT d A C) k)[j]? := fun j hj => ho.cellAt j hj
   refine ⟨some ⟨g, 0, none⟩, cap, hv, hkc, by unfold maxLen at hcm; omega, fun _ => rfl, fun i hi => ?_, fun i hi => ?_, fun i hi => ?_, fun i hi => ?_, h.m, hbd, fun _ => (Array.getElem?_eq_some_iff.1 hgg).1⟩
   · rw [zAo, zAO, Nat.zero_add, hc _ (by omega)]; exact (zAC _ hi).1
   · rw [zAo, zAO, Nat.zero_add, hc _ (by omega)]; exact (zAC _ hi).2.1
   · rw [zAo, zAO, Nat.zero_add, hc _ (by omega)]; exact (zAC _ hi).2.2.1
   · rw [zAo, zAO, Nat.zero_add, hc _ (by omega)]; exact (zAC _ hi).2.2.2
theorem DyV.grown {w w' : World} {b : Nat} {v s : Bool} {sl : Value} {f : Int} {row : Option Nat} (h : DyV w b v s sl f) (hg : w.grownBy w' row) (hne : some b ≠ row) : DyV w' b v s sl f := by
 have hbk := hg.block b h.lt hne
 have e1 : ∀ i, w'.cell? ⟨b, i, none⟩ = w.cell? ⟨b, i, none⟩ := fun i => World.cell?_of_block (a := ⟨b, i, none⟩) hbk
 have e2 : ∀ i, w'.frozen? ⟨b, i, none⟩ = w.frozen? ⟨b, i, none⟩ := fun i => World.frozen?_of_block (a := ⟨b, i, none⟩) hbk
 exact ⟨(e1 _).trans h.c0, (e1 _).trans h.c1, (e1 _).trans h.c2, (e1 _).trans h.c3, fun i => (e2 _).trans (h.z i), Nat.lt_of_lt_of_le h.lt hg.size⟩
theorem zM8 (w : World) (hT : Tab w) (a : Option Addr) (n cap : Nat) (L : Nat → El) (hL : Dys w a n cap L) (hn : n ≤ 1048576) (hs : ∀ i, i < n → (L i).n ≤ 1099511627776 ∧ zA4 (L i).x ≤ 1048576) :
 Calls Tryz.prog 79 #[.slice a n cap] w (zAy w (zBv (fun i => (L i).d) n)) := by
 have l1 := hL.lim
 have l2 := hL.fits
 obtain ⟨d, hd⟩ : ∃ d, d = fun i => (L i).d := ⟨_, rfl⟩
 have hdi : ∀ i, d i = (L i).d := fun i => by rw [hd]
 rw [← hd]
 have hNd : ∀ i, IsN (d i) := fun i => by rw [hdi]; exact zFt _ _ _
 have HN := fun (k : Nat) (hk : k < n) W (h : Mag W (L k).a (L k).n (L k).p (L k).x) ht => Lib.hid (@zDt W (L k).bd (L k).s (L k).a (L k).n (L k).p (L k).e (d k) ⟨_, h, (hs k hk).1, (hs k hk).2, (hL.b k hk).1, (hL.b k hk).2, (hdi k).symm⟩ ht)
 have HB := fun W => Lib.hid (zDA W)
 have HLL := Lib.hid hL
 have HND := Lib.hid hNd
 clear hL hs hd hdi hNd
 go_enter Tryz.func79, Tryz.ntmps79
 go_wp2_with fail
 have I0 := DyV.made w 46 false false (.slice none 0 0) 0
 have B0 : Below w.heap.size w (w.alloc (.cells #[.bool false, .bool false, .slice none 0 0, .int .i64 0] 46)) := zbh
 have hown0 := World.ownsRow_nil (w.alloc (.cells #[.bool false, .bool false, .slice none 0 0, .int .i64 0] 46)) (w.heap.size + 1) 46 4
 have hsz : w.heap.size + 1 ≤ (w.alloc (.cells #[.bool false, .bool false, .slice none 0 0, .int .i64 0] 46)).heap.size := by rw [World.size_alloc]; omega
 generalize (w.alloc (.cells #[.bool false, .bool false, .slice none 0 0, .int .i64 0] 46)) = w0 at I0 B0 hown0 hsz ⊢
 go_loopw [3, 4, 14] (fun v e i wr => ∃ (k : Nat) (A : Nat → Option Addr) (C : Nat → Nat), k ≤ n ∧ i = .int .i64 k ∧ e = .int .i64 (mnE d k) ∧ zA5 d k = false ∧ Nms wr (w.heap.size + 1) v k d A C ∧ DyV wr w.heap.size false false (.slice none 0 0) 0 ∧ Below w.heap.size w wr ∧ w.heap.size + 1 ≤ wr.heap.size) (fun _ _ i _ => n - (intOf i).toNat)
 case atStart => exact ⟨0, fun _ => none, fun _ => 0, by omega, rfl, rfl, rfl, ⟨hown0, fun i hi => by omega, fun i hi => by omega⟩, I0, B0, hsz⟩
 case round =>
  clear hown0 I0 B0 hsz
  obtain ⟨k, A, C, hk, rfl, rfl, hbad, hN, V0, hb, hsz⟩ := hrel
  have HBAD := Lib.hid hbad
  have HNM := Lib.hid hN
  clear hbad hN
  by_cases hlt : k < n
  · have hL' := HLL.out.below hb
    have k0 := hL'.c0 k hlt
    have k1 := hL'.c1 k hlt
    have k2 := hL'.c2 k hlt
    have k3 := hL'.c3 k hlt
    have i1 := hL'.idx k hlt
    have mk := hL'.m k hlt
    have HNk := HN k hlt
    generalize hE : L k = E at k0 k1 k2 k3 mk HNk
    obtain ⟨dk, hdk⟩ : ∃ dk, dk = d k := ⟨_, rfl⟩
    rw [← hdk] at HNk
    have HDK := Lib.hid hdk
    clear hL' hE hdk
    have VV := Lib.hid V0
    obtain ⟨p0, p1, p2, p3, p4, p5⟩ := V0
    go_wp2_with fail
    refine (HNk _ (mk.alloc _) (hT.below (hb.alloc (by omega) _))).out.mono ?_
    rintro e w1 ⟨a1, c1, rfl, m1, hb1, hf1⟩
    have hb2 := zA0 (w := w) (hb.alloc (by omega) (.cells #[.bool E.bd, .bool E.s, .slice E.a E.n E.p, .int .i64 E.e] 46)) hb1
    have V1 := (VV.out.alloc (.cells #[.bool E.bd, .bool E.s, .slice E.a E.n E.p, .int .i64 E.e] 46)).below hb1
    have hs1 : wr.heap.size + 1 ≤ w1.heap.size := by have := hb1.size; simpa using this
    cases hbd : zA3 dk with
    | true =>
     have hany : zA5 d n = true := (zCe d n).2 ⟨k, hlt, by rw [← HDK.out]; exact hbd⟩
     have e0 : zBv d n = none := by unfold zBv; rw [hany]; rfl
     have VV1 := Lib.hid V1
     obtain ⟨p0, p1, p2, p3, p4, p5⟩ := V1
     go_wp2_with fail
     refine (HB _).out.mono ?_
     rintro e w2 ⟨rfl, hb3⟩
     have hb4 := zA0 (w := w) (hb2.alloc (by omega) (.cells #[.bool true, .bool (decide (zA1 dk < 0)), .slice a1 (nl (zA1 dk).natAbs) c1, .int .i64 (zA2 dk)] 46)) hb3
     have V2 := (VV1.out.alloc (.cells #[.bool true, .bool (decide (zA1 dk < 0)), .slice a1 (nl (zA1 dk).natAbs) c1, .int .i64 (zA2 dk)] 46)).below hb3
     clear p0 p1 p2 p3 p4 p5
     obtain ⟨p0, p1, p2, p3, p4, p5⟩ := V2
     go_wp2_with fail
     refine bodyPost_ret (v := .agg #[.bool true, .bool false, .slice none 0 0, .int .i64 0]) (by simp only [results, Tryz.results79]; go_simp) rfl ?_
     rw [e0]
     exact ⟨none, 0, rfl, Mag.nil _, (by have hszw := (hb4).size; repeat (with_reducible first | refine Below.setCell ?_ (by first | omega | (simp <;> omega)) _ | refine Below.alloc ?_ (by first | omega | (simp <;> omega)) _ | refine Below.drew ?_ | refine below_drewN ?_ _ | exact hb4)), nl0⟩
    | false =>
     have N1 : Nms w1 (w.heap.size + 1) u3 k d A C := (HNM.out.below ((Below.refl _ _).alloc (Nat.le_refl _) (.cells #[.bool E.bd, .bool E.s, .slice E.a E.n E.p, .int .i64 E.e] 46))).below hb1
     have N2 : Nms (w1.alloc (.cells #[.bool false, .bool (decide (zA1 dk < 0)), .slice a1 (nl (zA1 dk).natAbs) c1, .int .i64 (zA2 dk)] 46)) (w.heap.size + 1) u3 k d A C := N1.below ((Below.refl _ _).alloc (Nat.le_refl _) _)
     have V2 := V1.alloc (.cells #[.bool false, .bool (decide (zA1 dk < 0)), .slice a1 (nl (zA1 dk).natAbs) c1, .int .i64 (zA2 dk)] 46)
     have VV2 := Lib.hid V2
     have M2 : Mag (w1.alloc (.cells #[.bool false, .bool (decide (zA1 dk < 0)), .slice a1 (nl (zA1 dk).natAbs) c1, .int .i64 (zA2 dk)] 46)) a1 (nl (zA1 dk).natAbs) c1 (zA1 dk).natAbs := m1.alloc _
     have hne : 0 < nl (zA1 dk).natAbs → some (ab a1) ≠ u3.ownBlock := fun h0 h1 => by
      have h2 := (HNM.out.own.lt (ab a1) h1.symm).2
      have h3 := hf1 h0
      rw [World.size_alloc] at h3; omega
     have hbw2 : Below w.heap.size w (w1.alloc (.cells #[.bool false, .bool (decide (zA1 dk < 0)), .slice a1 (nl (zA1 dk).natAbs) c1, .int .i64 (zA2 dk)] 46)) := hb2.alloc (by omega) _
     have hs2 : w.heap.size + 1 ≤ (w1.alloc (.cells #[.bool false, .bool (decide (zA1 dk < 0)), .slice a1 (nl (zA1 dk).natAbs) c1, .int .i64 (zA2 dk)] 46)).heap.size := by rw [World.size_alloc]; omega
     clear p0 p1 p2 p3 p4 p5
     obtain ⟨p0, p1, p2, p3, p4, p5⟩ := V1
     have hmn : min (mnE d k) (zA2 dk) = mnE d (k + 1) := by rw [HDK.out]; rfl
     have hbk : zA5 d (k + 1) = false := by
      show (zA5 d k || zA3 (d k)) = false
      rw [HBAD.out, ← HDK.out, hbd]; rfl
     go_wp2_with (at_builtin; refine zMt rfl _ _ rfl (w.heap.size + 1) _ k _ rfl _ false (decide (zA1 dk < 0)) (.slice a1 (nl (zA1 dk).natAbs) c1) (zA2 dk) rfl rfl (N2.own.alloc (.cells #[.bool false, .bool (decide (zA1 dk < 0)), .slice a1 (nl (zA1 dk).natAbs) c1, .int .i64 (zA2 dk)] 46)) (by go_simp) (by go_simp) (by go_simp) (by go_simp) (by omega) (by rw [World.size_alloc]; omega) ?_; intro v3 w3 hown3 hg3 hob3)
     have N3 : Nms ((w1.alloc (.cells #[.bool false, .bool (decide (zA1 dk < 0)), .slice a1 (nl (zA1 dk).natAbs) c1, .int .i64 (zA2 dk)] 46)).alloc (.cells #[.bool false, .bool (decide (zA1 dk < 0)), .slice a1 (nl (zA1 dk).natAbs) c1, .int .i64 (zA2 dk)] 46)) (w.heap.size + 1) _ k d A C := N2.below ((Below.refl _ _).alloc (Nat.le_refl _) _)
     have hdk := HDK.out
     clear HDK
     subst hdk
     have N4 := N3.app hown3 hg3 hob3 (M2.alloc _) hne
     have V4 : DyV w3 w.heap.size false false (.slice none 0 0) 0 := by
      refine DyV.grown (VV2.out.alloc _) hg3 (fun h => ?_)
      have := (HNM.out.own.lt w.heap.size h.symm).1; omega
     have hB4 : Below w.heap.size w w3 := Below.trans (hbw2.alloc (Nat.le_trans (Nat.le_succ _) hs2) _) (Below.mono (zB3 N3.own hg3 (by rw [World.size_alloc]; exact Nat.le_trans hs2 (Nat.le_succ _))) (Nat.le_succ _))
     have hs4 : w.heap.size + 1 ≤ w3.heap.size := by have h9 := hg3.size; rw [World.size_alloc, World.size_alloc] at h9; omega
     go_roundw
     case rel => exact ⟨k + 1, _, _, by omega, by go_num, by rw [← hmn], hbk, N4, V4, hB4, hs4⟩
     case measure => simp [intOf]; omega
  · obtain rfl : k = n := by omega
    have hmn0 := zK7 d k
    obtain ⟨oa, ocap, hv, hD⟩ := HNM.out.dys HND.out
    subst hv
    obtain ⟨wo, hwo⟩ : ∃ wo, wo = wr := ⟨_, rfl⟩
    subst hwo
    have HND2 := HND.out
    have hmn1 := zMN d HND.out k
    have hEk : ∀ i, i < k → mnE d k ≤ zA2 (d i) := fun i hi => zK8 d hi
    have hSb : ∀ j, j ≤ k → zA4 (smE d (mnE d k) j).natAbs ≤ 131100 := fun j hj => zHm d HND.out hmn1 (by omega) (fun i hi => hEk i (by omega))
    have HMk := fun W b c h ht => Lib.hid (zEf W b c (smE d (mnE d k) k) (mnE d k) (zBv d k) (by unfold zBv; rw [HBAD.out]; rfl) h ht (by have := hSb k (Nat.le_refl _); omega) (by omega) (by omega))
    have HEK := Lib.hid hEk
    have HSB := Lib.hid hSb
    obtain ⟨E, hE⟩ : ∃ E, E = mnE d k := ⟨_, rfl⟩
    rw [← hE] at HMk HEK HSB hmn0 hmn1 ⊢
    have HD := Lib.hid hD
    have VV := Lib.hid V0
    clear hE hD HND2 V0 hEk hSb
    go_wp2_with fail
    have Is := BgV.made wo 44 false (.slice none 0 0)
    have hr0 : Below wo.heap.size wo (wo.alloc (.cells #[.bool false, .slice none 0 0] 44)) := (Below.refl _ _).alloc (Nat.le_refl _) _
    generalize (wo.alloc (.cells #[.bool false, .slice none 0 0] 44)) = ws at Is hr0 ⊢
    generalize hz9 : wo.heap.size = z9 at Is hr0 ⊢
    go_loopw [37] (fun i wr => ∃ (j : Nat) (S : Int) (aS : Option Addr) (cS : Nat), j ≤ k ∧ i = .int .i64 j ∧ S = smE d E j ∧ BgV wr z9 (decide (S < 0)) (.slice aS (nl S.natAbs) cS) ∧ Mag wr aS (nl S.natAbs) cS S.natAbs ∧ Below z9 wo wr) (fun i _ => k - (intOf i).toNat)
    case atStart => exact ⟨0, 0, none, 0, by omega, rfl, rfl, Is, Mag.nil _, hr0⟩
    case round =>
     clear Is hr0
     obtain ⟨j, S, aS, cS, hj, rfl, hS, hI, MS, hr⟩ := hrel
     have HS := Lib.hid hS
     clear hS
     have hr' := hr
     rw [← hz9] at hr'
     by_cases hlt : j < k
     · have hD' := HD.out.below hr'
       have k0 := hD'.c0 j hlt
       have k1 := hD'.c1 j hlt
       have k2 := hD'.c2 j hlt
       have k3 := hD'.c3 j hlt
       have i1 := hD'.idx j hlt
       have MA := hD'.m j hlt
       have hej := HEK.out j hlt
       have hbj := zA7 (HND.out j)
       have hlj : nl (zA1 (d j)).natAbs ≤ 1099511627776 := zAz (by omega)
       have HLf := fun W h => Lib.hid (zFs W (decide (zA1 (d j) < 0)) (A j) (nl (zA1 (d j)).natAbs) (C j) (zA1 (d j)).natAbs (zA2 (d j) - E) h hlj (by omega) (by omega))
       obtain ⟨u, hu⟩ : ∃ u, u = up (zA1 (d j)) (zA2 (d j)) E := ⟨_, rfl⟩
       have eu : shl (sgn (decide (zA1 (d j) < 0)) (zA1 (d j)).natAbs) (zA2 (d j) - E) = u := by
        rw [zAg, hu]; unfold shl up; rw [if_pos (by omega)]
       rw [eu] at HLf
       have hub : zA4 u.natAbs ≤ 131072 := by rw [hu]; exact zL3 (HND.out j) hmn1 hej
       have hSb := HSB.out j hj
       rw [← HS.out] at hSb
       obtain ⟨S', hS'⟩ : ∃ S', S' = S + u := ⟨_, rfl⟩
       have HAd := fun W b b' c c' h h' => Lib.hid (zO0 W b b' c c' S u S' hS' h h' (zAz (by omega)) (zAz (by omega)))
       have hS2 : S' = smE d E (j + 1) := by rw [hS', HS.out, hu]; rfl
       have HS2 := Lib.hid hS2
       have hwr : IntKind.i64.wrap (zA2 (d j) - E) = zA2 (d j) - E := by rw [IntKind.wrap_i64]; omega
       have hbw : Below w.heap.size w wr := hb.trans (hr'.mono hb.size)
       have VI := Lib.hid hI
       clear hD' hu eu hub hSb hS' hS2 hbj hr'
       obtain ⟨sc0, sc1, sc2, sc3⟩ := hI
       go_wp2_with fail
       have B0 : Below w.heap.size w (wr.alloc (.cells #[.bool false, .bool (decide (zA1 (d j) < 0)), .slice (A j) (nl (zA1 (d j)).natAbs) (C j), .int .i64 (zA2 (d j))] 46)) := hbw.alloc hbw.size _
       have Vs0 := Lib.hid (VI.out.alloc (.cells #[.bool false, .bool (decide (zA1 (d j) < 0)), .slice (A j) (nl (zA1 (d j)).natAbs) (C j), .int .i64 (zA2 (d j))] 46))
       have Vt0 := Lib.hid (DyV.made wr 46 false (decide (zA1 (d j) < 0)) (.slice (A j) (nl (zA1 (d j)).natAbs) (C j)) (zA2 (d j)))
       have MS0 := MS.alloc (.cells #[.bool false, .bool (decide (zA1 (d j) < 0)), .slice (A j) (nl (zA1 (d j)).natAbs) (C j), .int .i64 (zA2 (d j))] 46)
       have MA0 := MA.alloc (.cells #[.bool false, .bool (decide (zA1 (d j) < 0)), .slice (A j) (nl (zA1 (d j)).natAbs) (C j), .int .i64 (zA2 (d j))] 46)
       have hBz0 : Below z9 wo (wr.alloc (.cells #[.bool false, .bool (decide (zA1 (d j) < 0)), .slice (A j) (nl (zA1 (d j)).natAbs) (C j), .int .i64 (zA2 (d j))] 46)) := hr.alloc (by have := hr.size; omega) _
       have hzz : z9 ≠ wr.heap.size := by have := VI.out.lt; omega
       generalize (wr.alloc (.cells #[.bool false, .bool (decide (zA1 (d j) < 0)), .slice (A j) (nl (zA1 (d j)).natAbs) (C j), .int .i64 (zA2 (d j))] 46)) = w0 at B0 Vs0 Vt0 MS0 MA0 hBz0 ⊢
       generalize wr.heap.size = z11 at Vt0 hzz ⊢
       clear sc0 sc1 sc2 sc3 k0 k1 k2 k3 i1 MS MA VI hbw hr
       have Us := Vs0.out
       have Ut := Vt0.out
       obtain ⟨sc0, sc1, sc2, sc3⟩ := Us
       obtain ⟨tc0, tc1, tc2, tc3, tc4, tc5⟩ := Ut
       have hzz' : ¬ z11 = z9 := fun h => hzz h.symm
       have hzz2 : ¬ z9 = z11 := hzz
       first
       | go_region_with (first
        | (go_at_call 123; have xx := B1; refine (HAd _ aS au cS cu MS1.on Mu1.on).out.mono ?_; rintro e w2 ⟨av, cv, rfl, Mv2, hb2', hf2⟩; have hb2 := hb2'; have Vs2 : BgV w2 z9 (decide (S < 0)) (.slice aS (nl S.natAbs) cS) := (Vs1.out.on.below hb2); obtain ⟨sc0, sc1, sc2, sc3⟩ := Vs2; have Vs2 := Lib.hid (BgV.mk sc0 sc1 sc2 sc3); have Vt2 : DyV w2 z11 false (decide (zA1 (d j) < 0)) (.slice (A j) (nl (zA1 (d j)).natAbs) (C j)) (zA2 (d j)) := (Vt1.out.on.below hb2); obtain ⟨tc0, tc1, tc2, tc3, tc4, tc5⟩ := Vt2; have Vt2 := Lib.hid (DyV.mk tc0 tc1 tc2 tc3 tc4 tc5); have B2 := zA0 (w := w) (have := Beh.mk B1; zbh) hb2; have hsz1 := hBz1.size; have hBz2 : Below z9 wo w2 := Below.trans (by have hszw := (hBz1).size; repeat (with_reducible first | refine Below.setCell ?_ (by first | omega | (simp <;> omega)) _ | refine Below.alloc ?_ (by first | omega | (simp <;> omega)) _ | refine Below.drew ?_ | refine below_drewN ?_ _ | exact hBz1)) (hb2.mono (by first | exact Nat.le_refl _ | (simp; done) | omega | (simp <;> omega))); have hf3 : 0 < nl S'.natAbs → z9 < ab av := (fun h => by have := hf2 h; (try simp at this); have := Vs1.out.lt; omega); clear hb2 hb2')
        | (go_at_call 131; refine (HLf _ MA0.on).out.mono ?_; rintro e w1 ⟨au, cu, rfl, Mu1, hb1, hf1⟩; have Vs1 : BgV w1 z9 (decide (S < 0)) (.slice aS (nl S.natAbs) cS) := (Vs0.out.on.below hb1); obtain ⟨sc0, sc1, sc2, sc3⟩ := Vs1; have Vs1 := Lib.hid (BgV.mk sc0 sc1 sc2 sc3); have Vt1 : DyV w1 z11 false (decide (zA1 (d j) < 0)) (.slice (A j) (nl (zA1 (d j)).natAbs) (C j)) (zA2 (d j)) := (Vt0.out.on.below hb1); obtain ⟨tc0, tc1, tc2, tc3, tc4, tc5⟩ := Vt1; have Vt1 := Lib.hid (DyV.mk tc0 tc1 tc2 tc3 tc4 tc5); have MS1 : Mag w1 aS (nl S.natAbs) cS S.natAbs := Mag.below MS0.on hb1; have B1 := zA0 (w := w) (have := Beh.mk B0; zbh) hb1; have hsz0 := hBz0.size; have hBz1 : Below z9 wo w1 := Below.trans (by have hszw := (hBz0).size; repeat (with_reducible first | refine Below.setCell ?_ (by first | omega | (simp <;> omega)) _ | refine Below.alloc ?_ (by first | omega | (simp <;> omega)) _ | refine Below.drew ?_ | refine below_drewN ?_ _ | exact hBz0)) (hb1.mono (by first | exact Nat.le_refl _ | (simp; done) | omega | (simp <;> omega))); clear hb1 hf1)
        | fail)
       | fail "region"
       all_goals (
        go_wp2_with fail
        go_roundw
        case rel =>
         refine ⟨j + 1, S', av, cv, by omega, by go_num, HS2.out, ⟨by go_simp, by go_simp, fun i => by go_simp, by simpa using sc3⟩, ?_, (hBz2.setCell (Nat.le_refl _) _).setCell (Nat.le_refl _) _⟩
         exact (Mv2.set (fun h => by have := hf3 h; omega) _ _).set (fun h => by have := hf3 h; omega) _ _
        case measure => simp [intOf]; omega)
     · obtain rfl : j = k := by omega
       have hS := HS.out
       subst hS
       have V4 := VV.out.below hr'
       have hbw : Below w.heap.size w wr := hb.trans (hr'.mono hb.size)
       have V4' := Lib.hid V4
       obtain ⟨sc0, sc1, sc2, sc3⟩ := hI
       obtain ⟨p0, p1, p2, p3, p4, p5⟩ := V4
       go_wp2_with fail
       refine (HMk _ aS cS MS (hT.below hbw)).out.mono ?_
       rintro e w5 ⟨a5, c5, rfl, m5, hb5, hf5⟩
       have B5 := zA0 (w := w) hbw hb5
       have V5 := V4'.out.below hb5
       have hf6 : 0 < nl (zA1 (zBv d j)).natAbs → w.heap.size < ab a5 := fun h => by have := hf5 h; have := V4'.out.lt; omega
       clear p0 p1 p2 p3 p4 p5 hb5 hf5
       generalize zBv d j = ds at *
       obtain ⟨p0, p1, p2, p3, p4, p5⟩ := V5
       go_wp2_with fail
       refine bodyPost_ret (v := .agg #[.bool (zA3 ds), .bool (decide (zA1 ds < 0)), .slice a5 (nl (zA1 ds).natAbs) c5, .int .i64 (zA2 ds)]) (by simp only [results, Tryz.results79]; go_simp) rfl ?_
       exact ⟨a5, c5, rfl, (by repeat (with_reducible first | refine Mag.set ?_ (fun h => by have := hf6 h; omega) _ _ | exact m5)), (have := Beh.mk B5; zbh), fun h => by have := hf6 h; omega⟩
end Go.Proofs.YtablcbgeeeboeaaGreatDoor

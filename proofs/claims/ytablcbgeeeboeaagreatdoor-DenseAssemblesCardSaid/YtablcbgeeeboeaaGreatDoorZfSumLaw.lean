/-
  Lists of dyads in memory; a list of the call's own that grows by append.
-/
import Derived.Test.YtablcbgeeeboeaaGreatDoorZfBf
import Derived.Test.YtablcbgeeeboeaaGreatDoorZfBe
import Derived.Maps.AppendAt
import Derived.Test.YtablcbgeeeboeaaGreatDoorZfFP
set_option maxRecDepth 100000
namespace Go.Proofs.YtablcbgeeeboeaaGreatDoor
open Go.RowKit Sp
structure El where
 bd : Bool
 s : Bool
 a : Option Addr
 n : Nat
 p : Nat
 e : Int
 x : Nat
def El.d (E : El) : Option (Int × Int) := nrmB E.bd (sgn E.s E.x) E.e
structure Dys (w : World) (a : Option Addr) (n cap : Nat) (L : Nat → El) : Prop where
 fits : n ≤ cap
 lim : cap ≤ 9223372036854775807
 addr : 0 < n → a = some ⟨ab a, ao a, none⟩
 c0 : ∀ i, i < n → w.cell? ⟨ab a, ao a + i * 4, none⟩ = some (.bool (L i).bd)
 c1 : ∀ i, i < n → w.cell? ⟨ab a, ao a + i * 4 + 1, none⟩ = some (.bool (L i).s)
 c2 : ∀ i, i < n → w.cell? ⟨ab a, ao a + i * 4 + 2, none⟩ = some (.slice (L i).a (L i).n (L i).p)
 c3 : ∀ i, i < n → w.cell? ⟨ab a, ao a + i * 4 + 3, none⟩ = some (.int .i64 (L i).e)
 m : ∀ i, i < n → Mag w (L i).a (L i).n (L i).p (L i).x
 b : ∀ i, i < n → -9223372036854775808 ≤ (L i).e ∧ (L i).e ≤ 9223372036854775807
 old : 0 < n → ab a < w.heap.size
theorem Dys.below {w w' : World} {a : Option Addr} {n cap : Nat} {L : Nat → El} (h : Dys w a n cap L) (hb : Below w.heap.size w w') : Dys w' a n cap L := by
 obtain ⟨h1, _⟩ := bcell hb
 exact ⟨h.fits, h.lim, h.addr, fun i hi => (h1 _ _ (h.old (by omega))).trans (h.c0 i hi), fun i hi => (h1 _ _ (h.old (by omega))).trans (h.c1 i hi), fun i hi => (h1 _ _ (h.old (by omega))).trans (h.c2 i hi),
  fun i hi => (h1 _ _ (h.old (by omega))).trans (h.c3 i hi), fun i hi => (h.m i hi).below hb, h.b, fun hn => Nat.lt_of_lt_of_le (h.old hn) hb.size⟩
theorem infD : (Tryz.prog.info? 46).map (fun i => (i.zero, i.size, i.bytes)) = some (some (.agg #[.bool false, .bool false, .slice none 0 0, .int .i64 0]), 4, 48) := by kernel_rfl
theorem undD : Tryz.prog.underlying 23 = some (.slice 46) := by kernel_rfl
theorem elemD : Tryz.prog.elem 23 = 46 := by kernel_rfl
theorem sizD (W : World) : (Go.sizeOf 46).run Tryz.prog W = .ok 4 W := by kernel_rfl
theorem Dys.idx {w : World} {a : Option Addr} {n cap : Nat} {L : Nat → El} (h : Dys w a n cap L) (i : Nat) (hi : i < n) (W : World) :
 (Instr.indexAt 23 (.slice a n cap) (.int .i64 i)).run Tryz.prog W = .ok (.pointer (some ⟨ab a, ao a + i * 4, none⟩)) W := by
 have ha := h.addr (by omega)
 generalize ab a = b at *
 generalize ao a = o at *
 subst ha
 rw [run_indexAt_slice _ _ _ _ _ _ _ undD, if_pos ⟨by omega, by omega⟩, elemD, sizD]
 simp only [Result.andThen, Int.toNat_natCast, Addr.add_lit]
def dcells (f : Nat → Value × Value × Value × Value) : Nat → List Value
 | 0 => []
 | k + 1 => dcells f k ++ [(f k).1, (f k).2.1, (f k).2.2.1, (f k).2.2.2]
theorem dcells_length (f : Nat → Value × Value × Value × Value) (k : Nat) : (dcells f k).length = k * 4 := by
 induction k with
 | zero => rfl
 | succ n ih => simp [dcells, ih]; omega
theorem dcells_get (f : Nat → Value × Value × Value × Value) {k i : Nat} (h : i < k) :
 (dcells f k)[i * 4]? = some (f i).1 ∧ (dcells f k)[i * 4 + 1]? = some (f i).2.1 ∧ (dcells f k)[i * 4 + 2]? = some (f i).2.2.1 ∧ (dcells f k)[i * 4 + 3]? = some (f i).2.2.2 := by
 induction k with
 | zero => omega
 | succ n ih =>
  have hl := dcells_length f n
  by_cases hin : i < n
  · obtain ⟨h0, h1, h2, h3⟩ := ih hin
    simp only [dcells]
    rw [List.getElem?_append_left (by omega), List.getElem?_append_left (by omega), List.getElem?_append_left (by omega), List.getElem?_append_left (by omega)]
    exact ⟨h0, h1, h2, h3⟩
  · obtain rfl : i = n := by omega
    simp only [dcells]
    rw [List.getElem?_append_right (by omega), List.getElem?_append_right (by omega), List.getElem?_append_right (by omega), List.getElem?_append_right (by omega), hl]
    simp
theorem dcells_congr {f g : Nat → Value × Value × Value × Value} {k : Nat} (h : ∀ i, i < k → f i = g i) : dcells f k = dcells g k := by
 induction k with
 | zero => rfl
 | succ n ih => simp only [dcells]; rw [ih (fun i hi => h i (by omega)), h n (by omega)]
theorem app_dyad {ops : Array Oper} {rest : List Oper} {o : Oper} {a : Act} {Q : Exit → Act → World → Prop} {w : World} (hgd : o.guard = none) (s x : Operand)
 (ho : o.op = .call { callee := .builtin .append, args := #[s, x], argTypes := #[23, 23] }) (base : Nat) (v : Value) (n : Nat) (xs : List Value) (hs : a.eval s = v) (g : Nat) (b0 s0 : Bool) (sl : Value) (f0 : Int) (hsl : sl.oneCell' = true)
 (hx : a.eval x = .slice (some ⟨g, 0, none⟩) 1 1) (hown : w.ownsRow base 46 4 v n xs) (k0 : w.cell? ⟨g, 0, none⟩ = some (.bool b0)) (k1 : w.cell? ⟨g, 1, none⟩ = some (.bool s0)) (k2 : w.cell? ⟨g, 2, none⟩ = some sl) (k3 : w.cell? ⟨g, 3, none⟩ = some (.int .i64 f0)) (hn : n ≤ 1048576)
 (hbase : base ≤ w.heap.size) (h : ∀ v' w', w'.ownsRow base 46 4 v' (n + 1) (xs ++ [.bool b0, .bool s0, sl, .int .i64 f0]) → w.grownBy w' v.ownBlock → (v'.ownBlock = v.ownBlock ∨ v'.ownBlock = some w.heap.size) → wpList Tryz.prog ops Q rest (a.put o.dst v') w') :
 wpList Tryz.prog ops Q (o :: rest) a w := by
 obtain ⟨i0, hi, hz0, hz1, hz2⟩ := info_parts infD
 refine wpList_append_own_at w hgd s x _ ho base _ i0 _ 4 48 undD hi hz0 hz1 hz2 rfl (by decide) v n xs hs hown ⟨g, 0, none⟩ 1 1 [.bool b0, .bool s0, sl, .int .i64 f0] hx rfl ?_ ?_ (by unfold maxLen; omega) (by omega) hbase (fun v' w' h1 h2 _ h4 => h v' w' h1 h2 h4)
 · intro j u hu
   rw [Addr.add_lit, Nat.zero_add]
   rcases j with _ | _ | _ | _ | j
   · simp at hu; subst hu; exact k0
   · simp at hu; subst hu; exact k1
   · simp at hu; subst hu; exact k2
   · simp at hu; subst hu; exact k3
   · simp at hu
 · intro u hu
   simp only [List.mem_cons, List.not_mem_nil, or_false] at hu
   rcases hu with rfl | rfl | rfl | rfl
   · rfl
   · rfl
   · exact hsl
   · rfl
theorem mag_grown {w w' : World} {a : Option Addr} {n cap x : Nat} {row : Option Nat} (h : Mag w a n cap x) (hg : w.grownBy w' row) (hne : 0 < n → some (ab a) ≠ row) : Mag w' a n cap x :=
 ⟨h.lt, h.fits, h.lim, h.addr, fun i hi => by
  rw [World.cell?_of_block (a := ⟨ab a, ao a + i, none⟩) (hg.block (ab a) (h.old (by omega)) (hne (by omega)))]; exact h.cell i hi,
  fun hn => Nat.lt_of_lt_of_le (h.old hn) hg.size⟩
theorem below_grown {w w' : World} {base : Nat} {e : TypeId} {size : Nat} {v : Value} {n : Nat} {xs : List Value} (h : w.ownsRow base e size v n xs) (hg : w.grownBy w' v.ownBlock) (hb : base ≤ w.heap.size) : Below base w w' := below_of_owns h hg hb
end Go.Proofs.YtablcbgeeeboeaaGreatDoor
namespace Go.Proofs.YtablcbgeeeboeaaGreatDoor
open Go.RowKit Sp
def mnE (d : Nat → Option (Int × Int)) : Nat → Int
 | 0 => 0
 | k + 1 => min (mnE d k) (dexp (d k))
def smE (d : Nat → Option (Int × Int)) (E : Int) : Nat → Int
 | 0 => 0
 | k + 1 => smE d E k + up (dman (d k)) (dexp (d k)) E
def anyBad (d : Nat → Option (Int × Int)) : Nat → Bool
 | 0 => false
 | k + 1 => anyBad d k || dbad (d k)
def dsum (d : Nat → Option (Int × Int)) (n : Nat) : Option (Int × Int) := if anyBad d n then none else nrm (smE d (mnE d n) n) (mnE d n)
theorem mnE_le0 (d : Nat → Option (Int × Int)) (k : Nat) : mnE d k ≤ 0 := by
 induction k with
 | zero => exact Int.le_refl _
 | succ n ih => simp only [mnE]; omega
theorem mnE_le (d : Nat → Option (Int × Int)) {i k : Nat} (h : i < k) : mnE d k ≤ dexp (d i) := by
 induction k with
 | zero => omega
 | succ n ih =>
  simp only [mnE]
  by_cases hi : i < n
  · have := ih hi; omega
  · obtain rfl : i = n := by omega
    omega
theorem mnE_ge (d : Nat → Option (Int × Int)) (h : ∀ i, IsN (d i)) (k : Nat) : -65536 ≤ mnE d k := by
 induction k with
 | zero => show (-65536 : Int) ≤ 0; omega
 | succ n ih =>
  have := (isN_bounds (h n)).2.1
  simp only [mnE]; omega
theorem smE_up (d : Nat → Option (Int × Int)) {E F : Int} (h : E ≤ F) (k : Nat) (hF : ∀ i, i < k → F ≤ dexp (d i)) : up (smE d F k) F E = smE d E k := by
 induction k with
 | zero => simp only [smE]; exact up_zero _ _
 | succ n ih =>
  simp only [smE]
  rw [up_add, ih (fun i hi => hF i (by omega)), up_up _ h (hF n (by omega))]
theorem blen_dy {d : Option (Int × Int)} (h : IsN d) {E : Int} (h0 : -65536 ≤ E) (h1 : E ≤ dexp d) : blen (up (dman d) (dexp d) E).natAbs ≤ 131072 := by
 refine blen_up_le h1 ?_
 cases d with
 | none => simp [dman, dexp] at *; rw [show blen 0 = 0 from rfl]; omega
 | some p =>
  obtain ⟨m, e⟩ := p
  have := okd_bounds (h m e rfl)
  simp only [dman, dexp, Option.getD_some] at *
  omega
theorem abs_lt_pow {x : Int} {k : Nat} (h : blen x.natAbs ≤ k) : x.natAbs < 2 ^ k := Nat.lt_of_lt_of_le (lt_blen _) (Nat.pow_le_pow_right (by decide) h)
theorem smE_abs (d : Nat → Option (Int × Int)) (h : ∀ i, IsN (d i)) {E : Int} (h0 : -65536 ≤ E) (p : Nat) (hp : p = 131072) (k : Nat) (hE : ∀ i, i < k → E ≤ dexp (d i)) : (smE d E k).natAbs ≤ k * 2 ^ p := by
 induction k with
 | zero => simp [smE]
 | succ n ih =>
  have h1 := ih (fun i hi => hE i (by omega))
  have h2 := abs_lt_pow (k := p) (by rw [hp]; exact blen_dy (h n) h0 (hE n (by omega)))
  simp only [smE]
  have h3 := Int.natAbs_add_le (smE d E n) (up (dman (d n)) (dexp (d n)) E)
  rw [Nat.add_mul, Nat.one_mul]
  omega
theorem smE_blen (d : Nat → Option (Int × Int)) (h : ∀ i, IsN (d i)) {E : Int} (h0 : -65536 ≤ E) {k : Nat} (hk : k ≤ 1048576) (hE : ∀ i, i < k → E ≤ dexp (d i)) : blen (smE d E k).natAbs ≤ 131100 := by
 obtain ⟨p, hp⟩ : ∃ p : Nat, p = 131072 := ⟨_, rfl⟩
 have h1 := smE_abs d h h0 p hp k hE
 have h2 : (smE d E k).natAbs < 2 ^ (21 + p) := by
  refine Nat.lt_of_le_of_lt h1 ?_
  rw [Nat.pow_add]
  exact Nat.mul_lt_mul_of_pos_right (by omega) (Nat.pow_pos (by decide))
 have := blen_le h2
 omega
theorem anyBad_iff (d : Nat → Option (Int × Int)) (n : Nat) : anyBad d n = true ↔ ∃ i, i < n ∧ dbad (d i) = true := by
 induction n with
 | zero => simp [anyBad]
 | succ n ih =>
  simp only [anyBad, Bool.or_eq_true, ih]
  constructor
  · rintro (⟨i, hi, h⟩ | h)
    · exact ⟨i, by omega, h⟩
    · exact ⟨n, by omega, h⟩
  · rintro ⟨i, hi, h⟩
    by_cases hin : i < n
    · exact .inl ⟨i, hin, h⟩
    · obtain rfl : i = n := by omega
      exact .inr h
theorem dsum_unit (d : Nat → Option (Int × Int)) {n : Nat} (hb : anyBad d n = false) {E : Int} (hE : ∀ i, i < n → E ≤ dexp (d i)) (h0 : E ≤ 0) : dsum d n = nrm (smE d E n) E := by
 unfold dsum
 rw [hb]
 show nrm _ _ = _
 have hm : E ≤ mnE d n := by
  clear hb
  induction n with
  | zero => exact h0
  | succ k ih =>
   have := ih (fun i hi => hE i (by omega))
   have := hE k (by omega)
   simp only [mnE]; omega
 rw [← nrm_up _ _ E hm, smE_up d hm n (fun i hi => mnE_le d hi)]
theorem smE_congr {d d' : Nat → Option (Int × Int)} {E : Int} {n : Nat} (h : ∀ i, i < n → d i = d' i) : smE d E n = smE d' E n := by
 induction n with
 | zero => rfl
 | succ n ih => simp only [smE]; rw [ih (fun i hi => h i (by omega)), h n (by omega)]
end Go.Proofs.YtablcbgeeeboeaaGreatDoor

/-
  Walks: Assemble of both sides.
-/
import Derived.Test.YtablcbgeeeboeaaGreatDoorZhQn
import Derived.Test.YtablcbgeeeboeaaGreatDoorZhPo
import Derived.BigQuiet
set_option maxRecDepth 100000
set_option maxHeartbeats 40000000
namespace Go.Proofs.YtablcbgeeeboeaaGreatDoor
open Go.RowKit Sp
def asP (A : Nat → Int) (n m s : Nat) : Nat := (A (s / m)).toNat * n + (A (s % m)).toNat
def zCs (B C : Nat → Option (Int × Int)) (P : Nat → Nat) : Nat → Nat → Option (Int × Int)
 | 0 => B
 | s + 1 => fun x => if x = P s then zEX (zCs B C P s (P s)) (C s) else zCs B C P s x
def zCr (B C : Nat → Option (Int × Int)) (P : Nat → Nat) : Nat → Bool
 | 0 => true
 | s + 1 => zCr B C P s && !zA3 (zEX (zCs B C P s (P s)) (C s))
theorem zDX {B C : Nat → Option (Int × Int)} {P : Nat → Nat} (hB : ∀ i, IsN (B i)) (s x : Nat) : IsN (zCs B C P s x) := by
 induction s generalizing x with
 | zero => exact hB x
 | succ s ih =>
  show IsN (if x = P s then zEX (zCs B C P s (P s)) (C s) else zCs B C P s x)
  split
  · exact zFu _ _
  · exact ih x
theorem zI0 {B C : Nat → Option (Int × Int)} {P : Nat → Nat} {n s : Nat} (hs : s < n) (h : zA3 (zEX (zCs B C P s (P s)) (C s)) = true) : zCr B C P n = false := by
 induction n with
 | zero => omega
 | succ n ih =>
  show (zCr B C P n && !zA3 (zEX (zCs B C P n (P n)) (C n))) = false
  rcases Nat.lt_succ_iff_lt_or_eq.1 hs with h1 | h1
  · rw [ih h1]; rfl
  · rw [← h1, h]; exact Bool.and_false _
theorem zMY {A : Nat → Int} {n m i j : Nat} (hi : i < m) : asP A n m (j * m + i) = (A j).toNat * n + (A i).toNat := by
 unfold asP
 rw [Nat.mul_comm j m, Nat.mul_add_mod, Nat.mod_eq_of_lt hi, Nat.mul_add_div (by omega), Nat.div_eq_of_lt hi, Nat.add_zero]
section
variable {w w' : World} {base g n cap : Nat} {d d' : Nat → Option (Int × Int)} {A : Nat → Option Addr} {C : Nat → Nat}
theorem Dms.cev (h : Dms w base (.slice (some ⟨g, 0, none⟩) n cap) n d A C) {i : Nat} (hi : i < n) :
 OB w g ∧ CE w g (i * 4) (.bool (zA3 (d i))) ∧ CE w g (i * 4 + 1) (.bool (decide (zA1 (d i) < 0))) ∧ CE w g (i * 4 + 2) (.slice (A i) (nl (zA1 (d i)).natAbs) (C i)) ∧ CE w g (i * 4 + 3) (.int .i64 (zA2 (d i))) ∧ BI w (A i) (nl (zA1 (d i)).natAbs) (C i) (zA1 (d i)).natAbs := by
 have hl := (h.own.lt g rfl).2
 have hg := zAC (zBe d A C) hi
 exact ⟨⟨fun i => h.own.frozenAt i, hl⟩, ⟨(h.own.cellAt _ (by omega)).trans hg.1, hl⟩, ⟨(h.own.cellAt _ (by omega)).trans hg.2.1, hl⟩, ⟨(h.own.cellAt _ (by omega)).trans hg.2.2.1, hl⟩, ⟨(h.own.cellAt _ (by omega)).trans hg.2.2.2, hl⟩, ⟨h.m i hi⟩⟩
theorem DX.put (h : DX w base (.slice (some ⟨g, 0, none⟩) n cap) n d A C) {i : Nat} (hi : i < n) {dk : Option (Int × Int)} {a1 : Option Addr} {c1 : Nat} (hm : BI w a1 (nl (zA1 dk).natAbs) c1 (zA1 dk).natAbs) (hne : 0 < nl (zA1 dk).natAbs → ab a1 ≠ g) (e : ∀ t, t < n → (if t = i then dk else d t) = d' t) :
 DX ((((w.setCell ⟨g, i * 4, none⟩ (.bool (zA3 dk))).setCell ⟨g, i * 4 + 1, none⟩ (.bool (decide (zA1 dk < 0)))).setCell ⟨g, i * 4 + 2, none⟩ (.slice a1 (nl (zA1 dk).natAbs) c1)).setCell ⟨g, i * 4 + 3, none⟩ (.int .i64 (zA2 dk))) base (.slice (some ⟨g, 0, none⟩) n cap) n d' (fun t => if t = i then a1 else A t) (fun t => if t = i then c1 else C t) := ⟨(h.out.put hi hm.out hne).1.congr e⟩
theorem N3.st4 {b : Nat} {x0 x1 x2 : Value} (h : N3 w b x0 x1 x2) (ne : b ≠ g) (o0 o1 o2 o3 : Nat) (y0 y1 y2 y3 : Value) : N3 ((((w.setCell ⟨g, o0, none⟩ y0).setCell ⟨g, o1, none⟩ y1).setCell ⟨g, o2, none⟩ y2).setCell ⟨g, o3, none⟩ y3) b x0 x1 x2 := N3.sen (N3.sen (N3.sen (N3.sen h ne _ _) ne _ _) ne _ _) ne _ _
theorem zCd {m : Nat} (h : Below m w w') (hb : m ≤ g) (o0 o1 o2 o3 : Nat) (y0 y1 y2 y3 : Value) : Below m w ((((w'.setCell ⟨g, o0, none⟩ y0).setCell ⟨g, o1, none⟩ y1).setCell ⟨g, o2, none⟩ y2).setCell ⟨g, o3, none⟩ y3) :=
 (((h.setCell (p := ⟨g, o0, none⟩) hb _).setCell (p := ⟨g, o1, none⟩) hb _).setCell (p := ⟨g, o2, none⟩) hb _).setCell (p := ⟨g, o3, none⟩) hb _
theorem zF7 (o0 o1 o2 o3 : Nat) (y0 y1 y2 y3 : Value) : ((((w'.setCell ⟨g, o0, none⟩ y0).setCell ⟨g, o1, none⟩ y1).setCell ⟨g, o2, none⟩ y2).setCell ⟨g, o3, none⟩ y3).heap.size = w'.heap.size := by rw [World.size_setCell, World.size_setCell, World.size_setCell, World.size_setCell]
theorem N3.put3 {b : Nat} {x0 x1 x2 : Value} (h : N3 w b x0 x1 x2) (y0 y1 y2 : Value) : N3 (((w.setCell ⟨b, 0, none⟩ y0).setCell ⟨b, 1, none⟩ y1).setCell ⟨b, 2, none⟩ y2) b y0 y1 y2 := by
 obtain ⟨c0, c1, c2, c3, c4⟩ := h
 exact ⟨by go_simp, by go_simp, by go_simp, fun i => by go_simp, by simpa using c4⟩
theorem DX.set3 {v : Value} {k : Nat} (h : DX w base v k d A C) {b : Nat} (hv : some b ≠ v.ownBlock) (hA : ∀ i, i < k → 0 < nl (zA1 (d i)).natAbs → ab (A i) ≠ b) (y0 y1 y2 : Value) : DX (((w.setCell ⟨b, 0, none⟩ y0).setCell ⟨b, 1, none⟩ y1).setCell ⟨b, 2, none⟩ y2) base v k d A C :=
 ⟨h.out.kept (row := some b) (zAY (zAY (zAY (zBk w b) 0 y0) 1 y1) 2 y2) (Or.inr fun e => hv e.symm) fun i hi hp e => hA i hi hp (Option.some.inj e)⟩
end
def LimF (Q : Nat) (d : Nat → Option (Int × Int)) (A : Nat → Option Addr) (r : Nat) : Prop := ∀ t, t < Q → 0 < nl (zA1 (d t)).natAbs → ab (A t) ≠ r
theorem LimF.up {Q : Nat} {d d' : Nat → Option (Int × Int)} {A : Nat → Option Addr} {r i : Nat} {dk : Option (Int × Int)} {a1 : Option Addr} (h : LimF Q d A r) (h1 : 0 < nl (zA1 dk).natAbs → ab a1 ≠ r) (e : ∀ t, t < Q → (if t = i then dk else d t) = d' t) : LimF Q d' (fun t => if t = i then a1 else A t) r := fun t ht hp => by
 rw [← e t ht] at hp
 by_cases he : t = i
 · simp only [if_pos he] at hp ⊢; exact h1 hp
 · simp only [if_neg he] at hp ⊢; exact h t ht hp
theorem LimF.to {Q : Nat} {d d' : Nat → Option (Int × Int)} {A : Nat → Option Addr} {r : Nat} (h : LimF Q d A r) (e : ∀ t, t < Q → d t = d' t) : LimF Q d' A r := fun t ht hp => h t ht (by rw [e t ht]; exact hp)
theorem zFi {w : World} {base : Nat} {a : Option Addr} {n c : Nat} {e : TypeId} {s : Nat} {xs : List Value} (h : w.ownsRow base e s (.slice a n c) n xs) (hn : 0 < n) : ∃ g, a = some ⟨g, 0, none⟩ ∧ base ≤ g ∧ g < w.heap.size ∧ n ≤ c ∧ c ≤ 9223372036854775807 := by
 rcases h.2 with ⟨_, hk⟩ | ⟨g, cap, cur, hv, hbg, hgg, hkc, hcm, _⟩
 · omega
 · injection hv with e1 _ e3
   subst e3
   exact ⟨g, e1, hbg, (Array.getElem?_eq_some_iff.1 hgg).1, hkc, by unfold maxLen at hcm; omega⟩
theorem zNz (g q N c : Nat) (hq : q < N) (W : World) : (Instr.indexAt 23 (.slice (some ⟨g, 0, none⟩) N c) (.int .i64 ((q : Nat) : Int))).run Tryz.prog W = .ok (.pointer (some ⟨g, q * 4, none⟩)) W := by
 rw [run_indexAt_slice _ _ _ _ _ _ _ zLk, if_pos ⟨by omega, by omega⟩, zNJ, zPl]
 simp only [Result.andThen, Int.toNat_natCast, Addr.add_lit, Nat.zero_add]
theorem zBb {r c : Nat} (hr : r ≤ 64) (hc : c ≤ 64) {B : Nat → Option (Int × Int)} (hB : zA5 B (r * c) = false) : zD3 r c (r * c) (zA5 B (r * c)) = 0 := by
 have hsz : szE r c (r * c) = 0 := by unfold szE; rw [if_neg (by omega), if_neg (by omega), if_pos (Int.natCast_mul r c)]
 unfold zD3
 rw [if_pos hsz, hB]; rfl
theorem zB5 {P : FuncId} {W : World} {r c : Int} {a : Option Addr} {n cap : Nat} {B : Nat → Option (Int × Int)} (hB : DZ W a n cap B)
 (h : ∀ (L : Nat → El), Dys W a n cap L → ElB L n → Calls Tryz.prog P #[.agg #[.int .i64 r, .int .i64 c, .slice a n cap]] W fun o w' => o = .returned (.int .i64 (zD3 r c n (zA5 (fun i => (L i).d) n))) ∧ Below W.heap.size W w') :
 Calls Tryz.prog P #[.agg #[.int .i64 r, .int .i64 c, .slice a n cap]] W fun o w' => o = .returned (.int .i64 (zD3 r c n (zA5 B n))) ∧ Below W.heap.size W w' := by
 obtain ⟨⟨A, C, h1⟩, h2⟩ := hB.out
 have := h _ h1 (zFq h2 A C)
 rwa [show zA5 (fun i => (mel B A C i).d) n = zA5 B n from zAJ fun i hi => zFp (h2 i hi)] at this
instance DX.lit0 (W : World) (base n : Nat) [hb : BG W base] [h : Sz W n] : DX (W.alloc (.cells #[] 46)) base (.slice (some ⟨n, 0, none⟩) 0 0) 0 (fun _ => some (0, 0)) (fun _ => none) (fun _ => 0) := by
 have := h.out
 subst this
 exact ⟨⟨World.ownsRow_lit W #[] 0 hb.out (by unfold maxLen; omega) rfl, fun i hi => by omega, fun i hi => by omega⟩⟩
theorem zGx {w : World} {a : Option Addr} {m c : Nat} {d : Nat → Option (Int × Int)} {A : Nat → Option Addr} {C : Nat → Nat} (hz : Dys w a m c (mel d A C)) (j : Nat) (u : Value) (h : (zAm (zBe d A C) m)[j]? = some u) :
 w.cell? ((⟨ab a, ao a, none⟩ : Addr).add j) = some u ∧ u.oneCell' = true := by
 have hj : j < m * 4 := by
  rcases Nat.lt_or_ge j (m * 4) with h1 | h1
  · exact h1
  · rw [List.getElem?_eq_none (by rw [zAV]; exact h1)] at h; cases h
 obtain ⟨p, b, rfl, hb⟩ : ∃ p b, j = p * 4 + b ∧ b < 4 := ⟨j / 4, j % 4, by omega, by omega⟩
 have g := zAC (zBe d A C) (show p < m by omega)
 rw [Addr.add_lit, ← Nat.add_assoc]
 rcases b with _ | _ | _ | _ | b
 · have e := g.1.symm.trans h; injection e with e; subst e; exact ⟨hz.c0 p (by omega), rfl⟩
 · have e := g.2.1.symm.trans h; injection e with e; subst e; exact ⟨hz.c1 p (by omega), rfl⟩
 · have e := g.2.2.1.symm.trans h; injection e with e; subst e; exact ⟨hz.c2 p (by omega), rfl⟩
 · have e := g.2.2.2.symm.trans h; injection e with e; subst e; exact ⟨hz.c3 p (by omega), rfl⟩
 · omega
theorem zCg {ops : Array Oper} {o : Oper} {a : Act} {K : Act → World → Prop} {Q : Exit → Act → World → Prop} {w : World} {E : Prop} (hgd : o.guard = none) (s x : Operand)
 (ho : o.op = .call { callee := .builtin .append, args := #[s, x], argTypes := #[23, 23] }) (base : Nat) (v : Value) (hs : a.eval s = v) {d0 : Nat → Option (Int × Int)} {A0 : Nat → Option Addr} {C0 : Nat → Nat} (h0 : DX w base v 0 d0 A0 C0)
 (src : Option Addr) (m c : Nat) (d : Nat → Option (Int × Int)) (A : Nat → Option Addr) (C : Nat → Nat) (hx : a.eval x = .slice src m c) (hz : Dys w src m c (mel d A C)) (hlo : ∀ i, i < m → 0 < nl (zA1 (d i)).natAbs → ab (A i) < base) (hm : m ≤ 1048576) (hb : base ≤ w.heap.size)
 (h : ∀ ea ec w', DX w' base (.slice ea m ec) m d A C → w.grownBy w' v.ownBlock → ((Value.slice ea m ec).ownBlock = v.ownBlock ∨ (Value.slice ea m ec).ownBlock = some w.heap.size) → Below base w w' → K (a.put o.dst (.slice ea m ec)) w') :
 if Region.wanted o (yielded ops a.tmps) = true then Oper.wp Tryz.prog o a w K Q else E := by
 have hw : Region.wanted o (yielded ops a.tmps) = true := by simp [Region.wanted, hgd]
 rw [if_pos hw]
 obtain ⟨i0, hi, hz0, hz1, hz2⟩ := info_parts zP4
 have hvb : ∀ i, i < m → 0 < nl (zA1 (d i)).natAbs → some (ab (A i)) ≠ v.ownBlock := fun i hi hp e => by
  have := hlo i hi hp
  have := (h0.out.own.lt _ e.symm).1
  omega
 have fin : ∀ (v' : Value) (w' : World), w'.ownsRow base 46 4 v' m (zAm (zBe d A C) m) → w.grownBy w' v.ownBlock → (v'.ownBlock = v.ownBlock ∨ v'.ownBlock = some w.heap.size) → K (a.put o.dst v') w' := fun v' w' h1 h2 h3 => by
  obtain ⟨ea, ec, rfl⟩ := zBs h1
  refine h ea ec w' ⟨⟨h1, fun i hi => zBD (hz.m i hi) h2 (hvb i hi), fun i hi hp e => ?_⟩⟩ h2 h3 (zB3 h0.out.own h2 hb)
  rcases h3 with h3 | h3
  · rw [h3] at e; exact hvb i hi hp e
  · rw [h3] at e; injection e with e; have := hlo i hi hp; omega
 have hown := h0.out.own
 have hx0 : zAm (zBe d0 A0 C0) 0 = [] := rfl
 rw [hx0] at hown
 rcases hsr : src with _ | ad
 · have hm0 : m = 0 := by
    rcases Nat.eq_zero_or_pos m with h1 | h1
    · exact h1
    · have := hz.addr h1; rw [hsr] at this; cases this
   subst hm0
   rw [hsr] at hx
   have hrun : (Builtin.append_ #[23, 23] o.type #[v, .slice none 0 c]).run Tryz.prog w = .ok v w := by
    rcases hown.2 with ⟨rfl, _⟩ | ⟨g, cap, cur, rfl, _, _, hnc, _⟩
    · simp [Builtin.append_, run_underlying zLk, sizeOf, typeInfo, hi, Builtin.lenOf, Builtin.firstCells]
    · simp [Builtin.append_, run_underlying zLk, sizeOf, typeInfo, hi, Builtin.lenOf, Builtin.firstCells, hnc, storeCells]
   unfold Oper.wp execOp
   simp only [ho, resolve, invoke, builtin, Sem.run_bind, Sem.run_pure, Result.andThen_ok, List.map_toArray, List.map_cons, List.map_nil, hs, hx, hrun]
   exact fin v w hown ⟨rfl, rfl, rfl, Nat.le_refl _, fun _ _ _ => rfl⟩ (Or.inl rfl)
 · have had : 0 < m → ad = ⟨ab src, ao src, none⟩ := fun h1 => by have := hz.addr h1; rw [hsr] at this; injection this with this; rw [hsr]; exact this
   rw [hsr] at hx
   obtain ⟨v', w', hr, h2, h3, h4, h5⟩ := run_append_own_at (P := Tryz.prog) w base 23 o.type 46 i0 _ 4 48 zLk hi hz0 hz1 hz2 rfl (by decide) v 0 [] hown ad m c (zAm (zBe d A C) m) (by rw [zAV]) (fun j u hu => by
    have hm0 : 0 < m := by
     rcases Nat.eq_zero_or_pos m with h1 | h1
     · subst h1; simp [zAm] at hu
     · exact h1
    rw [had hm0]; exact (zGx hz j u hu).1) (fun u hu => by
    obtain ⟨j, hj⟩ := List.getElem?_of_mem hu
    exact (zGx hz j u hj).2) (by unfold maxLen; omega) (by omega) hb
   unfold Oper.wp execOp
   simp only [ho, resolve, invoke, builtin, Sem.run_bind, Sem.run_pure, Result.andThen_ok, List.map_toArray, List.map_cons, List.map_nil, hs, hx, hr]
   rw [Nat.zero_add] at h2
   exact fin v' w' h2 h3 h5
theorem N3.gr2 {W W' : World} {b : Nat} {x0 x1 x2 : Value} {row : Option Nat} (h : N3 W b x0 x1 x2) (hg : W.grownBy W' row) (hne : some b ≠ row) : N3 W' b x0 x1 x2 := by
 have hblk := hg.block b h.lt hne
 have hc : ∀ i, W'.cell? ⟨b, i, none⟩ = W.cell? ⟨b, i, none⟩ := fun i => World.cell?_of_block (a := ⟨b, i, none⟩) hblk
 exact ⟨(hc 0).trans h.c0, (hc 1).trans h.c1, (hc 2).trans h.c2, fun i => (World.frozen?_of_block (a := ⟨b, i, none⟩) hblk).trans (h.z i), Nat.lt_of_lt_of_le h.lt hg.size⟩
attribute [local irreducible] Calls
def mps (b : Bool) (x : Nat) : Nat := if b then x else 0
def mpf (b : Bool) : Int := if b then 0 else 233
theorem zKS (w : World) [Tb w] (n m : Nat) (hn : n ≤ 64) (hm : m ≤ 64) (ob oc al : Option Addr) (cb cc cl : Nat) (B C : Nat → Option (Int × Int)) (A : Nat → Int) [hB : DZ w ob (n * n) cb B] [hC : DZ w oc (m * m) cc C] [hA : IZ w al m cl A] (hNB : ∀ i, IsN (B i)) (hNC : ∀ i, IsN (C i)) (hbB : zA5 B (n * n) = false) (hbC : zA5 C (m * m) = false) (hrows : zBA A n m = true) (ok : Bool) (hok : ok = zCr B C (asP A n m) (m * m)) :
 Calls Tryz.prog 33 #[.agg #[.int .i64 n, .int .i64 n, .slice ob (n * n) cb], .slice al m cl, .agg #[.int .i64 m, .int .i64 m, .slice oc (m * m) cc]] w fun o w' => ∃ oa ocp, o = .returned (.tuple #[.agg #[.int .i64 (mps ok n : Nat), .int .i64 (mps ok n : Nat), .slice oa (mps ok (n * n)) ocp], .int .i64 (mpf ok)]) ∧ DZ w' oa (mps ok (n * n)) ocp (zCs B C (asP A n m) (m * m)) ∧ From w w' := by
 have HC1 := fun W [i : DZ W ob (n * n) cb B] [Tb W] => Lib.hid (frm (zB5 i fun L h1 h2 => zAw W tb n n ob (n * n) cb L h1 h2))
 have HC2 := fun W [i : DZ W oc (m * m) cc C] [Tb W] => Lib.hid (frm (zB5 i fun L h1 h2 => zAw W tb m m oc (m * m) cc L h1 h2))
 rw [zBb hn hn hbB] at HC1
 rw [zBb hm hm hbC] at HC2
 have HRO := fun W [IZ W al m cl A] => Lib.hid (frm (zEH W al m cl A (n : Int)))
 rw [hrows] at HRO
 obtain ⟨P, hP⟩ : ∃ P, P = asP A n m := ⟨_, rfl⟩
 have HROW : Hid (∀ i, i < m → 0 ≤ A i ∧ A i < n) := Lib.hid fun i hi => ⟨(zCv hrows hi).1, (zCv hrows hi).2.1⟩
 have HP : Hid (∀ i j, i < m → P (j * m + i) = (A j).toNat * n + (A i).toNat) := Lib.hid fun i j hi => by rw [hP]; exact zMY hi
 rw [← hP] at hok ⊢
 have HOK := Lib.hid hok
 have HNB := Lib.hid hNB
 have HNC := Lib.hid hNC
 obtain ⟨Q, hQ⟩ : ∃ Q, Q = n * n := ⟨_, rfl⟩
 obtain ⟨M, hM⟩ : ∃ M, M = m * m := ⟨_, rfl⟩
 have HQ := Lib.hid hQ
 have HM := Lib.hid hM
 have hQ4 : Q ≤ 4096 := by rw [hQ]; exact Nat.mul_le_mul hn hn
 rw [← hQ] at HC1 ⊢
 rw [← hM] at HC2 ⊢
 haveI dB : DZ w ob Q cb B := by rw [hQ]; exact hB
 haveI dC : DZ w oc M cc C := by rw [hM]; exact hC
 have hmk := fun W => zFo Q (by omega) W
 have hlB := dB.out.fits
 clear hP hok hrows hQ hM hbB hbC hNB hNC hB hC
 go_enter Tryz.func33, Tryz.ntmps33
 go_wp2_with fail
 refine (HC1 _).out.mono ?_; rintro o w1 ⟨rfl, b1⟩
 go_wp2_with fail
 refine (HC2 _).out.mono ?_; rintro o w2' ⟨rfl, b2⟩
 have e1 := b1.out.size
 have e2 := b2.out.size
 simp at e1
 clear HC1 HC2
 go_wp2_with fail
 refine (HRO _).out.mono ?_; rintro o w2 ⟨rfl, b3⟩
 have e3 := b3.out.size
 (try simp at e3)
 clear HRO
 go_wp2_with fail
 go_cut [10] (fun vb wx => ∃ (bo : Nat) (ea : Option Addr) (ec : Nat) (A' : Nat → Option Addr) (C' : Nat → Nat), vb = .pointer (some ⟨bo, 0, none⟩) ∧ DX wx w2.heap.size (.slice ea Q ec) Q (fun _ => some (0, 0)) A' C' ∧ N3 wx bo (.int .i64 n) (.int .i64 n) (.slice ea Q ec) ∧ some bo ≠ ((.slice ea Q ec) : Value).ownBlock ∧ w2.heap.size ≤ bo ∧ Below w2.heap.size w2 wx ∧ LimF Q (fun _ => some (0, 0)) A' (w.heap.size + 1 + 1))
 case first =>
  refine bgj (fun w' => Below w2.heap.size w2 w') [10] (by kernel_rfl) (zbh) (fun hHeld => ?_)
  simp only [List.size_toArray, List.length_cons, List.length_nil, Nat.reduceAdd, Array.replicate_succ, Array.replicate_zero, List.push_toArray, List.nil_append, List.cons_append]
  refine tk 0 54 [1, 8, 10] ?_
  refine tk 1 55 [8, 10] ?_
  refine tk 2 56 [3, 8, 10] ?_
  refine tk 3 57 [8, 10] ?_
  refine tk 4 58 [5, 6, 7, 8, 10] ?_
  refine tk 5 59 [6, 7, 8, 10] ?_
  refine tk 6 60 [7, 8, 10] ?_
  refine zPg 7 9 (h := fun K hK => ?_) (h' := fun K hK => ?_)
  · go_simp
    refine hK.out _ _ (Or.inr zbh) ?_
    clear hK K
    try simp only [List.setIfInBounds_toArray, List.set_cons_zero, List.set_cons_succ]
    refine tk 8 62 [10] ?_
    refine stj 9 (h := fun K hK => ?_)
    go_simp
    refine hK.out _ _ (Or.inr zbh) ?_
    clear hK K
    try simp only [List.setIfInBounds_toArray, List.set_cons_zero, List.set_cons_succ]
    refine stj 10 (h := fun K hK => ?_)
    go_simp
    refine hK.out _ _ (Or.inl (by decide)) ?_
    clear hK K
    try simp only [List.setIfInBounds_toArray, List.set_cons_zero, List.set_cons_succ]
    refine enj (by kernel_rfl) ?_ _
    haveI X0 : DX (w2.alloc (.cells (madeCells #[.bool false, .bool false, .slice none 0 0, .int .i64 0] (Q * 4)) 46)) w2.heap.size (.slice (some ⟨w2.heap.size, 0, none⟩) Q Q) Q (fun _ => some (0, 0)) (fun _ => none) (fun _ => 0) := ⟨zDu Q (by omega) w2 w2.heap.size (Nat.le_refl _) rfl⟩
    have X1 : DX (((w2.alloc (.cells (madeCells #[.bool false, .bool false, .slice none 0 0, .int .i64 0] (Q * 4)) 46)).alloc (.cells #[.int .i64 n, .int .i64 n, .slice (some ⟨w2.heap.size, 0, none⟩) Q Q] 25)).drew) w2.heap.size (.slice (some ⟨w2.heap.size, 0, none⟩) Q Q) Q (fun _ => some (0, 0)) (fun _ => none) (fun _ => 0) := inferInstance
    have N1 : N3 (((w2.alloc (.cells (madeCells #[.bool false, .bool false, .slice none 0 0, .int .i64 0] (Q * 4)) 46)).alloc (.cells #[.int .i64 n, .int .i64 n, .slice (some ⟨w2.heap.size, 0, none⟩) Q Q] 25)).drew) (w2.heap.size + 1) (.int .i64 n) (.int .i64 n) (.slice (some ⟨w2.heap.size, 0, none⟩) Q Q) := inferInstance
    have L2 : Below w2.heap.size w2 (((w2.alloc (.cells (madeCells #[.bool false, .bool false, .slice none 0 0, .int .i64 0] (Q * 4)) 46)).alloc (.cells #[.int .i64 n, .int .i64 n, .slice (some ⟨w2.heap.size, 0, none⟩) Q Q] 25)).drew) := zbh
    go_wp2_with fail
    go_meet
    exact ⟨w2.heap.size + 1, some ⟨w2.heap.size, 0, none⟩, Q, _, _, rfl, X1, N1, by simp [Value.ownBlock], Nat.le_succ _, L2, fun t _ h => absurd (show 0 < nl (zA1 (some ((0 : Int), (0 : Int)))).natAbs from h) (by decide)⟩
  · go_simp
    refine hK.out _ _ (Or.inr zbh) ?_
    clear hK K
    try simp only [List.setIfInBounds_toArray, List.set_cons_zero, List.set_cons_succ]
    refine stj 7 (h := fun K hK => ?_)
    go_simp
    refine hK.out _ _ (Or.inr zbh) ?_
    clear hK K
    try simp only [List.setIfInBounds_toArray, List.set_cons_zero, List.set_cons_succ]
    refine tk 8 62 [10] ?_
    refine stj 10 (h := fun K hK => ?_)
    go_simp
    refine hK.out _ _ (Or.inl (by decide)) ?_
    clear hK K
    try simp only [List.setIfInBounds_toArray, List.set_cons_zero, List.set_cons_succ]
    refine enj (by kernel_rfl) ?_ _
    haveI X0 : DX ((w2.alloc (.cells #[.int .i64 n, .int .i64 n, .slice (some ⟨w2.heap.size + 1, 0, none⟩) Q Q] 25)).alloc (.cells (madeCells #[.bool false, .bool false, .slice none 0 0, .int .i64 0] (Q * 4)) 46)) w2.heap.size (.slice (some ⟨w2.heap.size + 1, 0, none⟩) Q Q) Q (fun _ => some (0, 0)) (fun _ => none) (fun _ => 0) := ⟨zDu Q (by omega) (w2.alloc (.cells #[.int .i64 n, .int .i64 n, .slice (some ⟨w2.heap.size + 1, 0, none⟩) Q Q] 25)) w2.heap.size (by simp) (by simp)⟩
    have X1 : DX (((w2.alloc (.cells #[.int .i64 n, .int .i64 n, .slice (some ⟨w2.heap.size + 1, 0, none⟩) Q Q] 25)).alloc (.cells (madeCells #[.bool false, .bool false, .slice none 0 0, .int .i64 0] (Q * 4)) 46)).drew) w2.heap.size (.slice (some ⟨w2.heap.size + 1, 0, none⟩) Q Q) Q (fun _ => some (0, 0)) (fun _ => none) (fun _ => 0) := inferInstance
    have N1 : N3 (((w2.alloc (.cells #[.int .i64 n, .int .i64 n, .slice (some ⟨w2.heap.size + 1, 0, none⟩) Q Q] 25)).alloc (.cells (madeCells #[.bool false, .bool false, .slice none 0 0, .int .i64 0] (Q * 4)) 46)).drew) w2.heap.size (.int .i64 n) (.int .i64 n) (.slice (some ⟨w2.heap.size + 1, 0, none⟩) Q Q) := inferInstance
    have L2 : Below w2.heap.size w2 (((w2.alloc (.cells #[.int .i64 n, .int .i64 n, .slice (some ⟨w2.heap.size + 1, 0, none⟩) Q Q] 25)).alloc (.cells (madeCells #[.bool false, .bool false, .slice none 0 0, .int .i64 0] (Q * 4)) 46)).drew) := zbh
    go_wp2_with fail
    go_meet
    exact ⟨w2.heap.size, some ⟨w2.heap.size + 1, 0, none⟩, Q, _, _, rfl, X1, N1, by simp [Value.ownBlock], Nat.le_refl _, L2, fun t _ h => absurd (show 0 < nl (zA1 (some ((0 : Int), (0 : Int)))).natAbs from h) (by decide)⟩
 case rest =>
  obtain ⟨bo, ea, ec, A0, C0, rfl, iX, iO, hbo, hb0, hcb, hL0⟩ := hcut
  rename World => wb
  have iA : N3 wb (w.heap.size) (.int .i64 n) (.int .i64 n) (.slice ob Q cb) := N3.below (inferInstance : N3 w2 (w.heap.size) (.int .i64 n) (.int .i64 n) (.slice ob Q cb)) hcb
  have iC : N3 wb (w.heap.size + 1) (.int .i64 m) (.int .i64 m) (.slice oc M cc) := N3.below (inferInstance : N3 w2 (w.heap.size + 1) (.int .i64 m) (.int .i64 m) (.slice oc M cc)) hcb
  have iR : N3 wb (w.heap.size + 1 + 1) (.int .i64 0) (.int .i64 0) (.slice none 0 0) := N3.below (inferInstance : N3 w2 (w.heap.size + 1 + 1) (.int .i64 0) (.int .i64 0) (.slice none 0 0)) hcb
  have hwb : Below w.heap.size w wb := Below.trans (show Below w.heap.size w w2 from zbh) (hcb.mono (by omega))
  have hlb := iO.lt
  haveI fwb : From w wb := ⟨hwb⟩
  clear hcb
  go_wp2_with fail
  go_loopw [66] (fun x wr => ∃ (i : Nat), i ≤ Q ∧ x = .int .i64 i ∧ ∃ (A' : Nat → Option Addr) (C' : Nat → Nat), DX wr w2.heap.size (.slice ea Q ec) Q (fun t => if t < i then B t else some (0, 0)) A' C' ∧ N3 wr bo (.int .i64 n) (.int .i64 n) (.slice ea Q ec) ∧ Below w2.heap.size wb wr ∧ Below w.heap.size w wr ∧ wb.heap.size ≤ wr.heap.size ∧ LimF Q (fun t => if t < i then B t else some (0, 0)) A' (w.heap.size + 1 + 1)) (fun x _ => Q - (intOf x).toNat)
  case atStart => exact ⟨0, by omega, rfl, A0, C0, iX, iO, Below.refl _ _, hwb, Nat.le_refl _, hL0⟩
  case round =>
   obtain ⟨i, hi, rfl, A', C', iX', iO', hbb, hbr, hsz, hlf⟩ := hrel
   haveI bw : From w wr := ⟨hbr⟩
   haveI iA' := N3.lo iA hbb (by omega)
   haveI iC' := N3.lo iC hbb (by omega)
   haveI iR' := N3.lo iR hbb (by omega)
   by_cases hlt : i < Q
   · obtain ⟨g, hg, hg0, hg1, hgc, hgl⟩ := zFi iX'.out.own (by omega)
     have hbg : bo ≠ g := fun e => hbo (by rw [hg, e]; rfl)
     have HDC : Hid (∀ t, t < Q → (if t = i then B i else if t < i then B t else some (0, 0)) = if t < i + 1 then B t else some (0, 0)) := Lib.hid fun t ht => by
      by_cases h1 : t = i
      · subst h1; rw [if_pos rfl, if_pos (by omega)]
      · rw [if_neg h1]
        by_cases h2 : t < i
        · rw [if_pos h2, if_pos (by omega)]
        · rw [if_neg h2, if_neg (by omega)]
     have k1 := (inferInstance : DZ wr ob Q cb B).out.idx i hlt
     obtain ⟨A1, C1, y0, y1, y2, y3, y4⟩ := (inferInstance : DZ wr ob Q cb B).out.el hlt
     have hN := HNB.out i
     generalize B i = dk at HDC y0 y1 y2 y3 y4 hN
     have HNk := fun W a c [i1 : BI W a (nl (zA1 dk).natAbs) c (zA1 dk).natAbs] [Tb W] => Lib.hid (frF (zBY W (zAI hN i1.out) tb))
     have xi := zNz g i Q ec hlt
     subst hg
     obtain ⟨ob1, z0, z1, z2, z3, _⟩ := iX'.out.cev hlt
     generalize (if i < i then B i else some ((0 : Int), (0 : Int))) = d0 at z0 z1 z2 z3
     go_wp2_with fail
     have q1 : DX (wr.alloc (.cells #[.bool (zA3 dk), .bool (decide (zA1 dk < 0)), .slice A1 (nl (zA1 dk).natAbs) C1, .int .i64 (zA2 dk)] 46)) w2.heap.size (.slice (some ⟨g, 0, none⟩) Q ec) Q (fun t => if t < i then B t else some (0, 0)) A' C' := inferInstance
     have q2 : N3 (wr.alloc (.cells #[.bool (zA3 dk), .bool (decide (zA1 dk < 0)), .slice A1 (nl (zA1 dk).natAbs) C1, .int .i64 (zA2 dk)] 46)) bo (.int .i64 n) (.int .i64 n) (.slice (some ⟨g, 0, none⟩) Q ec) := inferInstance
     have q3 : DB (wr.alloc (.cells #[.bool (zA3 dk), .bool (decide (zA1 dk < 0)), .slice A1 (nl (zA1 dk).natAbs) C1, .int .i64 (zA2 dk)] 46)) wr.heap.size (zA3 dk) (decide (zA1 dk < 0)) (.slice A1 (nl (zA1 dk).natAbs) C1) (zA2 dk) := inferInstance
     have q4 : BI (wr.alloc (.cells #[.bool (zA3 dk), .bool (decide (zA1 dk < 0)), .slice A1 (nl (zA1 dk).natAbs) C1, .int .i64 (zA2 dk)] 46)) A1 (nl (zA1 dk).natAbs) C1 (zA1 dk).natAbs := inferInstance
     have q5 : Tb (wr.alloc (.cells #[.bool (zA3 dk), .bool (decide (zA1 dk < 0)), .slice A1 (nl (zA1 dk).natAbs) C1, .int .i64 (zA2 dk)] 46)) := inferInstance
     have q6 : Beh w (wr.alloc (.cells #[.bool (zA3 dk), .bool (decide (zA1 dk < 0)), .slice A1 (nl (zA1 dk).natAbs) C1, .int .i64 (zA2 dk)] 46)) := inferInstance
     have q7 : Beh wr (wr.alloc (.cells #[.bool (zA3 dk), .bool (decide (zA1 dk < 0)), .slice A1 (nl (zA1 dk).natAbs) C1, .int .i64 (zA2 dk)] 46)) := inferInstance
     have q8 : OB (wr.alloc (.cells #[.bool (zA3 dk), .bool (decide (zA1 dk < 0)), .slice A1 (nl (zA1 dk).natAbs) C1, .int .i64 (zA2 dk)] 46)) g := inferInstance
     have v0 : CE (wr.alloc (.cells #[.bool (zA3 dk), .bool (decide (zA1 dk < 0)), .slice A1 (nl (zA1 dk).natAbs) C1, .int .i64 (zA2 dk)] 46)) g (i * 4) (.bool (zA3 d0)) := inferInstance
     have v1 : CE (wr.alloc (.cells #[.bool (zA3 dk), .bool (decide (zA1 dk < 0)), .slice A1 (nl (zA1 dk).natAbs) C1, .int .i64 (zA2 dk)] 46)) g (i * 4 + 1) (.bool (decide (zA1 d0 < 0))) := inferInstance
     have v2 : CE (wr.alloc (.cells #[.bool (zA3 dk), .bool (decide (zA1 dk < 0)), .slice A1 (nl (zA1 dk).natAbs) C1, .int .i64 (zA2 dk)] 46)) g (i * 4 + 2) (.slice (A' i) (nl (zA1 d0).natAbs) (C' i)) := inferInstance
     have v3 : CE (wr.alloc (.cells #[.bool (zA3 dk), .bool (decide (zA1 dk < 0)), .slice A1 (nl (zA1 dk).natAbs) C1, .int .i64 (zA2 dk)] 46)) g (i * 4 + 3) (.int .i64 (zA2 d0)) := inferInstance
     generalize (wr.alloc (.cells #[.bool (zA3 dk), .bool (decide (zA1 dk < 0)), .slice A1 (nl (zA1 dk).natAbs) C1, .int .i64 (zA2 dk)] 46)) = wq at *
     generalize wr.heap.size = bd at q3
     clear z0 z1 z2 z3 y0 y1 y2 y3 y4 ob1
     refine bgj (fun w' => Below wq.heap.size wq w') [6] (by kernel_rfl) (zbh) (fun hHeld => ?_)
     simp only [List.size_toArray, List.length_cons, List.length_nil, Nat.reduceAdd, Array.replicate_succ, Array.replicate_zero, List.push_toArray, List.nil_append, List.cons_append]
     refine tk 0 71 [1, 5, 6] ?_
     refine tk 1 72 [5, 6] ?_
     refine tk 2 73 [5, 6] ?_
     refine tk 3 74 [4, 5, 6] ?_
     refine stj 4 (h := fun K hK => ?_)
     go_simp
     go_at_call 72; refine (HNk _ _ _).out.mono ?_; rintro o z1 ⟨a3, c3, rfl, i3, b3, f3⟩
     go_simp
     refine hK.out _ _ (Or.inr zbh) ?_
     clear hK K
     try simp only [List.setIfInBounds_toArray, List.set_cons_zero, List.set_cons_succ]
     refine tk 5 76 [6] ?_
     refine stj 6 (h := fun K hK => ?_)
     go_simp
     refine hK.out _ _ (Or.inl (by decide)) ?_
     clear hK K
     try simp only [List.setIfInBounds_toArray, List.set_cons_zero, List.set_cons_succ]
     refine enj (by kernel_rfl) ?_ _
     have e3 := b3.out.size
     have e7 := q7.out.size
     simp at e3
     have nf : 0 < nl (zA1 dk).natAbs → ab a3 ≠ g := fun h => by have := f3 h; simp at this; omega
     have X4 : DX z1 w2.heap.size (.slice (some ⟨g, 0, none⟩) Q ec) Q (fun t => if t < i then B t else some (0, 0)) A' C' := inferInstance
     have X5 := X4.put hlt i3 nf HDC.out
     have O4 : N3 z1 bo (.int .i64 n) (.int .i64 n) (.slice (some ⟨g, 0, none⟩) Q ec) := inferInstance
     have O5 := N3.st4 O4 hbg (i * 4) (i * 4 + 1) (i * 4 + 2) (i * 4 + 3) (.bool (zA3 dk)) (.bool (decide (zA1 dk < 0))) (.slice a3 (nl (zA1 dk).natAbs) c3) (.int .i64 (zA2 dk))
     have L4 : Below w2.heap.size wb z1 := hbb.trans ((show Below wr.heap.size wr z1 from q7.out.trans ((show Below wq.heap.size wq z1 from zbh).mono e7)).mono (by omega))
     have L5 := zCd L4 hg0 (i * 4) (i * 4 + 1) (i * 4 + 2) (i * 4 + 3) (.bool (zA3 dk)) (.bool (decide (zA1 dk < 0))) (.slice a3 (nl (zA1 dk).natAbs) c3) (.int .i64 (zA2 dk))
     have M4 : Below w.heap.size w z1 := zbh
     have M5 := zCd M4 (show w.heap.size ≤ g by omega) (i * 4) (i * 4 + 1) (i * 4 + 2) (i * 4 + 3) (.bool (zA3 dk)) (.bool (decide (zA1 dk < 0))) (.slice a3 (nl (zA1 dk).natAbs) c3) (.int .i64 (zA2 dk))
     have S5 : wb.heap.size ≤ ((((z1.setCell ⟨g, i * 4, none⟩ (.bool (zA3 dk))).setCell ⟨g, i * 4 + 1, none⟩ (.bool (decide (zA1 dk < 0)))).setCell ⟨g, i * 4 + 2, none⟩ (.slice a3 (nl (zA1 dk).natAbs) c3)).setCell ⟨g, i * 4 + 3, none⟩ (.int .i64 (zA2 dk))).heap.size := by rw [zF7]; omega
     have F5 := hlf.up (a1 := a3) (r := w.heap.size + 1 + 1) (fun h => by have := f3 h; simp at this; omega) HDC.out
     generalize ((((z1.setCell ⟨g, i * 4, none⟩ (.bool (zA3 dk))).setCell ⟨g, i * 4 + 1, none⟩ (.bool (decide (zA1 dk < 0)))).setCell ⟨g, i * 4 + 2, none⟩ (.slice a3 (nl (zA1 dk).natAbs) c3)).setCell ⟨g, i * 4 + 3, none⟩ (.int .i64 (zA2 dk))) = u1 at *
     clear X4 O4 L4 M4 q1 q2 q3 q4 q8 v0 v1 v2 v3
     go_wp2_with fail
     go_roundw
     case rel => exact ⟨i + 1, by omega, by go_num, _, _, X5, O5, L5, M5, S5, F5⟩
     case measure => simp [intOf]; omega
   · have hiQ : Q = i := by omega
     have iX5 : DX wr w2.heap.size (.slice ea Q ec) Q (zCs B C P 0) A' C' := ⟨iX'.out.congr fun t ht => by show (if t < i then B t else some (0, 0)) = B t; rw [if_pos (by omega)]⟩
     have hlf5 : LimF Q (zCs B C P 0) A' (w.heap.size + 1 + 1) := hlf.to fun t ht => by show (if t < i then B t else some (0, 0)) = B t; rw [if_pos (by omega)]
     subst hiQ
     clear iX' hlf
     rename World => wc
     go_wp2_with fail
     go_loopw [80] (fun x wr => ∃ (j : Nat), j ≤ m ∧ x = .int .i64 j ∧ zCr B C P (j * m) = true ∧ ∃ (A' : Nat → Option Addr) (C' : Nat → Nat), DX wr w2.heap.size (.slice ea Q ec) Q (zCs B C P (j * m)) A' C' ∧ N3 wr bo (.int .i64 n) (.int .i64 n) (.slice ea Q ec) ∧ Below w2.heap.size wb wr ∧ Below w.heap.size w wr ∧ wb.heap.size ≤ wr.heap.size ∧ LimF Q (zCs B C P (j * m)) A' (w.heap.size + 1 + 1)) (fun x _ => m - (intOf x).toNat)
     case atStart => exact ⟨0, by omega, rfl, by rw [Nat.zero_mul]; rfl, A', C', by rw [Nat.zero_mul]; exact iX5, iO', hbb, bw.out, hsz, by rw [Nat.zero_mul]; exact hlf5⟩
     case round =>
      clear iX5 iO' hbb bw hsz hlf5 iA' iC' iR'
      obtain ⟨j, hj, rfl, hal, A', C', iX', iO', hbb, hbr, hsz, hlf⟩ := hrel
      by_cases hltj : j < m
      · obtain ⟨q, hq⟩ : ∃ q, q = j * m := ⟨_, rfl⟩
        have hq1 : q + m ≤ M := by rw [hq, HM.out]; have := Nat.mul_le_mul_right m (show j + 1 ≤ m by omega); rwa [Nat.add_mul, Nat.one_mul] at this
        have hM4 : M ≤ 4096 := by rw [HM.out]; exact Nat.mul_le_mul hm hm
        have l2 : (j : Int) * (m : Int) = (q : Int) := by rw [hq]; exact (Int.natCast_mul _ _).symm
        have HQJ := Lib.hid hq
        rw [← hq] at hal iX' hlf
        have HAL0 := Lib.hid hal
        have HBJ := HROW.out j hltj
        obtain ⟨pj, hpj⟩ : ∃ pj, pj = (A j).toNat := ⟨_, rfl⟩
        have hAj : A j = (pj : Int) := by omega
        have hpn : pj < n := by omega
        obtain ⟨K, hK⟩ : ∃ K, K = pj * n := ⟨_, rfl⟩
        have l3 : (pj : Int) * (n : Int) = (K : Int) := by rw [hK]; exact (Int.natCast_mul _ _).symm
        have hKQ : K + n ≤ Q := by rw [hK, HQ.out]; have := Nat.mul_le_mul_right n (show pj + 1 ≤ n by omega); rwa [Nat.add_mul, Nat.one_mul] at this
        have HPJ : Hid (∀ i, i < m → P (q + i) = K + (A i).toNat) := Lib.hid fun i hi => by rw [hq, HP.out i j hi, hK, hpj]
        have HAJ := Lib.hid hAj
        haveI bw0 : From w wr := ⟨hbr⟩
        haveI iA' := N3.lo iA hbb (by omega)
        haveI iC' := N3.lo iC hbb (by omega)
        haveI iR' := N3.lo iR hbb (by omega)
        clear hq hal hK hpj hAj HBJ
        go_wp2_with fail
        go_loopw [85] (fun x wr => ∃ (i : Nat), i ≤ m ∧ x = .int .i64 i ∧ zCr B C P (q + i) = true ∧ ∃ (A' : Nat → Option Addr) (C' : Nat → Nat), DX wr w2.heap.size (.slice ea Q ec) Q (zCs B C P (q + i)) A' C' ∧ N3 wr bo (.int .i64 n) (.int .i64 n) (.slice ea Q ec) ∧ Below w2.heap.size wb wr ∧ Below w.heap.size w wr ∧ wb.heap.size ≤ wr.heap.size ∧ LimF Q (zCs B C P (q + i)) A' (w.heap.size + 1 + 1)) (fun x _ => m - (intOf x).toNat)
        case atStart => exact ⟨0, by omega, rfl, HAL0.out, A', C', iX', iO', hbb, hbr, hsz, hlf⟩
        case round =>
         clear iX' iO' hbb hbr hsz hlf bw0 iA' iC' iR' HAL0
         obtain ⟨i, hi, rfl, hal, A', C', iX', iO', hbb, hbr, hsz, hlf⟩ := hrel
         have HAL := Lib.hid hal
         clear hal
         haveI bw : From w wr := ⟨hbr⟩
         haveI iA' := N3.lo iA hbb (by omega)
         haveI iC' := N3.lo iC hbb (by omega)
         haveI iR' := N3.lo iR hbb (by omega)
         by_cases hlti : i < m
         · have HBI := HROW.out i hlti
           obtain ⟨pi, hpi⟩ : ∃ pi, pi = (A i).toNat := ⟨_, rfl⟩
           have hAi : A i = (pi : Int) := by omega
           have hpin : pi < n := by omega
           have hPX : P (q + i) = K + pi := by rw [HPJ.out i hlti, hpi]
           have hKp : K + pi < Q := by omega
           have k1 := (inferInstance : IZ wr al m cl A).out
           have y1 := k1.idx j hltj
           have y2 := k1.idx i hlti
           haveI t1 : CE wr (ab al) (ao al + j) (.int .i64 (pj : Int)) := ⟨by rw [← HAJ.out]; exact k1.cell j hltj, k1.old (by omega)⟩
           haveI t2 : CE wr (ab al) (ao al + i) (.int .i64 (pi : Int)) := ⟨by rw [← hAi]; exact k1.cell i hlti, k1.old (by omega)⟩
           obtain ⟨g, hg, hg0, hg1, hgc, hgl⟩ := zFi iX'.out.own (by omega)
           have hbg : bo ≠ g := fun e => hbo (by rw [hg, e]; rfl)
           have xi := zNz g (K + pi) Q ec hKp
           rw [show (((K + pi : Nat)) : Int) = (K : Int) + (pi : Int) by omega] at xi
           have yc := (inferInstance : DZ wr oc M cc C).out.idx (q + i) (by omega)
           rw [show (((q + i : Nat)) : Int) = (q : Int) + (i : Int) by omega] at yc
           obtain ⟨A2, C2, u0, u1', u2, u3, u4⟩ := (inferInstance : DZ wr oc M cc C).out.el (i := q + i) (by omega)
           have HNc := Lib.hid (HNC.out (q + i))
           obtain ⟨dc, hdc⟩ : ∃ dc, C (q + i) = dc := ⟨_, rfl⟩
           rw [hdc] at u0 u1' u2 u3 u4 HNc
           have HN0 := Lib.hid (zDX (C := C) (P := P) HNB.out (q + i) (K + pi))
           obtain ⟨dk0, hd0⟩ : ∃ dk0, zCs B C P (q + i) (K + pi) = dk0 := ⟨_, rfl⟩
           subst hg
           obtain ⟨ob1, z0, z1', z2', z3, z4⟩ := iX'.out.cev hKp
           rw [hd0] at z0 z1' z2' z3 z4 HN0
           obtain ⟨dk, hdk⟩ : ∃ dk, zEX dk0 dc = dk := ⟨_, rfl⟩
           have HNk : Hid (IsN dk) := Lib.hid (by rw [← hdk]; exact zFu _ _)
           have HDC : Hid (∀ t, t < Q → (if t = K + pi then dk else zCs B C P (q + i) t) = zCs B C P (q + i + 1) t) := Lib.hid fun t _ => by
            show _ = if t = P (q + i) then zEX (zCs B C P (q + i) (P (q + i))) (C (q + i)) else zCs B C P (q + i) t
            rw [hPX, hd0, hdc, hdk]
           have HDV : Hid (zCs B C P (q + i + 1) (K + pi) = dk) := Lib.hid (by rw [← HDC.out _ hKp, if_pos rfl])
           have HST : Hid (zCr B C P (q + i + 1) = !zA3 dk) := Lib.hid (by show (zCr B C P (q + i) && !zA3 (zEX (zCs B C P (q + i) (P (q + i))) (C (q + i)))) = _; rw [HAL.out, hPX, hd0, hdc, hdk]; rfl)
           have HBD : Hid (zA3 dk = true → zCr B C P M = false) := Lib.hid fun h => zI0 (s := q + i) (by omega) (by rw [hPX, hd0, hdc, hdk]; exact h)
           have HAD := fun W a c a' c' [i1 : BI W a (nl (zA1 dk0).natAbs) c (zA1 dk0).natAbs] [i2 : BI W a' (nl (zA1 dc).natAbs) c' (zA1 dc).natAbs] [Tb W] => Lib.hid (frF (zMn W _ _ _ _ a a' _ _ c c' _ _ dk0 dc (zAI HN0.out i1.out) (zAI HNc.out i2.out) tb))
           rw [hdk] at HAD
           have HVs := fun W a c [i1 : BI W a (nl (zA1 dk).natAbs) c (zA1 dk).natAbs] [Tb W] => Lib.hid (frm (by
            have hb := zA7 HNk.out
            have h := zCJ W (zA3 dk) (decide (zA1 dk < 0)) a (nl (zA1 dk).natAbs) c (zA1 dk).natAbs (zA2 dk) i1.out (Nat.le_trans (zAe _) (by omega)) tb (by omega) (zDC (by omega)) (by omega) (by omega)
            rwa [show zFm (zA3 dk) (sgn (decide (zA1 dk < 0)) (zA1 dk).natAbs) (zA2 dk) = dk from by rw [zAg]; exact zCF HNk.out] at h))
           have x1 : IntKind.i64.wrap (K : Int) = (K : Int) := by rw [IntKind.wrap_i64]; omega
           have x2 : IntKind.i64.wrap ((K : Int) + (pi : Int)) = (K : Int) + (pi : Int) := by rw [IntKind.wrap_i64]; omega
           have x3 : IntKind.i64.wrap (q : Int) = (q : Int) := by rw [IntKind.wrap_i64]; omega
           have x4 : IntKind.i64.wrap ((q : Int) + (i : Int)) = (q : Int) + (i : Int) := by rw [IntKind.wrap_i64]; omega
           clear hpi hAi hPX hdc hd0 hdk k1 HBI
           go_wp2_with fail
           go_quiet (fail)
           go_wp2_with fail
           refine bgj (fun w' => Below wr.heap.size wr w') [20] (by kernel_rfl) (zbh) (fun hHeld => ?_)
           simp only [List.size_toArray, List.length_cons, List.length_nil, Nat.reduceAdd, Array.replicate_succ, Array.replicate_zero, List.push_toArray, List.nil_append, List.cons_append]
           refine tk 0 100 [1, 19, 20] ?_
           refine tk 1 101 [19, 20] ?_
           refine tk 2 102 [19, 20] ?_
           refine tk 3 103 [4, 6, 7, 18, 19, 20] ?_
           refine tk 4 104 [6, 7, 18, 19, 20] ?_
           refine tk 5 105 [6, 7, 18, 19, 20] ?_
           refine tk 6 106 [7, 18, 19, 20] ?_
           refine tk 7 107 [18, 19, 20] ?_
           refine tk 8 108 [9, 16, 17, 18, 19, 20] ?_
           refine tk 9 109 [16, 17, 18, 19, 20] ?_
           refine tk 10 110 [13, 15, 16, 17, 18, 19, 20] ?_
           refine tk 11 111 [12, 13, 15, 16, 17, 18, 19, 20] ?_
           refine tk 12 112 [13, 15, 16, 17, 18, 19, 20] ?_
           refine tk 13 113 [15, 16, 17, 18, 19, 20] ?_
           refine tk 14 114 [15, 16, 17, 18, 19, 20] ?_
           refine tk 15 115 [16, 17, 18, 19, 20] ?_
           refine tk 16 116 [17, 18, 19, 20] ?_
           refine tk 17 117 [18, 19, 20] ?_
           refine stj 18 (h := fun K hK => ?_)
           go_simp
           go_at_call 73; refine (HAD _ _ _ _ _).out.mono ?_; rintro o z1 ⟨a3, c3, rfl, i3, b3, f3⟩
           go_simp
           refine hK.out _ _ (Or.inr zbh) ?_
           clear hK K
           try simp only [List.setIfInBounds_toArray, List.set_cons_zero, List.set_cons_succ]
           refine tk 19 119 [20] ?_
           refine stj 20 (h := fun K hK => ?_)
           go_simp
           refine hK.out _ _ (Or.inl (by decide)) ?_
           clear hK K
           try simp only [List.setIfInBounds_toArray, List.set_cons_zero, List.set_cons_succ]
           refine enj (by kernel_rfl) ?_ _
           have e3 : wr.heap.size ≤ z1.heap.size := @Beh.size wr z1 inferInstance
           have nf : 0 < nl (zA1 dk).natAbs → ab a3 ≠ g := fun h => by have := Nat.le_trans (@Beh.size wr _ inferInstance) (f3 h); omega
           have X4 : DX z1 w2.heap.size (.slice (some ⟨g, 0, none⟩) Q ec) Q (zCs B C P (q + i)) A' C' := inferInstance
           have X5 := X4.put hKp i3 nf HDC.out
           have O4 : N3 z1 bo (.int .i64 n) (.int .i64 n) (.slice (some ⟨g, 0, none⟩) Q ec) := inferInstance
           have O5 := N3.st4 O4 hbg ((K + pi) * 4) ((K + pi) * 4 + 1) ((K + pi) * 4 + 2) ((K + pi) * 4 + 3) (.bool (zA3 dk)) (.bool (decide (zA1 dk < 0))) (.slice a3 (nl (zA1 dk).natAbs) c3) (.int .i64 (zA2 dk))
           have L4 : Below w2.heap.size wb z1 := hbb.trans ((show Below wr.heap.size wr z1 from zbh).mono (by omega))
           have L5 := zCd L4 hg0 ((K + pi) * 4) ((K + pi) * 4 + 1) ((K + pi) * 4 + 2) ((K + pi) * 4 + 3) (.bool (zA3 dk)) (.bool (decide (zA1 dk < 0))) (.slice a3 (nl (zA1 dk).natAbs) c3) (.int .i64 (zA2 dk))
           have M4 : Below w.heap.size w z1 := zbh
           have M5 := zCd M4 (show w.heap.size ≤ g by omega) ((K + pi) * 4) ((K + pi) * 4 + 1) ((K + pi) * 4 + 2) ((K + pi) * 4 + 3) (.bool (zA3 dk)) (.bool (decide (zA1 dk < 0))) (.slice a3 (nl (zA1 dk).natAbs) c3) (.int .i64 (zA2 dk))
           have S5 : wb.heap.size ≤ ((((z1.setCell ⟨g, (K + pi) * 4, none⟩ (.bool (zA3 dk))).setCell ⟨g, (K + pi) * 4 + 1, none⟩ (.bool (decide (zA1 dk < 0)))).setCell ⟨g, (K + pi) * 4 + 2, none⟩ (.slice a3 (nl (zA1 dk).natAbs) c3)).setCell ⟨g, (K + pi) * 4 + 3, none⟩ (.int .i64 (zA2 dk))).heap.size := by rw [zF7]; omega
           have F5 := hlf.up (a1 := a3) (r := w.heap.size + 1 + 1) (fun h => by have := Nat.le_trans (@Beh.size wr _ inferInstance) (f3 h); omega) HDC.out
           generalize ((((z1.setCell ⟨g, (K + pi) * 4, none⟩ (.bool (zA3 dk))).setCell ⟨g, (K + pi) * 4 + 1, none⟩ (.bool (decide (zA1 dk < 0)))).setCell ⟨g, (K + pi) * 4 + 2, none⟩ (.slice a3 (nl (zA1 dk).natAbs) c3)).setCell ⟨g, (K + pi) * 4 + 3, none⟩ (.int .i64 (zA2 dk))) = u1 at *
           clear X4 O4 L4 M4 z0 z1' z2' z3 z4 u0 u1' u2 u3 u4 ob1 iX' iO' hbb hbr bw iA' iC' iR' t1 t2 i3 b3 f3 HAD hlf
           haveI f5 : From w u1 := ⟨M5⟩
           obtain ⟨ob1, z0, z1', z2', z3, z4⟩ := X5.out.cev hKp
           rw [HDV.out] at z0 z1' z2' z3 z4
           simp only [↓reduceIte] at z2' z4
           haveI iR5 := N3.lo iR L5 (by omega)
           by_cases hb : zA3 dk = true
           · have hk : ok = false := by rw [HOK.out, ← HM.out]; exact HBD.out hb
             rw [hb] at HVs
             simp only [hb] at z0
             subst hk
             clear HBD HST HOK
             go_wp2_with fail
             refine (HVs _ _ _).out.mono ?_; rintro o v2 ⟨rfl, b2'⟩
             have L6 : Below w.heap.size w v2 := zbh
             clear HVs
             go_wp2_with fail
             refine bodyPost_ret (v := .tuple #[.agg #[.int .i64 0, .int .i64 0, .slice none 0 0], .int .i64 233]) (by simp only [results, Tryz.results33]; go_simp) rfl ?_
             exact ⟨none, 0, rfl, ⟨zCS _ _⟩, ⟨((L6.setCell (p := ⟨w.heap.size + 1 + 1, 0, none⟩) (by show w.heap.size ≤ w.heap.size + 1 + 1; omega) _).setCell (p := ⟨w.heap.size + 1 + 1, 1, none⟩) (by show w.heap.size ≤ w.heap.size + 1 + 1; omega) _).setCell (p := ⟨w.heap.size + 1 + 1, 2, none⟩) (by show w.heap.size ≤ w.heap.size + 1 + 1; omega) _⟩⟩
           · have hb' : zA3 dk = false := by simpa using hb
             have HST2 : Hid (zCr B C P (q + i + 1) = true) := Lib.hid (by rw [HST.out, hb']; rfl)
             rw [hb'] at HVs
             simp only [hb'] at z0
             clear HBD HST hb hb'
             go_wp2_with fail
             refine (HVs _ _ _).out.mono ?_; rintro o v2 ⟨rfl, b2'⟩
             have X6 : DX v2 w2.heap.size (.slice (some ⟨g, 0, none⟩) Q ec) Q (zCs B C P (q + i + 1)) _ _ := inferInstance
             have O6 : N3 v2 bo (.int .i64 n) (.int .i64 n) (.slice (some ⟨g, 0, none⟩) Q ec) := inferInstance
             have L6 : Below w2.heap.size wb v2 := L5.trans ((show Below u1.heap.size u1 v2 from zbh).mono (by omega))
             have M6 : Below w.heap.size w v2 := zbh
             have S6 : wb.heap.size ≤ v2.heap.size := Nat.le_trans S5 (@Beh.size u1 v2 inferInstance)
             clear HVs
             go_wp2_with fail
             go_roundw
             case rel => exact ⟨i + 1, by omega, by go_num, HST2.out, _, _, X6, O6, L6, M6, S6, F5⟩
             case measure => simp [intOf]; omega
         · have him : i = m := by omega
           have hjm : (j + 1) * m = q + i := by rw [Nat.add_mul, Nat.one_mul, ← HQJ.out, him]
           have HA2 : Hid (zCr B C P ((j + 1) * m) = true) := Lib.hid (by rw [hjm]; exact HAL.out)
           rw [← hjm] at iX' hlf
           clear him hjm
           go_wp2_with fail
           go_roundw
           case rel => exact ⟨j + 1, by omega, by go_num, HA2.out, A', C', iX', iO', hbb, hbr, hsz, hlf⟩
           case measure => simp [intOf]; omega
      · have hjm : j = m := by omega
        have hk : ok = true := by rw [HOK.out]; rw [hjm] at hal; exact hal
        have hmm : j * m = m * m := by rw [hjm]
        rw [hmm] at iX' hlf
        subst hk
        haveI bw : From w wr := ⟨hbr⟩
        haveI iR' := N3.lo iR hbb (by omega)
        have X6 := DX.set3 iX' (b := w.heap.size + 1 + 1) (zDF iX'.out.own (by omega)) hlf (.int .i64 n) (.int .i64 n) (.slice ea Q ec)
        obtain ⟨oa', oc', hv', hZ⟩ := X6.out.dz (fun t => zDX (C := C) (P := P) HNB.out (m * m) t)
        injection hv' with v1 v2 v3
        rw [← HM.out] at hZ
        have L6 := ((hbr.setCell (p := ⟨w.heap.size + 1 + 1, 0, none⟩) (by show w.heap.size ≤ w.heap.size + 1 + 1; omega) (.int .i64 n)).setCell (p := ⟨w.heap.size + 1 + 1, 1, none⟩) (by show w.heap.size ≤ w.heap.size + 1 + 1; omega) (.int .i64 n)).setCell (p := ⟨w.heap.size + 1 + 1, 2, none⟩) (by show w.heap.size ≤ w.heap.size + 1 + 1; omega) (.slice ea Q ec)
        clear hjm hmm hal X6
        go_wp2_with fail
        refine bodyPost_ret (v := .tuple #[.agg #[.int .i64 n, .int .i64 n, (.slice ea Q ec)], .int .i64 0]) (by simp only [results, Tryz.results33]; go_simp) rfl ?_
        subst v1 v3
        exact ⟨_, _, rfl, ⟨hZ⟩, ⟨L6⟩⟩
theorem zJL (w : World) [Tb w] (n m : Nat) (hn : n ≤ 64) (hm : m ≤ 64) (ob oc al : Option Addr) (cb cc cl : Nat) (B C : Nat → Option (Int × Int)) (A : Nat → Int) [hB : DZ w ob (n * n) cb B] [hC : DZ w oc (m * m) cc C] [hA : IZ w al m cl A] (hNB : ∀ i, IsN (B i)) (hNC : ∀ i, IsN (C i)) (hbB : zA5 B (n * n) = false) (hbC : zA5 C (m * m) = false) (hrows : zBA A n m = true) (ok : Bool) (hok : ok = zCr B C (asP A n m) (m * m)) :
 Calls Tryz.prog 34 #[.agg #[.int .i64 n, .int .i64 n, .slice ob (n * n) cb], .slice al m cl, .agg #[.int .i64 m, .int .i64 m, .slice oc (m * m) cc]] w fun o w' => ∃ oa ocp, o = .returned (.tuple #[.agg #[.int .i64 (mps ok n : Nat), .int .i64 (mps ok n : Nat), .slice oa (mps ok (n * n)) ocp], .int .i64 (mpf ok)]) ∧ DZ w' oa (mps ok (n * n)) ocp (zCs B C (asP A n m) (m * m)) ∧ From w w' := by
 have HC1 := fun W [i : DZ W ob (n * n) cb B] [Tb W] => Lib.hid (frm (zB5 i fun L h1 h2 => zAv W tb n n ob (n * n) cb L h1 h2))
 have HC2 := fun W [i : DZ W oc (m * m) cc C] [Tb W] => Lib.hid (frm (zB5 i fun L h1 h2 => zAv W tb m m oc (m * m) cc L h1 h2))
 rw [zBb hn hn hbB] at HC1
 rw [zBb hm hm hbC] at HC2
 obtain ⟨P, hP⟩ : ∃ P, P = asP A n m := ⟨_, rfl⟩
 have HROW : Hid (∀ i, i < m → 0 ≤ A i ∧ A i < n) := Lib.hid fun i hi => ⟨(zCv hrows hi).1, (zCv hrows hi).2.1⟩
 have HRW : Hid (∀ i, i < m → 0 ≤ A i ∧ A i < n ∧ (i = 0 ∨ A (i - 1) < A i)) := Lib.hid fun i hi => zCv hrows hi
 have HP : Hid (∀ i j, i < m → P (j * m + i) = (A j).toNat * n + (A i).toNat) := Lib.hid fun i j hi => by rw [hP]; exact zMY hi
 rw [← hP] at hok ⊢
 have HOK := Lib.hid hok
 have HNB := Lib.hid hNB
 have HNC := Lib.hid hNC
 obtain ⟨Q, hQ⟩ : ∃ Q, Q = n * n := ⟨_, rfl⟩
 obtain ⟨M, hM⟩ : ∃ M, M = m * m := ⟨_, rfl⟩
 have HQ := Lib.hid hQ
 have HM := Lib.hid hM
 have hQ4 : Q ≤ 4096 := by rw [hQ]; exact Nat.mul_le_mul hn hn
 rw [← hQ] at HC1 ⊢
 rw [← hM] at HC2 ⊢
 haveI dB : DZ w ob Q cb B := by rw [hQ]; exact hB
 haveI dC : DZ w oc M cc C := by rw [hM]; exact hC
 have hlB := dB.out.fits
 obtain ⟨AB, CB, hdb⟩ := dB.out.ex
 have hlw : ∀ i, i < Q → 0 < nl (zA1 (B i)).natAbs → ab (AB i) < w.heap.size := fun i hi hp => (hdb.m i hi).old hp
 have HLW := Lib.hid hlw
 have HLF : Hid (LimF Q B AB (w.heap.size + 1 + 1)) := Lib.hid fun t ht hp => by have := hlw t ht hp; omega
 have HDB := Lib.hid hdb
 clear hP hok hrows hQ hM hbB hbC hNB hNC hB hC hdb hlw
 go_enter Tryz.func34, Tryz.ntmps34
 go_wp2_with fail
 refine (HC1 _).out.mono ?_; rintro o w1 ⟨rfl, b1⟩
 go_wp2_with fail
 refine (HC2 _).out.mono ?_; rintro o w2' ⟨rfl, b2⟩
 have e1 := b1.out.size
 have e2 := b2.out.size
 simp at e1
 clear HC1 HC2
 go_wp2_with fail
 go_loopw [10] (fun x wr => ∃ i : Nat, i ≤ m ∧ x = .int .i64 i ∧ Below w2'.heap.size w2' wr) (fun x _ => m - (intOf x).toNat)
 case atStart => exact ⟨0, by omega, rfl, zbh⟩
 case round =>
  obtain ⟨i, hi, rfl, hbr⟩ := hrel
  haveI bw : From w2' wr := ⟨hbr⟩
  by_cases hlt : i < m
  · have hy := HRW.out i hlt
    have k1 := (inferInstance : IZ wr al m cl A).out
    have y1 := k1.idx i hlt
    haveI z1 : CE wr (ab al) (ao al + i) (.int .i64 (A i)) := ⟨k1.cell i hlt, k1.old (by omega)⟩
    have d0 : decide (A i < 0) = false := decide_eq_false (by omega)
    have d1 : decide ((n : Int) ≤ A i) = false := decide_eq_false (by omega)
    by_cases h2 : i = 0
    · have d2 : decide (0 < i) = false := decide_eq_false (by omega)
      have d2' : decide ((0 : Int) < (i : Int)) = false := decide_eq_false (by omega)
      generalize A i = x at *
      clear hy k1 h2
      go_wp2_with fail
      go_quiet (fail)
      all_goals (
       go_wp2_with fail
       go_roundw
       case rel => exact ⟨i + 1, by omega, by go_num, zbh⟩
       case measure => simp [intOf]; omega)
    · have d2 : decide (0 < i) = true := decide_eq_true (by omega)
      have d2' : decide ((0 : Int) < (i : Int)) = true := decide_eq_true (by omega)
      have d3 : decide (A i ≤ A (i - 1)) = false := decide_eq_false (by omega)
      have y2 := k1.idx (i - 1) (by omega)
      haveI z2 : CE wr (ab al) (ao al + (i - 1)) (.int .i64 (A (i - 1))) := ⟨k1.cell _ (by omega), k1.old (by omega)⟩
      rw [show ((i - 1 : Nat) : Int) = (i : Int) - 1 by omega] at y2
      have x9 : IntKind.i64.wrap ((i : Int) - 1) = (i : Int) - 1 := by rw [IntKind.wrap_i64]; omega
      generalize A (i - 1) = x1 at *
      generalize A i = x at *
      generalize i - 1 = i1 at *
      clear hy k1 h2
      go_wp2_with fail
      go_quiet (fail)
      all_goals (
       go_wp2_with fail
       go_roundw
       case rel => exact ⟨i + 1, by omega, by go_num, zbh⟩
       case measure => simp [intOf]; omega)
  · have him : i = m := by omega
    rename World => w2
    have e3 := hbr.size
    haveI G2 : BG w2 w2.heap.size := ⟨Nat.le_refl _⟩
    clear hbr him
    have HLO : Hid (∀ i, i < Q → 0 < nl (zA1 (B i)).natAbs → ab (AB i) < w2.heap.size) := Lib.hid fun i hi hp => by have := HLW.out i hi hp; omega
    go_wp2_with fail
    go_cut [11] (fun vb wx => ∃ (bo : Nat) (ea : Option Addr) (ec : Nat) (A' : Nat → Option Addr) (C' : Nat → Nat), vb = .pointer (some ⟨bo, 0, none⟩) ∧ DX wx w2.heap.size (.slice ea Q ec) Q B A' C' ∧ N3 wx bo (.int .i64 n) (.int .i64 n) (.slice ea Q ec) ∧ some bo ≠ ((.slice ea Q ec) : Value).ownBlock ∧ w2.heap.size ≤ bo ∧ Below w2.heap.size w2 wx ∧ LimF Q B A' (w.heap.size + 1 + 1))
    case first =>
     refine bgj (fun w' => Below w2.heap.size w2 w') [10] (by kernel_rfl) ((by exact zbh)) (fun hHeld => ?_)
     simp only [List.size_toArray, List.length_cons, List.length_nil, Nat.reduceAdd, Array.replicate_succ, Array.replicate_zero, List.push_toArray, List.nil_append, List.cons_append]
     refine tk 0 84 [1, 8, 10] ?_
     refine tk 1 85 [8, 10] ?_
     refine tk 2 86 [3, 8, 10] ?_
     refine tk 3 87 [8, 10] ?_
     refine tk 5 89 [6, 7, 8, 10] ?_
     refine tk 6 90 [7, 8, 10] ?_
     refine zPg 4 9 (h := fun K hK => ?_) (h' := fun K hK => ?_)
     · go_simp
       refine hK.out _ _ (Or.inr (by exact zbh)) ?_
       clear hK K
       try simp only [List.setIfInBounds_toArray, List.set_cons_zero, List.set_cons_succ]
       refine zPg 7 9 (h := fun K hK => ?_) (h' := fun K hK => ?_)
       · refine zCg (by rfl) _ _ (by rfl) w2.heap.size (.slice (some ⟨w2.heap.size, 0, none⟩) 0 0) (by rfl) (by exact inferInstance) ob Q cb B AB CB (by rfl) (HDB.out.below (by exact zbh)) HLO.out (by omega) (by exact BG.out) ?_
         intro ea ec w6 hX6 hg6 hob6 hB6
         haveI f6 : From w2 w6 := ⟨Below.trans (show Below w2.heap.size w2 _ from zbh) hB6⟩
         have hW6 := hB6.size
         have HSB := Lib.hid hob6
         simp at hW6
         clear hg6 hob6 hB6
         refine hK.out _ _ (Or.inr (by exact zbh)) ?_
         clear hK K
         try simp only [Act.put, List.setIfInBounds_toArray, List.set_cons_zero, List.set_cons_succ]
         refine tk 8 92 [10] ?_
         refine stj 9 (h := fun K hK => ?_)
         go_simp
         refine hK.out _ _ (Or.inr (by exact zbh)) ?_
         clear hK K
         try simp only [List.setIfInBounds_toArray, List.set_cons_zero, List.set_cons_succ]
         refine stj 10 (h := fun K hK => ?_)
         go_simp
         refine hK.out _ _ (Or.inl (by decide)) ?_
         clear hK K
         try simp only [List.setIfInBounds_toArray, List.set_cons_zero, List.set_cons_succ]
         refine enj (by kernel_rfl) ?_ _
         go_wp2_with fail
         go_meet
         exact ⟨w6.heap.size, ea, ec, AB, CB, rfl, (by exact inferInstance), (by exact inferInstance), fun e => Nat.lt_irrefl _ (hX6.out.own.lt _ e.symm).2, by omega, (by exact zbh), HLF.out⟩
       · go_simp
         refine hK.out _ _ (Or.inr (by exact zbh)) ?_
         clear hK K
         try simp only [List.setIfInBounds_toArray, List.set_cons_zero, List.set_cons_succ]
         refine stj 7 (h := fun K hK => ?_)
         refine zCg (by rfl) _ _ (by rfl) w2.heap.size (.slice (some ⟨w2.heap.size, 0, none⟩) 0 0) (by rfl) (by exact inferInstance) ob Q cb B AB CB (by rfl) (HDB.out.below (by exact zbh)) HLO.out (by omega) (by exact BG.out) ?_
         intro ea ec w6 hX6 hg6 hob6 hB6
         haveI f6 : From w2 w6 := ⟨Below.trans (show Below w2.heap.size w2 _ from zbh) hB6⟩
         have hW6 := hB6.size
         have N6 : N3 w6 (w2.heap.size + 1) (.int .i64 0) (.int .i64 0) (.slice none 0 0) := N3.gr2 (by exact inferInstance) hg6 (by simp [Value.ownBlock])
         haveI := N6
         have HSB := Lib.hid hob6
         simp at hW6
         clear hg6 hob6 hB6
         refine hK.out _ _ (Or.inr (by exact zbh)) ?_
         clear hK K
         try simp only [Act.put, List.setIfInBounds_toArray, List.set_cons_zero, List.set_cons_succ]
         refine tk 8 92 [10] ?_
         refine stj 10 (h := fun K hK => ?_)
         go_simp
         refine hK.out _ _ (Or.inl (by decide)) ?_
         clear hK K
         try simp only [List.setIfInBounds_toArray, List.set_cons_zero, List.set_cons_succ]
         refine enj (by kernel_rfl) ?_ _
         have hv6 : some (w2.heap.size + 1) ≠ (Value.slice ea Q ec).ownBlock := by
          rcases HSB.out with h | h
          · rw [h]; simp [Value.ownBlock]
          · rw [h]; simp; try omega
         have X7 := hX6.set3 (b := w2.heap.size + 1) hv6 (fun t ht hp => by have := HLO.out t ht hp; omega) (.int .i64 n) (.int .i64 n) (.slice ea Q ec)
         have N7 := N3.put3 N6 (.int .i64 n) (.int .i64 n) (.slice ea Q ec)
         have L7 := ((f6.out.setCell (p := ⟨w2.heap.size + 1, 0, none⟩) (by show w2.heap.size ≤ w2.heap.size + 1; omega) (.int .i64 n)).setCell (p := ⟨w2.heap.size + 1, 1, none⟩) (by show w2.heap.size ≤ w2.heap.size + 1; omega) (.int .i64 n)).setCell (p := ⟨w2.heap.size + 1, 2, none⟩) (by show w2.heap.size ≤ w2.heap.size + 1; omega) (.slice ea Q ec)
         go_wp2_with fail
         go_meet
         exact ⟨w2.heap.size + 1, ea, ec, _, _, rfl, X7, N7, hv6, by omega, L7, HLF.out⟩
     · go_simp
       refine hK.out _ _ (Or.inr (by exact zbh)) ?_
       clear hK K
       try simp only [List.setIfInBounds_toArray, List.set_cons_zero, List.set_cons_succ]
       refine stj 4 (h := fun K hK => ?_)
       go_simp
       refine hK.out _ _ (Or.inr (by exact zbh)) ?_
       clear hK K
       try simp only [List.setIfInBounds_toArray, List.set_cons_zero, List.set_cons_succ]
       refine stj 7 (h := fun K hK => ?_)
       refine zCg (by rfl) _ _ (by rfl) w2.heap.size (.slice (some ⟨w2.heap.size + 1, 0, none⟩) 0 0) (by rfl) (by exact inferInstance) ob Q cb B AB CB (by rfl) (HDB.out.below (by exact zbh)) HLO.out (by omega) (by exact BG.out) ?_
       intro ea ec w6 hX6 hg6 hob6 hB6
       haveI f6 : From w2 w6 := ⟨Below.trans (show Below w2.heap.size w2 _ from zbh) hB6⟩
       have hW6 := hB6.size
       have N6 : N3 w6 (w2.heap.size) (.int .i64 0) (.int .i64 0) (.slice none 0 0) := N3.gr2 (by exact inferInstance) hg6 (by simp [Value.ownBlock])
       haveI := N6
       have HSB := Lib.hid hob6
       simp at hW6
       clear hg6 hob6 hB6
       refine hK.out _ _ (Or.inr (by exact zbh)) ?_
       clear hK K
       try simp only [Act.put, List.setIfInBounds_toArray, List.set_cons_zero, List.set_cons_succ]
       refine tk 8 92 [10] ?_
       refine stj 10 (h := fun K hK => ?_)
       go_simp
       refine hK.out _ _ (Or.inl (by decide)) ?_
       clear hK K
       try simp only [List.setIfInBounds_toArray, List.set_cons_zero, List.set_cons_succ]
       refine enj (by kernel_rfl) ?_ _
       have hv6 : some (w2.heap.size) ≠ (Value.slice ea Q ec).ownBlock := by
        rcases HSB.out with h | h
        · rw [h]; simp [Value.ownBlock]
        · rw [h]; simp; try omega
       have X7 := hX6.set3 (b := w2.heap.size) hv6 (fun t ht hp => by have := HLO.out t ht hp; omega) (.int .i64 n) (.int .i64 n) (.slice ea Q ec)
       have N7 := N3.put3 N6 (.int .i64 n) (.int .i64 n) (.slice ea Q ec)
       have L7 := ((f6.out.setCell (p := ⟨w2.heap.size, 0, none⟩) (by show w2.heap.size ≤ w2.heap.size; omega) (.int .i64 n)).setCell (p := ⟨w2.heap.size, 1, none⟩) (by show w2.heap.size ≤ w2.heap.size; omega) (.int .i64 n)).setCell (p := ⟨w2.heap.size, 2, none⟩) (by show w2.heap.size ≤ w2.heap.size; omega) (.slice ea Q ec)
       go_wp2_with fail
       go_meet
       exact ⟨w2.heap.size, ea, ec, _, _, rfl, X7, N7, hv6, by omega, L7, HLF.out⟩
    case rest =>
     obtain ⟨bo, ea, ec, A', C', rfl, iX5, iO', hbo, hb0, hcb, hlf5⟩ := hcut
     rename World => wb
     have iA : N3 wb (w.heap.size) (.int .i64 n) (.int .i64 n) (.slice ob Q cb) := N3.below (inferInstance : N3 w2 (w.heap.size) (.int .i64 n) (.int .i64 n) (.slice ob Q cb)) hcb
     have iC : N3 wb (w.heap.size + 1) (.int .i64 m) (.int .i64 m) (.slice oc M cc) := N3.below (inferInstance : N3 w2 (w.heap.size + 1) (.int .i64 m) (.int .i64 m) (.slice oc M cc)) hcb
     have iR : N3 wb (w.heap.size + 1 + 1) (.int .i64 0) (.int .i64 0) (.slice none 0 0) := N3.below (inferInstance : N3 w2 (w.heap.size + 1 + 1) (.int .i64 0) (.int .i64 0) (.slice none 0 0)) hcb
     have hwb : Below w.heap.size w wb := Below.trans (show Below w.heap.size w w2 from zbh) (hcb.mono (by omega))
     have hlb := iO'.lt
     haveI bw : From w wb := ⟨hwb⟩
     have hbb : Below w2.heap.size wb wb := Below.refl _ _
     have hsz : wb.heap.size ≤ wb.heap.size := Nat.le_refl _
     haveI iA' := iA
     haveI iC' := iC
     haveI iR' := iR
     clear hcb hwb
     go_wp2_with fail
     go_loopw [12] (fun x wr => ∃ (j : Nat), j ≤ m ∧ x = .int .i64 j ∧ zCr B C P (j * m) = true ∧ ∃ (A' : Nat → Option Addr) (C' : Nat → Nat), DX wr w2.heap.size (.slice ea Q ec) Q (zCs B C P (j * m)) A' C' ∧ N3 wr bo (.int .i64 n) (.int .i64 n) (.slice ea Q ec) ∧ Below w2.heap.size wb wr ∧ Below w.heap.size w wr ∧ wb.heap.size ≤ wr.heap.size ∧ LimF Q (zCs B C P (j * m)) A' (w.heap.size + 1 + 1)) (fun x _ => m - (intOf x).toNat)
     case atStart => exact ⟨0, by omega, rfl, by rw [Nat.zero_mul]; rfl, A', C', by rw [Nat.zero_mul]; exact iX5, iO', hbb, bw.out, hsz, by rw [Nat.zero_mul]; exact hlf5⟩
     case round =>
      clear iX5 iO' hbb bw hsz hlf5 iA' iC' iR'
      obtain ⟨j, hj, rfl, hal, A', C', iX', iO', hbb, hbr, hsz, hlf⟩ := hrel
      by_cases hltj : j < m
      · obtain ⟨q, hq⟩ : ∃ q, q = j * m := ⟨_, rfl⟩
        have hq1 : q + m ≤ M := by rw [hq, HM.out]; have := Nat.mul_le_mul_right m (show j + 1 ≤ m by omega); rwa [Nat.add_mul, Nat.one_mul] at this
        have hM4 : M ≤ 4096 := by rw [HM.out]; exact Nat.mul_le_mul hm hm
        have l2 : (j : Int) * (m : Int) = (q : Int) := by rw [hq]; exact (Int.natCast_mul _ _).symm
        have HQJ := Lib.hid hq
        rw [← hq] at hal iX' hlf
        have HAL0 := Lib.hid hal
        have HBJ := HROW.out j hltj
        obtain ⟨pj, hpj⟩ : ∃ pj, pj = (A j).toNat := ⟨_, rfl⟩
        have hAj : A j = (pj : Int) := by omega
        have hpn : pj < n := by omega
        obtain ⟨K, hK⟩ : ∃ K, K = pj * n := ⟨_, rfl⟩
        have l3 : (pj : Int) * (n : Int) = (K : Int) := by rw [hK]; exact (Int.natCast_mul _ _).symm
        have hKQ : K + n ≤ Q := by rw [hK, HQ.out]; have := Nat.mul_le_mul_right n (show pj + 1 ≤ n by omega); rwa [Nat.add_mul, Nat.one_mul] at this
        have HPJ : Hid (∀ i, i < m → P (q + i) = K + (A i).toNat) := Lib.hid fun i hi => by rw [hq, HP.out i j hi, hK, hpj]
        have HAJ := Lib.hid hAj
        haveI bw0 : From w wr := ⟨hbr⟩
        haveI iA' := N3.lo iA hbb (by omega)
        haveI iC' := N3.lo iC hbb (by omega)
        haveI iR' := N3.lo iR hbb (by omega)
        clear hq hal hK hpj hAj HBJ
        go_wp2_with fail
        go_loopw [13] (fun x wr => ∃ (i : Nat), i ≤ m ∧ x = .int .i64 i ∧ zCr B C P (q + i) = true ∧ ∃ (A' : Nat → Option Addr) (C' : Nat → Nat), DX wr w2.heap.size (.slice ea Q ec) Q (zCs B C P (q + i)) A' C' ∧ N3 wr bo (.int .i64 n) (.int .i64 n) (.slice ea Q ec) ∧ Below w2.heap.size wb wr ∧ Below w.heap.size w wr ∧ wb.heap.size ≤ wr.heap.size ∧ LimF Q (zCs B C P (q + i)) A' (w.heap.size + 1 + 1)) (fun x _ => m - (intOf x).toNat)
        case atStart => exact ⟨0, by omega, rfl, HAL0.out, A', C', iX', iO', hbb, hbr, hsz, hlf⟩
        case round =>
         clear iX' iO' hbb hbr hsz hlf bw0 iA' iC' iR' HAL0
         obtain ⟨i, hi, rfl, hal, A', C', iX', iO', hbb, hbr, hsz, hlf⟩ := hrel
         have HAL := Lib.hid hal
         clear hal
         haveI bw : From w wr := ⟨hbr⟩
         haveI iA' := N3.lo iA hbb (by omega)
         haveI iC' := N3.lo iC hbb (by omega)
         haveI iR' := N3.lo iR hbb (by omega)
         by_cases hlti : i < m
         · have HBI := HROW.out i hlti
           obtain ⟨pi, hpi⟩ : ∃ pi, pi = (A i).toNat := ⟨_, rfl⟩
           have hAi : A i = (pi : Int) := by omega
           have hpin : pi < n := by omega
           have hPX : P (q + i) = K + pi := by rw [HPJ.out i hlti, hpi]
           have hKp : K + pi < Q := by omega
           have k1 := (inferInstance : IZ wr al m cl A).out
           have y1 := k1.idx j hltj
           have y2 := k1.idx i hlti
           haveI t1 : CE wr (ab al) (ao al + j) (.int .i64 (pj : Int)) := ⟨by rw [← HAJ.out]; exact k1.cell j hltj, k1.old (by omega)⟩
           haveI t2 : CE wr (ab al) (ao al + i) (.int .i64 (pi : Int)) := ⟨by rw [← hAi]; exact k1.cell i hlti, k1.old (by omega)⟩
           obtain ⟨g, hg, hg0, hg1, hgc, hgl⟩ := zFi iX'.out.own (by omega)
           have hbg : bo ≠ g := fun e => hbo (by rw [hg, e]; rfl)
           have xi := zNz g (K + pi) Q ec hKp
           rw [show (((K + pi : Nat)) : Int) = (K : Int) + (pi : Int) by omega] at xi
           have yc := (inferInstance : DZ wr oc M cc C).out.idx (q + i) (by omega)
           rw [show (((q + i : Nat)) : Int) = (q : Int) + (i : Int) by omega] at yc
           obtain ⟨A2, C2, u0, u1', u2, u3, u4⟩ := (inferInstance : DZ wr oc M cc C).out.el (i := q + i) (by omega)
           have HNc := Lib.hid (HNC.out (q + i))
           obtain ⟨dc, hdc⟩ : ∃ dc, C (q + i) = dc := ⟨_, rfl⟩
           rw [hdc] at u0 u1' u2 u3 u4 HNc
           have HN0 := Lib.hid (zDX (C := C) (P := P) HNB.out (q + i) (K + pi))
           obtain ⟨dk0, hd0⟩ : ∃ dk0, zCs B C P (q + i) (K + pi) = dk0 := ⟨_, rfl⟩
           subst hg
           obtain ⟨ob1, z0, z1', z2', z3, z4⟩ := iX'.out.cev hKp
           rw [hd0] at z0 z1' z2' z3 z4 HN0
           obtain ⟨dk, hdk⟩ : ∃ dk, zEX dk0 dc = dk := ⟨_, rfl⟩
           have HNk : Hid (IsN dk) := Lib.hid (by rw [← hdk]; exact zFu _ _)
           have HDC : Hid (∀ t, t < Q → (if t = K + pi then dk else zCs B C P (q + i) t) = zCs B C P (q + i + 1) t) := Lib.hid fun t _ => by
            show _ = if t = P (q + i) then zEX (zCs B C P (q + i) (P (q + i))) (C (q + i)) else zCs B C P (q + i) t
            rw [hPX, hd0, hdc, hdk]
           have HDV : Hid (zCs B C P (q + i + 1) (K + pi) = dk) := Lib.hid (by rw [← HDC.out _ hKp, if_pos rfl])
           have HST : Hid (zCr B C P (q + i + 1) = !zA3 dk) := Lib.hid (by show (zCr B C P (q + i) && !zA3 (zEX (zCs B C P (q + i) (P (q + i))) (C (q + i)))) = _; rw [HAL.out, hPX, hd0, hdc, hdk]; rfl)
           have HBD : Hid (zA3 dk = true → zCr B C P M = false) := Lib.hid fun h => zI0 (s := q + i) (by omega) (by rw [hPX, hd0, hdc, hdk]; exact h)
           have HAD := fun W a c a' c' [i1 : BI W a (nl (zA1 dk0).natAbs) c (zA1 dk0).natAbs] [i2 : BI W a' (nl (zA1 dc).natAbs) c' (zA1 dc).natAbs] [Tb W] => Lib.hid (frF (zGa W _ _ _ _ a a' _ _ c c' _ _ dk0 dc (zBp HN0.out i1.out) (zBp HNc.out i2.out) tb))
           have HAT := fun W [iC : DZ W oc M cc C] => Lib.hid ((zGd W m (m : Int) oc M cc C i j hm hlti hltj HM.out).mono fun o w' ⟨a, q', h1, h2, h3⟩ => (⟨a, q', h1, ⟨h2.below h3⟩, ⟨h3⟩⟩ : ∃ a q', o = Ending.returned (.agg #[.bool (zA3 (C (j * m + i))), .bool (decide (zA1 (C (j * m + i)) < 0)), .slice a (nl (zA1 (C (j * m + i))).natAbs) q', .int .i64 (zA2 (C (j * m + i)))]) ∧ BI w' a (nl (zA1 (C (j * m + i))).natAbs) q' (zA1 (C (j * m + i))).natAbs ∧ From W w'))
           rw [← HQJ.out, hdc] at HAT
           rw [hdk] at HAD
           have HVs := fun W a c [i1 : BI W a (nl (zA1 dk).natAbs) c (zA1 dk).natAbs] [Tb W] => Lib.hid (frm (zDq W (zA3 dk) (decide (zA1 dk < 0)) a _ c (zA2 dk) dk (zBp HNk.out i1.out) tb))
           have x1 : IntKind.i64.wrap (K : Int) = (K : Int) := by rw [IntKind.wrap_i64]; omega
           have x2 : IntKind.i64.wrap ((K : Int) + (pi : Int)) = (K : Int) + (pi : Int) := by rw [IntKind.wrap_i64]; omega
           have x3 : IntKind.i64.wrap (q : Int) = (q : Int) := by rw [IntKind.wrap_i64]; omega
           have x4 : IntKind.i64.wrap ((q : Int) + (i : Int)) = (q : Int) + (i : Int) := by rw [IntKind.wrap_i64]; omega
           clear hpi hAi hPX hdc hd0 hdk k1 HBI
           go_wp2_with fail
           go_quiet (fail)
           go_wp2_with fail
           refine bgj (fun w' => Below wr.heap.size wr w') [14] (by kernel_rfl) (zbh) (fun hHeld => ?_)
           simp only [List.size_toArray, List.length_cons, List.length_nil, Nat.reduceAdd, Array.replicate_succ, Array.replicate_zero, List.push_toArray, List.nil_append, List.cons_append]
           refine tk 0 117 [1, 13, 14] ?_
           refine tk 1 118 [13, 14] ?_
           refine tk 2 119 [13, 14] ?_
           refine tk 3 120 [4, 6, 7, 12, 13, 14] ?_
           refine tk 4 121 [6, 7, 12, 13, 14] ?_
           refine tk 5 122 [6, 7, 12, 13, 14] ?_
           refine tk 6 123 [7, 12, 13, 14] ?_
           refine tk 7 124 [12, 13, 14] ?_
           refine tk 8 125 [11, 12, 13, 14] ?_
           refine tk 9 126 [11, 12, 13, 14] ?_
           refine tk 10 127 [11, 12, 13, 14] ?_
           refine stj 11 (h := fun K hK => ?_)
           go_simp
           go_at_call 75; refine (HAT _).out.mono ?_; rintro o z0' ⟨a2, c2, rfl, i2, b2'⟩
           go_simp
           refine hK.out _ _ (Or.inr zbh) ?_
           clear hK K
           try simp only [List.setIfInBounds_toArray, List.set_cons_zero, List.set_cons_succ]
           refine stj 12 (h := fun K hK => ?_)
           go_simp
           go_at_call 74; refine (HAD _ _ _ _ _).out.mono ?_; rintro o z1 ⟨a3, c3, rfl, i3, b3, f3⟩
           go_simp
           refine hK.out _ _ (Or.inr zbh) ?_
           clear hK K
           try simp only [List.setIfInBounds_toArray, List.set_cons_zero, List.set_cons_succ]
           refine tk 13 130 [14] ?_
           refine stj 14 (h := fun K hK => ?_)
           go_simp
           refine hK.out _ _ (Or.inl (by decide)) ?_
           clear hK K
           try simp only [List.setIfInBounds_toArray, List.set_cons_zero, List.set_cons_succ]
           refine enj (by kernel_rfl) ?_ _
           have e3 : wr.heap.size ≤ z1.heap.size := @Beh.size wr z1 inferInstance
           have nf : 0 < nl (zA1 dk).natAbs → ab a3 ≠ g := fun h => by have := Nat.le_trans (@Beh.size wr _ inferInstance) (f3 h); omega
           have X4 : DX z1 w2.heap.size (.slice (some ⟨g, 0, none⟩) Q ec) Q (zCs B C P (q + i)) A' C' := inferInstance
           have X5 := X4.put hKp i3 nf HDC.out
           have O4 : N3 z1 bo (.int .i64 n) (.int .i64 n) (.slice (some ⟨g, 0, none⟩) Q ec) := inferInstance
           have O5 := N3.st4 O4 hbg ((K + pi) * 4) ((K + pi) * 4 + 1) ((K + pi) * 4 + 2) ((K + pi) * 4 + 3) (.bool (zA3 dk)) (.bool (decide (zA1 dk < 0))) (.slice a3 (nl (zA1 dk).natAbs) c3) (.int .i64 (zA2 dk))
           have L4 : Below w2.heap.size wb z1 := hbb.trans ((show Below wr.heap.size wr z1 from zbh).mono (by omega))
           have L5 := zCd L4 hg0 ((K + pi) * 4) ((K + pi) * 4 + 1) ((K + pi) * 4 + 2) ((K + pi) * 4 + 3) (.bool (zA3 dk)) (.bool (decide (zA1 dk < 0))) (.slice a3 (nl (zA1 dk).natAbs) c3) (.int .i64 (zA2 dk))
           have M4 : Below w.heap.size w z1 := zbh
           have M5 := zCd M4 (show w.heap.size ≤ g by omega) ((K + pi) * 4) ((K + pi) * 4 + 1) ((K + pi) * 4 + 2) ((K + pi) * 4 + 3) (.bool (zA3 dk)) (.bool (decide (zA1 dk < 0))) (.slice a3 (nl (zA1 dk).natAbs) c3) (.int .i64 (zA2 dk))
           have S5 : wb.heap.size ≤ ((((z1.setCell ⟨g, (K + pi) * 4, none⟩ (.bool (zA3 dk))).setCell ⟨g, (K + pi) * 4 + 1, none⟩ (.bool (decide (zA1 dk < 0)))).setCell ⟨g, (K + pi) * 4 + 2, none⟩ (.slice a3 (nl (zA1 dk).natAbs) c3)).setCell ⟨g, (K + pi) * 4 + 3, none⟩ (.int .i64 (zA2 dk))).heap.size := by rw [zF7]; omega
           have F5 := hlf.up (a1 := a3) (r := w.heap.size + 1 + 1) (fun h => by have := Nat.le_trans (@Beh.size wr _ inferInstance) (f3 h); omega) HDC.out
           generalize ((((z1.setCell ⟨g, (K + pi) * 4, none⟩ (.bool (zA3 dk))).setCell ⟨g, (K + pi) * 4 + 1, none⟩ (.bool (decide (zA1 dk < 0)))).setCell ⟨g, (K + pi) * 4 + 2, none⟩ (.slice a3 (nl (zA1 dk).natAbs) c3)).setCell ⟨g, (K + pi) * 4 + 3, none⟩ (.int .i64 (zA2 dk))) = u1 at *
           clear X4 O4 L4 M4 z0 z1' z2' z3 z4 u0 u1' u2 u3 u4 ob1 iX' iO' hbb hbr bw iA' iC' iR' t1 t2 i3 b3 f3 HAD hlf
           haveI f5 : From w u1 := ⟨M5⟩
           obtain ⟨ob1, z0, z1', z2', z3, z4⟩ := X5.out.cev hKp
           rw [HDV.out] at z0 z1' z2' z3 z4
           simp only [↓reduceIte] at z2' z4
           haveI iR5 := N3.lo iR L5 (by omega)
           by_cases hb : zA3 dk = true
           · have hk : ok = false := by rw [HOK.out, ← HM.out]; exact HBD.out hb
             rw [hb] at HVs
             simp only [hb] at z0
             subst hk
             clear HBD HST HOK
             go_wp2_with fail
             refine (HVs _ _ _).out.mono ?_; rintro o v2 ⟨rfl, b2'⟩
             have L6 : Below w.heap.size w v2 := zbh
             clear HVs
             go_wp2_with fail
             refine bodyPost_ret (v := .tuple #[.agg #[.int .i64 0, .int .i64 0, .slice none 0 0], .int .i64 233]) (by simp only [results, Tryz.results34]; go_simp) rfl ?_
             exact ⟨none, 0, rfl, ⟨zCS _ _⟩, ⟨((L6.setCell (p := ⟨w.heap.size + 1 + 1, 0, none⟩) (by show w.heap.size ≤ w.heap.size + 1 + 1; omega) _).setCell (p := ⟨w.heap.size + 1 + 1, 1, none⟩) (by show w.heap.size ≤ w.heap.size + 1 + 1; omega) _).setCell (p := ⟨w.heap.size + 1 + 1, 2, none⟩) (by show w.heap.size ≤ w.heap.size + 1 + 1; omega) _⟩⟩
           · have hb' : zA3 dk = false := by simpa using hb
             have HST2 : Hid (zCr B C P (q + i + 1) = true) := Lib.hid (by rw [HST.out, hb']; rfl)
             rw [hb'] at HVs
             simp only [hb'] at z0
             clear HBD HST hb hb'
             go_wp2_with fail
             refine (HVs _ _ _).out.mono ?_; rintro o v2 ⟨rfl, b2'⟩
             have X6 : DX v2 w2.heap.size (.slice (some ⟨g, 0, none⟩) Q ec) Q (zCs B C P (q + i + 1)) _ _ := inferInstance
             have O6 : N3 v2 bo (.int .i64 n) (.int .i64 n) (.slice (some ⟨g, 0, none⟩) Q ec) := inferInstance
             have L6 : Below w2.heap.size wb v2 := L5.trans ((show Below u1.heap.size u1 v2 from zbh).mono (by omega))
             have M6 : Below w.heap.size w v2 := zbh
             have S6 : wb.heap.size ≤ v2.heap.size := Nat.le_trans S5 (@Beh.size u1 v2 inferInstance)
             clear HVs
             go_wp2_with fail
             go_roundw
             case rel => exact ⟨i + 1, by omega, by go_num, HST2.out, _, _, X6, O6, L6, M6, S6, F5⟩
             case measure => simp [intOf]; omega
         · have him : i = m := by omega
           have hjm : (j + 1) * m = q + i := by rw [Nat.add_mul, Nat.one_mul, ← HQJ.out, him]
           have HA2 : Hid (zCr B C P ((j + 1) * m) = true) := Lib.hid (by rw [hjm]; exact HAL.out)
           rw [← hjm] at iX' hlf
           clear him hjm
           go_wp2_with fail
           go_roundw
           case rel => exact ⟨j + 1, by omega, by go_num, HA2.out, A', C', iX', iO', hbb, hbr, hsz, hlf⟩
           case measure => simp [intOf]; omega
      · have hjm : j = m := by omega
        have hk : ok = true := by rw [HOK.out]; rw [hjm] at hal; exact hal
        have hmm : j * m = m * m := by rw [hjm]
        rw [hmm] at iX' hlf
        subst hk
        haveI bw : From w wr := ⟨hbr⟩
        haveI iR' := N3.lo iR hbb (by omega)
        have X6 := DX.set3 iX' (b := w.heap.size + 1 + 1) (zDF iX'.out.own (by omega)) hlf (.int .i64 n) (.int .i64 n) (.slice ea Q ec)
        obtain ⟨oa', oc', hv', hZ⟩ := X6.out.dz (fun t => zDX (C := C) (P := P) HNB.out (m * m) t)
        injection hv' with v1 v2 v3
        rw [← HM.out] at hZ
        have L6 := ((hbr.setCell (p := ⟨w.heap.size + 1 + 1, 0, none⟩) (by show w.heap.size ≤ w.heap.size + 1 + 1; omega) (.int .i64 n)).setCell (p := ⟨w.heap.size + 1 + 1, 1, none⟩) (by show w.heap.size ≤ w.heap.size + 1 + 1; omega) (.int .i64 n)).setCell (p := ⟨w.heap.size + 1 + 1, 2, none⟩) (by show w.heap.size ≤ w.heap.size + 1 + 1; omega) (.slice ea Q ec)
        clear hjm hmm hal X6
        go_wp2_with fail
        refine bodyPost_ret (v := .tuple #[.agg #[.int .i64 n, .int .i64 n, (.slice ea Q ec)], .int .i64 0]) (by simp only [results, Tryz.results34]; go_simp) rfl ?_
        subst v1 v3
        exact ⟨_, _, rfl, ⟨hZ⟩, ⟨L6⟩⟩
end Go.Proofs.YtablcbgeeeboeaaGreatDoor

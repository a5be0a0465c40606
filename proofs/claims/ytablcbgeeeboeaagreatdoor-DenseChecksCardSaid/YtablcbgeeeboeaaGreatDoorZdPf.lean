/-
  Walks: three lists in a struct; package sparsegen: General.
-/
import Derived.Test.YtablcbgeeeboeaaGreatDoorZdPz
set_option maxRecDepth 100000
set_option maxHeartbeats 20000000
namespace Go.Proofs.YtablcbgeeeboeaaGreatDoor
open Go.RowKit Sp
theorem ne_symm {v u : Value} (h : v.ownBlock = none ∨ v.ownBlock ≠ u.ownBlock) : u.ownBlock = none ∨ u.ownBlock ≠ v.ownBlock := by
 rcases h with h | h
 · rcases hu : u.ownBlock with _ | g
   · exact Or.inl rfl
   · exact Or.inr (by rw [h]; simp)
 · exact Or.inr fun e => h e.symm
theorem ne_new {w : World} {base : Nat} {e : TypeId} {s n : Nat} {xs : List Value} {v u u' : Value} (h : w.ownsRow base e s v n xs) (hob : u'.ownBlock = u.ownBlock ∨ u'.ownBlock = some w.heap.size) (ne : v.ownBlock = none ∨ v.ownBlock ≠ u.ownBlock) : v.ownBlock = none ∨ v.ownBlock ≠ u'.ownBlock := by
 rcases hob with q | q
 · rw [q]; exact ne
 · rcases hv : v.ownBlock with _ | g
   · exact Or.inl rfl
   · refine Or.inr fun e => ?_
     have h1 := (h.lt g hv).2
     rw [q] at e
     injection e with e; omega
theorem own_sen {w : World} {base : Nat} {e : TypeId} {s n : Nat} {xs : List Value} {v : Value} (h : w.ownsRow base e s v n xs) {b : Nat} (hb : b < base) (i : Nat) (u : Value) : (w.setCell ⟨b, i, none⟩ u).ownsRow base e s v n xs := by
 refine h.kept (only_set (only_refl w b) i u) ?_
 rcases hv : v.ownBlock with _ | g
 · exact Or.inl rfl
 · refine Or.inr fun q => ?_
   have := (h.lt g hv).1
   injection q with q; omega
theorem own_ne {w : World} {base : Nat} {e : TypeId} {s n : Nat} {xs : List Value} {v : Value} (h : w.ownsRow base e s v n xs) {b : Nat} (hb : b < base) : some b ≠ v.ownBlock := fun q => by have := (h.lt b q.symm).1; omega
theorem own_sen2 {w : World} {base : Nat} {e : TypeId} {s n : Nat} {xs : List Value} {v : Value} (h : w.ownsRow base e s v n xs) {b : Nat} (hb : some b ≠ v.ownBlock) (i : Nat) (u : Value) : (w.setCell ⟨b, i, none⟩ u).ownsRow base e s v n xs :=
 h.kept (only_set (only_refl w b) i u) (Or.inr hb.symm)
theorem N5.grown {W W' : World} {b : Nat} {x0 x1 x2 x3 x4 : Value} (h : N5 W b x0 x1 x2 x3 x4) {row : Option Nat} (hg : W.grownBy W' row) (hne : some b ≠ row) : N5 W' b x0 x1 x2 x3 x4 := by
 have hblk := hg.block b h.lt hne
 have hc : ∀ i, W'.cell? ⟨b, i, none⟩ = W.cell? ⟨b, i, none⟩ := fun i => World.cell?_of_block (a := ⟨b, i, none⟩) hblk
 exact ⟨(hc 0).trans h.c0, (hc 1).trans h.c1, (hc 2).trans h.c2, (hc 3).trans h.c3, (hc 4).trans h.c4, fun i => (World.frozen?_of_block (a := ⟨b, i, none⟩) hblk).trans (h.z i), Nat.lt_of_lt_of_le h.lt hg.size⟩
theorem N5.st (W : World) (b g i : Nat) (v x0 x1 x2 x3 x4 : Value) (h : N5 W b x0 x1 x2 x3 x4) (k : b ≠ g) : N5 (W.setCell ⟨g, i, none⟩ v) b x0 x1 x2 x3 x4 := by haveI := NB.mk k; exact N5.sen
section
variable {W : World} {b : Nat} {x0 x1 x2 x3 x4 : Value}
theorem N5.se2 (h : N5 W b x0 x1 x2 x3 x4) (y : Value) : N5 (W.setCell ⟨b, 2, none⟩ y) b x0 x1 y x3 x4 := by
 obtain ⟨c0, c1, c2, c3, c4, c5, c6⟩ := h
 exact ⟨by go_simp, by go_simp, by go_simp, by go_simp, by go_simp, fun i => by go_simp, by simpa using c6⟩
theorem N5.se3 (h : N5 W b x0 x1 x2 x3 x4) (y : Value) : N5 (W.setCell ⟨b, 3, none⟩ y) b x0 x1 x2 y x4 := by
 obtain ⟨c0, c1, c2, c3, c4, c5, c6⟩ := h
 exact ⟨by go_simp, by go_simp, by go_simp, by go_simp, by go_simp, fun i => by go_simp, by simpa using c6⟩
theorem N5.se4 (h : N5 W b x0 x1 x2 x3 x4) (y : Value) : N5 (W.setCell ⟨b, 4, none⟩ y) b x0 x1 x2 x3 y := by
 obtain ⟨c0, c1, c2, c3, c4, c5, c6⟩ := h
 exact ⟨by go_simp, by go_simp, by go_simp, by go_simp, by go_simp, fun i => by go_simp, by simpa using c6⟩
end
class R3 (w : World) (base b : Nat) (vS vI vV : Value) (S I : outParam (List Nat)) (F : outParam (Nat → Nat)) (q : outParam Nat) : Prop where
 os : w.ownsRow base 3 1 vS S.length (icells S)
 oi : w.ownsRow base 3 1 vI I.length (icells I)
 ov : w.ownsRow base 40 1 vV q (flist F q)
 n1 : vS.ownBlock = none ∨ vS.ownBlock ≠ vI.ownBlock
 n2 : vS.ownBlock = none ∨ vS.ownBlock ≠ vV.ownBlock
 n3 : vI.ownBlock = none ∨ vI.ownBlock ≠ vV.ownBlock
 bS : some b ≠ vS.ownBlock
 bI : some b ≠ vI.ownBlock
 bV : some b ≠ vV.ownBlock
 lt : b < w.heap.size
theorem nb_new {w : World} {b : Nat} {v u : Value} (h : some b ≠ v.ownBlock) (lt : b < w.heap.size) (hob : u.ownBlock = v.ownBlock ∨ u.ownBlock = some w.heap.size) : some b ≠ u.ownBlock := by
 rcases hob with q | q
 · rw [q]; exact h
 · rw [q]; intro e; injection e with e; omega
section
variable {w w' : World} {base b : Nat} {vS vI vV u : Value} {S I : List Nat} {F : Nat → Nat} {q : Nat}
theorem R3.below (h : R3 w base b vS vI vV S I F q) (hb : Below w.heap.size w w') : R3 w' base b vS vI vV S I F q := ⟨ownsRow_below h.os hb, ownsRow_below h.oi hb, ownsRow_below h.ov hb, h.n1, h.n2, h.n3, h.bS, h.bI, h.bV, Nat.lt_of_lt_of_le h.lt hb.size⟩
instance R3.dr [h : R3 w base b vS vI vV S I F q] : R3 w.drew base b vS vI vV S I F q := h.below (Below.refl _ _).drew
instance R3.dn (k : Nat) [h : R3 w base b vS vI vV S I F q] : R3 (w.drewN k) base b vS vI vV S I F q := h.below (below_drewN (Below.refl _ _) _)
instance R3.al (o : Obj) [h : R3 w base b vS vI vV S I F q] : R3 (w.alloc o) base b vS vI vV S I F q := h.below ((Below.refl _ _).alloc (Nat.le_refl _) _)
instance R3.fr (L : World) [f : From L w] [h : R3 L base b vS vI vV S I F q] : R3 w base b vS vI vV S I F q := h.below f.out
theorem R3.sen (h : R3 w base b vS vI vV S I F q) {g : Nat} (hb : g = b ∨ g < base) (i : Nat) (y : Value) : R3 (w.setCell ⟨g, i, none⟩ y) base b vS vI vV S I F q :=
 ⟨own_sen2 h.os (by rcases hb with rfl | hb; exact h.bS; exact own_ne h.os hb) i y, own_sen2 h.oi (by rcases hb with rfl | hb; exact h.bI; exact own_ne h.oi hb) i y, own_sen2 h.ov (by rcases hb with rfl | hb; exact h.bV; exact own_ne h.ov hb) i y, h.n1, h.n2, h.n3, h.bS, h.bI, h.bV, by rw [World.size_setCell]; exact h.lt⟩
theorem R3.appI (h : R3 w base b vS vI vV S I F q) {i n : Nat} (hn : I.length = n) (ho : w'.ownsRow base 3 1 u (n + 1) (icells I ++ [.int .i64 ((i : Nat) : Int)])) (hg : w.grownBy w' vI.ownBlock) (hob : u.ownBlock = vI.ownBlock ∨ u.ownBlock = some w.heap.size) :
 R3 w' base b vS u vV S (I ++ [i]) F q :=
 ⟨h.os.kept hg h.n1, by rw [icells_app, List.length_append, hn]; exact ho, h.ov.kept hg (ne_symm h.n3), ne_new h.os hob h.n1, h.n2, ne_symm (ne_new h.ov hob (ne_symm h.n3)), h.bS, nb_new h.bI h.lt hob, h.bV, Nat.lt_of_lt_of_le h.lt hg.size⟩
theorem R3.appS (h : R3 w base b vS vI vV S I F q) {i n : Nat} (hn : S.length = n) (ho : w'.ownsRow base 3 1 u (n + 1) (icells S ++ [.int .i64 ((i : Nat) : Int)])) (hg : w.grownBy w' vS.ownBlock) (hob : u.ownBlock = vS.ownBlock ∨ u.ownBlock = some w.heap.size) :
 R3 w' base b u vI vV (S ++ [i]) I F q :=
 ⟨by rw [icells_app, List.length_append, hn]; exact ho, h.oi.kept hg (ne_symm h.n1), h.ov.kept hg (ne_symm h.n2), ne_symm (ne_new h.oi hob (ne_symm h.n1)), ne_symm (ne_new h.ov hob (ne_symm h.n2)), h.n3, nb_new h.bS h.lt hob, h.bI, h.bV, Nat.lt_of_lt_of_le h.lt hg.size⟩
theorem R3.appV (h : R3 w base b vS vI vV S I F q) {y : Nat} (ho : w'.ownsRow base 40 1 u (q + 1) (flist F q ++ [.int .u64 ((y : Nat) : Int)])) (hg : w.grownBy w' vV.ownBlock) (hob : u.ownBlock = vV.ownBlock ∨ u.ownBlock = some w.heap.size) :
 R3 w' base b vS vI u S I (fun t => if t = q then y else F t) (q + 1) := by
 refine ⟨h.os.kept hg h.n2, h.oi.kept hg h.n3, ?_, h.n1, ne_new h.os hob h.n2, ne_new h.oi hob h.n3, h.bS, h.bI, nb_new h.bV h.lt hob, Nat.lt_of_lt_of_le h.lt hg.size⟩
 have e : flist (fun t => if t = q then y else F t) (q + 1) = flist F q ++ [.int .u64 ((y : Nat) : Int)] := by
  show flist _ q ++ [.int .u64 (((if q = q then y else F q : Nat)) : Int)] = _
  rw [if_pos rfl, flist_congr (L := fun t => if t = q then y else F t) (L' := F) fun i hi => if_neg (by omega)]
 rw [e]; exact ho
end
theorem R3.start (w : World) (base : Nat) (hb : base ≤ w.heap.size) (o : Obj) (X : Nat → Nat) {n n1 : Nat} (hn : n = w.heap.size) (hn1 : n1 = w.heap.size + 1) : R3 ((w.alloc (.cells #[.int .i64 0] 3)).alloc o) base n1 (.slice (some ⟨n, 0, none⟩) 1 1) (.slice none 0 0) (.slice none 0 0) [0] [] X 0 := by
 subst hn hn1
 exact ⟨(World.ownsRow_lit w #[.int .i64 0] 1 hb (by unfold maxLen; omega) rfl).alloc o, World.ownsRow_nil _ _ _ _, World.ownsRow_nil _ _ _ _, Or.inr (by simp [Value.ownBlock]), Or.inr (by simp [Value.ownBlock]), Or.inl rfl, by simp [Value.ownBlock], by simp [Value.ownBlock], by simp [Value.ownBlock], by simp⟩
theorem w3 {P k : Nat} (hP : P ≤ 4096) (hk : k ≤ 64) : 0 ≤ wrap64 (wrap64 (100 + wrap64 (P : Int)) + (k : Int)) ∧ wrap64 (wrap64 (100 + wrap64 (P : Int)) + (k : Int)) ≤ 1000000 := by unfold wrap64; omega
theorem own_ils {w : World} {base : Nat} {v : Value} {l : List Nat} {n : Nat} (h : w.ownsRow base 3 1 v l.length (icells l)) (hl : l.length = n) : ∃ a cap, v = .slice a n cap ∧ Ils w a n cap (fun t => ((l.getD t 0 : Nat) : Int)) := by
 subst hl
 rcases own_cell h with ⟨h0, rfl⟩ | ⟨g, cap, rfl, hb, hg, hc, hm, hcell⟩
 · rw [h0]; exact ⟨none, 0, rfl, ⟨by omega, by omega, by omega, fun i hi => by omega, by omega⟩⟩
 · exact ⟨_, cap, rfl, ⟨hc, hm, fun _ => rfl, fun i hi => by
    show w.cell? ⟨g, 0 + i, none⟩ = _
    rw [Nat.zero_add]
    refine (hcell i hi).trans (icells_get ?_)
    rw [List.getD_eq_getElem?_getD, List.getElem?_eq_getElem hi]; rfl, fun _ => hg⟩⟩
def SX (s : Int) (X : Nat → Nat) : Prop := ∀ i, Sty s (X i)
theorem SX.up {s : Int} {X : Nat → Nat} (h : SX s X) {k y : Nat} (h1 : Sty s y) : SX s (fun i => if i = k then y else X i) := fun i => by
 show Sty s (if i = k then y else X i)
 split
 · exact h1
 · exact h i
theorem Sty.zero (s : Int) : Sty s 0 := ⟨by decide, by decide, fun _ => by decide⟩
theorem SX.zero (s : Int) : SX s fun _ => 0 := fun _ => Sty.zero s
theorem SX.fin {s : Int} {X : Nat → Nat} (h : SX s X) (i : Nat) : X i < 18446744073709551616 ∧ ffin (X i) = true := ⟨(h i).1, (h i).2.1⟩
class MX (w : World) (r c : Nat) (aS : Option Addr) (cS : Nat) (aI : Option Addr) (q cI : Nat) (aV : Option Addr) (cV : Nat) (S I F : outParam (Nat → Nat)) : Prop where
 s : Ils w aS (c + 1) cS (fun t => ((S t : Nat) : Int))
 i : Ils w aI q cI (fun t => ((I t : Nat) : Int))
 v : Fls w aV q cV F
 ok : Val r c q S I F
section
variable {w w' : World} {r c q cS cI cV : Nat} {aS aI aV : Option Addr} {S I F : Nat → Nat}
theorem MX.below (h : MX w r c aS cS aI q cI aV cV S I F) (hb : Below w.heap.size w w') : MX w' r c aS cS aI q cI aV cV S I F := ⟨h.s.below hb, h.i.below hb, h.v.below hb, h.ok⟩
instance MX.dr [h : MX w r c aS cS aI q cI aV cV S I F] : MX w.drew r c aS cS aI q cI aV cV S I F := h.below (Below.refl _ _).drew
instance MX.dn (k : Nat) [h : MX w r c aS cS aI q cI aV cV S I F] : MX (w.drewN k) r c aS cS aI q cI aV cV S I F := h.below (below_drewN (Below.refl _ _) _)
instance MX.al (o : Obj) [h : MX w r c aS cS aI q cI aV cV S I F] : MX (w.alloc o) r c aS cS aI q cI aV cV S I F := h.below ((Below.refl _ _).alloc (Nat.le_refl _) _)
instance MX.fr (L : World) [f : From L w] [h : MX L r c aS cS aI q cI aV cV S I F] : MX w r c aS cS aI q cI aV cV S I F := h.below f.out
end
theorem step_app_float {ops : Array Oper} {o : Oper} {a : Act} {K : Act → World → Prop} {Q : Exit → Act → World → Prop} {w : World} {E : Prop} (hgd : o.guard = none) (s x : Operand)
 (ho : o.op = .call { callee := .builtin .append, args := #[s, x], argTypes := #[28, 28] }) (base : Nat) (v : Value) (n : Nat) (xs : List Value) (hs : a.eval s = v) (g : Nat) (d : Int)
 (hx : a.eval x = .slice (some ⟨g, 0, none⟩) 1 1) (hown : w.ownsRow base 40 1 v n xs) (hcell : w.cell? ⟨g, 0, none⟩ = some (.int .u64 d)) (hn : n ≤ 1048576)
 (hbase : base ≤ w.heap.size) (h : ∀ g' cap' w', w'.ownsRow base 40 1 (.slice (some ⟨g', 0, none⟩) (n + 1) cap') (n + 1) (xs ++ [.int .u64 d]) → w.grownBy w' v.ownBlock → ((Value.slice (some ⟨g', 0, none⟩) (n + 1) cap').ownBlock = v.ownBlock ∨ (Value.slice (some ⟨g', 0, none⟩) (n + 1) cap').ownBlock = some w.heap.size) → K (a.put o.dst (.slice (some ⟨g', 0, none⟩) (n + 1) cap')) w') :
 if Region.wanted o (yielded ops a.tmps) = true then Oper.wp Tryz.prog o a w K Q else E := by
 obtain ⟨i0, hi, hz0, hz1, hz2⟩ := info_parts infF
 refine step_append_lies w hgd s x _ ho base _ i0 _ 1 8 undFe hi hz0 hz1 hz2 rfl (by decide) v n xs hs hown ⟨g, 0, none⟩ 1 1 [.int .u64 d] hx rfl ?_ ?_ (by decide) (by unfold maxLen; omega) (by omega) hbase _ rfl (fun g' cap' w' h1 h2 h3 _ => h g' cap' w' h1 h2 ?_)
 · intro j u hu
   have : j = 0 := by
    rcases Nat.eq_zero_or_pos j with h | h
    · exact h
    · rw [List.getElem?_eq_none (by simp; omega)] at hu; cases hu
   subst this
   simp at hu; subst hu
   rw [Addr.add_zero']; exact hcell
 · intro u hu; simp at hu; subst hu; rfl
 · have e : (Value.slice (some ⟨g', 0, none⟩) (n + 1) cap').ownBlock = some g' := rfl
   rw [e]
   rcases h3 with h3 | h3
   · exact Or.inl h3.symm
   · exact Or.inr (by rw [h3])
theorem ggeneral_any (w : World) [Tb w] (a : Option Addr) (n cap : Nat) (L : Nat → Nat) [hL : FZ w a n cap L] (r c : Nat) (hr : r ≤ 64) (hc : c ≤ 64) (s : Int) :
 Calls Tryz.prog 88 #[.slice a n cap, .int .i64 r, .int .i64 c, .int .i64 s] w fun o w' => ∃ aS cS aI q cI aV cV S I X, o = .returned (.agg #[.int .i64 r, .int .i64 c, .slice aS (c + 1) cS, .slice aI q cI, .slice aV q cV]) ∧ MX w' r c aS cS aI q cI aV cV S I X ∧ SX s X ∧ q ≤ 4096 ∧ Below w.heap.size w w' := by
 have HW := fun W k (h0 : 0 ≤ k) (hk : k ≤ 1000000) [i : FZ W a n cap L] => Lib.hid (frWd (gword_any W a n cap L i.out k h0 hk))
 have HN := fun W x (hx : x < 18446744073709551616) [Tb W] => Lib.hid (frNu (gnum_any W x hx s tb))
 go_enter Tryz.func88, Tryz.ntmps88
 go_wp2_with fail
 go_loopw [10] (fun i wr => ∃ (j : Nat) (vS vI vV : Value) (S I : List Nat) (X : Nat → Nat) (q : Nat), j ≤ c ∧ i = .int .i64 j ∧ q ≤ j * r ∧ GV r j 0 S I q ∧ SX s X ∧ R3 wr (w.heap.size + 1) (w.heap.size + 1 + 1) vS vI vV S I X q ∧ N5 wr (w.heap.size + 1 + 1) (.int .i64 r) (.int .i64 c) vS vI vV ∧ N5 wr w.heap.size (.int .i64 0) (.int .i64 0) (.slice none 0 0) (.slice none 0 0) (.slice none 0 0) ∧ Below w.heap.size w wr ∧ w.heap.size + 3 ≤ wr.heap.size) (fun i _ => c - (intOf i).toNat)
 case atStart =>
  have h0 := R3.start (w.alloc (.cells #[.int .i64 0, .int .i64 0, .slice none 0 0, .slice none 0 0, .slice none 0 0] 77)) (w.heap.size + 1) (by simp) (.cells #[.int .i64 r, .int .i64 c, .slice (some ⟨w.heap.size + 1, 0, none⟩) 1 1, .slice none 0 0, .slice none 0 0] 77) (fun _ => 0) (n := w.heap.size + 1) (n1 := w.heap.size + 1 + 1) (by simp) (by simp)
  exact ⟨0, _, _, _, [0], [], fun _ => 0, 0, by omega, rfl, by omega, GV.start r, SX.zero s, h0, inferInstance, inferInstance, zbh, by simp⟩
 case round =>
  obtain ⟨j, vS, vI, vV, S, I, X, q, hj, rfl, hq, hG, hF, iM, iB, iR, hbr, hsz⟩ := hrel
  by_cases hlt : j < c
  · have HG := Lib.hid hG
    have HF := Lib.hid hF
    clear hG hF
    obtain ⟨P, hP⟩ : ∃ P, P = j * r := ⟨_, rfl⟩
    have hP1 : P ≤ 4096 := by rw [hP]; exact Nat.mul_le_mul (show j ≤ 64 by omega) hr
    have hP2 : P + r ≤ 4096 := by rw [hP, show j * r + r = (j + 1) * r by rw [Nat.add_mul, Nat.one_mul]]; exact Nat.mul_le_mul (show j + 1 ≤ 64 by omega) hr
    have HP := Lib.hid hP
    have hN : (j : Int) * (r : Int) = (P : Int) := by rw [hP]; exact (Int.natCast_mul j r).symm
    rw [← hP] at hq
    clear hP
    go_wp2_with fail
    go_loopw [11] (fun i wr => ∃ (k : Nat) (vI vV : Value) (I : List Nat) (X : Nat → Nat) (q : Nat), k ≤ r ∧ i = .int .i64 k ∧ q ≤ P + k ∧ GV r j k S I q ∧ SX s X ∧ R3 wr (w.heap.size + 1) (w.heap.size + 1 + 1) vS vI vV S I X q ∧ N5 wr (w.heap.size + 1 + 1) (.int .i64 r) (.int .i64 c) vS vI vV ∧ N5 wr w.heap.size (.int .i64 0) (.int .i64 0) (.slice none 0 0) (.slice none 0 0) (.slice none 0 0) ∧ Below w.heap.size w wr ∧ w.heap.size + 3 ≤ wr.heap.size) (fun i _ => r - (intOf i).toNat)
    case atStart => exact ⟨0, vI, vV, I, X, q, by omega, rfl, by omega, HG.out, HF.out, iM, iB, iR, hbr, hsz⟩
    case round =>
     clear hq iM iB iR hbr hsz HG HF
     obtain ⟨k, vI, vV, I, X, q, hk, rfl, hq, hG, hF, iM, iB, iR, hbr, hsz⟩ := hrel
     have hIq := hG.il
     have hSl := hG.sl
     have HG := Lib.hid hG
     have HF := Lib.hid hF
     clear hG hF
     haveI bw : From w wr := ⟨hbr⟩
     by_cases hkr : k < r
     · go_wp2_with fail
       refine (HW _ (100 + (P : Int) + (k : Int)) (by omega) (by omega)).out.mono ?_
       rintro o w1 ⟨x, hx, rfl, b1⟩
       have e1 := b1.out.size
       by_cases hx3 : 0 < x / 1099511627776 % 3
       · have A1 : Hid (R3 (w1.alloc (.cells #[.int .i64 k] 3)) (w.heap.size + 1) (w.heap.size + 1 + 1) vS vI vV S I X q) := Lib.hid inferInstance
         have A2 : Hid (N5 (w1.alloc (.cells #[.int .i64 k] 3)) (w.heap.size + 1 + 1) (.int .i64 r) (.int .i64 c) vS vI vV) := Lib.hid inferInstance
         have A3 : Hid (N5 (w1.alloc (.cells #[.int .i64 k] 3)) w.heap.size (.int .i64 0) (.int .i64 0) (.slice none 0 0) (.slice none 0 0) (.slice none 0 0)) := Lib.hid inferInstance
         have A4 : Hid (Below w.heap.size w (w1.alloc (.cells #[.int .i64 k] 3))) := Lib.hid zbh
         go_wp2_with (at_builtin; refine app_int2 rfl _ _ rfl (w.heap.size + 1) vI q (icells I) rfl _ (k : Int) rfl (by have h := A1.out.oi; rw [hIq] at h; exact h) (by go_simp) (by omega) (by simp; omega) ?_; intro v5 w5 hown5 hg5 hob5; obtain ⟨o5, c5, rfl⟩ := own_slice' hown5; haveI B5 : N5 w5 (w.heap.size + 1 + 1) (.int .i64 r) (.int .i64 c) vS vI vV := N5.grown A2.out hg5 A1.out.bI)
         have e5 := hg5.size
         simp at e5
         have M6 : R3 (w5.setCell ⟨w.heap.size + 1 + 1, 3, none⟩ (.slice o5 (q + 1) c5)) (w.heap.size + 1) (w.heap.size + 1 + 1) vS (.slice o5 (q + 1) c5) vV S (I ++ [k]) X q := (A1.out.appI hIq hown5 hg5 hob5).sen (Or.inl rfl) 3 (.slice o5 (q + 1) c5)
         have B6 : N5 (w5.setCell ⟨w.heap.size + 1 + 1, 3, none⟩ (.slice o5 (q + 1) c5)) (w.heap.size + 1 + 1) (.int .i64 r) (.int .i64 c) vS (.slice o5 (q + 1) c5) vV := B5.se3 (.slice o5 (q + 1) c5)
         have R6 : N5 (w5.setCell ⟨w.heap.size + 1 + 1, 3, none⟩ (.slice o5 (q + 1) c5)) w.heap.size (.int .i64 0) (.int .i64 0) (.slice none 0 0) (.slice none 0 0) (.slice none 0 0) := N5.st _ _ _ _ _ _ _ _ _ _ (N5.grown A3.out hg5 (own_ne A1.out.oi (by omega))) (by omega)
         have L6 : From w (w5.setCell ⟨w.heap.size + 1 + 1, 3, none⟩ (.slice o5 (q + 1) c5)) := ⟨(A4.out.trans ((below_of_owns A1.out.oi hg5 (by simp; omega)).mono (by omega))).setCell (by simp; omega) _⟩
         have e6 : w.heap.size + 3 ≤ (w5.setCell ⟨w.heap.size + 1 + 1, 3, none⟩ (.slice o5 (q + 1) c5)).heap.size := by rw [World.size_setCell]; omega
         clear A1 A2 A3 A4 B5 hown5 hg5 hob5 e5 iM iB iR hbr bw b1
         generalize (w5.setCell ⟨w.heap.size + 1 + 1, 3, none⟩ (.slice o5 (q + 1) c5)) = w6 at *
         first
         | go_region_law (first
          | (refine step_app_float (by rfl) _ _ (by rfl) (w.heap.size + 1) vV q (flist X q) (by rfl) _ (y : Int) (by rfl) (inferInstance : R3 (w7.alloc (.cells #[.int .u64 y] 40)) (w.heap.size + 1) (w.heap.size + 1 + 1) vS (.slice o5 (q + 1) c5) vV S (I ++ [k]) X q).ov (by go_simp) (by omega) (by have e7 := b7.out.size; simp at e7 ⊢; omega) ?_; intro g8 cap8 w8 hown8 hg8 hob8; have A1 : Hid (R3 (w7.alloc (.cells #[.int .u64 y] 40)) (w.heap.size + 1) (w.heap.size + 1 + 1) vS (.slice o5 (q + 1) c5) vV S (I ++ [k]) X q) := Lib.hid inferInstance; have A3 : Hid (N5 (w7.alloc (.cells #[.int .u64 y] 40)) w.heap.size (.int .i64 0) (.int .i64 0) (.slice none 0 0) (.slice none 0 0) (.slice none 0 0)) := Lib.hid inferInstance; have A4 : Hid (Below w.heap.size w (w7.alloc (.cells #[.int .u64 y] 40))) := Lib.hid zbh; haveI B8 : N5 w8 (w.heap.size + 1 + 1) (.int .i64 r) (.int .i64 c) vS (.slice o5 (q + 1) c5) vV := N5.grown (inferInstance : N5 (w7.alloc (.cells #[.int .u64 y] 40)) (w.heap.size + 1 + 1) (.int .i64 r) (.int .i64 c) vS (.slice o5 (q + 1) c5) vV) hg8 A1.out.bV)
          | (go_simp; go_wp2_with (go_at_call 25; refine (HN _ x hx).out.mono ?_; rintro o w7 ⟨y, hy, rfl, b7⟩))
          | fail)
         | fail "region"
         all_goals (
          have e7 := b7.out.size
          have e8 := hg8.size
          simp at e7 e8
          have M9 := (A1.out.appV hown8 hg8 hob8).sen (g := w.heap.size + 1 + 1) (Or.inl rfl) 4 (.slice (some ⟨g8, 0, none⟩) (q + 1) cap8)
          have B9 := B8.se4 (.slice (some ⟨g8, 0, none⟩) (q + 1) cap8)
          have R9 : N5 (w8.setCell ⟨w.heap.size + 1 + 1, 4, none⟩ (.slice (some ⟨g8, 0, none⟩) (q + 1) cap8)) w.heap.size (.int .i64 0) (.int .i64 0) (.slice none 0 0) (.slice none 0 0) (.slice none 0 0) := N5.st _ _ _ _ _ _ _ _ _ _ (N5.grown A3.out hg8 (own_ne A1.out.ov (by omega))) (by omega)
          have L9 : Below w.heap.size w (w8.setCell ⟨w.heap.size + 1 + 1, 4, none⟩ (.slice (some ⟨g8, 0, none⟩) (q + 1) cap8)) := (A4.out.trans ((below_of_owns A1.out.ov hg8 (by simp; omega)).mono (by omega))).setCell (by simp; omega) _
          have e9 : w.heap.size + 3 ≤ (w8.setCell ⟨w.heap.size + 1 + 1, 4, none⟩ (.slice (some ⟨g8, 0, none⟩) (q + 1) cap8)).heap.size := by rw [World.size_setCell]; omega
          have HX9 := HF.out.up (k := q) hy
          generalize (w8.setCell ⟨w.heap.size + 1 + 1, 4, none⟩ (.slice (some ⟨g8, 0, none⟩) (q + 1) cap8)) = w9 at *
          clear A1 A3 A4 B8 hown8 hg8 hob8
          go_wp2_with fail
          go_roundw
          case rel => exact ⟨k + 1, _, _, _, _, q + 1, by omega, by go_num, by omega, HG.out.put, HX9, M9, B9, R9, L9, e9⟩
          case measure => simp [intOf]; omega)
       · go_wp2_with fail
         go_roundw
         case rel => exact ⟨k + 1, vI, vV, I, X, q, by omega, by go_num, by omega, HG.out.skip, HF.out, inferInstance, inferInstance, inferInstance, zbh, by omega⟩
         case measure => simp [intOf]; omega
     · have hkr' : k = r := by omega
       obtain ⟨aI, cI, rfl, zI⟩ := own_ils iM.oi hIq
       clear zI
       have A1 : Hid (R3 (wr.alloc (.cells #[.int .i64 q] 3)) (w.heap.size + 1) (w.heap.size + 1 + 1) vS (.slice aI q cI) vV S I X q) := Lib.hid inferInstance
       have A2 : Hid (N5 (wr.alloc (.cells #[.int .i64 q] 3)) (w.heap.size + 1 + 1) (.int .i64 r) (.int .i64 c) vS (.slice aI q cI) vV) := Lib.hid inferInstance
       have A3 : Hid (N5 (wr.alloc (.cells #[.int .i64 q] 3)) w.heap.size (.int .i64 0) (.int .i64 0) (.slice none 0 0) (.slice none 0 0) (.slice none 0 0)) := Lib.hid inferInstance
       have A4 : Hid (Below w.heap.size w (wr.alloc (.cells #[.int .i64 q] 3))) := Lib.hid zbh
       have hS1 := hSl
       go_wp2_with (at_builtin; refine app_int2 rfl _ _ rfl (w.heap.size + 1) vS (j + 1) (icells S) rfl _ (q : Int) rfl (by have h := A1.out.os; rw [hS1] at h; exact h) (by go_simp) (by omega) (by simp; omega) ?_; intro v5 w5 hown5 hg5 hob5; obtain ⟨o5, c5, rfl⟩ := own_slice' hown5; haveI B5 : N5 w5 (w.heap.size + 1 + 1) (.int .i64 r) (.int .i64 c) vS (.slice aI q cI) vV := N5.grown A2.out hg5 A1.out.bS)
       have e5 := hg5.size
       simp at e5
       have M6 : R3 (w5.setCell ⟨w.heap.size + 1 + 1, 2, none⟩ (.slice o5 (j + 1 + 1) c5)) (w.heap.size + 1) (w.heap.size + 1 + 1) (.slice o5 (j + 1 + 1) c5) (.slice aI q cI) vV (S ++ [q]) I X q := (A1.out.appS hS1 hown5 hg5 hob5).sen (Or.inl rfl) 2 (.slice o5 (j + 1 + 1) c5)
       have B6 : N5 (w5.setCell ⟨w.heap.size + 1 + 1, 2, none⟩ (.slice o5 (j + 1 + 1) c5)) (w.heap.size + 1 + 1) (.int .i64 r) (.int .i64 c) (.slice o5 (j + 1 + 1) c5) (.slice aI q cI) vV := B5.se2 (.slice o5 (j + 1 + 1) c5)
       have R6 : N5 (w5.setCell ⟨w.heap.size + 1 + 1, 2, none⟩ (.slice o5 (j + 1 + 1) c5)) w.heap.size (.int .i64 0) (.int .i64 0) (.slice none 0 0) (.slice none 0 0) (.slice none 0 0) := N5.st _ _ _ _ _ _ _ _ _ _ (N5.grown A3.out hg5 (own_ne A1.out.os (by omega))) (by omega)
       have L6 : Below w.heap.size w (w5.setCell ⟨w.heap.size + 1 + 1, 2, none⟩ (.slice o5 (j + 1 + 1) c5)) := (A4.out.trans ((below_of_owns A1.out.os hg5 (by simp; omega)).mono (by omega))).setCell (by simp; omega) _
       have e6 : w.heap.size + 3 ≤ (w5.setCell ⟨w.heap.size + 1 + 1, 2, none⟩ (.slice o5 (j + 1 + 1) c5)).heap.size := by rw [World.size_setCell]; omega
       generalize (w5.setCell ⟨w.heap.size + 1 + 1, 2, none⟩ (.slice o5 (j + 1 + 1) c5)) = w6 at *
       clear A1 A2 A3 A4 B5 hown5 hg5 hob5 e5 iM iB iR hbr bw
       go_roundw
       case rel => exact ⟨j + 1, (.slice o5 (j + 1 + 1) c5), .slice aI q cI, vV, S ++ [q], I, X, q, by omega, by go_num, by rw [Nat.add_mul, Nat.one_mul, ← HP.out]; omega, HG.out.close (by omega), HF.out, M6, B6, R6, L6, e6⟩
       case measure => simp [intOf]; omega
  · obtain rfl : j = c := by omega
    have hIq := hG.il
    have hSl := hG.sl
    have HG := Lib.hid hG
    have HF := Lib.hid hF
    clear hG hF
    obtain ⟨aS, cS, rfl, zS⟩ := own_ils iM.os hSl
    obtain ⟨aI, cI, rfl, zI⟩ := own_ils iM.oi hIq
    obtain ⟨aV, cV, rfl, zV⟩ := own_fls iM.ov (fun i _ => (HF.out i).1)
    have hl : w.heap.size = w.heap.size + 1 + 1 ∨ w.heap.size < w.heap.size + 1 := by omega
    have M6 := ((((iM.sen hl 0 (.int .i64 r)).sen hl 1 (.int .i64 j)).sen hl 2 (.slice aS (j + 1) cS)).sen hl 3 (.slice aI q cI)).sen hl 4 (.slice aV q cV)
    haveI bw : From w wr := ⟨hbr⟩
    clear zS zI zV
    go_wp2_with fail
    refine bodyPost_ret (v := .agg #[.int .i64 r, .int .i64 j, .slice aS (j + 1) cS, .slice aI q cI, .slice aV q cV]) (by simp only [results, Tryz.results88]; go_simp) rfl ?_
    obtain ⟨_, _, e1, zS⟩ := own_ils M6.os hSl
    obtain ⟨_, _, e2, zI⟩ := own_ils M6.oi hIq
    obtain ⟨_, _, e3, zV⟩ := own_fls M6.ov (fun i _ => (HF.out i).1)
    injection e1 with e11 _ e13; injection e2 with e21 _ e23; injection e3 with e31 _ e33
    subst e11 e13 e21 e23 e31 e33
    exact ⟨_, _, _, q, _, _, _, _, _, X, rfl, ⟨zS, zI, zV, HG.out.val HF.out.fin⟩, HF.out, Nat.le_trans hq (Nat.mul_le_mul hc hr), zbh⟩
end Go.Proofs.YtablcbgeeeboeaaGreatDoor

/-
  Walks: package sparsegen: Block.
-/
import Derived.Test.YtablcbgeeeboeaaGreatDoorZdPb
import Derived.Test.YtablcbgeeeboeaaGreatDoorZdPd
import Derived.Test.YtablcbgeeeboeaaGreatDoorZdOpenW
import Derived.Test.YtablcbgeeeboeaaGreatDoorZdS3
import Derived.Test.YtablcbgeeeboeaaGreatDoorZdSqt
import Derived.Test.YtablcbgeeeboeaaGreatDoorZdGq
set_option maxRecDepth 100000
set_option maxHeartbeats 20000000
namespace Go.Proofs.YtablcbgeeeboeaaGreatDoor
open Go.RowKit Sp
class DM (w : World) (base : Nat) (v : Value) (k : Nat) (d : outParam (Nat → Option (Int × Int))) (A : outParam (Nat → Option Addr)) (C : outParam (Nat → Nat)) : Prop where
 out : Dms w base v k d A C
 fr : ∀ i, i < k → 0 < nl (dman (d i)).natAbs → base ≤ ab (A i)
section
variable {w w' : World} {base : Nat} {v v' : Value} {k : Nat} {d : Nat → Option (Int × Int)} {A : Nat → Option Addr} {C : Nat → Nat}
instance DM.dr [h : DM w base v k d A C] : DM w.drew base v k d A C := ⟨h.out.below (Below.refl _ _).drew, h.fr⟩
instance DM.dn (q : Nat) [h : DM w base v k d A C] : DM (w.drewN q) base v k d A C := ⟨h.out.below (below_drewN (Below.refl _ _) _), h.fr⟩
instance DM.al (o : Obj) [h : DM w base v k d A C] : DM (w.alloc o) base v k d A C := ⟨h.out.below ((Below.refl _ _).alloc (Nat.le_refl _) _), h.fr⟩
instance DM.fr' (L : World) [f : From L w] [h : DM L base v k d A C] : DM w base v k d A C := ⟨h.out.below f.out, h.fr⟩
theorem DM.nil (w : World) (base : Nat) (d : Nat → Option (Int × Int)) : DM w base (.slice none 0 0) 0 d (fun _ => none) (fun _ => 0) :=
 ⟨⟨World.ownsRow_nil _ _ _ _, fun i hi => by omega, fun i hi => by omega⟩, fun i hi => by omega⟩
theorem DM.sen (h : DM w base v k d A C) {b : Nat} (hb : b < base) (i : Nat) (u : Value) : DM (w.setCell ⟨b, i, none⟩ u) base v k d A C := by
 have hg : w.grownBy (w.setCell ⟨b, i, none⟩ u) (some b) := only_set (only_refl w b) i u
 refine ⟨h.out.kept hg ?_ (fun j hj hp e => ?_), h.fr⟩
 · rcases hv : v.ownBlock with _ | g
   · exact Or.inl rfl
   · refine Or.inr fun e => ?_
     have := (h.out.own.lt g hv).1
     injection e with e; omega
 · have := h.fr j hj hp
   injection e with e; omega
theorem DM.app (h : DM w base v k d A C) {dk : Option (Int × Int)} {a1 : Option Addr} {c1 : Nat}
 (ho : w'.ownsRow base 46 4 v' (k + 1) (dcells (mcell d A C) k ++ [.bool (dbad dk), .bool (decide (dman dk < 0)), .slice a1 (nl (dman dk).natAbs) c1, .int .i64 (dexp dk)]))
 (hg : w.grownBy w' v.ownBlock) (hv : v'.ownBlock = v.ownBlock ∨ v'.ownBlock = some w.heap.size) (hm : Mag w a1 (nl (dman dk).natAbs) c1 (dman dk).natAbs) (hf : 0 < nl (dman dk).natAbs → base ≤ ab a1) (hne : 0 < nl (dman dk).natAbs → some (ab a1) ≠ v.ownBlock) :
 DM w' base v' (k + 1) (fun i => if i = k then dk else d i) (fun i => if i = k then a1 else A i) (fun i => if i = k then c1 else C i) := by
 have h2 := h.out.congr (d' := fun i => if i = k then dk else d i) (fun i hi => (if_neg (by omega)).symm)
 have e2 : dcells (mcell d A C) k = dcells (mcell (fun i => if i = k then dk else d i) A C) k := dcells_congr fun i hi => by unfold mcell; simp only [if_neg (show ¬ i = k by omega)]
 rw [e2] at ho
 refine ⟨h2.app (by simp only [if_true]; exact ho) hg hv (by simp only [if_true]; exact hm) (by simp only [if_true]; exact hne), fun i hi => ?_⟩
 by_cases hk : i = k
 · simp only [if_pos hk]; exact hf
 · simp only [if_neg hk]; exact h.fr i (by omega)
end
theorem DM.dz {a : Option Addr} {c n base k : Nat} {w : World} {d : Nat → Option (Int × Int)} {A : Nat → Option Addr} {C : Nat → Nat} (h : DM w base (.slice a n c) k d A C) (hd : ∀ i, IsN (d i)) : n = k ∧ Dz w a k c d := by
 obtain ⟨a', c', e, hz⟩ := h.out.dz hd
 injection e with e1 e2 e3
 subst e1 e3
 exact ⟨e2, hz⟩
theorem DM.mono {w : World} {base base' k : Nat} {v : Value} {d : Nat → Option (Int × Int)} {A : Nat → Option Addr} {C : Nat → Nat} (h : DM w base v k d A C) (hb : base' ≤ base) : DM w base' v k d A C :=
 ⟨⟨⟨h.out.own.1, h.out.own.2.imp id fun ⟨g, c, cur, e, hbg, r⟩ => ⟨g, c, cur, e, Nat.le_trans hb hbg, r⟩⟩, h.out.m, h.out.ap⟩, fun i hi hp => Nat.le_trans hb (h.fr i hi hp)⟩
def DN (w w' : World) (a : Option Addr) (n c : Nat) (d : Nat → Option (Int × Int)) : Prop := ∃ A C, DM w' w.heap.size (.slice a n c) n d A C
theorem DN.dz {w w' : World} {a : Option Addr} {n c : Nat} {d : Nat → Option (Int × Int)} (h : DN w w' a n c d) (hd : ∀ i, IsN (d i)) : Dz w' a n c d := by obtain ⟨A, C, h1⟩ := h; exact (h1.dz hd).2
theorem N3.own {W W' : World} {b base : Nat} {x0 x1 x2 : Value} {v : Value} {k : Nat} {d : Nat → Option (Int × Int)} {A : Nat → Option Addr} {C : Nat → Nat} (h : N3 W b x0 x1 x2) (hd : DM W base v k d A C) (hb : b < base) (hg : W.grownBy W' v.ownBlock) : N3 W' b x0 x1 x2 := by
 have hne : some b ≠ v.ownBlock := fun e => by have := (hd.out.own.lt b e.symm).1; omega
 have hblk := hg.block b h.lt hne
 have hc : ∀ i, W'.cell? ⟨b, i, none⟩ = W.cell? ⟨b, i, none⟩ := fun i => World.cell?_of_block (a := ⟨b, i, none⟩) hblk
 exact ⟨(hc 0).trans h.c0, (hc 1).trans h.c1, (hc 2).trans h.c2, fun i => (World.frozen?_of_block (a := ⟨b, i, none⟩) hblk).trans (h.z i), Nat.lt_of_lt_of_le h.lt hg.size⟩
theorem N3.se2 {W : World} {b : Nat} {x0 x1 x2 : Value} (h : N3 W b x0 x1 x2) (y : Value) : N3 (W.setCell ⟨b, 2, none⟩ y) b x0 x1 y := by
 obtain ⟨c0, c1, c2, c3, c4⟩ := h
 exact ⟨by go_simp, by go_simp, by go_simp, fun i => by go_simp, by simpa using c4⟩
theorem N3.sen {W : World} {b g : Nat} {x0 x1 x2 : Value} (h : N3 W b x0 x1 x2) (ne : b ≠ g) (i : Nat) (y : Value) : N3 (W.setCell ⟨g, i, none⟩ y) b x0 x1 x2 :=
 ⟨(cell_set_ne ne _ _ _).trans h.c0, (cell_set_ne ne _ _ _).trans h.c1, (cell_set_ne ne _ _ _).trans h.c2, fun j => (frozen_set_ne j _ _).trans (h.z j), by rw [World.size_setCell]; exact h.lt⟩
theorem fof_up {X : Nat → Nat} {k y : Nat} : (fun i => if i = k then fof y else fof (X i)) = fun i => fof (if i = k then y else X i) := by funext i; split <;> rfl
def Fin' (X : Nat → Nat) : Prop := ∀ i, X i < 18446744073709551616 ∧ ffin (X i) = true
theorem Fin'.up {X : Nat → Nat} (h : Fin' X) {k y : Nat} (h1 : y < 18446744073709551616) (h2 : ffin y = true) : Fin' (fun i => if i = k then y else X i) := fun i => by
 by_cases e : i = k
 · simp only [if_pos e]; exact ⟨h1, h2⟩
 · simp only [if_neg e]; exact h i
theorem fin_zero : Fin' fun _ => 0 := fun _ => ⟨by show 0 < 18446744073709551616; omega, by show ffin 0 = true; decide⟩
theorem frWd {P : Program} {f : FuncId} {args : Array Value} {W : World} (h : Calls P f args W fun o w' => ∃ x : Nat, x < 18446744073709551616 ∧ o = .returned (.int .u64 ((x : Nat) : Int)) ∧ W = w') :
 Calls P f args W fun o w' => ∃ x : Nat, x < 18446744073709551616 ∧ o = .returned (.int .u64 ((x : Nat) : Int)) ∧ From W w' :=
 h.mono fun _ _ ⟨x, h1, h2, h3⟩ => ⟨x, h1, h2, ⟨by subst h3; exact Below.refl _ _⟩⟩
theorem frNu {P : Program} {f : FuncId} {args : Array Value} {W : World} {R : Nat → Prop} (h : Calls P f args W fun o w' => ∃ y : Nat, R y ∧ o = .returned (.int .u64 ((y : Nat) : Int)) ∧ Below W.heap.size W w') :
 Calls P f args W fun o w' => ∃ y : Nat, R y ∧ o = .returned (.int .u64 ((y : Nat) : Int)) ∧ From W w' :=
 h.mono fun _ _ ⟨y, h1, h3, h4⟩ => ⟨y, h1, h3, ⟨h4⟩⟩
attribute [local irreducible] Calls
theorem gblock_any (w : World) [Tb w] (a : Option Addr) (n cap : Nat) (L : Nat → Nat) [hL : FZ w a n cap L] (r c : Nat) (hr : r ≤ 64) (hc : c ≤ 64) (s : Int) :
 Calls Tryz.prog 31 #[.slice a n cap, .int .i64 r, .int .i64 c, .int .i64 s] w fun o w' => ∃ oa oc X, o = .returned (.agg #[.int .i64 r, .int .i64 c, .slice oa (r * c) oc]) ∧ DN w w' oa (r * c) oc (fun i => fof (X i)) ∧ Fin' X ∧ Below w.heap.size w w' := by
 have HW := fun W k (h0 : 0 ≤ k) (hk : k ≤ 1000000) [i : FZ W a n cap L] => Lib.hid (frWd (gword_any W a n cap L i.out k h0 hk))
 have HN := fun W x (hx : x < 18446744073709551616) [Tb W] => Lib.hid (frNu (gnum_any W x hx s tb))
 have HO := fun W y (hy : y < 18446744073709551616) [Tb W] => Lib.hid (frF (r3of_any W y hy tb))
 have hN : ((r : Nat) : Int) * (c : Nat) = ((r * c : Nat) : Int) := (Int.natCast_mul r c).symm
 have hN2 : r * c ≤ 4096 := Nat.mul_le_mul hr hc
 obtain ⟨N, hNe⟩ : ∃ N, N = r * c := ⟨_, rfl⟩
 rw [← hNe] at hN hN2 ⊢
 have hwr : wrap64 ((r : Int) * (c : Int)) = (N : Int) := by rw [hN]; unfold wrap64; omega
 clear hNe
 go_enter Tryz.func31, Tryz.ntmps31
 go_wp2_with fail
 go_loopw [10] (fun i wr => ∃ (k : Nat) (v : Value) (X : Nat → Nat) (A : Nat → Option Addr) (C : Nat → Nat), k ≤ N ∧ i = .int .i64 k ∧ Fin' X ∧ DM wr (w.heap.size + 2) v k (fun i => fof (X i)) A C ∧ N3 wr (w.heap.size + 1) (.int .i64 r) (.int .i64 c) v ∧ N3 wr w.heap.size (.int .i64 0) (.int .i64 0) (.slice none 0 0) ∧ Below w.heap.size w wr ∧ w.heap.size + 2 ≤ wr.heap.size) (fun i _ => N - (intOf i).toNat)
 case atStart => exact ⟨0, .slice none 0 0, fun _ => 0, _, _, by omega, rfl, fin_zero, DM.nil _ _ _, inferInstance, inferInstance, zbh, by simp⟩
 case round =>
  obtain ⟨k, v, X, A, C, hk, rfl, hF, iM, iB, iR, hbr, hsz⟩ := hrel
  haveI bw : From w wr := ⟨hbr⟩
  by_cases hlt : k < N
  · have hw3 : IntKind.i64.wrap (300 + (k : Int)) = 300 + (k : Int) := by rw [IntKind.wrap_i64]; omega
    go_wp2_with fail
    first
    | go_region_law (first
     | (refine step_app_dyad (by rfl) _ _ (by rfl) (w.heap.size + 2) v k (dcells (mcell (fun i => fof (X i)) A C) k) (by rfl) _ (dbad (fof y)) (decide (dman (fof y) < 0)) (.slice a3 (nl (dman (fof y)).natAbs) c3) (dexp (fof y)) (by rfl) (by rfl) (inferInstance : DM (w3.alloc (.cells #[.bool (dbad (fof y)), .bool (decide (dman (fof y) < 0)), .slice a3 (nl (dman (fof y)).natAbs) c3, .int .i64 (dexp (fof y))] 46)) (w.heap.size + 2) v k (fun i => fof (X i)) A C).out.own (by go_simp) (by go_simp) (by go_simp) (by go_simp) (by omega) (by have e1 := b1.out.size; have e2 := b2.out.size; have e3 := b3.out.size; simp at e1 e2 e3 ⊢; omega) ?_; intro g4 cap4 w4 hown4 hg4 hob4; have DM4 : Hid (DM (w3.alloc (.cells #[.bool (dbad (fof y)), .bool (decide (dman (fof y) < 0)), .slice a3 (nl (dman (fof y)).natAbs) c3, .int .i64 (dexp (fof y))] 46)) (w.heap.size + 2) v k (fun i => fof (X i)) A C) := (inferInstance : DM (w3.alloc (.cells #[.bool (dbad (fof y)), .bool (decide (dman (fof y) < 0)), .slice a3 (nl (dman (fof y)).natAbs) c3, .int .i64 (dexp (fof y))] 46)) (w.heap.size + 2) v k (fun i => fof (X i)) A C); haveI iB4 : N3 w4 (w.heap.size + 1) (.int .i64 r) (.int .i64 c) v := N3.own (inferInstance : N3 (w3.alloc (.cells #[.bool (dbad (fof y)), .bool (decide (dman (fof y) < 0)), .slice a3 (nl (dman (fof y)).natAbs) c3, .int .i64 (dexp (fof y))] 46)) (w.heap.size + 1) (.int .i64 r) (.int .i64 c) v) DM4.out (by omega) hg4; haveI iR4 : N3 w4 w.heap.size (.int .i64 0) (.int .i64 0) (.slice none 0 0) := N3.own (inferInstance : N3 (w3.alloc (.cells #[.bool (dbad (fof y)), .bool (decide (dman (fof y) < 0)), .slice a3 (nl (dman (fof y)).natAbs) c3, .int .i64 (dexp (fof y))] 46)) w.heap.size (.int .i64 0) (.int .i64 0) (.slice none 0 0)) DM4.out (by omega) hg4)
     | (go_simp; go_wp2_with (first
      | (go_at_call 26; refine (HW _ (300 + (k : Int)) (by omega) (by omega)).out.mono ?_; rintro o w1 ⟨x, hx, rfl, b1⟩)
      | (go_at_call 25; refine (HN _ x hx).out.mono ?_; rintro o w2 ⟨y, ⟨hy1, hy2, _⟩, rfl, b2⟩)
      | (go_at_call 20; refine (HO _ y hy1).out.mono ?_; rintro o w3 ⟨a3, c3, rfl, i3, b3, f3⟩)
      | fail))
     | fail)
    | fail "region"
    all_goals (
     have e1 := b1.out.size
     have e2 := b2.out.size
     have e3 := b3.out.size
     have e4 := hg4.size
     simp at e1 e2 e3 e4
     have hf : 0 < nl (dman (fof y)).natAbs → w.heap.size + 2 ≤ ab a3 := fun h => by have := f3 h; omega
     have hne : 0 < nl (dman (fof y)).natAbs → some (ab a3) ≠ v.ownBlock := fun h q => by have h1 := (iM.out.own.lt _ q.symm).2; have h2 := f3 h; omega
     have DM5 := DM4.out.app hown4 hg4 hob4 (i3.out.alloc _) hf hne
     rw [fof_up] at DM5
     have B4 : Below w.heap.size w w4 := Below.trans (show Below w.heap.size w (w3.alloc (.cells #[.bool (dbad (fof y)), .bool (decide (dman (fof y) < 0)), .slice a3 (nl (dman (fof y)).natAbs) c3, .int .i64 (dexp (fof y))] 46)) from zbh) ((below_grown DM4.out.out.own hg4 (by simp; omega)).mono (by omega))
     haveI f4 : From w w4 := ⟨B4⟩
     have DM6 := DM5.sen (show w.heap.size + 1 < w.heap.size + 2 by omega) 2 (.slice (some ⟨g4, 0, none⟩) (k + 1) cap4)
     have iB5 := iB4.se2 (.slice (some ⟨g4, 0, none⟩) (k + 1) cap4)
     have iR5 := N3.sen iR4 (show w.heap.size ≠ w.heap.size + 1 by omega) 2 (.slice (some ⟨g4, 0, none⟩) (k + 1) cap4)
     have B5 : Below w.heap.size w (w4.setCell ⟨w.heap.size + 1, 2, none⟩ (.slice (some ⟨g4, 0, none⟩) (k + 1) cap4)) := B4.setCell (by simp) _
     have hs5 : w.heap.size + 2 ≤ (w4.setCell ⟨w.heap.size + 1, 2, none⟩ (.slice (some ⟨g4, 0, none⟩) (k + 1) cap4)).heap.size := by rw [World.size_setCell]; omega
     have HX5 := hF.up (k := k) hy1 hy2
     generalize (w4.setCell ⟨w.heap.size + 1, 2, none⟩ (.slice (some ⟨g4, 0, none⟩) (k + 1) cap4)) = w5 at *
     clear DM4 DM5 hown4 hg4 hob4 iB4 iR4 hf hne
     go_wp2_with fail
     go_roundw
     case rel => exact ⟨k + 1, _, _, _, _, by omega, by go_num, HX5, DM6, iB5, iR5, B5, hs5⟩
     case measure => simp [intOf]; omega)
  · obtain rfl : k = N := by omega
    obtain ⟨oa, oc, rfl, hZ⟩ := iM.out.dz (fun i => isN_fof _)
    clear hZ
    have hl : w.heap.size < w.heap.size + 2 := by omega
    have M6 := ((iM.sen hl 0 (.int .i64 r)).sen hl 1 (.int .i64 c)).sen hl 2 (.slice oa k oc)
    go_wp2_with fail
    refine bodyPost_ret (v := .agg #[.int .i64 r, .int .i64 c, .slice oa k oc]) (by simp only [results, Tryz.results31]; go_simp) rfl ?_
    exact ⟨_, _, X, rfl, ⟨_, _, M6.mono (by omega)⟩, hF, zbh⟩
end Go.Proofs.YtablcbgeeeboeaaGreatDoor
namespace Go.Proofs.YtablcbgeeeboeaaGreatDoor
open Go.RowKit Sp
structure Val (r c q : Nat) (S I F : Nat → Nat) : Prop where
 z : S 0 = 0
 e : S c = q
 m : ∀ t, t < c → S t ≤ S (t + 1)
 a : ∀ t x, t < c → S t ≤ x → x < S (t + 1) → I x < r ∧ (S t < x → I (x - 1) < I x)
 f : ∀ x, F x < 18446744073709551616 ∧ ffin (F x) = true
theorem Val.mono {r c q : Nat} {S I F : Nat → Nat} (h : Val r c q S I F) : ∀ d t, t + d ≤ c → S t ≤ S (t + d) := by
 intro d
 induction d with
 | zero => intro t _; exact Nat.le_refl _
 | succ d ih => intro t ht; exact Nat.le_trans (ih t (by omega)) (h.m (t + d) (by omega))
theorem Val.le {r c q : Nat} {S I F : Nat → Nat} (h : Val r c q S I F) {t : Nat} (ht : t ≤ c) : S t ≤ q := by
 have := h.mono (c - t) t (by omega)
 rwa [show t + (c - t) = c by omega, h.e] at this
def lk (I F : Nat → Nat) (i a : Nat) : Nat → Option Nat
 | 0 => none
 | n + 1 => match lk I F i a n with
  | some y => some y
  | none => if I (a + n) = i then some (F (a + n)) else none
def atv (S I F : Nat → Nat) (i j : Nat) : Nat := (lk I F i (S j) (S (j + 1) - S j)).getD 0
def stv (S I F : Nat → Nat) (i j : Nat) : Bool := (lk I F i (S j) (S (j + 1) - S j)).isSome
theorem lk_congr {I F I' F' : Nat → Nat} {i a : Nat} : ∀ n, (∀ x, a ≤ x → x < a + n → I x = I' x ∧ F x = F' x) → lk I F i a n = lk I' F' i a n := by
 intro n
 induction n with
 | zero => intro _; rfl
 | succ n ih =>
  intro h
  simp only [lk]
  rw [ih fun x h1 h2 => h x h1 (by omega), (h (a + n) (by omega) (by omega)).1, (h (a + n) (by omega) (by omega)).2]
theorem lk_none {I F : Nat → Nat} {i a : Nat} : ∀ n, (∀ x, a ≤ x → x < a + n → I x ≠ i) → lk I F i a n = none := by
 intro n
 induction n with
 | zero => intro _; rfl
 | succ n ih =>
  intro h
  simp only [lk]
  rw [ih fun x h1 h2 => h x h1 (by omega)]
  simp only [if_neg (h (a + n) (by omega) (by omega))]
theorem lk_some {I F : Nat → Nat} {i a y : Nat} : ∀ d n, lk I F i a n = some y → lk I F i a (n + d) = some y := by
 intro d
 induction d with
 | zero => intro n h; exact h
 | succ d ih => intro n h; show (match lk I F i a (n + d) with | some y => some y | none => _) = _; rw [ih n h]
theorem lk_hit {I F : Nat → Nat} {i a n x : Nat} (hn : a ≤ x) (hx : x < a + n) (h0 : ∀ y, a ≤ y → y < x → I y ≠ i) (h : I x = i) : lk I F i a n = some (F x) := by
 have h1 : lk I F i a (x - a) = none := lk_none _ fun y h1 h2 => h0 y h1 (by omega)
 have h2 : lk I F i a (x - a + 1) = some (F x) := by
  simp only [lk]; rw [h1]
  simp only [show a + (x - a) = x by omega, if_pos h]
 have := lk_some (n - (x - a + 1)) _ h2
 rwa [show x - a + 1 + (n - (x - a + 1)) = n by omega] at this
theorem lk_val {I F : Nat → Nat} {i a y : Nat} : ∀ n, lk I F i a n = some y → ∃ x, a ≤ x ∧ x < a + n ∧ I x = i ∧ F x = y := by
 intro n
 induction n with
 | zero => intro h; cases h
 | succ n ih =>
  intro h
  simp only [lk] at h
  cases h1 : lk I F i a n with
  | some y' =>
   rw [h1] at h
   simp only [Option.some.injEq] at h
   obtain ⟨x, h2, h3, h4, h5⟩ := ih (by rw [h1, h])
   exact ⟨x, h2, by omega, h4, h5⟩
  | none =>
   rw [h1] at h
   simp only at h
   split at h
   · rename_i hi; injection h with h; exact ⟨a + n, by omega, by omega, hi, h⟩
   · cases h
theorem atv_fin {r c q : Nat} {S I F : Nat → Nat} (h : Val r c q S I F) (i j : Nat) : atv S I F i j < 18446744073709551616 ∧ ffin (atv S I F i j) = true := by
 unfold atv
 cases h1 : lk I F i (S j) (S (j + 1) - S j) with
 | none => exact ⟨by decide, by decide⟩
 | some y => obtain ⟨x, _, _, _, rfl⟩ := lk_val _ h1; exact h.f x
theorem atv_pred {S I F : Nat → Nat} {P : Nat → Prop} (h0 : P 0) (h : ∀ x, P (F x)) (i j : Nat) : P (atv S I F i j) := by
 unfold atv
 cases h1 : lk I F i (S j) (S (j + 1) - S j) with
 | none => exact h0
 | some y => obtain ⟨x, _, _, _, rfl⟩ := lk_val _ h1; exact h x
theorem getD_lt {l : List Nat} {x t : Nat} (h : t < l.length) : (l ++ [x]).getD t 0 = l.getD t 0 := by
 rw [List.getD_eq_getElem?_getD, List.getD_eq_getElem?_getD, List.getElem?_append_left h]
theorem getD_eq {l : List Nat} {x n : Nat} (h : l.length = n) : (l ++ [x]).getD n 0 = x := by
 subst h
 rw [List.getD_eq_getElem?_getD, List.getElem?_append_right (Nat.le_refl _), Nat.sub_self]; rfl
structure GV (r j k : Nat) (S I : List Nat) (q : Nat) : Prop where
 sl : S.length = j + 1
 il : I.length = q
 z : S.getD 0 0 = 0
 m : ∀ t, t < j → S.getD t 0 ≤ S.getD (t + 1) 0
 l : S.getD j 0 ≤ q
 a : ∀ t x, t < j → S.getD t 0 ≤ x → x < S.getD (t + 1) 0 → I.getD x 0 < r ∧ (S.getD t 0 < x → I.getD (x - 1) 0 < I.getD x 0)
 b : ∀ x, S.getD j 0 ≤ x → x < q → I.getD x 0 < k ∧ (S.getD j 0 < x → I.getD (x - 1) 0 < I.getD x 0)
section
variable {r j k q : Nat} {S I : List Nat}
theorem GV.start (r : Nat) : GV r 0 0 [0] [] 0 := ⟨rfl, rfl, rfl, fun t h => by omega, Nat.le_refl _, fun t x h => by omega, fun x _ h => by omega⟩
theorem GV.mono (h : GV r j k S I q) : ∀ d t, t + d ≤ j → S.getD t 0 ≤ S.getD (t + d) 0 := by
 intro d
 induction d with
 | zero => intro t _; exact Nat.le_refl _
 | succ d ih => intro t ht; exact Nat.le_trans (ih t (by omega)) (h.m (t + d) (by omega))
theorem GV.le (h : GV r j k S I q) {t : Nat} (ht : t ≤ j) : S.getD t 0 ≤ q := by
 have h1 := h.mono (j - t) t (by omega)
 rw [show t + (j - t) = j by omega] at h1
 exact Nat.le_trans h1 h.l
theorem GV.skip (h : GV r j k S I q) : GV r j (k + 1) S I q :=
 ⟨h.sl, h.il, h.z, h.m, h.l, h.a, fun x h1 h2 => ⟨by have := (h.b x h1 h2).1; omega, (h.b x h1 h2).2⟩⟩
theorem GV.put (h : GV r j k S I q) : GV r j (k + 1) S (I ++ [k]) (q + 1) := by
 have e : ∀ x, x < q → (I ++ [k]).getD x 0 = I.getD x 0 := fun x hx => getD_lt (by rw [h.il]; exact hx)
 refine ⟨h.sl, by rw [List.length_append, h.il]; rfl, h.z, h.m, by have := h.l; omega, fun t x h0 h1 h2 => ?_, fun x h1 h2 => ?_⟩
 · have hq : x < q := Nat.lt_of_lt_of_le h2 (h.le (t := t + 1) (by omega))
   rw [e x hq, e (x - 1) (by omega)]
   exact h.a t x h0 h1 h2
 · by_cases hx : x = q
   · subst hx
     rw [getD_eq h.il]
     refine ⟨by omega, fun h3 => ?_⟩
     rw [e (x - 1) (by omega)]
     exact (h.b (x - 1) (by omega) (by omega)).1
   · rw [e x (by omega), e (x - 1) (by omega)]
     have := h.b x h1 (by omega)
     exact ⟨by omega, this.2⟩
theorem GV.close (h : GV r j k S I q) (hk : k ≤ r) : GV r (j + 1) 0 (S ++ [q]) I q := by
 have e : ∀ x, x ≤ j → (S ++ [q]).getD x 0 = S.getD x 0 := fun x hx => getD_lt (by rw [h.sl]; omega)
 have e1 : (S ++ [q]).getD (j + 1) 0 = q := getD_eq h.sl
 refine ⟨by rw [List.length_append, h.sl]; rfl, h.il, by rw [e 0 (by omega)]; exact h.z, fun t ht => ?_, by rw [e1]; exact Nat.le_refl _, fun t x h0 h1 h2 => ?_, fun x h1 h2 => by rw [e1] at h1; omega⟩
 · by_cases hj : t = j
   · subst hj; rw [e1, e t (by omega)]; exact h.l
   · rw [e t (by omega), e (t + 1) (by omega)]; exact h.m t (by omega)
 · by_cases hj : t = j
   · subst hj
     rw [e1] at h2
     rw [e t (by omega)] at h1 ⊢
     have := h.b x h1 h2
     exact ⟨by omega, this.2⟩
   · rw [e t (by omega)] at h1 ⊢
     rw [e (t + 1) (by omega)] at h2
     exact h.a t x (by omega) h1 h2
theorem GV.val {c : Nat} {F : Nat → Nat} (h : GV r c 0 S I q) (hF : ∀ x, F x < 18446744073709551616 ∧ ffin (F x) = true) : Val r c q (fun t => S.getD t 0) (fun t => I.getD t 0) F := by
 refine ⟨h.z, ?_, h.m, h.a, hF⟩
 show S.getD c 0 = q
 have h1 := h.l
 by_cases h2 : S.getD c 0 < q
 · exact absurd (h.b _ (Nat.le_refl _) h2).1 (Nat.not_lt_zero _)
 · omega
end
structure Con (r j k : Nat) (S I : List Nat) (X : Nat → Nat) (q : Nat) (E : Nat → Nat → Option Nat) : Prop where
 c : ∀ t i, t < j → i < r → lk (fun t => I.getD t 0) X i (S.getD t 0) (S.getD (t + 1) 0 - S.getD t 0) = E i t
 o : ∀ i, lk (fun t => I.getD t 0) X i (S.getD j 0) (q - S.getD j 0) = if i < k then E i j else none
section
variable {r j k q : Nat} {S I : List Nat} {X : Nat → Nat} {E : Nat → Nat → Option Nat}
theorem Con.start (r : Nat) (X : Nat → Nat) (E : Nat → Nat → Option Nat) : Con r 0 0 [0] [] X 0 E := ⟨fun t i h => by omega, fun i => by rw [if_neg (by omega)]; rfl⟩
theorem Con.skip (h : Con r j k S I X q E) (hE : E k j = none) : Con r j (k + 1) S I X q E := ⟨h.c, fun i => by
 rw [h.o i]
 by_cases hi : i = k
 · subst hi; rw [if_neg (by omega), if_pos (by omega), hE]
 · by_cases h2 : i < k
   · rw [if_pos h2, if_pos (by omega)]
   · rw [if_neg h2, if_neg (by omega)]⟩
theorem Con.put (h : Con r j k S I X q E) (g : GV r j k S I q) {y : Nat} (hE : E k j = some y) : Con r j (k + 1) S (I ++ [k]) (fun t => if t = q then y else X t) (q + 1) E := by
 have e : ∀ x, x < q → (I ++ [k]).getD x 0 = I.getD x 0 := fun x hx => getD_lt (by rw [g.il]; exact hx)
 have c1 : ∀ i a n, a + n ≤ q → lk (fun t => (I ++ [k]).getD t 0) (fun t => if t = q then y else X t) i a n = lk (fun t => I.getD t 0) X i a n := fun i a n ha => lk_congr n fun x h1 h2 => ⟨e x (by omega), if_neg (by omega)⟩
 refine ⟨fun t i h0 h1 => ?_, fun i => ?_⟩
 · have h2 := g.m t h0
   have h3 := g.le (t := t + 1) (by omega)
   rw [c1 i _ _ (by omega)]; exact h.c t i h0 h1
 · have h3 := g.l
   rw [show q + 1 - S.getD j 0 = q - S.getD j 0 + 1 by omega]
   simp only [lk]
   rw [c1 i _ _ (by omega), h.o i]
   have e3 : S.getD j 0 + (q - S.getD j 0) = q := by omega
   simp only [e3, getD_eq g.il, if_true]
   by_cases hi : i = k
   · subst hi; rw [if_neg (Nat.lt_irrefl i), if_pos (Nat.lt_succ_self i), hE]; simp
   · by_cases h2 : i < k
     · rw [if_pos h2, if_pos (show i < k + 1 by omega)]
       cases E i j with
       | none => simp only; rw [if_neg (show ¬ k = i by omega)]
       | some z => rfl
     · rw [if_neg h2, if_neg (show ¬ i < k + 1 by omega)]
       simp only; rw [if_neg (show ¬ k = i by omega)]
theorem Con.close (h : Con r j r S I X q E) (g : GV r j r S I q) : Con r (j + 1) 0 (S ++ [q]) I X q E := by
 have e : ∀ x, x ≤ j → (S ++ [q]).getD x 0 = S.getD x 0 := fun x hx => getD_lt (by rw [g.sl]; omega)
 have e1 : (S ++ [q]).getD (j + 1) 0 = q := getD_eq g.sl
 refine ⟨fun t i h0 h1 => ?_, fun i => by rw [if_neg (by omega), e1, Nat.sub_self]; rfl⟩
 by_cases hj : t = j
 · subst hj
   rw [e1, e t (by omega), h.o i, if_pos h1]
 · rw [e t (by omega), e (t + 1) (by omega)]; exact h.c t i (by omega) h1
end
end Go.Proofs.YtablcbgeeeboeaaGreatDoor

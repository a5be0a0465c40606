/-
  Walks: lists of floats in a box; sparsegen.Panel; Transpose of both sides.
-/
import Derived.Test.YtablcbgeeeboeaaGreatDoorZfPb
import Derived.Test.YtablcbgeeeboeaaGreatDoorZfPf
import Derived.Test.YtablcbgeeeboeaaGreatDoorZfTd
set_option maxRecDepth 100000
set_option maxHeartbeats 20000000
namespace Go.Proofs.YtablcbgeeeboeaaGreatDoor
open Go.RowKit Sp
class FO (w : World) (base : Nat) (v : Value) (k : Nat) (X : outParam (Nat → Nat)) : Prop where out : w.ownsRow base 40 1 v k (flist X k)
theorem own_floats0 {w : World} {base : Nat} {a : Option Addr} {n c : Nat} {xs : List Value} (h : w.ownsRow base 40 1 (.slice a n c) n xs) : n = 0 ∨ ∃ g, a = some ⟨g, 0, none⟩ ∧ base ≤ g := by
 rcases h.2 with ⟨hv, hk⟩ | ⟨g, cap, cur, hv, hbg, _⟩
 · exact Or.inl hk
 · injection hv with e1 _ _; exact Or.inr ⟨g, e1, hbg⟩
section
variable {w w' w0 wr : World} {base k : Nat} {v v' : Value} {X Y : Nat → Nat}
theorem FO.below (h : FO w base v k X) (hb : Below w.heap.size w w') : FO w' base v k X := ⟨ownsRow_below h.out hb⟩
instance FO.dr [h : FO w base v k X] : FO w.drew base v k X := h.below (Below.refl _ _).drew
instance FO.dn (q : Nat) [h : FO w base v k X] : FO (w.drewN q) base v k X := h.below (below_drewN (Below.refl _ _) _)
instance FO.al (o : Obj) [h : FO w base v k X] : FO (w.alloc o) base v k X := h.below ((Below.refl _ _).alloc (Nat.le_refl _) _)
instance FO.fr' (W : World) [f : From W w] [h : FO W base v k X] : FO w base v k X := h.below f.out
theorem FO.nil (w : World) (base : Nat) (X : Nat → Nat) : FO w base (.slice none 0 0) 0 X := ⟨World.ownsRow_nil _ _ _ _⟩
theorem FO.sen (h : FO w base v k X) {b : Nat} (hb : b < base) (i : Nat) (u : Value) : FO (w.setCell ⟨b, i, none⟩ u) base v k X := ⟨own_sen h.out hb i u⟩
theorem FO.to (h : FO w base v k X) (e : ∀ i, i < k → X i = Y i) : FO w base v k Y := ⟨by rw [← flist_congr e]; exact h.out⟩
theorem FO.step (h : FO w base v k X) [hb : Beh w0 w] [hs : BG w base] [hl : BL base wr w] {y : Nat} (h0 : w0.heap.size ≤ base) (hy : X k = y) (ho : w'.ownsRow base 40 1 v' (k + 1) (flist X k ++ [.int .u64 ((y : Nat) : Int)])) (hg : w.grownBy w' v.ownBlock) :
 FO w' base v' (k + 1) X ∧ From w0 w' ∧ BG w' base ∧ BL base wr w' :=
 ⟨⟨by subst hy; exact ho⟩, ⟨hb.out.trans ((below_grown h.out hg hs.out).mono h0)⟩, ⟨Nat.le_trans hs.out hg.size⟩, ⟨hl.out.trans (below_grown h.out hg hs.out)⟩⟩
theorem FO.fw {a : Option Addr} {n c : Nat} (h : FO w base (.slice a n c) n X) (hb : w0.heap.size ≤ base) (hX : ∀ i, i < n → X i < 18446744073709551616) : FW a n c X w0.heap.size w.heap.size w := by
 obtain ⟨a', c', e, h1⟩ := own_fls h.out hX
 injection e with e1 e2 e3
 subst e1 e3
 refine FW.of h1 fun hn => ?_
 rcases own_floats0 h.out with hz | ⟨g, hv, hbg⟩
 · omega
 · rw [hv]; exact Nat.le_trans hb hbg
end
def trX (X : Nat → Nat) (r c t : Nat) : Nat := X ((t % c) * r + t / c)
theorem trX_at {X : Nat → Nat} {r c i j : Nat} (hj : j < c) : trX X r c (i * c + j) = X (j * r + i) := by
 unfold trX
 rw [Nat.mul_comm i c, Nat.mul_add_mod, Nat.mod_eq_of_lt hj, Nat.mul_add_div (by omega), Nat.div_eq_of_lt hj, Nat.add_zero]
theorem pq_lt {i j r c : Nat} (hi : i < r) (hj : j < c) : j * r + i < r * c := by
 have h : (j + 1) * r ≤ c * r := Nat.mul_le_mul_right r hj
 rw [Nat.add_mul, Nat.one_mul] at h
 rw [Nat.mul_comm r c]; omega
theorem chk_fin {r c : Nat} (hr : r ≤ 64) (hc : c ≤ 64) {X : Nat → Nat} (hX : ∀ t, t < r * c → ffin (X t) = true) : chkE r c (r * c) (!allfin X (r * c)) = 0 := by
 have hsz : szE r c (r * c) = 0 := by unfold szE; rw [if_neg (by omega), if_neg (by omega), if_pos (Int.natCast_mul r c)]
 unfold chkE
 rw [if_pos hsz, (allfin_iff X (r * c)).2 hX]; rfl
attribute [local irreducible] Calls
theorem gpanel_any (w : World) [Tb w] (a : Option Addr) (n cap : Nat) (L : Nat → Nat) [hL : FZ w a n cap L] (r c : Nat) (hr : r ≤ 64) (hc : c ≤ 64) (s : Int) :
 Calls Tryz.prog 36 #[.slice a n cap, .int .i64 r, .int .i64 c, .int .i64 s] w fun o w' => ∃ oa oc X, o = .returned (.agg #[.int .i64 r, .int .i64 c, .slice oa (r * c) oc]) ∧ FW oa (r * c) oc X w.heap.size w'.heap.size w' ∧ SX s X ∧ From w w' := by
 have HW := fun W k (h0 : 0 ≤ k) (hk : k ≤ 1000000) [i : FZ W a n cap L] => Lib.hid (frWd (gword_any W a n cap L i.out k h0 hk))
 have HN := fun W x (hx : x < 18446744073709551616) [Tb W] => Lib.hid (frNu (gnum_any W x hx s tb))
 have hN : ((r : Nat) : Int) * (c : Nat) = ((r * c : Nat) : Int) := (Int.natCast_mul r c).symm
 have hN2 : r * c ≤ 4096 := Nat.mul_le_mul hr hc
 obtain ⟨N, hNe⟩ : ∃ N, N = r * c := ⟨_, rfl⟩
 rw [← hNe] at hN hN2 ⊢
 clear hNe
 go_enter Tryz.func36, Tryz.ntmps36
 go_wp2_with fail
 go_loopw [10] (fun i wr => ∃ (k : Nat) (v : Value) (X : Nat → Nat), k ≤ N ∧ i = .int .i64 k ∧ SX s X ∧ FO wr (w.heap.size + 2) v k X ∧ N3 wr (w.heap.size + 1) (.int .i64 r) (.int .i64 c) v ∧ N3 wr w.heap.size (.int .i64 0) (.int .i64 0) (.slice none 0 0) ∧ Below w.heap.size w wr ∧ w.heap.size + 2 ≤ wr.heap.size) (fun i _ => N - (intOf i).toNat)
 case atStart => exact ⟨0, _, fun _ => 0, by omega, rfl, SX.zero s, FO.nil _ _ _, inferInstance, inferInstance, zbh, by simp⟩
 case round =>
  obtain ⟨k, v, X, hk, rfl, hF, iM, iB, iR, hbr, hsz⟩ := hrel
  haveI bw : From w wr := ⟨hbr⟩
  haveI G0 : BG wr (w.heap.size + 2) := ⟨hsz⟩
  obtain ⟨ea, ec, hv⟩ := own_slice' iM.out
  subst hv
  by_cases hlt : k < N
  · have hw3 : IntKind.i64.wrap (500 + (k : Int)) = 500 + (k : Int) := by rw [IntKind.wrap_i64]; omega
    go_wp2_with fail
    refine bgj (fun w' => Below (w.heap.size + 2) wr w') [11] (by kernel_rfl) ((by exact BL.out)) (fun hHeld => ?_)
    simp only [List.size_toArray, List.length_cons, List.length_nil, Nat.reduceAdd, Array.replicate_succ, Array.replicate_zero, List.push_toArray, List.nil_append, List.cons_append]
    refine tkj 0 21 ?_ [1, 9, 10, 11] (hy := ?_) (hS := (by exact BL.out)) (h := ?_)
    rotate_left
    · intro w hSw; haveI := N3.lo iB hSw (by omega); go_simp; (try with_reducible rfl)
    refine tkj 1 22 ?_ [9, 10, 11] (hy := ?_) (hS := (by exact BL.out)) (h := ?_)
    rotate_left
    · intro w hSw; haveI := N3.lo iB hSw (by omega); go_simp; (try with_reducible rfl)
    refine tkj 2 23 ?_ [5, 7, 8, 9, 10, 11] (hy := ?_) (hS := (by exact BL.out)) (h := ?_)
    rotate_left
    · intro w hSw; haveI := N3.lo iB hSw (by omega); go_simp; (try with_reducible rfl)
    refine tkj 3 24 ?_ [4, 5, 7, 8, 9, 10, 11] (hy := ?_) (hS := (by exact BL.out)) (h := ?_)
    rotate_left
    · intro w hSw; haveI := N3.lo iB hSw (by omega); go_simp; (try with_reducible rfl)
    refine tkj 4 25 ?_ [5, 7, 8, 9, 10, 11] (hy := ?_) (hS := (by exact BL.out)) (h := ?_)
    rotate_left
    · intro w hSw; haveI := N3.lo iB hSw (by omega); go_simp; (try with_reducible rfl)
    refine tkj 6 27 ?_ [7, 8, 9, 10, 11] (hy := ?_) (hS := (by exact BL.out)) (h := ?_)
    rotate_left
    · intro w hSw; haveI := N3.lo iB hSw (by omega); go_simp; (try with_reducible rfl)
    refine stj 5 (h := fun K hK => ?_)
    go_simp
    go_at_call 26; refine (HW _ (500 + (k : Int)) (by omega) (by omega)).out.mono ?_; rintro o w1 ⟨x, hx, rfl, b1⟩
    go_simp
    refine hK.out _ _ (Or.inr (by exact BL.out)) ?_
    clear hK K
    try simp only [List.setIfInBounds_toArray, List.set_cons_zero, List.set_cons_succ]
    refine stj 7 (h := fun K hK => ?_)
    go_simp
    go_at_call 25; refine (HN _ x hx).out.mono ?_; rintro o w2 ⟨y, hy, rfl, b2⟩
    haveI MU : FO wr (w.heap.size + 2) (.slice ea k ec) k (fun t => if t = k then y else X t) := iM.to fun i hi => (if_neg (by omega)).symm
    go_simp
    refine hK.out _ _ (Or.inr (by exact BL.out)) ?_
    clear hK K
    try simp only [List.setIfInBounds_toArray, List.set_cons_zero, List.set_cons_succ]
    refine stj 8 (h := fun K hK => ?_)
    go_simp
    refine hK.out _ _ (Or.inr (by exact BL.out)) ?_
    clear hK K
    try simp only [List.setIfInBounds_toArray, List.set_cons_zero, List.set_cons_succ]
    refine stj 9 (h := fun K hK => ?_)
    refine step_app_float (by rfl) _ _ (by rfl) (w.heap.size + 2) (.slice ea k ec) k (flist (fun t => if t = k then y else X t) k) (by rfl) _ (y : Int) (by rfl) (by exact @FO.out _ (w.heap.size + 2) (.slice ea k ec) k (fun t => if t = k then y else X t) inferInstance) (by go_simp) (by omega) (by exact BG.out) ?_
    intro g6 cap6 w6 hown6 hg6 hob6
    obtain ⟨M6, f6, G6, L6⟩ := FO.step (v := (.slice ea k ec)) (X := (fun t => if t = k then y else X t)) (w0 := w) (wr := wr) inferInstance (by omega) (if_pos rfl) hown6 hg6
    clear hown6 hg6 hob6
    haveI iB6 := N3.lo iB L6.out (by omega)
    refine hK.out _ _ (Or.inr (by exact BL.out)) ?_
    clear hK K
    try simp only [Act.put, List.setIfInBounds_toArray, List.set_cons_zero, List.set_cons_succ]
    refine tkj 10 31 ?_ [11] (hy := ?_) (hS := (by exact BL.out)) (h := ?_)
    rotate_left
    · intro w hSw; haveI := N3.lo iB hSw (by omega); go_simp; (try with_reducible rfl)
    refine stj 11 (h := fun K hK => ?_)
    go_simp
    refine hK.out _ _ (Or.inl (by decide)) ?_
    clear hK K
    try simp only [List.setIfInBounds_toArray, List.set_cons_zero, List.set_cons_succ]
    refine enj (by kernel_rfl) ?_ _
    have C9 := M6.sen (show w.heap.size + 1 < w.heap.size + 2 by omega) 2 (.slice (some ⟨g6, 0, none⟩) (k + 1) cap6)
    have E1 := N3.se2 (N3.lo iB L6.out (by omega)) (.slice (some ⟨g6, 0, none⟩) (k + 1) cap6)
    have E2 := N3.sen (N3.lo iR L6.out (by omega)) (show w.heap.size ≠ w.heap.size + 1 by omega) 2 (.slice (some ⟨g6, 0, none⟩) (k + 1) cap6)
    have B9 : Below w.heap.size w (w6.setCell ⟨w.heap.size + 1, 2, none⟩ (.slice (some ⟨g6, 0, none⟩) (k + 1) cap6)) := f6.out.setCell (Nat.le_succ _) _
    have S9 : w.heap.size + 2 ≤ (w6.setCell ⟨w.heap.size + 1, 2, none⟩ (.slice (some ⟨g6, 0, none⟩) (k + 1) cap6)).heap.size := by rw [World.size_setCell]; exact G6.out
    generalize (w6.setCell ⟨w.heap.size + 1, 2, none⟩ (.slice (some ⟨g6, 0, none⟩) (k + 1) cap6)) = w9 at *
    clear M6 f6 G6 L6
    go_wp2_with fail
    go_roundw
    case rel => exact ⟨k + 1, _, _, by omega, by go_num, hF.up hy, C9, E1, E2, B9, S9⟩
    case measure => simp [intOf]; omega
  · obtain rfl : k = N := by omega
    have hl : w.heap.size < w.heap.size + 2 := by omega
    have M6 := ((iM.sen hl 0 (.int .i64 r)).sen hl 1 (.int .i64 c)).sen hl 2 (.slice ea k ec)
    have L6 : From w (((wr.setCell ⟨w.heap.size, 0, none⟩ (.int .i64 r)).setCell ⟨w.heap.size, 1, none⟩ (.int .i64 c)).setCell ⟨w.heap.size, 2, none⟩ (.slice ea k ec)) := ⟨((hbr.setCell (Nat.le_refl _) _).setCell (Nat.le_refl _) _).setCell (Nat.le_refl _) _⟩
    clear HW HN
    go_wp2_with fail
    refine bodyPost_ret (v := .agg #[.int .i64 r, .int .i64 c, .slice ea k ec]) (by simp only [results, Tryz.results36]; go_simp) rfl ?_
    exact ⟨_, _, X, rfl, M6.fw (by omega) (fun i _ => (hF i).1), hF, L6⟩
theorem dtrans_any (w : World) (r c : Nat) (hr : r ≤ 64) (hc : c ≤ 64) (a : Option Addr) (cap : Nat) (X : Nat → Nat) [hL : FZ w a (r * c) cap X] (hX : ∀ t, t < r * c → ffin (X t) = true) :
 Calls Tryz.prog 39 #[.agg #[.int .i64 r, .int .i64 c, .slice a (r * c) cap]] w fun o w' => ∃ pa pc, o = .returned (.tuple #[.agg #[.int .i64 c, .int .i64 r, .slice pa (r * c) pc], .int .i64 0]) ∧ FW pa (r * c) pc (trX X r c) w.heap.size w'.heap.size w' ∧ From w w' := by
 have HC := fun W [i : FZ W a (r * c) cap X] => Lib.hid (frm (dcheckp_any W r c a (r * c) cap X i.out))
 rw [chk_fin hr hc hX] at HC
 obtain ⟨D, hD⟩ : ∃ D, D = trX X r c := ⟨_, rfl⟩
 have HD : Hid (∀ i j, j < c → D (i * c + j) = X (j * r + i)) := Lib.hid fun i j h => by rw [hD]; exact trX_at h
 rw [← hD]
 have hDb : ∀ t, t < r * c → D t < 18446744073709551616 := fun t ht => by
  have hc0 : 0 < c := Nat.pos_of_ne_zero fun e => by subst e; omega
  have h1 : t / c < r := Nat.div_lt_of_lt_mul (by rw [Nat.mul_comm c r]; exact ht)
  rw [hD]; exact hL.out.b _ (pq_lt h1 (Nat.mod_lt _ hc0))
 have HB := Lib.hid hDb
 obtain ⟨N, hN⟩ : ∃ N, N = r * c := ⟨_, rfl⟩
 have HN := Lib.hid hN
 have hN4 : N ≤ 4096 := by rw [hN]; exact Nat.mul_le_mul hr hc
 rw [← hN] at HC HB ⊢
 haveI hF : FZ w a N cap X := by rw [hN]; exact hL
 clear hD hDb hN hX hL
 go_enter Tryz.func39, Tryz.ntmps39
 go_wp2_with fail
 refine (HC _).out.mono ?_; rintro o w1 ⟨rfl, b1⟩
 have e1 := b1.out.size
 simp at e1
 clear HC
 go_wp2_with fail
 go_loopw [21] (fun x wr => ∃ (i : Nat) (v : Value), i ≤ r ∧ x = .int .i64 i ∧ FO wr (w1.heap.size + 1) v (i * c) D ∧ N3 wr w1.heap.size (.int .i64 c) (.int .i64 r) v ∧ N3 wr (w.heap.size + 1) (.int .i64 0) (.int .i64 0) (.slice none 0 0) ∧ N3 wr w.heap.size (.int .i64 r) (.int .i64 c) (.slice a N cap) ∧ Below w.heap.size w wr ∧ (w1.heap.size + 1) ≤ wr.heap.size) (fun x _ => r - (intOf x).toNat)
 case atStart => exact ⟨0, _, by omega, rfl, by rw [Nat.zero_mul]; exact FO.nil _ _ _, inferInstance, inferInstance, inferInstance, zbh, by simp⟩
 case round =>
  obtain ⟨i, v, hi, rfl, iM, iT, iR, iB, hbr, hsz⟩ := hrel
  haveI bw : From w wr := ⟨hbr⟩
  haveI G0 : BG wr (w1.heap.size + 1) := ⟨hsz⟩
  by_cases hlt : i < r
  · obtain ⟨q, hq⟩ : ∃ q, q = i * c := ⟨_, rfl⟩
    have hq1 : q + c ≤ N := by rw [hq, HN.out]; have := Nat.mul_le_mul_right c (show i + 1 ≤ r by omega); rwa [Nat.add_mul, Nat.one_mul] at this
    have HQ := Lib.hid hq
    rw [← hq] at iM
    clear hq
    go_wp2_with fail
    go_loopw [26] (fun x wr => ∃ (j : Nat) (v : Value), j ≤ c ∧ x = .int .i64 j ∧ FO wr (w1.heap.size + 1) v (q + j) D ∧ N3 wr w1.heap.size (.int .i64 c) (.int .i64 r) v ∧ N3 wr (w.heap.size + 1) (.int .i64 0) (.int .i64 0) (.slice none 0 0) ∧ N3 wr w.heap.size (.int .i64 r) (.int .i64 c) (.slice a N cap) ∧ Below w.heap.size w wr ∧ (w1.heap.size + 1) ≤ wr.heap.size) (fun x _ => c - (intOf x).toNat)
    case atStart => exact ⟨0, v, by omega, rfl, inferInstance, inferInstance, inferInstance, inferInstance, zbh, hsz⟩
    case round =>
     clear iM iT iR iB hbr hsz bw G0
     obtain ⟨j, v, hj, rfl, iM, iT, iR, iB, hbr, hsz⟩ := hrel
     haveI bw : From w wr := ⟨hbr⟩
     haveI G0 : BG wr (w1.heap.size + 1) := ⟨hsz⟩
     by_cases hlt2 : j < c
     · obtain ⟨P, hP⟩ : ∃ P, P = j * r := ⟨_, rfl⟩
       have l1 : (j : Int) * (r : Int) = (P : Int) := by rw [hP]; exact (Int.natCast_mul j r).symm
       have s1 : P + i < N := by rw [hP, HN.out]; exact pq_lt hlt hlt2
       have hDk : D (q + j) = X (P + i) := by rw [HQ.out, hP]; exact HD.out i j hlt2
       have Fk : FZ wr a N cap X := inferInstance
       have g1 := Fk.out.idx _ s1
       rw [show (((P + i : Nat)) : Int) = (P : Int) + (i : Int) by omega] at g1
       have n1 := Fk.out.b _ s1
       have q2 : CE wr (ab a) (ao a + (P + i)) (.int .u64 ((X (P + i) : Nat) : Int)) := ⟨Fk.out.cell _ s1, Fk.out.old (by omega)⟩
       have lt2 : ab a < w.heap.size := hF.out.old (by omega)
       obtain ⟨o1, ho1⟩ : ∃ o1, o1 = P + i := ⟨_, rfl⟩
       rw [← ho1] at g1 n1 q2 hDk
       generalize X o1 = x at *
       have x1 : IntKind.i64.wrap (P : Int) = (P : Int) := by rw [IntKind.wrap_i64]; omega
       have x2 : IntKind.i64.wrap ((P : Int) + (i : Int)) = (P : Int) + (i : Int) := by rw [IntKind.wrap_i64]; omega
       obtain ⟨ea, ec, hv⟩ := own_slice' iM.out
       subst hv
       clear hP ho1 Fk s1
       go_wp2_with fail
       refine bgj (fun w' => Below (w1.heap.size + 1) wr w') [15] (by kernel_rfl) ((by exact BL.out)) (fun hHeld => ?_)
       simp only [List.size_toArray, List.length_cons, List.length_nil, Nat.reduceAdd, Array.replicate_succ, Array.replicate_zero, List.push_toArray, List.nil_append, List.cons_append]
       refine tkj 0 29 ?_ [1, 13, 14, 15] (hy := ?_) (hS := (by exact BL.out)) (h := ?_)
       rotate_left
       · intro w hSw; haveI := N3.lo iB hSw (by omega); haveI := N3.lo iT hSw (by omega); haveI := CE.lo q2 hSw (by omega); go_simp; (try with_reducible rfl)
       refine tkj 1 30 ?_ [13, 14, 15] (hy := ?_) (hS := (by exact BL.out)) (h := ?_)
       rotate_left
       · intro w hSw; haveI := N3.lo iB hSw (by omega); haveI := N3.lo iT hSw (by omega); haveI := CE.lo q2 hSw (by omega); go_simp; (try with_reducible rfl)
       refine tkj 2 31 ?_ [3, 10, 11, 12, 13, 14, 15] (hy := ?_) (hS := (by exact BL.out)) (h := ?_)
       rotate_left
       · intro w hSw; haveI := N3.lo iB hSw (by omega); haveI := N3.lo iT hSw (by omega); haveI := CE.lo q2 hSw (by omega); go_simp; (try with_reducible rfl)
       refine tkj 3 32 ?_ [10, 11, 12, 13, 14, 15] (hy := ?_) (hS := (by exact BL.out)) (h := ?_)
       rotate_left
       · intro w hSw; haveI := N3.lo iB hSw (by omega); haveI := N3.lo iT hSw (by omega); haveI := CE.lo q2 hSw (by omega); go_simp; (try with_reducible rfl)
       refine tkj 4 33 ?_ [7, 9, 10, 11, 12, 13, 14, 15] (hy := ?_) (hS := (by exact BL.out)) (h := ?_)
       rotate_left
       · intro w hSw; haveI := N3.lo iB hSw (by omega); haveI := N3.lo iT hSw (by omega); haveI := CE.lo q2 hSw (by omega); go_simp; (try with_reducible rfl)
       refine tkj 5 34 ?_ [6, 7, 9, 10, 11, 12, 13, 14, 15] (hy := ?_) (hS := (by exact BL.out)) (h := ?_)
       rotate_left
       · intro w hSw; haveI := N3.lo iB hSw (by omega); haveI := N3.lo iT hSw (by omega); haveI := CE.lo q2 hSw (by omega); go_simp; (try with_reducible rfl)
       refine tkj 6 35 ?_ [7, 9, 10, 11, 12, 13, 14, 15] (hy := ?_) (hS := (by exact BL.out)) (h := ?_)
       rotate_left
       · intro w hSw; haveI := N3.lo iB hSw (by omega); haveI := N3.lo iT hSw (by omega); haveI := CE.lo q2 hSw (by omega); go_simp; (try with_reducible rfl)
       refine tkj 7 36 ?_ [9, 10, 11, 12, 13, 14, 15] (hy := ?_) (hS := (by exact BL.out)) (h := ?_)
       rotate_left
       · intro w hSw; haveI := N3.lo iB hSw (by omega); haveI := N3.lo iT hSw (by omega); haveI := CE.lo q2 hSw (by omega); go_simp; (try with_reducible rfl)
       refine tkj 8 37 ?_ [9, 10, 11, 12, 13, 14, 15] (hy := ?_) (hS := (by exact BL.out)) (h := ?_)
       rotate_left
       · intro w hSw; haveI := N3.lo iB hSw (by omega); haveI := N3.lo iT hSw (by omega); haveI := CE.lo q2 hSw (by omega); go_simp; (try with_reducible rfl)
       refine tkj 9 38 ?_ [10, 11, 12, 13, 14, 15] (hy := ?_) (hS := (by exact BL.out)) (h := ?_)
       rotate_left
       · intro w hSw; haveI := N3.lo iB hSw (by omega); haveI := N3.lo iT hSw (by omega); haveI := CE.lo q2 hSw (by omega); go_simp; (try with_reducible rfl)
       refine tkj 10 39 ?_ [11, 12, 13, 14, 15] (hy := ?_) (hS := (by exact BL.out)) (h := ?_)
       rotate_left
       · intro w hSw; haveI := N3.lo iB hSw (by omega); haveI := N3.lo iT hSw (by omega); haveI := CE.lo q2 hSw (by omega); go_simp; (try with_reducible rfl)
       refine tkj 11 40 ?_ [12, 13, 14, 15] (hy := ?_) (hS := (by exact BL.out)) (h := ?_)
       rotate_left
       · intro w hSw; haveI := N3.lo iB hSw (by omega); haveI := N3.lo iT hSw (by omega); haveI := CE.lo q2 hSw (by omega); go_simp; (try with_reducible rfl)
       refine stj 12 (h := fun K hK => ?_)
       go_simp
       refine hK.out _ _ (Or.inr (by exact BL.out)) ?_
       clear hK K
       try simp only [List.setIfInBounds_toArray, List.set_cons_zero, List.set_cons_succ]
       refine stj 13 (h := fun K hK => ?_)
       refine step_app_float (by rfl) _ _ (by rfl) (w1.heap.size + 1) (.slice ea (q + j) ec) (q + j) (flist D (q + j)) (by rfl) _ (x : Int) (by rfl) (by exact @FO.out _ (w1.heap.size + 1) (.slice ea (q + j) ec) (q + j) D inferInstance) (by go_simp) (by omega) (by exact BG.out) ?_
       intro g6 cap6 w6 hown6 hg6 hob6
       obtain ⟨M6, f6, G6, L6⟩ := FO.step (v := (.slice ea (q + j) ec)) (X := D) (w0 := w) (wr := wr) inferInstance (by omega) hDk hown6 hg6
       clear hown6 hg6 hob6
       haveI iT6 := N3.lo iT L6.out (by omega)
       refine hK.out _ _ (Or.inr (by exact BL.out)) ?_
       clear hK K
       try simp only [Act.put, List.setIfInBounds_toArray, List.set_cons_zero, List.set_cons_succ]
       refine tkj 14 43 ?_ [15] (hy := ?_) (hS := (by exact BL.out)) (h := ?_)
       rotate_left
       · intro w hSw; haveI := N3.lo iB hSw (by omega); haveI := N3.lo iT hSw (by omega); haveI := CE.lo q2 hSw (by omega); go_simp; (try with_reducible rfl)
       refine stj 15 (h := fun K hK => ?_)
       go_simp
       refine hK.out _ _ (Or.inl (by decide)) ?_
       clear hK K
       try simp only [List.setIfInBounds_toArray, List.set_cons_zero, List.set_cons_succ]
       refine enj (by kernel_rfl) ?_ _
       have C9 := M6.sen (show w1.heap.size < (w1.heap.size + 1) by omega) 2 (.slice (some ⟨g6, 0, none⟩) (q + j + 1) cap6)
       have E1 := N3.se2 (N3.lo iT L6.out (by omega)) (.slice (some ⟨g6, 0, none⟩) (q + j + 1) cap6)
       have E2 := N3.sen (N3.lo iR L6.out (by omega)) (show w.heap.size + 1 ≠ w1.heap.size by omega) 2 (.slice (some ⟨g6, 0, none⟩) (q + j + 1) cap6)
       have E3 := N3.sen (N3.lo iB L6.out (by omega)) (show w.heap.size ≠ w1.heap.size by omega) 2 (.slice (some ⟨g6, 0, none⟩) (q + j + 1) cap6)
       have B9 : Below w.heap.size w (w6.setCell ⟨w1.heap.size, 2, none⟩ (.slice (some ⟨g6, 0, none⟩) (q + j + 1) cap6)) := f6.out.setCell (by show w.heap.size ≤ w1.heap.size; omega) _
       have S9 : (w1.heap.size + 1) ≤ (w6.setCell ⟨w1.heap.size, 2, none⟩ (.slice (some ⟨g6, 0, none⟩) (q + j + 1) cap6)).heap.size := by rw [World.size_setCell]; exact G6.out
       generalize (w6.setCell ⟨w1.heap.size, 2, none⟩ (.slice (some ⟨g6, 0, none⟩) (q + j + 1) cap6)) = w9 at *
       clear M6 f6 G6 L6 hDk
       go_wp2_with fail
       go_roundw
       case rel => exact ⟨j + 1, _, by omega, by go_num, C9, E1, E2, E3, B9, S9⟩
       case measure => simp [intOf]; omega
     · have hjc : j = c := by omega
       subst hjc
       have hM : FO wr (w1.heap.size + 1) v ((i + 1) * j) D := by rw [Nat.add_mul, Nat.one_mul, ← HQ.out]; exact iM
       clear iM
       go_wp2_with fail
       go_roundw
       case rel => exact ⟨i + 1, v, by omega, by go_num, hM, iT, iR, iB, hbr, hsz⟩
       case measure => simp [intOf]; omega
  · have hir : i = r := by omega
    subst hir
    rw [← HN.out] at iM
    obtain ⟨ea, ec, hv⟩ := own_slice' iM.out
    subst hv
    have hl : w.heap.size + 1 < (w1.heap.size + 1) := by omega
    have M6 := ((iM.sen hl 0 (.int .i64 c)).sen hl 1 (.int .i64 i)).sen hl 2 (.slice ea N ec)
    have L6 : From w (((wr.setCell ⟨w.heap.size + 1, 0, none⟩ (.int .i64 c)).setCell ⟨w.heap.size + 1, 1, none⟩ (.int .i64 i)).setCell ⟨w.heap.size + 1, 2, none⟩ (.slice ea N ec)) := ⟨((hbr.setCell (Nat.le_succ _) _).setCell (Nat.le_succ _) _).setCell (Nat.le_succ _) _⟩
    go_wp2_with fail
    refine bodyPost_ret (v := .tuple #[.agg #[.int .i64 c, .int .i64 i, .slice ea N ec], .int .i64 0]) (by simp only [results, Tryz.results39]; go_simp) rfl ?_
    exact ⟨_, _, rfl, M6.fw (by omega) (fun t ht => HB.out t ht), L6⟩
theorem rtrans_any (w : World) (r c : Nat) (hr : r ≤ 64) (hc : c ≤ 64) (a : Option Addr) (cap : Nat) (X : Nat → Nat) [hL : FZ w a (r * c) cap X] (hX : ∀ t, t < r * c → ffin (X t) = true) :
 Calls Tryz.prog 40 #[.agg #[.int .i64 r, .int .i64 c, .slice a (r * c) cap]] w fun o w' => ∃ pa pc, o = .returned (.tuple #[.agg #[.int .i64 c, .int .i64 r, .slice pa (r * c) pc], .int .i64 0]) ∧ FW pa (r * c) pc (trX X r c) w.heap.size w'.heap.size w' ∧ From w w' := by
 have HC := fun W [i : FZ W a (r * c) cap X] => Lib.hid (frm (rcheckp_any W r c a (r * c) cap X i.out))
 rw [chk_fin hr hc hX] at HC
 obtain ⟨D, hD⟩ : ∃ D, D = trX X r c := ⟨_, rfl⟩
 have HD : Hid (∀ i j, j < c → D (i * c + j) = X (j * r + i)) := Lib.hid fun i j h => by rw [hD]; exact trX_at h
 rw [← hD]
 have hDb : ∀ t, t < r * c → D t < 18446744073709551616 := fun t ht => by
  have hc0 : 0 < c := Nat.pos_of_ne_zero fun e => by subst e; omega
  have h1 : t / c < r := Nat.div_lt_of_lt_mul (by rw [Nat.mul_comm c r]; exact ht)
  rw [hD]; exact hL.out.b _ (pq_lt h1 (Nat.mod_lt _ hc0))
 have HB := Lib.hid hDb
 obtain ⟨N, hN⟩ : ∃ N, N = r * c := ⟨_, rfl⟩
 have HN := Lib.hid hN
 have hN4 : N ≤ 4096 := by rw [hN]; exact Nat.mul_le_mul hr hc
 rw [← hN] at HC HB ⊢
 haveI hF : FZ w a N cap X := by rw [hN]; exact hL
 clear hD hDb hN hX hL
 go_enter Tryz.func40, Tryz.ntmps40
 go_wp2_with fail
 refine (HC _).out.mono ?_; rintro o w1 ⟨rfl, b1⟩
 have e1 := b1.out.size
 simp at e1
 clear HC
 go_wp2_with fail
 go_loopw [6] (fun x wr => ∃ (i : Nat) (v : Value), i ≤ r ∧ x = .int .i64 i ∧ FO wr (w1.heap.size + 1) v (i * c) D ∧ N3 wr w1.heap.size (.int .i64 c) (.int .i64 r) v ∧ N3 wr (w.heap.size + 1) (.int .i64 0) (.int .i64 0) (.slice none 0 0) ∧ N3 wr w.heap.size (.int .i64 r) (.int .i64 c) (.slice a N cap) ∧ Below w.heap.size w wr ∧ (w1.heap.size + 1) ≤ wr.heap.size) (fun x _ => r - (intOf x).toNat)
 case atStart => exact ⟨0, _, by omega, rfl, by rw [Nat.zero_mul]; exact FO.nil _ _ _, inferInstance, inferInstance, inferInstance, zbh, by simp⟩
 case round =>
  obtain ⟨i, v, hi, rfl, iM, iT, iR, iB, hbr, hsz⟩ := hrel
  haveI bw : From w wr := ⟨hbr⟩
  haveI G0 : BG wr (w1.heap.size + 1) := ⟨hsz⟩
  by_cases hlt : i < r
  · obtain ⟨q, hq⟩ : ∃ q, q = i * c := ⟨_, rfl⟩
    have hq1 : q + c ≤ N := by rw [hq, HN.out]; have := Nat.mul_le_mul_right c (show i + 1 ≤ r by omega); rwa [Nat.add_mul, Nat.one_mul] at this
    have HQ := Lib.hid hq
    rw [← hq] at iM
    clear hq
    go_wp2_with fail
    go_loopw [7] (fun x wr => ∃ (j : Nat) (v : Value), j ≤ c ∧ x = .int .i64 j ∧ FO wr (w1.heap.size + 1) v (q + j) D ∧ N3 wr w1.heap.size (.int .i64 c) (.int .i64 r) v ∧ N3 wr (w.heap.size + 1) (.int .i64 0) (.int .i64 0) (.slice none 0 0) ∧ N3 wr w.heap.size (.int .i64 r) (.int .i64 c) (.slice a N cap) ∧ Below w.heap.size w wr ∧ (w1.heap.size + 1) ≤ wr.heap.size) (fun x _ => c - (intOf x).toNat)
    case atStart => exact ⟨0, v, by omega, rfl, inferInstance, inferInstance, inferInstance, inferInstance, zbh, hsz⟩
    case round =>
     clear iM iT iR iB hbr hsz bw G0
     obtain ⟨j, v, hj, rfl, iM, iT, iR, iB, hbr, hsz⟩ := hrel
     haveI bw : From w wr := ⟨hbr⟩
     haveI G0 : BG wr (w1.heap.size + 1) := ⟨hsz⟩
     by_cases hlt2 : j < c
     · obtain ⟨P, hP⟩ : ∃ P, P = j * r := ⟨_, rfl⟩
       have l1 : (j : Int) * (r : Int) = (P : Int) := by rw [hP]; exact (Int.natCast_mul j r).symm
       have s1 : P + i < N := by rw [hP, HN.out]; exact pq_lt hlt hlt2
       have hDk : D (q + j) = X (P + i) := by rw [HQ.out, hP]; exact HD.out i j hlt2
       have Fk : FZ wr a N cap X := inferInstance
       have g1 := Fk.out.idx _ s1
       rw [show (((P + i : Nat)) : Int) = (P : Int) + (i : Int) by omega] at g1
       have n1 := Fk.out.b _ s1
       have q2 : CE wr (ab a) (ao a + (P + i)) (.int .u64 ((X (P + i) : Nat) : Int)) := ⟨Fk.out.cell _ s1, Fk.out.old (by omega)⟩
       have lt2 : ab a < w.heap.size := hF.out.old (by omega)
       obtain ⟨o1, ho1⟩ : ∃ o1, o1 = P + i := ⟨_, rfl⟩
       rw [← ho1] at g1 n1 q2 hDk
       generalize X o1 = x at *
       have x1 : IntKind.i64.wrap (P : Int) = (P : Int) := by rw [IntKind.wrap_i64]; omega
       have x2 : IntKind.i64.wrap ((P : Int) + (i : Int)) = (P : Int) + (i : Int) := by rw [IntKind.wrap_i64]; omega
       obtain ⟨ea, ec, hv⟩ := own_slice' iM.out
       subst hv
       clear hP ho1 Fk s1
       go_wp2_with fail
       refine bgj (fun w' => Below (w1.heap.size + 1) wr w') [15] (by kernel_rfl) ((by exact BL.out)) (fun hHeld => ?_)
       simp only [List.size_toArray, List.length_cons, List.length_nil, Nat.reduceAdd, Array.replicate_succ, Array.replicate_zero, List.push_toArray, List.nil_append, List.cons_append]
       refine tkj 0 31 ?_ [1, 13, 14, 15] (hy := ?_) (hS := (by exact BL.out)) (h := ?_)
       rotate_left
       · intro w hSw; haveI := N3.lo iB hSw (by omega); haveI := N3.lo iT hSw (by omega); haveI := CE.lo q2 hSw (by omega); go_simp; (try with_reducible rfl)
       refine tkj 1 32 ?_ [13, 14, 15] (hy := ?_) (hS := (by exact BL.out)) (h := ?_)
       rotate_left
       · intro w hSw; haveI := N3.lo iB hSw (by omega); haveI := N3.lo iT hSw (by omega); haveI := CE.lo q2 hSw (by omega); go_simp; (try with_reducible rfl)
       refine tkj 2 33 ?_ [3, 10, 11, 12, 13, 14, 15] (hy := ?_) (hS := (by exact BL.out)) (h := ?_)
       rotate_left
       · intro w hSw; haveI := N3.lo iB hSw (by omega); haveI := N3.lo iT hSw (by omega); haveI := CE.lo q2 hSw (by omega); go_simp; (try with_reducible rfl)
       refine tkj 3 34 ?_ [10, 11, 12, 13, 14, 15] (hy := ?_) (hS := (by exact BL.out)) (h := ?_)
       rotate_left
       · intro w hSw; haveI := N3.lo iB hSw (by omega); haveI := N3.lo iT hSw (by omega); haveI := CE.lo q2 hSw (by omega); go_simp; (try with_reducible rfl)
       refine tkj 4 35 ?_ [7, 9, 10, 11, 12, 13, 14, 15] (hy := ?_) (hS := (by exact BL.out)) (h := ?_)
       rotate_left
       · intro w hSw; haveI := N3.lo iB hSw (by omega); haveI := N3.lo iT hSw (by omega); haveI := CE.lo q2 hSw (by omega); go_simp; (try with_reducible rfl)
       refine tkj 5 36 ?_ [6, 7, 9, 10, 11, 12, 13, 14, 15] (hy := ?_) (hS := (by exact BL.out)) (h := ?_)
       rotate_left
       · intro w hSw; haveI := N3.lo iB hSw (by omega); haveI := N3.lo iT hSw (by omega); haveI := CE.lo q2 hSw (by omega); go_simp; (try with_reducible rfl)
       refine tkj 6 37 ?_ [7, 9, 10, 11, 12, 13, 14, 15] (hy := ?_) (hS := (by exact BL.out)) (h := ?_)
       rotate_left
       · intro w hSw; haveI := N3.lo iB hSw (by omega); haveI := N3.lo iT hSw (by omega); haveI := CE.lo q2 hSw (by omega); go_simp; (try with_reducible rfl)
       refine tkj 7 38 ?_ [9, 10, 11, 12, 13, 14, 15] (hy := ?_) (hS := (by exact BL.out)) (h := ?_)
       rotate_left
       · intro w hSw; haveI := N3.lo iB hSw (by omega); haveI := N3.lo iT hSw (by omega); haveI := CE.lo q2 hSw (by omega); go_simp; (try with_reducible rfl)
       refine tkj 8 39 ?_ [9, 10, 11, 12, 13, 14, 15] (hy := ?_) (hS := (by exact BL.out)) (h := ?_)
       rotate_left
       · intro w hSw; haveI := N3.lo iB hSw (by omega); haveI := N3.lo iT hSw (by omega); haveI := CE.lo q2 hSw (by omega); go_simp; (try with_reducible rfl)
       refine tkj 9 40 ?_ [10, 11, 12, 13, 14, 15] (hy := ?_) (hS := (by exact BL.out)) (h := ?_)
       rotate_left
       · intro w hSw; haveI := N3.lo iB hSw (by omega); haveI := N3.lo iT hSw (by omega); haveI := CE.lo q2 hSw (by omega); go_simp; (try with_reducible rfl)
       refine tkj 10 41 ?_ [11, 12, 13, 14, 15] (hy := ?_) (hS := (by exact BL.out)) (h := ?_)
       rotate_left
       · intro w hSw; haveI := N3.lo iB hSw (by omega); haveI := N3.lo iT hSw (by omega); haveI := CE.lo q2 hSw (by omega); go_simp; (try with_reducible rfl)
       refine tkj 11 42 ?_ [12, 13, 14, 15] (hy := ?_) (hS := (by exact BL.out)) (h := ?_)
       rotate_left
       · intro w hSw; haveI := N3.lo iB hSw (by omega); haveI := N3.lo iT hSw (by omega); haveI := CE.lo q2 hSw (by omega); go_simp; (try with_reducible rfl)
       refine stj 12 (h := fun K hK => ?_)
       go_simp
       refine hK.out _ _ (Or.inr (by exact BL.out)) ?_
       clear hK K
       try simp only [List.setIfInBounds_toArray, List.set_cons_zero, List.set_cons_succ]
       refine stj 13 (h := fun K hK => ?_)
       refine step_app_float (by rfl) _ _ (by rfl) (w1.heap.size + 1) (.slice ea (q + j) ec) (q + j) (flist D (q + j)) (by rfl) _ (x : Int) (by rfl) (by exact @FO.out _ (w1.heap.size + 1) (.slice ea (q + j) ec) (q + j) D inferInstance) (by go_simp) (by omega) (by exact BG.out) ?_
       intro g6 cap6 w6 hown6 hg6 hob6
       obtain ⟨M6, f6, G6, L6⟩ := FO.step (v := (.slice ea (q + j) ec)) (X := D) (w0 := w) (wr := wr) inferInstance (by omega) hDk hown6 hg6
       clear hown6 hg6 hob6
       haveI iT6 := N3.lo iT L6.out (by omega)
       refine hK.out _ _ (Or.inr (by exact BL.out)) ?_
       clear hK K
       try simp only [Act.put, List.setIfInBounds_toArray, List.set_cons_zero, List.set_cons_succ]
       refine tkj 14 45 ?_ [15] (hy := ?_) (hS := (by exact BL.out)) (h := ?_)
       rotate_left
       · intro w hSw; haveI := N3.lo iB hSw (by omega); haveI := N3.lo iT hSw (by omega); haveI := CE.lo q2 hSw (by omega); go_simp; (try with_reducible rfl)
       refine stj 15 (h := fun K hK => ?_)
       go_simp
       refine hK.out _ _ (Or.inl (by decide)) ?_
       clear hK K
       try simp only [List.setIfInBounds_toArray, List.set_cons_zero, List.set_cons_succ]
       refine enj (by kernel_rfl) ?_ _
       have C9 := M6.sen (show w1.heap.size < (w1.heap.size + 1) by omega) 2 (.slice (some ⟨g6, 0, none⟩) (q + j + 1) cap6)
       have E1 := N3.se2 (N3.lo iT L6.out (by omega)) (.slice (some ⟨g6, 0, none⟩) (q + j + 1) cap6)
       have E2 := N3.sen (N3.lo iR L6.out (by omega)) (show w.heap.size + 1 ≠ w1.heap.size by omega) 2 (.slice (some ⟨g6, 0, none⟩) (q + j + 1) cap6)
       have E3 := N3.sen (N3.lo iB L6.out (by omega)) (show w.heap.size ≠ w1.heap.size by omega) 2 (.slice (some ⟨g6, 0, none⟩) (q + j + 1) cap6)
       have B9 : Below w.heap.size w (w6.setCell ⟨w1.heap.size, 2, none⟩ (.slice (some ⟨g6, 0, none⟩) (q + j + 1) cap6)) := f6.out.setCell (by show w.heap.size ≤ w1.heap.size; omega) _
       have S9 : (w1.heap.size + 1) ≤ (w6.setCell ⟨w1.heap.size, 2, none⟩ (.slice (some ⟨g6, 0, none⟩) (q + j + 1) cap6)).heap.size := by rw [World.size_setCell]; exact G6.out
       generalize (w6.setCell ⟨w1.heap.size, 2, none⟩ (.slice (some ⟨g6, 0, none⟩) (q + j + 1) cap6)) = w9 at *
       clear M6 f6 G6 L6 hDk
       go_wp2_with fail
       go_roundw
       case rel => exact ⟨j + 1, _, by omega, by go_num, C9, E1, E2, E3, B9, S9⟩
       case measure => simp [intOf]; omega
     · have hjc : j = c := by omega
       subst hjc
       have hM : FO wr (w1.heap.size + 1) v ((i + 1) * j) D := by rw [Nat.add_mul, Nat.one_mul, ← HQ.out]; exact iM
       clear iM
       go_wp2_with fail
       go_roundw
       case rel => exact ⟨i + 1, v, by omega, by go_num, hM, iT, iR, iB, hbr, hsz⟩
       case measure => simp [intOf]; omega
  · have hir : i = r := by omega
    subst hir
    rw [← HN.out] at iM
    obtain ⟨ea, ec, hv⟩ := own_slice' iM.out
    subst hv
    have hl : w.heap.size + 1 < (w1.heap.size + 1) := by omega
    have M6 := ((iM.sen hl 0 (.int .i64 c)).sen hl 1 (.int .i64 i)).sen hl 2 (.slice ea N ec)
    have L6 : From w (((wr.setCell ⟨w.heap.size + 1, 0, none⟩ (.int .i64 c)).setCell ⟨w.heap.size + 1, 1, none⟩ (.int .i64 i)).setCell ⟨w.heap.size + 1, 2, none⟩ (.slice ea N ec)) := ⟨((hbr.setCell (Nat.le_succ _) _).setCell (Nat.le_succ _) _).setCell (Nat.le_succ _) _⟩
    go_wp2_with fail
    refine bodyPost_ret (v := .tuple #[.agg #[.int .i64 c, .int .i64 i, .slice ea N ec], .int .i64 0]) (by simp only [results, Tryz.results40]; go_simp) rfl ?_
    exact ⟨_, _, rfl, M6.fw (by omega) (fun t ht => HB.out t ht), L6⟩
end Go.Proofs.YtablcbgeeeboeaaGreatDoor

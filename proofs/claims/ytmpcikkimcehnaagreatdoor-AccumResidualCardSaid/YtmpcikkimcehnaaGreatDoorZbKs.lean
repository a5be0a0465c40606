/-
  Walks: the law AccumResidual.
-/
import Derived.Test.YtmpcikkimcehnaaGreatDoorZbKg
namespace Go.Proofs.YtmpcikkimcehnaaGreatDoor
open Go.RowKit Sp

/-! ### a list of floats of the call's own -/
theorem infF : (Tryz.prog.info? 34).map (fun i => (i.zero, i.size, i.bytes)) = some (some (.int .u64 0), 1, 8) := by kernel_rfl
theorem undFe : Tryz.prog.underlying 42 = some (.slice 34) := by kernel_rfl
def flist (L : Nat → Nat) : Nat → List Value
  | 0 => []
  | k + 1 => flist L k ++ [.int .u64 (L k : Nat)]
theorem flist_length (L : Nat → Nat) (k : Nat) : (flist L k).length = k := by
  induction k with
  | zero => rfl
  | succ n ih => simp [flist, ih]
theorem flist_get (L : Nat → Nat) {k i : Nat} (h : i < k) : (flist L k)[i]? = some (.int .u64 (L i : Nat)) := by
  induction k with
  | zero => omega
  | succ n ih =>
    show (flist L n ++ [.int .u64 (L n : Nat)])[i]? = _
    by_cases hi : i < n
    · rw [List.getElem?_append_left (by rw [flist_length]; exact hi)]; exact ih hi
    · obtain rfl : i = n := by omega
      rw [List.getElem?_append_right (by rw [flist_length]; omega), flist_length, Nat.sub_self]; rfl
theorem app_float {ops : Array Oper} {rest : List Oper} {o : Oper} {a : Act} {Q : Exit → Act → World → Prop} {w : World} (hgd : o.guard = none) (s x : Operand)
    (ho : o.op = .call { callee := .builtin .append, args := #[s, x], argTypes := #[42, 42] }) (base : Nat) (v : Value) (n : Nat) (xs : List Value) (hs : a.eval s = v) (g : Nat) (d : Int)
    (hx : a.eval x = .slice (some ⟨g, 0, none⟩) 1 1) (hown : w.ownsRow base 34 1 v n xs) (hcell : w.cell? ⟨g, 0, none⟩ = some (.int .u64 d)) (hn : n ≤ 4398046511104)
    (hbase : base ≤ w.heap.size) (h : ∀ v' w', w'.ownsRow base 34 1 v' (n + 1) (xs ++ [.int .u64 d]) → Below base w w' → wpList Tryz.prog ops Q rest (a.put o.dst v') w') : wpList Tryz.prog ops Q (o :: rest) a w := by
  obtain ⟨i0, hi, hz0, hz1, hz2⟩ := info_parts infF
  refine wpList_append_own w hgd s x _ ho base _ i0 (.int .u64 0) 1 8 undFe hi hz0 hz1 hz2 rfl (by decide) v n _ hs hown ⟨g, 0, none⟩ 1 1 [.int .u64 d] hx rfl ?_ ?_ ?_ ?_ hbase ?_
  · intro j u hu
    have : j = 0 := by
      rcases Nat.eq_zero_or_pos j with h | h
      · exact h
      · rw [List.getElem?_eq_none (by simp; omega)] at hu; cases hu
    subst this
    simp at hu; subst hu
    rw [Addr.add_zero']; exact hcell
  · intro u hu; simp at hu; subst hu; rfl
  · unfold maxLen; omega
  · omega
  · intro v' w' h1 h2 _
    exact h v' w' h1 (below_of_owns hown h2 hbase)
theorem own_fls {w : World} {base : Nat} {v : Value} {k : Nat} {L : Nat → Nat} (h : w.ownsRow base 34 1 v k (flist L k)) (hb : ∀ i, i < k → L i < 18446744073709551616) :
    ∃ a cap, v = .slice a k cap ∧ Fls w a k cap L := by
  rcases h.2 with ⟨hv, hk⟩ | ⟨g, cap, cur, hv, hbg, hgg, hkc, hcm, hcs, htake⟩
  · subst hk
    exact ⟨none, 0, hv, ⟨by omega, by omega, by omega, fun i hi => by omega, fun i hi => by omega, by omega⟩⟩
  · have ho := h
    rw [hv] at ho
    have hc : ∀ j, j < k → w.cell? ⟨g, j, none⟩ = (flist L k)[j]? := fun j hj => ho.cellAt j (by omega)
    refine ⟨some ⟨g, 0, none⟩, cap, hv, hkc, by unfold maxLen at hcm; omega, fun _ => rfl, fun i hi => ?_, hb, fun _ => (Array.getElem?_eq_some_iff.1 hgg).1⟩
    rw [ab_some, ao_some, Nat.zero_add, hc _ (by omega)]; exact flist_get L hi

set_option maxRecDepth 100000 in
set_option maxHeartbeats 20000000 in
theorem aresid_big (w : World) (b : Nat) (_hb : b < 18446744073709551616) (hT : Tab w) (a : Option Addr) (n cap : Nat) (X : Nat → Nat) (hX : Fls w a n cap X) (a' : Option Addr) (m cap' : Nat) (Y : Nat → Nat) (hY : Fls w a' m cap' Y) (hn : 10 < n) :
    Calls Tryz.prog 8 #[.int .u64 b, .slice a n cap, .slice a' m cap'] w fun o w' => o = .returned (.bool true) ∧ Below w.heap.size w w' := by
  have l1 := hX.lim
  have l2 := hX.fits
  have l3 := hY.lim
  have l4 := hY.fits
  have HW := fun W ht => Lib.hid (awakeA_any W ht)
  have HF := Lib.hid (rfinite_any w a n cap X hX)
  have HG := Lib.hid (rfinite_any w a' m cap' Y hY)
  have HB := Lib.hid (rfin_any w b)
  clear HF HG HB hX hY
  go_enter Tryz.func8, Tryz.ntmps8
  go_wp2_with fail
  have B0 : Below w.heap.size w w := Below.refl _ _
  refine (HW _ (hT.below (have := Beh.mk B0; zbh))).out.mono ?_
  rintro e w1 ⟨rfl, hb1⟩
  have B1 := below_box (w := w) (have := Beh.mk B0; zbh) hb1
  clear hb1
  (try clear xx)
  (try clear B0)
  go_wp2_with fail
  go_ret
  exact ⟨rfl, (have := Beh.mk B1; zbh)⟩

set_option maxRecDepth 100000 in
set_option maxHeartbeats 20000000 in
theorem aresid_len (w : World) (b : Nat) (_hb : b < 18446744073709551616) (hT : Tab w) (a : Option Addr) (n cap : Nat) (X : Nat → Nat) (hX : Fls w a n cap X) (a' : Option Addr) (m cap' : Nat) (Y : Nat → Nat) (hY : Fls w a' m cap' Y) (hn : ¬ 10 < n) (hm : ¬ n = m) :
    Calls Tryz.prog 8 #[.int .u64 b, .slice a n cap, .slice a' m cap'] w fun o w' => o = .returned (.bool true) ∧ Below w.heap.size w w' := by
  have l1 := hX.lim
  have l2 := hX.fits
  have l3 := hY.lim
  have l4 := hY.fits
  have HW := fun W ht => Lib.hid (awakeA_any W ht)
  have HF := Lib.hid (rfinite_any w a n cap X hX)
  have HG := Lib.hid (rfinite_any w a' m cap' Y hY)
  have HB := Lib.hid (rfin_any w b)
  clear HF HG HB hX hY
  go_enter Tryz.func8, Tryz.ntmps8
  go_wp2_with fail
  have B0 : Below w.heap.size w w := Below.refl _ _
  refine (HW _ (hT.below (have := Beh.mk B0; zbh))).out.mono ?_
  rintro e w1 ⟨rfl, hb1⟩
  have B1 := below_box (w := w) (have := Beh.mk B0; zbh) hb1
  clear hb1
  (try clear xx)
  (try clear B0)
  go_wp2_with fail
  go_ret
  exact ⟨rfl, (have := Beh.mk B1; zbh)⟩

set_option maxRecDepth 100000 in
set_option maxHeartbeats 20000000 in
theorem aresid_fx (w : World) (b : Nat) (_hb : b < 18446744073709551616) (hT : Tab w) (a : Option Addr) (n cap : Nat) (X : Nat → Nat) (hX : Fls w a n cap X) (a' : Option Addr) (m cap' : Nat) (Y : Nat → Nat) (hY : Fls w a' m cap' Y) (hn : ¬ 10 < n) (hm : n = m) (fa : allfin X n = false) :
    Calls Tryz.prog 8 #[.int .u64 b, .slice a n cap, .slice a' m cap'] w fun o w' => o = .returned (.bool true) ∧ Below w.heap.size w w' := by
  have l1 := hX.lim
  have l2 := hX.fits
  have l3 := hY.lim
  have l4 := hY.fits
  have HW := fun W ht => Lib.hid (awakeA_any W ht)
  have HF := Lib.hid (rfinite_any w a n cap X hX)
  have HG := Lib.hid (rfinite_any w a' m cap' Y hY)
  have HB := Lib.hid (rfin_any w b)
  rw [fa] at HF
  clear hX hY fa HG HB
  subst hm
  go_enter Tryz.func8, Tryz.ntmps8
  go_wp2_with fail
  have B0 : Below w.heap.size w w := Below.refl _ _
  refine HF.out.mono ?_; rintro e w8 ⟨rfl, rfl⟩; go_wp2_with fail
  refine (HW _ (hT.below (have := Beh.mk B0; zbh))).out.mono ?_
  rintro e w1 ⟨rfl, hb1⟩
  have B1 := below_box (w := w) (have := Beh.mk B0; zbh) hb1
  clear hb1
  (try clear xx)
  (try clear B0)
  go_wp2_with fail
  go_ret
  exact ⟨rfl, (have := Beh.mk B1; zbh)⟩

set_option maxRecDepth 100000 in
set_option maxHeartbeats 20000000 in
theorem aresid_fy (w : World) (b : Nat) (_hb : b < 18446744073709551616) (hT : Tab w) (a : Option Addr) (n cap : Nat) (X : Nat → Nat) (hX : Fls w a n cap X) (a' : Option Addr) (m cap' : Nat) (Y : Nat → Nat) (hY : Fls w a' m cap' Y) (hn : ¬ 10 < n) (hm : n = m) (fa : allfin X n = true) (fb : allfin Y m = false) :
    Calls Tryz.prog 8 #[.int .u64 b, .slice a n cap, .slice a' m cap'] w fun o w' => o = .returned (.bool true) ∧ Below w.heap.size w w' := by
  have l1 := hX.lim
  have l2 := hX.fits
  have l3 := hY.lim
  have l4 := hY.fits
  have HW := fun W ht => Lib.hid (awakeA_any W ht)
  have HF := Lib.hid (rfinite_any w a n cap X hX)
  have HG := Lib.hid (rfinite_any w a' m cap' Y hY)
  have HB := Lib.hid (rfin_any w b)
  rw [fa] at HF
  rw [fb] at HG
  clear hX hY fa fb HB
  subst hm
  go_enter Tryz.func8, Tryz.ntmps8
  go_wp2_with fail
  have B0 : Below w.heap.size w w := Below.refl _ _
  refine HF.out.mono ?_; rintro e w7 ⟨rfl, rfl⟩; go_wp2_with fail
  refine HG.out.mono ?_; rintro e w8 ⟨rfl, rfl⟩; go_wp2_with fail
  refine (HW _ (hT.below (have := Beh.mk B0; zbh))).out.mono ?_
  rintro e w1 ⟨rfl, hb1⟩
  have B1 := below_box (w := w) (have := Beh.mk B0; zbh) hb1
  clear hb1
  (try clear xx)
  (try clear B0)
  go_wp2_with fail
  go_ret
  exact ⟨rfl, (have := Beh.mk B1; zbh)⟩

set_option maxRecDepth 100000 in
set_option maxHeartbeats 20000000 in
theorem aresid_fb (w : World) (b : Nat) (_hb : b < 18446744073709551616) (hT : Tab w) (a : Option Addr) (n cap : Nat) (X : Nat → Nat) (hX : Fls w a n cap X) (a' : Option Addr) (m cap' : Nat) (Y : Nat → Nat) (hY : Fls w a' m cap' Y) (hn : ¬ 10 < n) (hm : n = m) (fa : allfin X n = true) (fb : allfin Y m = true) (fc : ffin b = false) :
    Calls Tryz.prog 8 #[.int .u64 b, .slice a n cap, .slice a' m cap'] w fun o w' => o = .returned (.bool true) ∧ Below w.heap.size w w' := by
  have l1 := hX.lim
  have l2 := hX.fits
  have l3 := hY.lim
  have l4 := hY.fits
  have HW := fun W ht => Lib.hid (awakeA_any W ht)
  have HF := Lib.hid (rfinite_any w a n cap X hX)
  have HG := Lib.hid (rfinite_any w a' m cap' Y hY)
  have HB := Lib.hid (rfin_any w b)
  rw [fa] at HF
  rw [fb] at HG
  rw [fc] at HB
  clear hX hY fa fb fc
  subst hm
  go_enter Tryz.func8, Tryz.ntmps8
  go_wp2_with fail
  have B0 : Below w.heap.size w w := Below.refl _ _
  refine HF.out.mono ?_; rintro e w7 ⟨rfl, rfl⟩; go_wp2_with fail
  refine HG.out.mono ?_; rintro e w8 ⟨rfl, rfl⟩; go_wp2_with fail
  refine HB.out.mono ?_; rintro e w9 ⟨rfl, rfl⟩; go_wp2_with fail
  refine (HW _ (hT.below (have := Beh.mk B0; zbh))).out.mono ?_
  rintro e w1 ⟨rfl, hb1⟩
  have B1 := below_box (w := w) (have := Beh.mk B0; zbh) hb1
  clear hb1
  (try clear xx)
  (try clear B0)
  go_wp2_with fail
  go_ret
  exact ⟨rfl, (have := Beh.mk B1; zbh)⟩

set_option maxRecDepth 100000 in
set_option maxHeartbeats 20000000 in
theorem aresid_ok (w : World) (b : Nat) (hb : b < 18446744073709551616) (hT : Tab w) (a : Option Addr) (n cap : Nat) (X : Nat → Nat) (hX : Fls w a n cap X) (a' : Option Addr) (m cap' : Nat) (Y : Nat → Nat) (hY : Fls w a' m cap' Y) (hn : ¬ 10 < n) (hm : n = m) (fa : allfin X n = true) (fb : allfin Y m = true) (fc : ffin b = true) :
    Calls Tryz.prog 8 #[.int .u64 b, .slice a n cap, .slice a' m cap'] w fun o w' => o = .returned (.bool true) ∧ Below w.heap.size w w' := by
  have l1 := hX.lim
  have l2 := hX.fits
  have l3 := hY.lim
  have l4 := hY.fits
  have HW := fun W ht => Lib.hid (awakeA_any W ht)
  have HF := Lib.hid (rfinite_any w a n cap X hX)
  have HG := Lib.hid (rfinite_any w a' m cap' Y hY)
  have HB := Lib.hid (rfin_any w b)
  rw [fa] at HF
  rw [fb] at HG
  rw [fc] at HB
  subst hm
  have afX := (allfin_iff X n).1 fa
  have fa' : allfin (fun i => fneg (X i)) n = true := (allfin_iff _ n).2 fun i hi => (fz_fneg (afX i hi)).1
  have fc' : ffin (fneg b) = true := (fz_fneg fc).1
  have hE1 : dotE X Y n n = 0 := by unfold dotE; rw [if_neg (fun h => h rfl), fa, fb]; rfl
  have hE2 : dotE (fun i => fneg (X i)) Y n n = 0 := by unfold dotE; rw [if_neg (fun h => h rfl), fa', fb]; rfl
  have hD1 : dotD X Y n n = ddot X Y n := by unfold dotD; rw [hE1]; rfl
  have hD2 : dotD (fun i => fneg (X i)) Y n n = ddot (fun i => fneg (X i)) Y n := by unfold dotD; rw [hE2]; rfl
  have hR1 : resE b X Y n n = 0 := by unfold resE; rw [if_neg (fun h => h hE1), fc]; rfl
  have hR2 : resE (fneg b) (fun i => fneg (X i)) Y n n = 0 := by unfold resE; rw [if_neg (fun h => h hE2), fc']; rfl
  have hS1 : resD b X Y n n = dadd (fof b) (dneg (ddot X Y n)) := by unfold resD; rw [hR1, hD1]; rfl
  have hS2 : resD (fneg b) (fun i => fneg (X i)) Y n n = dadd (fof (fneg b)) (dneg (ddot (fun i => fneg (X i)) Y n)) := by unfold resD; rw [hR2, hD2]; rfl
  obtain ⟨law1, law2⟩ := ares_law (b := b) (A := X) (X := Y) (n := n) (by omega) fc afX ((allfin_iff Y n).1 fb)
  have H1 := fun W ht h h' => Lib.hid (ares_any W b hb ht a a' n n cap cap' X Y h h' (by omega))
  rw [hR1, hS1] at H1
  have H2 := fun W ht h h' => Lib.hid (adot_any W ht a a' n n cap cap' X Y h h' (by omega))
  rw [hE1, hD1] at H2
  have H3 := fun W ht oa ocap h h' => Lib.hid (ares_any W (fneg b) (fneg_lt b) ht oa a' n n ocap cap' (fun i => fneg (X i)) Y h h' (by omega))
  rw [hR2, hS2, law2] at H3
  have HN := fun W => Lib.hid (fneg_any W b hb)
  have HNi := fun (k : Nat) (hk : k < n) W => Lib.hid (fneg_any W (X k) (hX.b k hk))
  have HO := fun W ht => Lib.hid (fof_any W b hb ht)
  have Nr : IsN (dadd (fof b) (dneg (ddot X Y n))) := isN_add _ _
  have Nd : IsN (ddot X Y n) := isN_sum _ _
  have Nb := isN_fof b
  generalize ddot X Y n = dd at *
  generalize dadd (fof b) (dneg dd) = dr at *
  have HA := fun W b1 q1 b2 q2 (h1 : Mag W b1 (nl (dman dr).natAbs) q1 (dman dr).natAbs) (h2 : Mag W b2 (nl (dman dd).natAbs) q2 (dman dd).natAbs) ht => Lib.hid (dadd_any W _ _ _ _ _ _ _ _ _ _ _ _ _ _ (dyin_of Nr h1) (dyin_of Nd h2) ht)
  rw [law1] at HA
  have HNg := fun W b1 q1 (h1 : Mag W b1 (nl (dman dr).natAbs) q1 (dman dr).natAbs) ht => Lib.hid (dneg_any W _ _ _ _ _ _ _ (dyin_of Nr h1) ht)
  have HK1 := fun W b1 q1 b2 q2 (h1 : Mag W b1 (nl (dman (fof b)).natAbs) q1 (dman (fof b)).natAbs) (h2 : Mag W b2 (nl (dman (fof b)).natAbs) q2 (dman (fof b)).natAbs) => Lib.hid (kdyad_eq W (fof b) b1 b2 q1 q2 h1 h2)
  have HK2 := fun W b1 q1 b2 q2 (h1 : Mag W b1 (nl (dman (dneg dr)).natAbs) q1 (dman (dneg dr)).natAbs) (h2 : Mag W b2 (nl (dman (dneg dr)).natAbs) q2 (dman (dneg dr)).natAbs) => Lib.hid (kdyad_eq W (dneg dr) b1 b2 q1 q2 h1 h2)
  have HXX := Lib.hid hX
  have HYY := Lib.hid hY
  clear hE1 hE2 hD1 hD2 hR1 hR2 hS1 hS2 fa fb fc fa' fc' hX hY law1 law2 afX Nr Nd Nb
  generalize fof b = db at *
  generalize dneg dr = dm at *
  generalize ((fneg b : Nat) : Int) = VB at *
  go_enter Tryz.func8, Tryz.ntmps8
  go_wp2_with fail
  have B0 : Below w.heap.size w w := Below.refl _ _
  refine HF.out.mono ?_; rintro e w7 ⟨rfl, rfl⟩; go_wp2_with fail
  refine HG.out.mono ?_; rintro e w8 ⟨rfl, rfl⟩; go_wp2_with fail
  refine HB.out.mono ?_; rintro e w9 ⟨rfl, rfl⟩; go_wp2_with fail
  have hown0 := World.ownsRow_nil w w.heap.size 34 1
  go_loopw [7, 8] (fun v i wr => ∃ (k : Nat), k ≤ n ∧ i = .int .i64 k ∧ wr.ownsRow w.heap.size 34 1 v k (flist (fun i => fneg (X i)) k) ∧ Below w.heap.size w wr) (fun _ i _ => n - (intOf i).toNat)
  case atStart => exact ⟨0, by omega, rfl, hown0, Below.refl _ _⟩
  case round =>
    clear hown0 B0
    obtain ⟨k, hk, rfl, hN, hb⟩ := hrel
    have HNM := Lib.hid hN
    clear hN
    by_cases hlt : k < n
    · have hL' := HXX.out.below hb
      have k0 := hL'.cell k hlt
      have i1 := hL'.idx k hlt
      have HOk := HNi k hlt
      have hsz := hb.size
      have HFL := Lib.hid (show flist (fun i => fneg (X i)) (k + 1) = flist (fun i => fneg (X i)) k ++ [.int .u64 (fneg (X k) : Nat)] from rfl)
      generalize (((X k : Nat)) : Int) = x at k0 HOk
      generalize ((fneg (X k) : Nat) : Int) = y at HOk HFL
      clear hL'
      go_wp2_with fail
      refine (HOk _).out.mono ?_
      rintro e w1 ⟨rfl, hb1⟩
      have hb2 := below_box (w := w) hb hb1
      have hs1 := hb1.size
      have N1 := ownsRow_below HNM.out hb1
      clear hb1
      go_wp2_with (at_builtin; refine app_float rfl _ _ rfl w.heap.size _ k _ rfl _ y rfl (N1.alloc (.cells #[.int .u64 y] 34)) (by go_simp) (by omega) (by rw [World.size_alloc]; omega) ?_; intro v3 w3 hown3 hb3)
      rw [← HFL.out] at hown3
      have hB4 : Below w.heap.size w w3 := Below.trans (hb2.alloc hb2.size _) hb3
      go_roundw
      case rel => exact ⟨k + 1, by omega, by go_num, hown3, hB4⟩
      case measure => simp [intOf]; omega
    · obtain rfl : k = n := by omega
      obtain ⟨oa, ocap, hv, HL⟩ := own_fls HNM.out (fun i _ => fneg_lt _)
      subst hv
      have HLL := Lib.hid HL
      obtain ⟨wo, hwo⟩ : ∃ wo, wo = wr := ⟨_, rfl⟩
      subst hwo
      have B1 := hb
      clear HL hb
      have C1 : Below wo.heap.size wo wo := Below.refl _ _
      obtain ⟨w1, hw1⟩ : ∃ w1, w1 = wo := ⟨_, rfl⟩
      subst hw1
      go_wp2_with fail
      refine (H1 _ (hT.below (have := Beh.mk B1; zbh)) (HXX.out.below (have := Beh.mk B1; zbh)) (HYY.out.below (have := Beh.mk B1; zbh))).out.mono ?_
      rintro e w2 ⟨a1, c1, rfl, M12, hb2, hf2⟩
      have B2 := below_box (w := w) (have := Beh.mk B1; zbh) hb2
      have C2 := below_box (w := w1) (by have hszw := (C1).size; repeat (with_reducible first | refine Below.setCell ?_ (by first | omega | (simp <;> omega)) _ | refine Below.alloc ?_ (by first | omega | (simp <;> omega)) _ | refine Below.drew ?_ | refine below_drewN ?_ _ | exact C1)) hb2
      clear hb2 hf2
      (try clear xx)
      (try clear B1)
      go_wp2_with fail
      have Vr3 := (DyV.made' w2 26 (dbad dr) (decide (dman dr < 0)) (.slice a1 (nl (dman dr).natAbs) c1) (dexp dr) (n := w2.heap.size) (by rfl))
      have M13 := (Mag.alloc M12 (.cells #[.bool (dbad dr), .bool (decide (dman dr < 0)), (.slice a1 (nl (dman dr).natAbs) c1), .int .i64 (dexp dr)] 26))
      have B3 : Below w.heap.size w (w2.alloc (.cells #[.bool (dbad dr), .bool (decide (dman dr < 0)), (.slice a1 (nl (dman dr).natAbs) c1), .int .i64 (dexp dr)] 26)) := (have := Beh.mk B2; zbh)
      have C3 : Below w1.heap.size w1 (w2.alloc (.cells #[.bool (dbad dr), .bool (decide (dman dr < 0)), (.slice a1 (nl (dman dr).natAbs) c1), .int .i64 (dexp dr)] 26)) := (by have hszw := (C2).size; repeat (with_reducible first | refine Below.setCell ?_ (by first | omega | (simp <;> omega)) _ | refine Below.alloc ?_ (by first | omega | (simp <;> omega)) _ | refine Below.drew ?_ | refine below_drewN ?_ _ | exact C2))
      have fr1r : 0 < (nl (dman dr).natAbs) → ab a1 ≠ w2.heap.size := fun h => by have := M12.old h; omega
      have gr : w.heap.size ≤ w2.heap.size := by have := B2.size; omega
      generalize (w2.alloc (.cells #[.bool (dbad dr), .bool (decide (dman dr < 0)), (.slice a1 (nl (dman dr).natAbs) c1), .int .i64 (dexp dr)] 26)) = w3 at Vr3 M13 B3 C3 ⊢
      generalize w2.heap.size = zr at Vr3 fr1r gr ⊢
      (try clear rc0 rc1 rc2 rc3 rc4)
      obtain ⟨rc0, rc1, rc2, rc3, rc4, rc5⟩ := Vr3
      have Vr3 := Lib.hid (DyV.mk rc0 rc1 rc2 rc3 rc4 rc5)
      refine (H2 _ (hT.below (have := Beh.mk B3; zbh)) (HXX.out.below (have := Beh.mk B3; zbh)) (HYY.out.below (have := Beh.mk B3; zbh))).out.mono ?_
      rintro e w4 ⟨a2, c2, rfl, M24, hb4, hf4⟩
      have Vr4 : DyV w4 zr (dbad dr) (decide (dman dr < 0)) (.slice a1 (nl (dman dr).natAbs) c1) (dexp dr) := (Vr3.out.on.below hb4)
      (try clear rc0 rc1 rc2 rc3 rc4)
      obtain ⟨rc0, rc1, rc2, rc3, rc4, rc5⟩ := Vr4
      have Vr4 := Lib.hid (DyV.mk rc0 rc1 rc2 rc3 rc4 rc5)
      have M14 : Mag w4 a1 (nl (dman dr).natAbs) c1 (dman dr).natAbs := Mag.below (by repeat (with_reducible first | refine Mag.set ?_ (fun h => by have := M13 h; omega) _ _ | refine Mag.drew ?_ | refine Mag.alloc ?_ _ | refine Mag.drewN ?_ _ | exact M13)) hb4
      have B4 := below_box (w := w) (have := Beh.mk B3; zbh) hb4
      have C4 := below_box (w := w1) (by have hszw := (C3).size; repeat (with_reducible first | refine Below.setCell ?_ (by first | omega | (simp <;> omega)) _ | refine Below.alloc ?_ (by first | omega | (simp <;> omega)) _ | refine Below.drew ?_ | refine below_drewN ?_ _ | exact C3)) hb4
      clear hb4 hf4
      (try clear xx)
      (try clear Vr3)
      (try clear M13)
      (try clear B3)
      go_wp2_with fail
      have Vp5 := (DyV.made' w4 26 (dbad dd) (decide (dman dd < 0)) (.slice a2 (nl (dman dd).natAbs) c2) (dexp dd) (n := w4.heap.size) (by rfl))
      have Vr5 := (DyV.alloc Vr4.out (.cells #[.bool (dbad dd), .bool (decide (dman dd < 0)), (.slice a2 (nl (dman dd).natAbs) c2), .int .i64 (dexp dd)] 26))
      have M15 := (Mag.alloc M14 (.cells #[.bool (dbad dd), .bool (decide (dman dd < 0)), (.slice a2 (nl (dman dd).natAbs) c2), .int .i64 (dexp dd)] 26))
      have M25 := (Mag.alloc M24 (.cells #[.bool (dbad dd), .bool (decide (dman dd < 0)), (.slice a2 (nl (dman dd).natAbs) c2), .int .i64 (dexp dd)] 26))
      have B5 : Below w.heap.size w (w4.alloc (.cells #[.bool (dbad dd), .bool (decide (dman dd < 0)), (.slice a2 (nl (dman dd).natAbs) c2), .int .i64 (dexp dd)] 26)) := (have := Beh.mk B4; zbh)
      have C5 : Below w1.heap.size w1 (w4.alloc (.cells #[.bool (dbad dd), .bool (decide (dman dd < 0)), (.slice a2 (nl (dman dd).natAbs) c2), .int .i64 (dexp dd)] 26)) := (by have hszw := (C4).size; repeat (with_reducible first | refine Below.setCell ?_ (by first | omega | (simp <;> omega)) _ | refine Below.alloc ?_ (by first | omega | (simp <;> omega)) _ | refine Below.drew ?_ | refine below_drewN ?_ _ | exact C4))
      have nrp : ¬ zr = w4.heap.size := by have := Vr4.out.lt; omega
      have npr : ¬ w4.heap.size = zr := by have := Vr4.out.lt; omega
      have fr1p : 0 < (nl (dman dr).natAbs) → ab a1 ≠ w4.heap.size := fun h => by have := M14.old h; omega
      have fr2p : 0 < (nl (dman dd).natAbs) → ab a2 ≠ w4.heap.size := fun h => by have := M24.old h; omega
      have gp : w.heap.size ≤ w4.heap.size := by have := B4.size; omega
      generalize (w4.alloc (.cells #[.bool (dbad dd), .bool (decide (dman dd < 0)), (.slice a2 (nl (dman dd).natAbs) c2), .int .i64 (dexp dd)] 26)) = w5 at Vp5 Vr5 M15 M25 B5 C5 ⊢
      generalize w4.heap.size = zp at Vp5 nrp npr fr1p fr2p gp ⊢
      (try clear rc0 rc1 rc2 rc3 rc4)
      obtain ⟨rc0, rc1, rc2, rc3, rc4, rc5⟩ := Vr5
      have Vr5 := Lib.hid (DyV.mk rc0 rc1 rc2 rc3 rc4 rc5)
      (try clear pc0 pc1 pc2 pc3 pc4)
      obtain ⟨pc0, pc1, pc2, pc3, pc4, pc5⟩ := Vp5
      have Vp5 := Lib.hid (DyV.mk pc0 pc1 pc2 pc3 pc4 pc5)
      refine (HN _).out.mono ?_
      rintro e w6 ⟨rfl, hb6⟩
      have Vr6 : DyV w6 zr (dbad dr) (decide (dman dr < 0)) (.slice a1 (nl (dman dr).natAbs) c1) (dexp dr) := (Vr5.out.on.below hb6)
      (try clear rc0 rc1 rc2 rc3 rc4)
      obtain ⟨rc0, rc1, rc2, rc3, rc4, rc5⟩ := Vr6
      have Vr6 := Lib.hid (DyV.mk rc0 rc1 rc2 rc3 rc4 rc5)
      have Vp6 : DyV w6 zp (dbad dd) (decide (dman dd < 0)) (.slice a2 (nl (dman dd).natAbs) c2) (dexp dd) := (Vp5.out.on.below hb6)
      (try clear pc0 pc1 pc2 pc3 pc4)
      obtain ⟨pc0, pc1, pc2, pc3, pc4, pc5⟩ := Vp6
      have Vp6 := Lib.hid (DyV.mk pc0 pc1 pc2 pc3 pc4 pc5)
      have M16 : Mag w6 a1 (nl (dman dr).natAbs) c1 (dman dr).natAbs := Mag.below (by repeat (with_reducible first | refine Mag.set ?_ (fun h => by have := M15 h; omega) _ _ | refine Mag.drew ?_ | refine Mag.alloc ?_ _ | refine Mag.drewN ?_ _ | exact M15)) hb6
      have M26 : Mag w6 a2 (nl (dman dd).natAbs) c2 (dman dd).natAbs := Mag.below (by repeat (with_reducible first | refine Mag.set ?_ (fun h => by have := M25 h; omega) _ _ | refine Mag.drew ?_ | refine Mag.alloc ?_ _ | refine Mag.drewN ?_ _ | exact M25)) hb6
      have B6 := below_box (w := w) (have := Beh.mk B5; zbh) hb6
      have C6 := below_box (w := w1) (by have hszw := (C5).size; repeat (with_reducible first | refine Below.setCell ?_ (by first | omega | (simp <;> omega)) _ | refine Below.alloc ?_ (by first | omega | (simp <;> omega)) _ | refine Below.drew ?_ | refine below_drewN ?_ _ | exact C5)) hb6
      clear hb6
      (try clear xx)
      (try clear Vr5)
      (try clear Vp5)
      (try clear M15)
      (try clear M25)
      (try clear B5)
      go_wp2_with fail
      refine (H3 _ (hT.below (have := Beh.mk B6; zbh)) oa ocap (HLL.out.below (by have hszw := (C6).size; repeat (with_reducible first | refine Below.setCell ?_ (by first | omega | (simp <;> omega)) _ | refine Below.alloc ?_ (by first | omega | (simp <;> omega)) _ | refine Below.drew ?_ | refine below_drewN ?_ _ | exact C6))) (HYY.out.below (have := Beh.mk B6; zbh))).out.mono ?_
      rintro e w7 ⟨a3, c3, rfl, M37, hb7, hf7⟩
      have Vr7 : DyV w7 zr (dbad dr) (decide (dman dr < 0)) (.slice a1 (nl (dman dr).natAbs) c1) (dexp dr) := (Vr6.out.on.below hb7)
      (try clear rc0 rc1 rc2 rc3 rc4)
      obtain ⟨rc0, rc1, rc2, rc3, rc4, rc5⟩ := Vr7
      have Vr7 := Lib.hid (DyV.mk rc0 rc1 rc2 rc3 rc4 rc5)
      have Vp7 : DyV w7 zp (dbad dd) (decide (dman dd < 0)) (.slice a2 (nl (dman dd).natAbs) c2) (dexp dd) := (Vp6.out.on.below hb7)
      (try clear pc0 pc1 pc2 pc3 pc4)
      obtain ⟨pc0, pc1, pc2, pc3, pc4, pc5⟩ := Vp7
      have Vp7 := Lib.hid (DyV.mk pc0 pc1 pc2 pc3 pc4 pc5)
      have M17 : Mag w7 a1 (nl (dman dr).natAbs) c1 (dman dr).natAbs := Mag.below (by repeat (with_reducible first | refine Mag.set ?_ (fun h => by have := M16 h; omega) _ _ | refine Mag.drew ?_ | refine Mag.alloc ?_ _ | refine Mag.drewN ?_ _ | exact M16)) hb7
      have M27 : Mag w7 a2 (nl (dman dd).natAbs) c2 (dman dd).natAbs := Mag.below (by repeat (with_reducible first | refine Mag.set ?_ (fun h => by have := M26 h; omega) _ _ | refine Mag.drew ?_ | refine Mag.alloc ?_ _ | refine Mag.drewN ?_ _ | exact M26)) hb7
      have B7 := below_box (w := w) (have := Beh.mk B6; zbh) hb7
      have C7 := below_box (w := w1) (by have hszw := (C6).size; repeat (with_reducible first | refine Below.setCell ?_ (by first | omega | (simp <;> omega)) _ | refine Below.alloc ?_ (by first | omega | (simp <;> omega)) _ | refine Below.drew ?_ | refine below_drewN ?_ _ | exact C6)) hb7
      clear hb7 hf7
      (try clear xx)
      (try clear Vr6)
      (try clear Vp6)
      (try clear M16)
      (try clear M26)
      (try clear B6)
      go_wp2_with fail
      have Vq8 := (DyV.made' w7 26 (dbad dm) (decide (dman dm < 0)) (.slice a3 (nl (dman dm).natAbs) c3) (dexp dm) (n := w7.heap.size) (by rfl))
      have Vr8 := (DyV.alloc Vr7.out (.cells #[.bool (dbad dm), .bool (decide (dman dm < 0)), (.slice a3 (nl (dman dm).natAbs) c3), .int .i64 (dexp dm)] 26))
      have Vp8 := (DyV.alloc Vp7.out (.cells #[.bool (dbad dm), .bool (decide (dman dm < 0)), (.slice a3 (nl (dman dm).natAbs) c3), .int .i64 (dexp dm)] 26))
      have M18 := (Mag.alloc M17 (.cells #[.bool (dbad dm), .bool (decide (dman dm < 0)), (.slice a3 (nl (dman dm).natAbs) c3), .int .i64 (dexp dm)] 26))
      have M28 := (Mag.alloc M27 (.cells #[.bool (dbad dm), .bool (decide (dman dm < 0)), (.slice a3 (nl (dman dm).natAbs) c3), .int .i64 (dexp dm)] 26))
      have M38 := (Mag.alloc M37 (.cells #[.bool (dbad dm), .bool (decide (dman dm < 0)), (.slice a3 (nl (dman dm).natAbs) c3), .int .i64 (dexp dm)] 26))
      have B8 : Below w.heap.size w (w7.alloc (.cells #[.bool (dbad dm), .bool (decide (dman dm < 0)), (.slice a3 (nl (dman dm).natAbs) c3), .int .i64 (dexp dm)] 26)) := (have := Beh.mk B7; zbh)
      have C8 : Below w1.heap.size w1 (w7.alloc (.cells #[.bool (dbad dm), .bool (decide (dman dm < 0)), (.slice a3 (nl (dman dm).natAbs) c3), .int .i64 (dexp dm)] 26)) := (by have hszw := (C7).size; repeat (with_reducible first | refine Below.setCell ?_ (by first | omega | (simp <;> omega)) _ | refine Below.alloc ?_ (by first | omega | (simp <;> omega)) _ | refine Below.drew ?_ | refine below_drewN ?_ _ | exact C7))
      have nrq : ¬ zr = w7.heap.size := by have := Vr7.out.lt; omega
      have nqr : ¬ w7.heap.size = zr := by have := Vr7.out.lt; omega
      have npq : ¬ zp = w7.heap.size := by have := Vp7.out.lt; omega
      have nqp : ¬ w7.heap.size = zp := by have := Vp7.out.lt; omega
      have fr1q : 0 < (nl (dman dr).natAbs) → ab a1 ≠ w7.heap.size := fun h => by have := M17.old h; omega
      have fr2q : 0 < (nl (dman dd).natAbs) → ab a2 ≠ w7.heap.size := fun h => by have := M27.old h; omega
      have fr3q : 0 < (nl (dman dm).natAbs) → ab a3 ≠ w7.heap.size := fun h => by have := M37.old h; omega
      have gq : w.heap.size ≤ w7.heap.size := by have := B7.size; omega
      generalize (w7.alloc (.cells #[.bool (dbad dm), .bool (decide (dman dm < 0)), (.slice a3 (nl (dman dm).natAbs) c3), .int .i64 (dexp dm)] 26)) = w8 at Vq8 Vr8 Vp8 M18 M28 M38 B8 C8 ⊢
      generalize w7.heap.size = zq at Vq8 nrq nqr npq nqp fr1q fr2q fr3q gq ⊢
      (try clear rc0 rc1 rc2 rc3 rc4)
      obtain ⟨rc0, rc1, rc2, rc3, rc4, rc5⟩ := Vr8
      have Vr8 := Lib.hid (DyV.mk rc0 rc1 rc2 rc3 rc4 rc5)
      (try clear pc0 pc1 pc2 pc3 pc4)
      obtain ⟨pc0, pc1, pc2, pc3, pc4, pc5⟩ := Vp8
      have Vp8 := Lib.hid (DyV.mk pc0 pc1 pc2 pc3 pc4 pc5)
      (try clear qc0 qc1 qc2 qc3 qc4)
      obtain ⟨qc0, qc1, qc2, qc3, qc4, qc5⟩ := Vq8
      have Vq8 := Lib.hid (DyV.mk qc0 qc1 qc2 qc3 qc4 qc5)
      first
      | go_region_held3 (fun w' => w'.cell? ⟨zr, 0, none⟩ = some (.bool (dbad dr)) ∧ w'.cell? ⟨zr, 1, none⟩ = some (.bool (decide (dman dr < 0))) ∧ w'.cell? ⟨zr, 2, none⟩ = some ((.slice a1 (nl (dman dr).natAbs) c1)) ∧ w'.cell? ⟨zr, 3, none⟩ = some (.int .i64 (dexp dr)) ∧ w'.cell? ⟨zp, 0, none⟩ = some (.bool (dbad dd)) ∧ w'.cell? ⟨zp, 1, none⟩ = some (.bool (decide (dman dd < 0))) ∧ w'.cell? ⟨zp, 2, none⟩ = some ((.slice a2 (nl (dman dd).natAbs) c2)) ∧ w'.cell? ⟨zp, 3, none⟩ = some (.int .i64 (dexp dd)) ∧ w'.cell? ⟨zq, 0, none⟩ = some (.bool (dbad dm)) ∧ w'.cell? ⟨zq, 1, none⟩ = some (.bool (decide (dman dm < 0))) ∧ w'.cell? ⟨zq, 2, none⟩ = some ((.slice a3 (nl (dman dm).natAbs) c3)) ∧ w'.cell? ⟨zq, 3, none⟩ = some (.int .i64 (dexp dm))) (first | (go_keep; done) | (go_simp; done))
          (first
            | (go_at_call 36; have xx := B13; refine (HW _ (hT.below (have := Beh.mk B13; zbh))).out.mono ?_; rintro e w14 ⟨rfl, hb14⟩; have Vr14 : DyV w14 zr (dbad dr) (decide (dman dr < 0)) (.slice a1 (nl (dman dr).natAbs) c1) (dexp dr) := (Vr13.out.on.below hb14); (try clear rc0 rc1 rc2 rc3 rc4); obtain ⟨rc0, rc1, rc2, rc3, rc4, rc5⟩ := Vr14; have Vr14 := Lib.hid (DyV.mk rc0 rc1 rc2 rc3 rc4 rc5); have Vp14 : DyV w14 zp (dbad dd) (decide (dman dd < 0)) (.slice a2 (nl (dman dd).natAbs) c2) (dexp dd) := (Vp13.out.on.below hb14); (try clear pc0 pc1 pc2 pc3 pc4); obtain ⟨pc0, pc1, pc2, pc3, pc4, pc5⟩ := Vp14; have Vp14 := Lib.hid (DyV.mk pc0 pc1 pc2 pc3 pc4 pc5); have Vq14 : DyV w14 zq (dbad dm) (decide (dman dm < 0)) (.slice a3 (nl (dman dm).natAbs) c3) (dexp dm) := (Vq13.out.on.below hb14); (try clear qc0 qc1 qc2 qc3 qc4); obtain ⟨qc0, qc1, qc2, qc3, qc4, qc5⟩ := Vq14; have Vq14 := Lib.hid (DyV.mk qc0 qc1 qc2 qc3 qc4 qc5); have M114 : Mag w14 a1 (nl (dman dr).natAbs) c1 (dman dr).natAbs := Mag.below (by repeat (with_reducible first | refine Mag.set ?_ (fun h => by have := M113 h; omega) _ _ | refine Mag.drew ?_ | refine Mag.alloc ?_ _ | refine Mag.drewN ?_ _ | exact M113)) hb14; have M214 : Mag w14 a2 (nl (dman dd).natAbs) c2 (dman dd).natAbs := Mag.below (by repeat (with_reducible first | refine Mag.set ?_ (fun h => by have := M213 h; omega) _ _ | refine Mag.drew ?_ | refine Mag.alloc ?_ _ | refine Mag.drewN ?_ _ | exact M213)) hb14; have M314 : Mag w14 a3 (nl (dman dm).natAbs) c3 (dman dm).natAbs := Mag.below (by repeat (with_reducible first | refine Mag.set ?_ (fun h => by have := M313 h; omega) _ _ | refine Mag.drew ?_ | refine Mag.alloc ?_ _ | refine Mag.drewN ?_ _ | exact M313)) hb14; have M414 : Mag w14 a4 (nl (dman db).natAbs) c4 (dman db).natAbs := Mag.below (by repeat (with_reducible first | refine Mag.set ?_ (fun h => by have := M413 h; omega) _ _ | refine Mag.drew ?_ | refine Mag.alloc ?_ _ | refine Mag.drewN ?_ _ | exact M413)) hb14; have M514 : Mag w14 a5 (nl (dman db).natAbs) c5 (dman db).natAbs := Mag.below (by repeat (with_reducible first | refine Mag.set ?_ (fun h => by have := M513 h; omega) _ _ | refine Mag.drew ?_ | refine Mag.alloc ?_ _ | refine Mag.drewN ?_ _ | exact M513)) hb14; have M614 : Mag w14 a6 (nl (dman dm).natAbs) c6 (dman dm).natAbs := Mag.below (by repeat (with_reducible first | refine Mag.set ?_ (fun h => by have := M613 h; omega) _ _ | refine Mag.drew ?_ | refine Mag.alloc ?_ _ | refine Mag.drewN ?_ _ | exact M613)) hb14; have B14 := below_box (w := w) (have := Beh.mk B13; zbh) hb14; have C14 := below_box (w := w1) (by have hszw := (C13).size; repeat (with_reducible first | refine Below.setCell ?_ (by first | omega | (simp <;> omega)) _ | refine Below.alloc ?_ (by first | omega | (simp <;> omega)) _ | refine Below.drew ?_ | refine below_drewN ?_ _ | exact C13)) hb14; clear hb14; (try clear xx); (try clear Vr13); (try clear Vp13); (try clear Vq13); (try clear M113); (try clear M213); (try clear M313); (try clear M413); (try clear M513); (try clear M613); (try clear B13))
            | (go_at_call 25; have xx := B12; refine (HK2 _ a3 c3 a6 c6 (by repeat (with_reducible first | refine Mag.set ?_ (fun h => by have := M312 h; omega) _ _ | refine Mag.drew ?_ | refine Mag.alloc ?_ _ | refine Mag.drewN ?_ _ | exact M312)) (by repeat (with_reducible first | refine Mag.set ?_ (fun h => by have := M612 h; omega) _ _ | refine Mag.drew ?_ | refine Mag.alloc ?_ _ | refine Mag.drewN ?_ _ | exact M612))).out.mono ?_; rintro e w13 ⟨rfl, hb13⟩; have Vr13 : DyV w13 zr (dbad dr) (decide (dman dr < 0)) (.slice a1 (nl (dman dr).natAbs) c1) (dexp dr) := (Vr12.out.on.below hb13); (try clear rc0 rc1 rc2 rc3 rc4); obtain ⟨rc0, rc1, rc2, rc3, rc4, rc5⟩ := Vr13; have Vr13 := Lib.hid (DyV.mk rc0 rc1 rc2 rc3 rc4 rc5); have Vp13 : DyV w13 zp (dbad dd) (decide (dman dd < 0)) (.slice a2 (nl (dman dd).natAbs) c2) (dexp dd) := (Vp12.out.on.below hb13); (try clear pc0 pc1 pc2 pc3 pc4); obtain ⟨pc0, pc1, pc2, pc3, pc4, pc5⟩ := Vp13; have Vp13 := Lib.hid (DyV.mk pc0 pc1 pc2 pc3 pc4 pc5); have Vq13 : DyV w13 zq (dbad dm) (decide (dman dm < 0)) (.slice a3 (nl (dman dm).natAbs) c3) (dexp dm) := (Vq12.out.on.below hb13); (try clear qc0 qc1 qc2 qc3 qc4); obtain ⟨qc0, qc1, qc2, qc3, qc4, qc5⟩ := Vq13; have Vq13 := Lib.hid (DyV.mk qc0 qc1 qc2 qc3 qc4 qc5); have M113 : Mag w13 a1 (nl (dman dr).natAbs) c1 (dman dr).natAbs := Mag.below (by repeat (with_reducible first | refine Mag.set ?_ (fun h => by have := M112 h; omega) _ _ | refine Mag.drew ?_ | refine Mag.alloc ?_ _ | refine Mag.drewN ?_ _ | exact M112)) hb13; have M213 : Mag w13 a2 (nl (dman dd).natAbs) c2 (dman dd).natAbs := Mag.below (by repeat (with_reducible first | refine Mag.set ?_ (fun h => by have := M212 h; omega) _ _ | refine Mag.drew ?_ | refine Mag.alloc ?_ _ | refine Mag.drewN ?_ _ | exact M212)) hb13; have M313 : Mag w13 a3 (nl (dman dm).natAbs) c3 (dman dm).natAbs := Mag.below (by repeat (with_reducible first | refine Mag.set ?_ (fun h => by have := M312 h; omega) _ _ | refine Mag.drew ?_ | refine Mag.alloc ?_ _ | refine Mag.drewN ?_ _ | exact M312)) hb13; have M413 : Mag w13 a4 (nl (dman db).natAbs) c4 (dman db).natAbs := Mag.below (by repeat (with_reducible first | refine Mag.set ?_ (fun h => by have := M412 h; omega) _ _ | refine Mag.drew ?_ | refine Mag.alloc ?_ _ | refine Mag.drewN ?_ _ | exact M412)) hb13; have M513 : Mag w13 a5 (nl (dman db).natAbs) c5 (dman db).natAbs := Mag.below (by repeat (with_reducible first | refine Mag.set ?_ (fun h => by have := M512 h; omega) _ _ | refine Mag.drew ?_ | refine Mag.alloc ?_ _ | refine Mag.drewN ?_ _ | exact M512)) hb13; have M613 : Mag w13 a6 (nl (dman dm).natAbs) c6 (dman dm).natAbs := Mag.below (by repeat (with_reducible first | refine Mag.set ?_ (fun h => by have := M612 h; omega) _ _ | refine Mag.drew ?_ | refine Mag.alloc ?_ _ | refine Mag.drewN ?_ _ | exact M612)) hb13; have B13 := below_box (w := w) (have := Beh.mk B12; zbh) hb13; have C13 := below_box (w := w1) (by have hszw := (C12).size; repeat (with_reducible first | refine Below.setCell ?_ (by first | omega | (simp <;> omega)) _ | refine Below.alloc ?_ (by first | omega | (simp <;> omega)) _ | refine Below.drew ?_ | refine below_drewN ?_ _ | exact C12)) hb13; clear hb13; (try clear xx); (try clear Vr12); (try clear Vp12); (try clear Vq12); (try clear M112); (try clear M212); (try clear M312); (try clear M412); (try clear M512); (try clear M612); (try clear B12))
            | (go_at_call 56; have xx := B11; refine (HNg _ a1 c1 (by repeat (with_reducible first | refine Mag.set ?_ (fun h => by have := M111 h; omega) _ _ | refine Mag.drew ?_ | refine Mag.alloc ?_ _ | refine Mag.drewN ?_ _ | exact M111)) (hT.below (have := Beh.mk B11; zbh))).out.mono ?_; rintro e w12 ⟨a6, c6, rfl, M612, hb12, hf12⟩; have Vr12 : DyV w12 zr (dbad dr) (decide (dman dr < 0)) (.slice a1 (nl (dman dr).natAbs) c1) (dexp dr) := (Vr11.out.on.below hb12); (try clear rc0 rc1 rc2 rc3 rc4); obtain ⟨rc0, rc1, rc2, rc3, rc4, rc5⟩ := Vr12; have Vr12 := Lib.hid (DyV.mk rc0 rc1 rc2 rc3 rc4 rc5); have Vp12 : DyV w12 zp (dbad dd) (decide (dman dd < 0)) (.slice a2 (nl (dman dd).natAbs) c2) (dexp dd) := (Vp11.out.on.below hb12); (try clear pc0 pc1 pc2 pc3 pc4); obtain ⟨pc0, pc1, pc2, pc3, pc4, pc5⟩ := Vp12; have Vp12 := Lib.hid (DyV.mk pc0 pc1 pc2 pc3 pc4 pc5); have Vq12 : DyV w12 zq (dbad dm) (decide (dman dm < 0)) (.slice a3 (nl (dman dm).natAbs) c3) (dexp dm) := (Vq11.out.on.below hb12); (try clear qc0 qc1 qc2 qc3 qc4); obtain ⟨qc0, qc1, qc2, qc3, qc4, qc5⟩ := Vq12; have Vq12 := Lib.hid (DyV.mk qc0 qc1 qc2 qc3 qc4 qc5); have M112 : Mag w12 a1 (nl (dman dr).natAbs) c1 (dman dr).natAbs := Mag.below (by repeat (with_reducible first | refine Mag.set ?_ (fun h => by have := M111 h; omega) _ _ | refine Mag.drew ?_ | refine Mag.alloc ?_ _ | refine Mag.drewN ?_ _ | exact M111)) hb12; have M212 : Mag w12 a2 (nl (dman dd).natAbs) c2 (dman dd).natAbs := Mag.below (by repeat (with_reducible first | refine Mag.set ?_ (fun h => by have := M211 h; omega) _ _ | refine Mag.drew ?_ | refine Mag.alloc ?_ _ | refine Mag.drewN ?_ _ | exact M211)) hb12; have M312 : Mag w12 a3 (nl (dman dm).natAbs) c3 (dman dm).natAbs := Mag.below (by repeat (with_reducible first | refine Mag.set ?_ (fun h => by have := M311 h; omega) _ _ | refine Mag.drew ?_ | refine Mag.alloc ?_ _ | refine Mag.drewN ?_ _ | exact M311)) hb12; have M412 : Mag w12 a4 (nl (dman db).natAbs) c4 (dman db).natAbs := Mag.below (by repeat (with_reducible first | refine Mag.set ?_ (fun h => by have := M411 h; omega) _ _ | refine Mag.drew ?_ | refine Mag.alloc ?_ _ | refine Mag.drewN ?_ _ | exact M411)) hb12; have M512 : Mag w12 a5 (nl (dman db).natAbs) c5 (dman db).natAbs := Mag.below (by repeat (with_reducible first | refine Mag.set ?_ (fun h => by have := M511 h; omega) _ _ | refine Mag.drew ?_ | refine Mag.alloc ?_ _ | refine Mag.drewN ?_ _ | exact M511)) hb12; have B12 := below_box (w := w) (have := Beh.mk B11; zbh) hb12; have C12 := below_box (w := w1) (by have hszw := (C11).size; repeat (with_reducible first | refine Below.setCell ?_ (by first | omega | (simp <;> omega)) _ | refine Below.alloc ?_ (by first | omega | (simp <;> omega)) _ | refine Below.drew ?_ | refine below_drewN ?_ _ | exact C11)) hb12; clear hb12 hf12; (try clear xx); (try clear Vr11); (try clear Vp11); (try clear Vq11); (try clear M111); (try clear M211); (try clear M311); (try clear M411); (try clear M511); (try clear B11))
            | (go_at_call 25; have xx := B10; refine (HK1 _ a4 c4 a5 c5 (by repeat (with_reducible first | refine Mag.set ?_ (fun h => by have := M410 h; omega) _ _ | refine Mag.drew ?_ | refine Mag.alloc ?_ _ | refine Mag.drewN ?_ _ | exact M410)) (by repeat (with_reducible first | refine Mag.set ?_ (fun h => by have := M510 h; omega) _ _ | refine Mag.drew ?_ | refine Mag.alloc ?_ _ | refine Mag.drewN ?_ _ | exact M510))).out.mono ?_; rintro e w11 ⟨rfl, hb11⟩; have Vr11 : DyV w11 zr (dbad dr) (decide (dman dr < 0)) (.slice a1 (nl (dman dr).natAbs) c1) (dexp dr) := (Vr10.out.on.below hb11); (try clear rc0 rc1 rc2 rc3 rc4); obtain ⟨rc0, rc1, rc2, rc3, rc4, rc5⟩ := Vr11; have Vr11 := Lib.hid (DyV.mk rc0 rc1 rc2 rc3 rc4 rc5); have Vp11 : DyV w11 zp (dbad dd) (decide (dman dd < 0)) (.slice a2 (nl (dman dd).natAbs) c2) (dexp dd) := (Vp10.out.on.below hb11); (try clear pc0 pc1 pc2 pc3 pc4); obtain ⟨pc0, pc1, pc2, pc3, pc4, pc5⟩ := Vp11; have Vp11 := Lib.hid (DyV.mk pc0 pc1 pc2 pc3 pc4 pc5); have Vq11 : DyV w11 zq (dbad dm) (decide (dman dm < 0)) (.slice a3 (nl (dman dm).natAbs) c3) (dexp dm) := (Vq10.out.on.below hb11); (try clear qc0 qc1 qc2 qc3 qc4); obtain ⟨qc0, qc1, qc2, qc3, qc4, qc5⟩ := Vq11; have Vq11 := Lib.hid (DyV.mk qc0 qc1 qc2 qc3 qc4 qc5); have M111 : Mag w11 a1 (nl (dman dr).natAbs) c1 (dman dr).natAbs := Mag.below (by repeat (with_reducible first | refine Mag.set ?_ (fun h => by have := M110 h; omega) _ _ | refine Mag.drew ?_ | refine Mag.alloc ?_ _ | refine Mag.drewN ?_ _ | exact M110)) hb11; have M211 : Mag w11 a2 (nl (dman dd).natAbs) c2 (dman dd).natAbs := Mag.below (by repeat (with_reducible first | refine Mag.set ?_ (fun h => by have := M210 h; omega) _ _ | refine Mag.drew ?_ | refine Mag.alloc ?_ _ | refine Mag.drewN ?_ _ | exact M210)) hb11; have M311 : Mag w11 a3 (nl (dman dm).natAbs) c3 (dman dm).natAbs := Mag.below (by repeat (with_reducible first | refine Mag.set ?_ (fun h => by have := M310 h; omega) _ _ | refine Mag.drew ?_ | refine Mag.alloc ?_ _ | refine Mag.drewN ?_ _ | exact M310)) hb11; have M411 : Mag w11 a4 (nl (dman db).natAbs) c4 (dman db).natAbs := Mag.below (by repeat (with_reducible first | refine Mag.set ?_ (fun h => by have := M410 h; omega) _ _ | refine Mag.drew ?_ | refine Mag.alloc ?_ _ | refine Mag.drewN ?_ _ | exact M410)) hb11; have M511 : Mag w11 a5 (nl (dman db).natAbs) c5 (dman db).natAbs := Mag.below (by repeat (with_reducible first | refine Mag.set ?_ (fun h => by have := M510 h; omega) _ _ | refine Mag.drew ?_ | refine Mag.alloc ?_ _ | refine Mag.drewN ?_ _ | exact M510)) hb11; have B11 := below_box (w := w) (have := Beh.mk B10; zbh) hb11; have C11 := below_box (w := w1) (by have hszw := (C10).size; repeat (with_reducible first | refine Below.setCell ?_ (by first | omega | (simp <;> omega)) _ | refine Below.alloc ?_ (by first | omega | (simp <;> omega)) _ | refine Below.drew ?_ | refine below_drewN ?_ _ | exact C10)) hb11; clear hb11; (try clear xx); (try clear Vr10); (try clear Vp10); (try clear Vq10); (try clear M110); (try clear M210); (try clear M310); (try clear M410); (try clear M510); (try clear B10))
            | (go_at_call 41; have xx := B9; refine (HO _ (hT.below (have := Beh.mk B9; zbh))).out.mono ?_; rintro e w10 ⟨a5, c5, rfl, M510, hb10, hf10⟩; have Vr10 : DyV w10 zr (dbad dr) (decide (dman dr < 0)) (.slice a1 (nl (dman dr).natAbs) c1) (dexp dr) := (Vr9.out.on.below hb10); (try clear rc0 rc1 rc2 rc3 rc4); obtain ⟨rc0, rc1, rc2, rc3, rc4, rc5⟩ := Vr10; have Vr10 := Lib.hid (DyV.mk rc0 rc1 rc2 rc3 rc4 rc5); have Vp10 : DyV w10 zp (dbad dd) (decide (dman dd < 0)) (.slice a2 (nl (dman dd).natAbs) c2) (dexp dd) := (Vp9.out.on.below hb10); (try clear pc0 pc1 pc2 pc3 pc4); obtain ⟨pc0, pc1, pc2, pc3, pc4, pc5⟩ := Vp10; have Vp10 := Lib.hid (DyV.mk pc0 pc1 pc2 pc3 pc4 pc5); have Vq10 : DyV w10 zq (dbad dm) (decide (dman dm < 0)) (.slice a3 (nl (dman dm).natAbs) c3) (dexp dm) := (Vq9.out.on.below hb10); (try clear qc0 qc1 qc2 qc3 qc4); obtain ⟨qc0, qc1, qc2, qc3, qc4, qc5⟩ := Vq10; have Vq10 := Lib.hid (DyV.mk qc0 qc1 qc2 qc3 qc4 qc5); have M110 : Mag w10 a1 (nl (dman dr).natAbs) c1 (dman dr).natAbs := Mag.below (by repeat (with_reducible first | refine Mag.set ?_ (fun h => by have := M19 h; omega) _ _ | refine Mag.drew ?_ | refine Mag.alloc ?_ _ | refine Mag.drewN ?_ _ | exact M19)) hb10; have M210 : Mag w10 a2 (nl (dman dd).natAbs) c2 (dman dd).natAbs := Mag.below (by repeat (with_reducible first | refine Mag.set ?_ (fun h => by have := M29 h; omega) _ _ | refine Mag.drew ?_ | refine Mag.alloc ?_ _ | refine Mag.drewN ?_ _ | exact M29)) hb10; have M310 : Mag w10 a3 (nl (dman dm).natAbs) c3 (dman dm).natAbs := Mag.below (by repeat (with_reducible first | refine Mag.set ?_ (fun h => by have := M39 h; omega) _ _ | refine Mag.drew ?_ | refine Mag.alloc ?_ _ | refine Mag.drewN ?_ _ | exact M39)) hb10; have M410 : Mag w10 a4 (nl (dman db).natAbs) c4 (dman db).natAbs := Mag.below (by repeat (with_reducible first | refine Mag.set ?_ (fun h => by have := M49 h; omega) _ _ | refine Mag.drew ?_ | refine Mag.alloc ?_ _ | refine Mag.drewN ?_ _ | exact M49)) hb10; have B10 := below_box (w := w) (have := Beh.mk B9; zbh) hb10; have C10 := below_box (w := w1) (by have hszw := (C9).size; repeat (with_reducible first | refine Below.setCell ?_ (by first | omega | (simp <;> omega)) _ | refine Below.alloc ?_ (by first | omega | (simp <;> omega)) _ | refine Below.drew ?_ | refine below_drewN ?_ _ | exact C9)) hb10; clear hb10 hf10; (try clear xx); (try clear Vr9); (try clear Vp9); (try clear Vq9); (try clear M19); (try clear M29); (try clear M39); (try clear M49); (try clear B9))
            | (go_at_call 40; have xx := B8; refine (HA _ a1 c1 a2 c2 (by repeat (with_reducible first | refine Mag.set ?_ (fun h => by have := M18 h; omega) _ _ | refine Mag.drew ?_ | refine Mag.alloc ?_ _ | refine Mag.drewN ?_ _ | exact M18)) (by repeat (with_reducible first | refine Mag.set ?_ (fun h => by have := M28 h; omega) _ _ | refine Mag.drew ?_ | refine Mag.alloc ?_ _ | refine Mag.drewN ?_ _ | exact M28)) (hT.below (have := Beh.mk B8; zbh))).out.mono ?_; rintro e w9 ⟨a4, c4, rfl, M49, hb9, hf9⟩; have Vr9 : DyV w9 zr (dbad dr) (decide (dman dr < 0)) (.slice a1 (nl (dman dr).natAbs) c1) (dexp dr) := (Vr8.out.on.below hb9); (try clear rc0 rc1 rc2 rc3 rc4); obtain ⟨rc0, rc1, rc2, rc3, rc4, rc5⟩ := Vr9; have Vr9 := Lib.hid (DyV.mk rc0 rc1 rc2 rc3 rc4 rc5); have Vp9 : DyV w9 zp (dbad dd) (decide (dman dd < 0)) (.slice a2 (nl (dman dd).natAbs) c2) (dexp dd) := (Vp8.out.on.below hb9); (try clear pc0 pc1 pc2 pc3 pc4); obtain ⟨pc0, pc1, pc2, pc3, pc4, pc5⟩ := Vp9; have Vp9 := Lib.hid (DyV.mk pc0 pc1 pc2 pc3 pc4 pc5); have Vq9 : DyV w9 zq (dbad dm) (decide (dman dm < 0)) (.slice a3 (nl (dman dm).natAbs) c3) (dexp dm) := (Vq8.out.on.below hb9); (try clear qc0 qc1 qc2 qc3 qc4); obtain ⟨qc0, qc1, qc2, qc3, qc4, qc5⟩ := Vq9; have Vq9 := Lib.hid (DyV.mk qc0 qc1 qc2 qc3 qc4 qc5); have M19 : Mag w9 a1 (nl (dman dr).natAbs) c1 (dman dr).natAbs := Mag.below (by repeat (with_reducible first | refine Mag.set ?_ (fun h => by have := M18 h; omega) _ _ | refine Mag.drew ?_ | refine Mag.alloc ?_ _ | refine Mag.drewN ?_ _ | exact M18)) hb9; have M29 : Mag w9 a2 (nl (dman dd).natAbs) c2 (dman dd).natAbs := Mag.below (by repeat (with_reducible first | refine Mag.set ?_ (fun h => by have := M28 h; omega) _ _ | refine Mag.drew ?_ | refine Mag.alloc ?_ _ | refine Mag.drewN ?_ _ | exact M28)) hb9; have M39 : Mag w9 a3 (nl (dman dm).natAbs) c3 (dman dm).natAbs := Mag.below (by repeat (with_reducible first | refine Mag.set ?_ (fun h => by have := M38 h; omega) _ _ | refine Mag.drew ?_ | refine Mag.alloc ?_ _ | refine Mag.drewN ?_ _ | exact M38)) hb9; have B9 := below_box (w := w) (have := Beh.mk B8; zbh) hb9; have C9 := below_box (w := w1) (by have hszw := (C8).size; repeat (with_reducible first | refine Below.setCell ?_ (by first | omega | (simp <;> omega)) _ | refine Below.alloc ?_ (by first | omega | (simp <;> omega)) _ | refine Below.drew ?_ | refine below_drewN ?_ _ | exact C8)) hb9; clear hb9 hf9; (try clear xx); (try clear Vr8); (try clear Vp8); (try clear Vq8); (try clear M18); (try clear M28); (try clear M38); (try clear B8))
            | fail)
      | fail "region"
      all_goals (
        go_wp2_with fail
        go_ret
        exact ⟨rfl, (have := Beh.mk B14; zbh)⟩)

theorem aresid_any (w : World) (b : Nat) (hb : b < 18446744073709551616) (hT : Tab w) (a : Option Addr) (n cap : Nat) (X : Nat → Nat) (hX : Fls w a n cap X) (a' : Option Addr) (m cap' : Nat) (Y : Nat → Nat) (hY : Fls w a' m cap' Y) :
    Calls Tryz.prog 8 #[.int .u64 b, .slice a n cap, .slice a' m cap'] w fun o w' => o = .returned (.bool true) ∧ Below w.heap.size w w' := by
  by_cases hn : 10 < n
  · exact aresid_big w b hb hT a n cap X hX a' m cap' Y hY hn
  · by_cases hm : n = m
    · cases fa : allfin X n with
      | false => exact aresid_fx w b hb hT a n cap X hX a' m cap' Y hY hn hm fa
      | true =>
        cases fb : allfin Y m with
        | false => exact aresid_fy w b hb hT a n cap X hX a' m cap' Y hY hn hm fa fb
        | true =>
          cases fc : ffin b with
          | false => exact aresid_fb w b hb hT a n cap X hX a' m cap' Y hY hn hm fa fb fc
          | true => exact aresid_ok w b hb hT a n cap X hX a' m cap' Y hY hn hm fa fb fc
    · exact aresid_len w b hb hT a n cap X hX a' m cap' Y hY hn hm

theorem aresid_all (w : World) (hT : Tab w) (b : Nat) (hb : b < 18446744073709551616) (a : Option Addr) (n cap : Nat) (X : Nat → Nat) (hX : Fls w a n cap X) (a' : Option Addr) (m cap' : Nat) (Y : Nat → Nat) (hY : Fls w a' m cap' Y) :
    Calls Tryz.prog 8 #[.int .u64 b, .slice a n cap, .slice a' m cap'] w fun o w' => o = .returned (.bool true) ∧ Below w.heap.size w w' := aresid_any w b hb hT a n cap X hX a' m cap' Y hY

end Go.Proofs.YtmpcikkimcehnaaGreatDoor


/-
  Walks: the laws of accumulation: awake.
  Walks: the law AccumFree.
  Walks: the law AccumResidual.
  Walks: package sparsekit: TwinFloats, Floats.
-/
import Derived.Test.YtakbappmkdaioaaGreatDoorZjKA
import Derived.Test.YtakbappmkdaioaaGreatDoorZjS3
import Derived.Test.YtakbappmkdaioaaGreatDoorZjKit
namespace Go.Proofs.YtakbappmkdaioaaGreatDoor
open Go.RowKit Sp

def bigL (i : Nat) : Nat := if i = 0 then fBig else if i = 1 then fOne else fneg fBig
theorem fneg_big : fneg fBig = 14100770433297022976 := by decide
theorem bigL_fin (i : Nat) : ffin (bigL i) = true := by
  unfold bigL; split
  · decide
  · split <;> decide
theorem bigL_sum : dsum (fun i => fof (bigL i)) 3 = some (1, 0) := by
  rw [(asum_val (L := bigL) (n := 3) (by decide) (fun i _ => bigL_fin i)).1]
  have e : sumI (fun i => fz (bigL i)) 3 = fz fOne := by
    show 0 + fz fBig + fz fOne + fz (fneg fBig) = fz fOne
    rw [(fz_fneg big_val.1).2]; omega
  rw [e, ← fof_fin fin_one, fof_one]
set_option maxRecDepth 100000 in
set_option maxHeartbeats 8000000 in
theorem awakeA_any (w : World) (hT : Tab w) : Calls Tryz.prog 27 #[] w fun o w' => o = .returned (.bool true) ∧ Below w.heap.size w w' := by
  have H1 := fun W ht => Lib.hid (show Calls Tryz.prog 67 #[.int .i64 1152921504606846976, .int .i64 0] W fun o w' => o = .returned (.int .u64 4877398396442247168) ∧ Below W.heap.size W w' from by
    have := r3fromInt_any W 1152921504606846976 0 (by decide) (by decide) ht
    rw [big_round] at this; exact this)
  have H2 := fun W => Lib.hid (show Calls Tryz.prog 57 #[.int .u64 4877398396442247168] W fun o w' => o = .returned (.int .u64 14100770433297022976) ∧ W = w' from by
    have := r3neg_any W fBig (by decide)
    rw [fneg_big] at this; exact this)
  obtain ⟨d, hd⟩ : ∃ d : Option (Int × Int), d = some (1, 0) := ⟨_, rfl⟩
  have H3 := fun W g ht (h0 : W.cell? ⟨g, 0, none⟩ = some (.int .u64 4877398396442247168)) (h1 : W.cell? ⟨g, 1, none⟩ = some (.int .u64 4607182418800017408)) (h2 : W.cell? ⟨g, 2, none⟩ = some (.int .u64 14100770433297022976)) (hg : g < W.heap.size) => Lib.hid (show Calls Tryz.prog 33 #[.slice (some ⟨g, 0, none⟩) 3 3] W (RetDy W d) from by
    have := asum_any W ht (some ⟨g, 0, none⟩) 3 3 bigL ⟨by decide, by decide, fun _ => rfl, fun i hi => by
      rcases (show i = 0 ∨ i = 1 ∨ i = 2 by omega) with rfl | rfl | rfl
      · rw [ab_some, ao_some]; exact h0
      · rw [ab_some, ao_some]; exact h1
      · rw [ab_some, ao_some]; rw [show bigL 2 = 14100770433297022976 from fneg_big]; exact h2, fun i _ => by
      unfold bigL; split
      · decide
      · split
        · decide
        · exact fneg_lt _, fun _ => hg⟩ (by decide)
    rw [bigL_sum, ← hd] at this; exact this)
  have H4 := fun W ht => Lib.hid (show Calls Tryz.prog 23 #[.int .u64 4877398396442247168, .int .u64 4607182418800017408] W fun o w' => o = .returned (.tuple #[.int .u64 4877398396442247168, .int .u64 4607182418800017408, .bool true]) ∧ Below W.heap.size W w' from by
    have := atwosum_any W ht fBig fOne (by decide) (by decide)
    rw [big_add] at this
    unfold rstS rstT at this
    rw [big_rest.1, big_rest.2] at this; exact this)
  have H5 := fun W b c (h : Mag W b (nl (dman d).natAbs) c (dman d).natAbs) g (h' : Mag W (some ⟨g, 0, none⟩) 1 1 1) => Lib.hid (show Calls Tryz.prog 16 #[.agg #[.bool (dbad d), .bool (decide (dman d < 0)), .slice b (nl (dman d).natAbs) c, .int .i64 (dexp d)], .agg #[.bool false, .bool false, .slice (some ⟨g, 0, none⟩) 1 1, .int .i64 0]] W fun o w' => o = .returned (.bool true) ∧ Below W.heap.size W w' from by
    refine kdyad_any W _ _ _ _ _ _ _ _ _ _ _ _ _ _ h h' rfl (by decide) true ?_
    rw [hd]; decide)
  clear hd
  go_enter Tryz.func27, Tryz.ntmps27
  go_wp2_with fail
  have B0 : Below w.heap.size w w := Below.refl _ _
  refine (H1 _ hT).out.mono ?_
  rintro e w1 ⟨rfl, hb1⟩
  have B1 := below_box (w := w) (have := Beh.mk B0; zbh) hb1
  clear hb1
  (try clear xx)
  (try clear B0)
  go_wp2_with fail
  (refine (H2 _).out.mono ?_; rintro e w1 ⟨rfl, rfl⟩; go_wp2_with fail)
  have hg1 : w1.heap.size < (w1.alloc (.cells #[.int .u64 4877398396442247168, .int .u64 4607182418800017408, .int .u64 14100770433297022976] 34)).heap.size := by simp
  refine (H3 _ w1.heap.size (hT.below (have := Beh.mk B1; zbh)) (by go_simp) (by go_simp) (by go_simp) hg1).out.mono ?_
  rintro e w2 ⟨ad, cd, rfl, Md2, hb2, hf2⟩
  have B2 := below_box (w := w) (have := Beh.mk B1; zbh) hb2
  clear hb2 hf2
  (try clear xx)
  (try clear B1)
  go_wp2_with fail
  have Vs3 := (DyV.made' w2 26 (dbad d) (decide (dman d < 0)) (.slice ad (nl (dman d).natAbs) cd) (dexp d) (n := w2.heap.size) (by rfl))
  have Md3 := (Mag.alloc Md2 (.cells #[.bool (dbad d), .bool (decide (dman d < 0)), (.slice ad (nl (dman d).natAbs) cd), .int .i64 (dexp d)] 26))
  have B3 : Below w.heap.size w (w2.alloc (.cells #[.bool (dbad d), .bool (decide (dman d < 0)), (.slice ad (nl (dman d).natAbs) cd), .int .i64 (dexp d)] 26)) := (have := Beh.mk B2; zbh)
  have frds : 0 < (nl (dman d).natAbs) → ab ad ≠ w2.heap.size := fun h => by have := Md2.old h; omega
  have gs : w.heap.size ≤ w2.heap.size := by have := B2.size; omega
  generalize (w2.alloc (.cells #[.bool (dbad d), .bool (decide (dman d < 0)), (.slice ad (nl (dman d).natAbs) cd), .int .i64 (dexp d)] 26)) = w3 at Vs3 Md3 B3 ⊢
  generalize w2.heap.size = zs at Vs3 frds gs ⊢
  (try clear sc0 sc1 sc2 sc3 sc4)
  obtain ⟨sc0, sc1, sc2, sc3, sc4, sc5⟩ := Vs3
  have Vs3 := Lib.hid (DyV.mk sc0 sc1 sc2 sc3 sc4 sc5)
  refine (H4 _ (hT.below (have := Beh.mk B3; zbh))).out.mono ?_
  rintro e w4 ⟨rfl, hb4⟩
  have Vs4 : DyV w4 zs (dbad d) (decide (dman d < 0)) (.slice ad (nl (dman d).natAbs) cd) (dexp d) := (Vs3.out.on.below hb4)
  (try clear sc0 sc1 sc2 sc3 sc4)
  obtain ⟨sc0, sc1, sc2, sc3, sc4, sc5⟩ := Vs4
  have Vs4 := Lib.hid (DyV.mk sc0 sc1 sc2 sc3 sc4 sc5)
  have Md4 : Mag w4 ad (nl (dman d).natAbs) cd (dman d).natAbs := Mag.below (by repeat (with_reducible first | refine Mag.set ?_ (fun h => by have := Md3 h; omega) _ _ | refine Mag.drew ?_ | refine Mag.alloc ?_ _ | refine Mag.drewN ?_ _ | exact Md3)) hb4
  have B4 := below_box (w := w) (have := Beh.mk B3; zbh) hb4
  clear hb4
  (try clear xx)
  (try clear Vs3)
  (try clear Md3)
  (try clear B3)
  go_wp2_with fail
  have L1 := Mag.one w4 87 1 (by decide)
  refine (H5 _ ad cd (by repeat (with_reducible first | refine Mag.set ?_ (fun h => by have := Md4 h; omega) _ _ | refine Mag.drew ?_ | refine Mag.alloc ?_ _ | refine Mag.drewN ?_ _ | exact Md4)) w4.heap.size L1).out.mono ?_
  rintro e w5 ⟨rfl, hb5⟩
  have Vs5 : DyV w5 zs (dbad d) (decide (dman d < 0)) (.slice ad (nl (dman d).natAbs) cd) (dexp d) := (Vs4.out.on.below hb5)
  (try clear sc0 sc1 sc2 sc3 sc4)
  obtain ⟨sc0, sc1, sc2, sc3, sc4, sc5⟩ := Vs5
  have Vs5 := Lib.hid (DyV.mk sc0 sc1 sc2 sc3 sc4 sc5)
  have Md5 : Mag w5 ad (nl (dman d).natAbs) cd (dman d).natAbs := Mag.below (by repeat (with_reducible first | refine Mag.set ?_ (fun h => by have := Md4 h; omega) _ _ | refine Mag.drew ?_ | refine Mag.alloc ?_ _ | refine Mag.drewN ?_ _ | exact Md4)) hb5
  have B5 := below_box (w := w) (have := Beh.mk B4; zbh) hb5
  clear hb5
  (try clear xx)
  (try clear Vs4)
  (try clear Md4)
  (try clear B4)
  go_wp2_with fail
  go_ret
  exact ⟨rfl, (have := Beh.mk B5; zbh)⟩

end Go.Proofs.YtakbappmkdaioaaGreatDoor

namespace Go.Proofs.YtakbappmkdaioaaGreatDoor
open Go.RowKit Sp

theorem dyEq_self (b s : Bool) (x : Nat) (f : Int) : dyEq b b s s x x f f = true := by unfold dyEq; simp
theorem kdyad_eq (W : World) (d : Option (Int × Int)) (a a' : Option Addr) (c c' : Nat) (h : Mag W a (nl (dman d).natAbs) c (dman d).natAbs) (h' : Mag W a' (nl (dman d).natAbs) c' (dman d).natAbs) :
    Calls Tryz.prog 16 #[.agg #[.bool (dbad d), .bool (decide (dman d < 0)), .slice a (nl (dman d).natAbs) c, .int .i64 (dexp d)], .agg #[.bool (dbad d), .bool (decide (dman d < 0)), .slice a' (nl (dman d).natAbs) c', .int .i64 (dexp d)]] W fun o w' => o = .returned (.bool true) ∧ Below W.heap.size W w' :=
  kdyad_any W _ _ _ _ _ _ _ _ _ _ _ _ _ _ h h' rfl rfl true (dyEq_self _ _ _ _).symm
end Go.Proofs.YtakbappmkdaioaaGreatDoor

namespace Go.Proofs.YtakbappmkdaioaaGreatDoor
open Go.RowKit Sp

/-! ### a list of floats of the call's own -/
theorem infF : (Tryz.prog.info? 34).map (fun i => (i.zero, i.size, i.bytes)) = some (some (.int .u64 0), 1, 8) := by kernel_rfl
theorem undFe : Tryz.prog.underlying 38 = some (.slice 34) := by kernel_rfl
def flist (L : Nat → Nat) : Nat → List Value
  | 0 => []
  | k + 1 => flist L k ++ [.int .u64 (L k : Nat)]
theorem flist_length (L : Nat → Nat) (k : Nat) : (flist L k).length = k := by
  induction k with
  | zero => rfl
  | succ n ih => simp [flist, ih]
theorem flist_get (L : Nat → Nat) {k i : Nat} (h : i < k) : (flist L k)[i]? = some (.int .u64 (L i : Nat)) := by
  induction k with
  | zero => omega
  | succ n ih =>
    show (flist L n ++ [.int .u64 (L n : Nat)])[i]? = _
    by_cases hi : i < n
    · rw [List.getElem?_append_left (by rw [flist_length]; exact hi)]; exact ih hi
    · obtain rfl : i = n := by omega
      rw [List.getElem?_append_right (by rw [flist_length]; omega), flist_length, Nat.sub_self]; rfl
theorem app_float {ops : Array Oper} {rest : List Oper} {o : Oper} {a : Act} {Q : Exit → Act → World → Prop} {w : World} (hgd : o.guard = none) (s x : Operand)
    (ho : o.op = .call { callee := .builtin .append, args := #[s, x], argTypes := #[38, 38] }) (base : Nat) (v : Value) (n : Nat) (xs : List Value) (hs : a.eval s = v) (g : Nat) (d : Int)
    (hx : a.eval x = .slice (some ⟨g, 0, none⟩) 1 1) (hown : w.ownsRow base 34 1 v n xs) (hcell : w.cell? ⟨g, 0, none⟩ = some (.int .u64 d)) (hn : n ≤ 4398046511104)
    (hbase : base ≤ w.heap.size) (h : ∀ v' w', w'.ownsRow base 34 1 v' (n + 1) (xs ++ [.int .u64 d]) → Below base w w' → wpList Tryz.prog ops Q rest (a.put o.dst v') w') : wpList Tryz.prog ops Q (o :: rest) a w := by
  obtain ⟨i0, hi, hz0, hz1, hz2⟩ := info_parts infF
  refine wpList_append_own w hgd s x _ ho base _ i0 (.int .u64 0) 1 8 undFe hi hz0 hz1 hz2 rfl (by decide) v n _ hs hown ⟨g, 0, none⟩ 1 1 [.int .u64 d] hx rfl ?_ ?_ ?_ ?_ hbase ?_
  · intro j u hu
    have : j = 0 := by
      rcases Nat.eq_zero_or_pos j with h | h
      · exact h
      · rw [List.getElem?_eq_none (by simp; omega)] at hu; cases hu
    subst this
    simp at hu; subst hu
    rw [Addr.add_zero']; exact hcell
  · intro u hu; simp at hu; subst hu; rfl
  · unfold maxLen; omega
  · omega
  · intro v' w' h1 h2 _
    exact h v' w' h1 (below_of_owns hown h2 hbase)
theorem own_fls {w : World} {base : Nat} {v : Value} {k : Nat} {L : Nat → Nat} (h : w.ownsRow base 34 1 v k (flist L k)) (hb : ∀ i, i < k → L i < 18446744073709551616) :
    ∃ a cap, v = .slice a k cap ∧ Fls w a k cap L := by
  rcases h.2 with ⟨hv, hk⟩ | ⟨g, cap, cur, hv, hbg, hgg, hkc, hcm, hcs, htake⟩
  · subst hk
    exact ⟨none, 0, hv, ⟨by omega, by omega, by omega, fun i hi => by omega, fun i hi => by omega, by omega⟩⟩
  · have ho := h
    rw [hv] at ho
    have hc : ∀ j, j < k → w.cell? ⟨g, j, none⟩ = (flist L k)[j]? := fun j hj => ho.cellAt j (by omega)
    refine ⟨some ⟨g, 0, none⟩, cap, hv, hkc, by unfold maxLen at hcm; omega, fun _ => rfl, fun i hi => ?_, hb, fun _ => (Array.getElem?_eq_some_iff.1 hgg).1⟩
    rw [ab_some, ao_some, Nat.zero_add, hc _ (by omega)]; exact flist_get L hi

end Go.Proofs.YtakbappmkdaioaaGreatDoor

namespace Go.Proofs.YtakbappmkdaioaaGreatDoor
open Go.RowKit Sp

set_option maxRecDepth 100000 in
set_option maxHeartbeats 20000000 in
theorem twin_any (w : World) (a : Option Addr) (n cap : Nat) (X : Nat → Nat) (hX : Fls w a n cap X) (hn : n ≤ 1000) :
    Calls Tryz.prog 34 #[.slice a n cap] w fun e w' => ∃ oa ocap, e = .returned (.slice oa n ocap) ∧ Fls w' oa n ocap X ∧ Below w.heap.size w w' := by
  have l1 := hX.lim
  have l2 := hX.fits
  have HXX := Lib.hid hX
  clear hX
  go_enter Tryz.func34, Tryz.ntmps34
  go_wp2_with fail
  have hown0 := World.ownsRow_nil w w.heap.size 34 1
  go_loopw [3, 4] (fun v i wr => ∃ (k : Nat), k ≤ n ∧ i = .int .i64 k ∧ wr.ownsRow w.heap.size 34 1 v k (flist X k) ∧ Below w.heap.size w wr) (fun _ i _ => n - (intOf i).toNat)
  case atStart => exact ⟨0, by omega, rfl, hown0, Below.refl _ _⟩
  case round =>
    clear hown0
    obtain ⟨k, hk, rfl, hN, hb⟩ := hrel
    have HNM := Lib.hid hN
    clear hN
    by_cases hlt : k < n
    · have hL' := HXX.out.below hb
      have k0 := hL'.cell k hlt
      have i1 := hL'.idx k hlt
      have hsz := hb.size
      have HFL := Lib.hid (show flist X (k + 1) = flist X k ++ [.int .u64 (X k : Nat)] from rfl)
      generalize (((X k : Nat)) : Int) = y at k0 HFL
      clear hL'
      go_wp2_with (at_builtin; refine app_float rfl _ _ rfl w.heap.size _ k _ rfl _ y rfl (HNM.out.alloc (.cells #[.int .u64 y] 34)) (by go_simp) (by omega) (by rw [World.size_alloc]; omega) ?_; intro v3 w3 hown3 hb3)
      rw [← HFL.out] at hown3
      have hB4 : Below w.heap.size w w3 := Below.trans (hb.alloc hb.size _) hb3
      go_roundw
      case rel => exact ⟨k + 1, by omega, by go_num, hown3, hB4⟩
      case measure => simp [intOf]; omega
    · obtain rfl : k = n := by omega
      obtain ⟨oa, ocap, hv, HL⟩ := own_fls HNM.out (fun i hi => HXX.out.b i hi)
      subst hv
      have HLL := Lib.hid HL
      clear HL
      go_wp2_with fail
      refine bodyPost_ret (v := .slice oa k ocap) (by simp only [results, Tryz.results34]; go_simp) rfl ?_
      exact ⟨oa, ocap, rfl, HLL.out, hb⟩

set_option maxRecDepth 100000 in
set_option maxHeartbeats 20000000 in
theorem kfloats_any (w : World) (a a' : Option Addr) (n cap cap' : Nat) (X : Nat → Nat) (hX : Fls w a n cap X) (hY : Fls w a' n cap' X) :
    Calls Tryz.prog 39 #[.slice a n cap, .slice a' n cap'] w fun e w' => e = .returned (.bool true) ∧ Below w.heap.size w w' := by
  have l1 := hX.lim
  have l2 := hX.fits
  have l3 := hY.lim
  have l4 := hY.fits
  have HX := Lib.hid hX
  have HY := Lib.hid hY
  clear hX hY
  go_enter Tryz.func39, Tryz.ntmps39
  go_wp2
  go_loopw [5] (fun t wr => ∃ k : Nat, k ≤ n ∧ t = .int .i64 k ∧ ∃ q, wr = w.drewN q) (fun t _ => n - (intOf t).toNat)
  case atStart => exact ⟨0, Nat.zero_le _, rfl, 0, rfl⟩
  case round =>
    obtain ⟨k, hk, rfl, q, rfl⟩ := hrel
    by_cases h0 : k < n
    · have c1 := HX.out.cell k h0
      have c2 := HY.out.cell k h0
      have i1 := HX.out.idx k h0
      have i2 := HY.out.idx k h0
      generalize (((X k : Nat)) : Int) = x at c1 c2
      go_wp2
      go_quiet (fail)
      go_wp2
      go_roundw
      case rel => exact ⟨k + 1, by omega, by go_num, _, rfl⟩
      case measure => simp [intOf]; omega
    · obtain rfl : k = n := by omega
      go_wp2
      go_ret
      exact ⟨rfl, below_drewN (Below.refl _ _) _⟩

end Go.Proofs.YtakbappmkdaioaaGreatDoor


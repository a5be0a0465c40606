/-
  Walks: the reference's integers: Sqrt.
-/
import Derived.Test.YtablcbgeeeboeaaGreatDoorZhRza
import Derived.Test.YtablcbgeeeboeaaGreatDoorZhCs
import Derived.Deep.LoopGhost
set_option maxRecDepth 100000
set_option maxHeartbeats 20000000
namespace Go.Proofs.YtablcbgeeeboeaaGreatDoor
open Go.RowKit Sp
attribute [local irreducible] Calls
theorem zOG {P : Program} {f : FuncId} {args : Array Value} {W : World} {q r : Nat} (h : Calls P f args W (zI2 W (q : Int) (r : Int))) :
 Calls P f args W fun e w' => ∃ a c a' c', e = .returned (.tuple #[.agg #[.bool false, .slice a (nl q) c], .agg #[.bool false, .slice a' (nl r) c']]) ∧ BI w' a (nl q) c q ∧ BI w' a' (nl r) c' r ∧ From W w' ∧ (0 < nl q → W.heap.size ≤ ab a) ∧ (0 < nl r → W.heap.size ≤ ab a') := by
 refine h.mono fun _ _ h => ?_
 obtain ⟨a, c, a', c', he, hm, hm', hb, hf, hf'⟩ := h
 rw [Int.natAbs_natCast] at hm hf
 rw [Int.natAbs_natCast] at hm' hf'
 refine ⟨a, c, a', c', ?_, ⟨hm⟩, ⟨hm'⟩, ⟨hb⟩, hf, hf'⟩
 rw [he, Int.natAbs_natCast, Int.natAbs_natCast, decide_eq_false (show ¬ (q : Int) < 0 by omega), decide_eq_false (show ¬ (r : Int) < 0 by omega)]
theorem zIc {A r k : Nat} (h1 : r * r ≤ A) (hk : k = (zA4 A + 1) / 2) : r ≤ 2 ^ k := by
 have h2 := zAH A
 rcases Nat.lt_or_ge (2 ^ k) r with h | h
 · exfalso
   have h3 : 2 ^ k * 2 ^ k < r * r := Nat.mul_lt_mul'' h h
   rw [← Nat.pow_add] at h3
   have h4 : 2 ^ zA4 A ≤ 2 ^ (k + k) := Nat.pow_le_pow_right (by decide) (by omega)
   omega
 · exact h
theorem zNa {w w' : World} {X : Nat} {a : Option Addr} {c : Nat} (hm : Mag w' a (nl X) c X) (hb : Below w.heap.size w w') (hf : 0 < nl X → w.heap.size ≤ ab a) : zAj w (X : Int) (.returned (.agg #[.bool false, .slice a (nl X) c])) w' := by
 refine ⟨a, c, ?_, ?_, hb, ?_⟩
 · rw [Int.natAbs_natCast, decide_eq_false (show ¬ (X : Int) < 0 by omega)]
 · rw [Int.natAbs_natCast]; exact hm
 · rw [Int.natAbs_natCast]; exact hf
theorem zNV {m n : Int} : 0 ≤ zAr m n ↔ n ≤ m := by unfold zAr; split <;> (try split) <;> constructor <;> intro h <;> omega
theorem zJq (w : World) (a : Option Addr) (cap A r : Nat) (hx : Mag w a (nl A) cap A) (hA : zA4 A ≤ 524288) (h1 : r * r ≤ A) (h2 : A < (r + 1) * (r + 1)) :
 Calls Tryz.prog 172 #[.agg #[.bool false, .slice a (nl A) cap]] w (zAj w (r : Int)) := by
 have HM : BI w a (nl A) cap A := ⟨hx⟩
 have hlA : nl A ≤ 549755813887 := Nat.le_trans (zAe _) (by omega)
 have HG := fun W [i : BI W a (nl A) cap A] => Lib.hid (frm (zC9 W false a (nl A) cap A i.out (by omega)))
 obtain ⟨g, hg⟩ : ∃ g, g = sg (sgn false A) := ⟨_, rfl⟩
 rw [← hg] at HG
 by_cases hA0 : A = 0
 · have hr : r = 0 := by
    rcases Nat.eq_zero_or_pos r with h | h
    · exact h
    · have := Nat.mul_le_mul h h; omega
   have hg0 : g = 0 := by rw [hg, hA0]; rfl
   subst hg0
   rw [hr]
   clear hg hr h1 h2 hA0
   go_enter Tryz.func172, Tryz.ntmps172
   go_wp2_with fail
   refine (HG _).out.mono ?_
   rintro e w1 ⟨rfl, b1⟩
   go_wp2_with fail
   refine bodyPost_ret (v := .agg #[.bool false, .slice none 0 0]) (by simp only [results, Tryz.results172]; go_simp) rfl ?_
   exact ⟨none, 0, rfl, Mag.nil _, zbh, nl0⟩
 · have hg0 : (g == 0) = false := by rw [hg, beq_eq_false_iff_ne]; unfold sg zAr sgn; simp; omega
   have hg1 : ¬ g = 0 := by simpa using hg0
   have HL := fun W [i : BI W a (nl A) cap A] => Lib.hid (frm (zBr W false a (nl A) cap A i.out (by omega)))
   obtain ⟨k, hk⟩ : ∃ k : Nat, k = (zA4 A + 1) / 2 := ⟨_, rfl⟩
   have hst := zIc h1 hk
   obtain ⟨l, hl⟩ : ∃ l, l = zA4 A := ⟨_, rfl⟩
   rw [← hl] at HL hA hk
   have hkI : ((l : Int) + 1) / 2 = (k : Int) := by omega
   have hkT : Int.tdiv ((l : Int) + 1) 2 = (k : Int) := by rw [Int.tdiv_eq_ediv_of_nonneg (by omega)]; exact hkI
   have hw1 : IntKind.i64.wrap ((l : Int) + 1) = l + 1 := by rw [IntKind.wrap_i64]; omega
   have hw2 : IntKind.i64.wrap (k : Int) = k := by rw [IntKind.wrap_i64]; omega
   have hw3 : IntKind.i64.wrap ((IntKind.i64.wrap ((l : Int) + 1)).tdiv 2) = k := by rw [hw1, hkT, hw2]
   obtain ⟨o, ho⟩ : ∃ o : Nat, o = 1 := ⟨_, rfl⟩
   have HO : ∀ W, Hid (Calls Tryz.prog 99 #[.int .i64 1] W fun e w' => ∃ a c, e = .returned (.agg #[.bool false, .slice a (nl o) c]) ∧ BI w' a (nl o) c o ∧ From W w' ∧ (0 < nl o → W.heap.size ≤ ab a)) := fun W => by
    rw [ho]; exact Lib.hid (zLf (zCy W 1 (by omega) (by omega)))
   obtain ⟨X0, hX0⟩ : ∃ X0 : Nat, X0 = 2 ^ k := ⟨_, rfl⟩
   have HS : ∀ W b c [BI W b (nl o) c o], Hid (Calls Tryz.prog 63 #[.agg #[.bool false, .slice b (nl o) c], .int .i64 k] W fun e w' => ∃ a c, e = .returned (.agg #[.bool false, .slice a (nl X0) c]) ∧ BI w' a (nl X0) c X0 ∧ From W w' ∧ (0 < nl X0 → W.heap.size ≤ ab a)) := fun W b c i => by
    have := zBT W false b (nl o) c o k i.out (by rw [ho]; decide) (by omega)
    rw [show sgn false o * 2 ^ k = (X0 : Int) by rw [ho, hX0]; simp [sgn]] at this
    exact Lib.hid (zLf this)
   have hXl : nl (X0 + A) ≤ 549755813887 := by
    have e1 : zA4 (2 ^ k) = k + 1 := by have := zAi (x := 1) (by omega) k; rw [Nat.one_mul] at this; rw [this, show zA4 1 = 1 from rfl]; omega
    have e2 := zD5 X0 A
    rw [hX0] at e2 ⊢
    exact Nat.le_trans (zAe _) (by omega)
   rw [← hX0] at hst
   have hXp : 0 < X0 := by rw [hX0]; exact Nat.pow_pos (by decide)
   have hx1 : nl X0 ≤ nl (X0 + A) := zAR (by omega)
   have HD : ∀ (X : Nat), 0 < X → X ≤ X0 → ∀ W b c [BI W a (nl A) cap A] [BI W b (nl X) c X], Hid (Calls Tryz.prog 173 #[.agg #[.bool false, .slice a (nl A) cap], .agg #[.bool false, .slice b (nl X) c]] W _) := fun X hX hX1 W b c i j =>
    Lib.hid (zOG (zE5 W a b cap c A X i.out j.out (by omega) (Nat.le_trans (zAR (show X ≤ X0 + A by omega)) hXl) hX))
   have HA : ∀ (X q : Nat), X ≤ X0 → q ≤ A → ∀ W b c b' c' [BI W b (nl X) c X] [BI W b' (nl q) c' q], Hid (Calls Tryz.prog 62 #[.agg #[.bool false, .slice b (nl X) c], .agg #[.bool false, .slice b' (nl q) c']] W fun e w' => ∃ a c, e = .returned (.agg #[.bool false, .slice a (nl (X + q)) c]) ∧ BI w' a (nl (X + q)) c (X + q) ∧ From W w' ∧ (0 < nl (X + q) → W.heap.size ≤ ab a)) := fun X q h h' W b c b' c' i j => by
    have := zDR W false false b b' _ _ c c' X q i.out j.out (Nat.le_trans (zAR (show X ≤ X0 + A by omega)) (by omega)) (Nat.le_trans (zAR (show q ≤ X0 + A by omega)) (by omega))
    rw [show sgn false X + sgn false q = ((X + q : Nat) : Int) by simp [sgn]] at this
    exact Lib.hid (zLf this)
   have HH : ∀ (s : Nat), s ≤ X0 + A → ∀ W b c [BI W b (nl s) c s], Hid (Calls Tryz.prog 63 #[.agg #[.bool false, .slice b (nl s) c], .int .i64 (-1)] W fun e w' => ∃ a c, e = .returned (.agg #[.bool false, .slice a (nl (s / 2)) c]) ∧ BI w' a (nl (s / 2)) c (s / 2) ∧ From W w' ∧ (0 < nl (s / 2) → W.heap.size ≤ ab a)) := fun s h W b c i => by
    have := zFX W b (nl s) c s 1 (-1) i.out (Nat.le_trans (zAR h) (by omega)) (by omega) (by omega) (by omega)
    rw [Nat.pow_one] at this
    exact Lib.hid (zLf this)
   have HC : ∀ (y X : Nat), y ≤ X0 + A → X ≤ X0 → ∀ W b c b' c' [BI W b (nl y) c y] [BI W b' (nl X) c' X], Hid (Calls Tryz.prog 164 #[.agg #[.bool false, .slice b (nl y) c], .agg #[.bool false, .slice b' (nl X) c']] W fun e w' => e = .returned (.int .i64 (zAr (y : Int) (X : Int))) ∧ From W w') := fun y X h h' W b c b' c' i j => by
    have := zHy W false false b b' _ _ c c' y X i.out j.out (Nat.le_trans (zAR h) (by omega)) (Nat.le_trans (zAR (show X ≤ X0 + A by omega)) (by omega))
    exact Lib.hid (frm this)
   have hr0 : 0 < r := by
    rcases Nat.eq_zero_or_pos r with h | h
    · rw [h] at h2; omega
    · exact h
   have H1 := Lib.hid h1
   have H2 := Lib.hid h2
   clear hg hk hl ho hX0 h1 h2 hkI hx1
   go_enter Tryz.func172, Tryz.ntmps172
   go_wp2_with fail
   refine (HG _).out.mono ?_
   rintro e w1 ⟨rfl, b1⟩
   go_upto_region 3 with fail
   go_cut [3] (fun pt wx => ∃ zx ax cx, pt = .pointer (some ⟨zx, 0, none⟩) ∧ BB wx zx false (.slice ax (nl X0) cx) ∧ BI wx ax (nl X0) cx X0 ∧ From w1 wx ∧ w1.heap.size ≤ zx ∧ (0 < nl X0 → w1.heap.size ≤ ab ax ∧ ab ax ≠ zx))
   case first =>
    obtain ⟨p1, q1⟩ := zID w1 w.heap.size
    first
    | go_region_held3 (fun w' => w'.cell? ⟨w.heap.size, 0, none⟩ = some (.bool false) ∧ w'.cell? ⟨w.heap.size, 1, none⟩ = some (.slice a (nl A) cap)) (first | (go_simp; done))
     (first
      | (go_at_call 99; refine (HO _).out.mono ?_; rintro e w2 ⟨a2, c2, rfl, i2, b2, f2⟩; obtain ⟨p2, q2⟩ := zID w2 w.heap.size)
      | (go_at_call 104; refine (HL _).out.mono ?_; rintro e w3 ⟨rfl, b3⟩; obtain ⟨p3, q3⟩ := zID w3 w.heap.size)
      | (go_at_call 63; refine (HS _ _ _).out.mono ?_; rintro e w4 ⟨a4, c4, rfl, i4, b4, f4⟩; obtain ⟨p4, q4⟩ := zID w4 w.heap.size)
      | fail)
    | fail "region"
    all_goals (
     go_wp2_with fail
     go_meet
     exact ⟨_, a4, c4, rfl, (by first | exact inferInstance | exact BB.pt2 inferInstance _ _), ⟨by repeat (first | exact i4.out.on | exact i4.out | refine Mag.set ?_ (zEe f4) _ _)⟩, ⟨zbh⟩, Abv.out, fun h => ⟨zBN b4 f4 h, by first | exact zEe f4 h | exact Nat.ne_of_lt (i4.out.old h)⟩⟩)
   case rest =>
   obtain ⟨zx, ax, cx, rfl, V0, i0, b2, hzx, hax⟩ := hcut
   generalize wc = v1 at *
   clear HO HS HL hw1 hw2 hw3 hkT
   haveI hAb : Abv w1 zx := ⟨hzx⟩
   have hz0 : w.heap.size + 2 ≤ w1.heap.size := by have := b1.out.size; simpa using this
   go_wp2_with fail
   go_loopg [] X0 (fun n wr => ∃ X a3 c3, BB wr zx false (.slice a3 (nl X) c3) ∧ BI wr a3 (nl X) c3 X ∧ r ≤ X ∧ 0 < X ∧ X ≤ X0 ∧ n = X ∧ From w1 wr ∧ (0 < nl X → w1.heap.size ≤ ab a3 ∧ ab a3 ≠ zx))
   case atStart => exact ⟨X0, ax, cx, V0, i0, hst, hXp, Nat.le_refl _, rfl, b2, hax⟩
   case round =>
    obtain ⟨X, a3, c3, V3, i3, hrX, hX, hXX, hgk, b3, hf3⟩ := hrel
    clear V0 i0 b2 hax
    obtain ⟨Y, hY⟩ : ∃ Y, Y = A / X := ⟨_, rfl⟩
    have hYA : Y ≤ A := by rw [hY]; exact Nat.div_le_self _ _
    obtain ⟨S, hS⟩ : ∃ S, S = X + Y := ⟨_, rfl⟩
    obtain ⟨y, hy⟩ : ∃ y, y = S / 2 := ⟨_, rfl⟩
    have hge : r ≤ y := by rw [hy, hS, hY]; exact zGh H1.out hX
    have hend : X ≤ y → X = r := fun h => zEd H2.out hrX hX (by rw [← hY, ← hS, ← hy]; exact h)
    have D1 := HD X hX hXX
    have A1 := HA X Y hXX hYA
    have S1 := HH S (by omega)
    have C1 := HC y X (by omega) hXX
    rw [← hY] at D1
    rw [← hS] at A1
    rw [← hy] at S1
    obtain ⟨u, hu⟩ : ∃ u, u = zAr (y : Int) (X : Int) := ⟨_, rfl⟩
    have hu1 : 0 ≤ u ↔ X ≤ y := by rw [hu, zNV]; omega
    rw [← hu] at C1
    clear HD HA HH HC hY hS hy hu
    have l3 := V3.out.lt
    have V3h := V3
    go_wp2_with fail
    refine (D1 _ _ _).out.mono ?_
    rintro e w3 ⟨a5, c5, a6, c6, rfl, i5, i6, b5, f5, f6⟩
    go_wp2_with fail
    refine (A1 _ _ _ _ _).out.mono ?_
    rintro e w4 ⟨a7, c7, rfl, i7, b7, f7⟩
    go_wp2_with fail
    refine (S1 _ _ _).out.mono ?_
    rintro e w5 ⟨a8, c8, rfl, i8, b8, f8⟩
    go_wp2_with fail
    refine (C1 _ _ _ _ _).out.mono ?_
    rintro e w6 ⟨rfl, b9⟩
    by_cases hc : 0 ≤ u
    · obtain rfl := hend (hu1.1 hc)
      go_wp2_with fail
      refine bodyPost_ret (v := .agg #[.bool false, .slice a3 (nl X) c3]) (by simp only [results, Tryz.results172]; go_simp) rfl ?_
      exact zNa (by repeat (first | exact i3.out.on | refine Mag.set ?_ (fun h => by have := (hf3 h).1; omega) _ _)) zbh (fun h => by have := (hf3 h).1; omega)
    · have hlt : y < X := by have := mt hu1.2 hc; omega
      go_wp2_with fail
      go_roundg y
      case measure => rw [hgk]; exact hlt
      case rel => exact ⟨y, a8, c8, BB.pt2 (inferInstance : BB w6 zx _ _) _ _, ⟨by repeat (first | exact i8.out.on | refine Mag.set ?_ (zEe f8) _ _)⟩, hge, by omega, by omega, rfl, ⟨zbh⟩, fun h => ⟨zBN b8 f8 h, zEe f8 h⟩⟩
end Go.Proofs.YtablcbgeeeboeaaGreatDoor
set_option maxRecDepth 100000
set_option maxHeartbeats 20000000
namespace Go.Proofs.YtablcbgeeeboeaaGreatDoor
open Go.RowKit Sp
attribute [local irreducible] Calls
def rtk (A : Nat) (E n : Int) : Nat := (max (2 * n + 6 - zA4 A) 0).toNat + (if (E - max (2 * n + 6 - zA4 A) 0) % 2 = 0 then 0 else 1)
theorem zHq (A : Nat) (E n : Int) : (E - (rtk A E n : Nat)) % 2 = 0 := by
 unfold rtk; split <;> omega
theorem zJt (w : World) (a : Option Addr) (cap A r : Nat) (E n : Int) (hx : Mag w a (nl A) cap A) (hA : zA4 A ≤ 131072) (hE0 : -300000 ≤ E) (hE1 : E ≤ 300000) (hn0 : 0 ≤ n) (hn1 : n ≤ 4096) (K M : Nat) (hK : K = rtk A E n) (hM : M = A * 2 ^ K) (h1 : r * r ≤ M) (h2 : M < (r + 1) * (r + 1)) :
 Calls Tryz.prog 141 #[.agg #[.bool false, .slice a (nl A) cap], .int .i64 E, .int .i64 n] w fun e w' => ∃ a c, e = .returned (.tuple #[.agg #[.bool false, .slice a (nl r) c], .int .i64 ((E - K) / 2), .bool (decide (r * r ≠ M))]) ∧ BI w' a (nl r) c r ∧ From w w' ∧ (0 < nl r → w.heap.size ≤ ab a) := by
 have HM : BI w a (nl A) cap A := ⟨hx⟩
 have lA : nl A ≤ 549755813887 := Nat.le_trans (zAe _) (by omega)
 have HL := fun W [i : BI W a (nl A) cap A] => Lib.hid (frm (zBr W false a (nl A) cap A i.out (by omega)))
 have he := zHq A E n
 rw [← hK] at he
 obtain ⟨l, hl⟩ : ∃ l, l = zA4 A := ⟨_, rfl⟩
 rw [← hl] at HL
 obtain ⟨k0, hk0⟩ : ∃ k : Int, k = max (2 * n + 6 - (l : Int)) 0 := ⟨_, rfl⟩
 have hKk : (K : Int) = k0 + (if (E - k0) % 2 = 0 then 0 else 1) := by rw [hK, hk0, hl]; unfold rtk; split <;> omega
 have hK1 : K ≤ 8300 := by have : k0 ≤ 8200 := by omega
                           split at hKk <;> omega
 have hMl : zA4 M ≤ 262144 := by
  rw [hM]; by_cases h0 : A = 0
  · rw [h0, Nat.zero_mul]; decide
  · rw [zAi (by omega) K]; omega
 have lM : nl M ≤ 549755813887 := Nat.le_trans (zAe _) (by omega)
 have hrM : r ≤ M := by
  rcases Nat.eq_zero_or_pos r with h | h
  · omega
  · exact Nat.le_trans (Nat.le_mul_of_pos_left r h) h1
 have lr : nl r ≤ 549755813887 := Nat.le_trans (zAR hrM) lM
 have HS := fun W [i : BI W a (nl A) cap A] => Lib.hid (show Calls Tryz.prog 63 #[.agg #[.bool false, .slice a (nl A) cap], .int .i64 (K : Int)] W fun e w' => ∃ a c, e = .returned (.agg #[.bool false, .slice a (nl M) c]) ∧ BI w' a (nl M) c M ∧ From W w' ∧ (0 < nl M → W.heap.size ≤ ab a) from by
  have := zBT W false a (nl A) cap A K i.out (by omega) (by omega)
  rw [show sgn false A * 2 ^ K = (M : Int) by rw [hM]; simp [sgn]] at this
  exact zLf this)
 have HQ := fun W b c [i : BI W b (nl M) c M] => Lib.hid (zLf (zJq W b c M r i.out (by omega) h1 h2))
 have HP := fun W b c [i : BI W b (nl r) c r] => Lib.hid (show Calls Tryz.prog 59 #[.agg #[.bool false, .slice b (nl r) c], .agg #[.bool false, .slice b (nl r) c]] W fun e w' => ∃ a c, e = .returned (.agg #[.bool false, .slice a (nl (r * r)) c]) ∧ BI w' a (nl (r * r)) c (r * r) ∧ From W w' ∧ (0 < nl (r * r) → W.heap.size ≤ ab a) from by
  have := zHv W false false b b (nl r) (nl r) c c r r i.out i.out (by omega) (by omega)
  rw [show sgn false r * sgn false r = ((r * r : Nat) : Int) by simp [sgn]] at this
  exact zLf this)
 have lP : nl (r * r) ≤ 549755813887 := Nat.le_trans (zAR h1) lM
 have HC := fun W b c b' c' [i : BI W b (nl (r * r)) c (r * r)] [j : BI W b' (nl M) c' M] => Lib.hid (frm (zHy W false false b b' _ _ c c' (r * r) M i.out j.out (by omega) (by omega)))
 obtain ⟨u, hu⟩ : ∃ u, u = zAr (sgn false (r * r)) (sgn false M) := ⟨_, rfl⟩
 rw [← hu] at HC
 have hu1 : (u != 0) = decide (r * r ≠ M) := by
  rw [hu, Bool.eq_iff_iff, bne_iff_ne, decide_eq_true_eq]; unfold zAr sgn; simp; split <;> (try split) <;> omega
 rw [← hu1]
 have t1 : IntKind.i64.wrap (2 * n) = 2 * n := by rw [IntKind.wrap_i64]; omega
 have t2 : IntKind.i64.wrap (2 * n + 6) = 2 * n + 6 := by rw [IntKind.wrap_i64]; omega
 have t3 : max (IntKind.i64.wrap (2 * n + 6 - (l : Int))) 0 = k0 := by rw [hk0, IntKind.wrap_i64]; omega
 have t3' : max (wrap64 (2 * n + 6 - (l : Int))) 0 = k0 := by rw [hk0]; unfold wrap64; omega
 have t4 : max (2 * n + 6 - (l : Int)) 0 = k0 := hk0.symm
 have t5 : IntKind.i64.wrap (E - k0) = E - k0 := by rw [IntKind.wrap_i64]; omega
 have t6 : IntKind.i64.wrap (E - (K : Int)) = E - K := by rw [IntKind.wrap_i64]; omega
 have t5' : wrap64 (E - k0) = E - k0 := by unfold wrap64; omega
 have t6' : wrap64 (E - (K : Int)) = E - K := by unfold wrap64; omega
 have t7 : (E - (K : Int)).tdiv 2 = (E - K) / 2 := by
  obtain ⟨j, hj⟩ : ∃ j, E - (K : Int) = 2 * j := ⟨(E - K) / 2, by omega⟩
  rw [hj, Int.mul_comm, Int.mul_tdiv_cancel _ (by decide), Int.mul_ediv_cancel _ (by decide)]
 have t8 : IntKind.i64.wrap ((E - (K : Int)) / 2) = (E - K) / 2 := by rw [IntKind.wrap_i64]; omega
 have hpar : (k0 = K ∧ (E - k0).tmod 2 = 0) ∨ (k0 + 1 = K ∧ (E - k0).tmod 2 ≠ 0) := by
  have htm := Int.tmod_eq_emod (a := E - k0) (b := 2)
  by_cases h : (E - k0) % 2 = 0
  · left; refine ⟨by rw [if_pos h] at hKk; omega, ?_⟩
    exact Int.tmod_eq_zero_of_dvd (Int.dvd_of_emod_eq_zero h)
  · right; refine ⟨by rw [if_neg h] at hKk; omega, fun q => h ?_⟩
    exact Int.emod_eq_zero_of_dvd (Int.dvd_of_tmod_eq_zero q)
 generalize hv : (E - (K : Int)) / 2 = v at *
 have HPAR := Lib.hid hpar
 clear hK he hl hk0 hKk hK1 hMl hM hrM h1 h2 lM lr lP hu hu1 hpar hv
 go_enter Tryz.func141, Tryz.ntmps141
 go_wp2_with fail
 refine (HL _).out.mono ?_
 rintro e w1 ⟨rfl, b1⟩
 go_upto_if 22 with fail
 go_cut [9] (fun t wx => t = .int .i64 (K : Int) ∧ From w1 wx)
 case first =>
  clear t6 t6' t7 t8
  rcases HPAR.out with ⟨e1, e2⟩ | ⟨e1, e2⟩
  · have e3 : ((E - k0).tmod 2 != 0) = false := by rw [e2]; rfl
    go_wp2_with fail
    go_meet
    exact ⟨by first | rfl | rw [e1], ⟨zbh⟩⟩
  · have e3 : ((E - k0).tmod 2 != 0) = true := by simpa using e2
    have e4 : IntKind.i64.wrap (k0 + 1) = K := by rw [IntKind.wrap_i64]; omega
    have e5 : wrap64 (k0 + 1) = K := by unfold wrap64; omega
    go_wp2_with fail
    go_meet
    exact ⟨by first | rfl | rw [e1], ⟨zbh⟩⟩
 case rest =>
  obtain ⟨rfl, b2⟩ := hcut
  generalize wc = v1 at *
  clear HPAR t1 t2 t3 t4 t5 t3' t5' HL
  go_wp2_with fail
  refine (HS _).out.mono ?_
  rintro e w3 ⟨a3, c3, rfl, i3, b3, f3⟩
  obtain ⟨n1, n2⟩ := zID w3 (w.heap.size + 1)
  go_wp2_with fail
  refine (HQ _ _ _).out.mono ?_
  rintro e w4 ⟨a4, c4, rfl, i4, b4, f4⟩
  haveI k3 : NA a3 (nl M) (w.heap.size + 1) := ⟨zEe f3⟩
  haveI k4 : NA a4 (nl r) (w.heap.size + 1) := ⟨zEe f4⟩
  go_wp2_with fail
  first
  | go_region_held3 (fun w' => w'.cell? ⟨w.heap.size + 1, 0, none⟩ = some (.bool false) ∧ w'.cell? ⟨w.heap.size + 1, 1, none⟩ = some (.slice a4 (nl r) c4) ∧ w'.cell? ⟨w3.heap.size, 0, none⟩ = some (.bool false) ∧ w'.cell? ⟨w3.heap.size, 1, none⟩ = some (.slice a3 (nl M) c3)) (first | (go_simp; done))
   (first
    | (go_at_call 59; refine (HP _ _ _).out.mono ?_; rintro e w5 ⟨a5, c5, rfl, i5, b5, f5⟩)
    | (go_at_call 164; refine (HC _ _ _ _ _).out.mono ?_; rintro e w6 ⟨rfl, b6⟩)
    | fail)
  | fail "region"
  all_goals (
   go_wp2_with fail
   refine bodyPost_ret (v := .tuple #[.agg #[.bool false, .slice a4 (nl r) c4], .int .i64 v, .bool (u != 0)]) (by simp only [results, Tryz.results141]; go_simp) rfl ?_
   exact ⟨a4, c4, rfl, inferInstance, ⟨zbh⟩, zBN b4 f4⟩)
end Go.Proofs.YtablcbgeeeboeaaGreatDoor
set_option maxRecDepth 100000
set_option maxHeartbeats 20000000
namespace Go.Proofs.YtablcbgeeeboeaaGreatDoor
open Go.RowKit Sp
attribute [local irreducible] Calls
def qtk (X Y : Nat) (p : Int) : Nat := (max (p + 2 + zA4 Y - zA4 X) 0).toNat
theorem zIm (w : World) (a a' : Option Addr) (cap cap' X Y : Nat) (p : Int) (hx : Mag w a (nl X) cap X) (hy : Mag w a' (nl Y) cap' Y) (hX : zA4 X ≤ 131072) (hY : zA4 Y ≤ 131072) (hy0 : 0 < Y) (hp0 : 0 ≤ p) (hp1 : p ≤ 4096) (K Q R : Nat) (hK : K = qtk X Y p) (hQ : Q = X * 2 ^ K / Y) (hR : R = X * 2 ^ K % Y) :
 Calls Tryz.prog 142 #[.agg #[.bool false, .slice a (nl X) cap], .agg #[.bool false, .slice a' (nl Y) cap'], .int .i64 p] w fun e w' => ∃ a c, e = .returned (.tuple #[.agg #[.bool false, .slice a (nl Q) c], .int .i64 (-(K : Int)), .bool (decide (R ≠ 0))]) ∧ BI w' a (nl Q) c Q ∧ From w w' ∧ (0 < nl Q → w.heap.size ≤ ab a) := by
 haveI I1 : BI w a (nl X) cap X := ⟨hx⟩
 haveI I2 : BI w a' (nl Y) cap' Y := ⟨hy⟩
 have lX : nl X ≤ 549755813887 := Nat.le_trans (zAe _) (by omega)
 have lY : nl Y ≤ 549755813887 := Nat.le_trans (zAe _) (by omega)
 have HL := fun W [i : BI W a (nl X) cap X] => Lib.hid (frm (zBr W false a (nl X) cap X i.out (by omega)))
 have HM := fun W [i : BI W a' (nl Y) cap' Y] => Lib.hid (frm (zBr W false a' (nl Y) cap' Y i.out (by omega)))
 have hKi : (K : Int) = max (p + 2 + zA4 Y - zA4 X) 0 := by rw [hK]; unfold qtk; omega
 have hKl : K ≤ 140000 := by omega
 obtain ⟨M, hM⟩ : ∃ M, M = X * 2 ^ K := ⟨_, rfl⟩
 rw [← hM] at hQ hR
 have lM : nl M ≤ 549755813887 := by
  have : zA4 M ≤ 300000 := by
   rw [hM]; rcases Nat.eq_zero_or_pos X with h | h
   · rw [h, Nat.zero_mul]; decide
   · rw [zAi h K]; omega
  exact Nat.le_trans (zAe _) (by omega)
 have lR : nl R ≤ 549755813887 := Nat.le_trans (zAR (by rw [hR]; exact Nat.mod_le _ _)) lM
 have HS := fun W [i : BI W a (nl X) cap X] => Lib.hid (show Calls Tryz.prog 63 #[.agg #[.bool false, .slice a (nl X) cap], .int .i64 (K : Int)] W fun e w' => ∃ a c, e = .returned (.agg #[.bool false, .slice a (nl M) c]) ∧ BI w' a (nl M) c M ∧ From W w' ∧ (0 < nl M → W.heap.size ≤ ab a) from by
  have := zBT W false a (nl X) cap X K i.out (by omega) (by omega)
  rw [show sgn false X * 2 ^ K = (M : Int) by rw [hM]; simp [sgn]] at this
  exact zLf this)
 have HD := fun W b c [i : BI W b (nl M) c M] [j : BI W a' (nl Y) cap' Y] => Lib.hid (zOG (zE5 W b a' c cap' M Y i.out j.out lM lY hy0))
 rw [← hQ, ← hR] at HD
 have HG := fun W b c [i : BI W b (nl R) c R] => Lib.hid (frm (zC9 W false b (nl R) c R i.out (by omega)))
 obtain ⟨g, hg⟩ : ∃ g, g = sg (sgn false R) := ⟨_, rfl⟩
 rw [← hg] at HG
 have hgm : (g != 0) = decide (R ≠ 0) := by rw [hg, zJm, zAb]
 rw [← hgm]
 obtain ⟨lx, hlx⟩ : ∃ l : Int, l = (zA4 X : Int) := ⟨_, rfl⟩
 obtain ⟨ly, hly⟩ : ∃ l : Int, l = (zA4 Y : Int) := ⟨_, rfl⟩
 rw [← hlx] at HL hKi
 rw [← hly] at HM hKi
 have t1 : IntKind.i64.wrap (p + 2) = p + 2 := by rw [IntKind.wrap_i64]; omega
 have t2 : IntKind.i64.wrap (p + 2 + ly) = p + 2 + ly := by rw [IntKind.wrap_i64]; omega
 have t3 : IntKind.i64.wrap (p + 2 + ly - lx) = p + 2 + ly - lx := by rw [IntKind.wrap_i64]; omega
 have t4 : max (p + 2 + ly - lx) 0 = (K : Int) := hKi.symm
 have t5 : IntKind.i64.wrap (-(K : Int)) = -(K : Int) := by rw [IntKind.wrap_i64]; omega
 have t6 : wrap64 (-(K : Int)) = -(K : Int) := by unfold wrap64; omega
 clear hK hKi hKl hM hQ hR lX lY lM lR hg hgm hlx hly
 generalize (K : Int) = k at *
 go_enter Tryz.func142, Tryz.ntmps142
 go_wp2_with fail
 first
 | go_region_held3 (fun w' => w'.cell? ⟨w.heap.size, 0, none⟩ = some (.bool false) ∧ w'.cell? ⟨w.heap.size, 1, none⟩ = some (.slice a (nl X) cap) ∧ w'.cell? ⟨w.heap.size + 1, 0, none⟩ = some (.bool false) ∧ w'.cell? ⟨w.heap.size + 1, 1, none⟩ = some (.slice a' (nl Y) cap')) (first | (go_simp; done))
  (first
   | (go_at_call 104; refine (HM _).out.mono ?_; rintro e w1 ⟨rfl, b1⟩)
   | (go_at_call 104; refine (HL _).out.mono ?_; rintro e w2 ⟨rfl, b2⟩)
   | fail)
 | fail "region"
 all_goals (
  go_upto_region 2 with fail
  go_cut [10] (fun pz wx => ∃ z aq cq ar cr, pz = .pointer (some ⟨z, 0, none⟩) ∧ BB wx (w.heap.size + 1 + 1) false (.slice aq (nl Q) cq) ∧ BB wx z false (.slice ar (nl R) cr) ∧ BI wx aq (nl Q) cq Q ∧ BI wx ar (nl R) cr R ∧ Beh w wx ∧ NA aq (nl Q) (w.heap.size + 1 + 1) ∧ NB z (w.heap.size + 1 + 1) ∧ (0 < nl Q → w.heap.size ≤ ab aq))
  case first =>
   first
   | go_region_held3 (fun w' => w'.cell? ⟨w.heap.size, 0, none⟩ = some (.bool false) ∧ w'.cell? ⟨w.heap.size, 1, none⟩ = some (.slice a (nl X) cap) ∧ w'.cell? ⟨w.heap.size + 1, 0, none⟩ = some (.bool false) ∧ w'.cell? ⟨w.heap.size + 1, 1, none⟩ = some (.slice a' (nl Y) cap')) (first | (go_simp; done))
    (first
     | (go_at_call 63; refine (HS _).out.mono ?_; rintro e w3 ⟨a3, c3, rfl, i3, b3, f3⟩)
     | (go_at_call 173; refine (HD _ _ _).out.mono ?_; rintro e w4 ⟨a4, c4, a5, c5, rfl, i4, i5, b4, f4, f5⟩; haveI g4 := FA.mk f4; haveI g5 := FA.mk f5)
     | fail)
   | fail "region"
   all_goals (
    go_wp2_with fail
    go_meet
    exact ⟨_, a4, c4, a5, c5, rfl, inferInstance, inferInstance, inferInstance, inferInstance, inferInstance, inferInstance, inferInstance, zBN b4 f4⟩)
  case rest =>
   obtain ⟨z, aq, cq, ar, cr, rfl, V1, V2, i6, i7, b5, k6, k7, f6⟩ := hcut
   generalize wc = v1 at *
   clear HS HD HL HM
   go_wp2_with fail
   first
   | go_region_held3 (fun w' => w'.cell? ⟨w.heap.size + 1 + 1, 0, none⟩ = some (.bool false) ∧ w'.cell? ⟨w.heap.size + 1 + 1, 1, none⟩ = some (.slice aq (nl Q) cq) ∧ w'.cell? ⟨z, 0, none⟩ = some (.bool false) ∧ w'.cell? ⟨z, 1, none⟩ = some (.slice ar (nl R) cr)) (first | (go_simp; done))
    (first
     | (go_at_call 61; refine (HG _ _ _).out.mono ?_; rintro e w5 ⟨rfl, b6⟩)
     | fail)
   | fail "region"
   all_goals (
    go_wp2_with fail
    refine bodyPost_ret (v := .tuple #[.agg #[.bool false, .slice aq (nl Q) cq], .int .i64 (-k), .bool (g != 0)]) (by simp only [results, Tryz.results142]; go_simp) rfl ?_
    exact ⟨aq, cq, rfl, inferInstance, ⟨zbh⟩, f6⟩))
end Go.Proofs.YtablcbgeeeboeaaGreatDoor

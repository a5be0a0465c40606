/-
  Walks: the reference's dyads: Ratio.
-/
import Derived.Test.YtakbappmkdaioaaGreatDoorZiRzd
namespace Go.Proofs.YtakbappmkdaioaaGreatDoor
open Go.RowKit Sp

attribute [local irreducible] Calls
/-- the bits by which a number is shifted ahead of a division -/
def qtk (X Y : Nat) (p : Int) : Nat := (max (p + 2 + blen Y - blen X) 0).toNat
set_option maxRecDepth 100000 in
set_option maxHeartbeats 20000000 in
theorem rratio_any (w : World) (a a' : Option Addr) (cap cap' X Y : Nat) (p : Int) (hx : Mag w a (nl X) cap X) (hy : Mag w a' (nl Y) cap' Y) (hX : blen X ≤ 131072) (hY : blen Y ≤ 131072) (hy0 : 0 < Y) (hp0 : 0 ≤ p) (hp1 : p ≤ 4096) (K Q R : Nat) (hK : K = qtk X Y p) (hQ : Q = X * 2 ^ K / Y) (hR : R = X * 2 ^ K % Y) :
    Calls Tryz.prog 143 #[.agg #[.bool false, .slice a (nl X) cap], .agg #[.bool false, .slice a' (nl Y) cap'], .int .i64 p] w fun e w' => ∃ a c, e = .returned (.tuple #[.agg #[.bool false, .slice a (nl Q) c], .int .i64 (-(K : Int)), .bool (decide (R ≠ 0))]) ∧ BI w' a (nl Q) c Q ∧ From w w' ∧ (0 < nl Q → w.heap.size ≤ ab a) := by
  haveI I1 : BI w a (nl X) cap X := ⟨hx⟩
  haveI I2 : BI w a' (nl Y) cap' Y := ⟨hy⟩
  have lX : nl X ≤ 549755813887 := Nat.le_trans (nl_le_blen _) (by omega)
  have lY : nl Y ≤ 549755813887 := Nat.le_trans (nl_le_blen _) (by omega)
  have HL := fun W [i : BI W a (nl X) cap X] => Lib.hid (frm (rbitlen_any W false a (nl X) cap X i.out (by omega)))
  have HM := fun W [i : BI W a' (nl Y) cap' Y] => Lib.hid (frm (rbitlen_any W false a' (nl Y) cap' Y i.out (by omega)))
  have hKi : (K : Int) = max (p + 2 + blen Y - blen X) 0 := by rw [hK]; unfold qtk; omega
  have hKl : K ≤ 140000 := by omega
  obtain ⟨M, hM⟩ : ∃ M, M = X * 2 ^ K := ⟨_, rfl⟩
  rw [← hM] at hQ hR
  have lM : nl M ≤ 549755813887 := by
    have : blen M ≤ 300000 := by
      rw [hM]; rcases Nat.eq_zero_or_pos X with h | h
      · rw [h, Nat.zero_mul]; decide
      · rw [blen_mul_pow h K]; omega
    exact Nat.le_trans (nl_le_blen _) (by omega)
  have lR : nl R ≤ 549755813887 := Nat.le_trans (nl_mono (by rw [hR]; exact Nat.mod_le _ _)) lM
  have HS := fun W [i : BI W a (nl X) cap X] => Lib.hid (show Calls Tryz.prog 226 #[.agg #[.bool false, .slice a (nl X) cap], .int .i64 (K : Int)] W fun e w' => ∃ a c, e = .returned (.agg #[.bool false, .slice a (nl M) c]) ∧ BI w' a (nl M) c M ∧ From W w' ∧ (0 < nl M → W.heap.size ≤ ab a) from by
    have := rshift_up W false a (nl X) cap X K i.out (by omega) (by omega)
    rw [show sgn false X * 2 ^ K = (M : Int) by rw [hM]; simp [sgn]] at this
    exact frbn this)
  have HD := fun W b c [i : BI W b (nl M) c M] [j : BI W a' (nl Y) cap' Y] => Lib.hid (frb2n (rdivmod_any W b a' c cap' M Y i.out j.out lM lY hy0))
  rw [← hQ, ← hR] at HD
  have HG := fun W b c [i : BI W b (nl R) c R] => Lib.hid (frm (rsign_any W false b (nl R) c R i.out (by omega)))
  obtain ⟨g, hg⟩ : ∃ g, g = sg (sgn false R) := ⟨_, rfl⟩
  rw [← hg] at HG
  have hgm : (g != 0) = decide (R ≠ 0) := by rw [hg, sg_nat, sgn_natAbs]
  rw [← hgm]
  obtain ⟨lx, hlx⟩ : ∃ l : Int, l = (blen X : Int) := ⟨_, rfl⟩
  obtain ⟨ly, hly⟩ : ∃ l : Int, l = (blen Y : Int) := ⟨_, rfl⟩
  rw [← hlx] at HL hKi
  rw [← hly] at HM hKi
  have t1 : IntKind.i64.wrap (p + 2) = p + 2 := by rw [IntKind.wrap_i64]; omega
  have t2 : IntKind.i64.wrap (p + 2 + ly) = p + 2 + ly := by rw [IntKind.wrap_i64]; omega
  have t3 : IntKind.i64.wrap (p + 2 + ly - lx) = p + 2 + ly - lx := by rw [IntKind.wrap_i64]; omega
  have t4 : max (p + 2 + ly - lx) 0 = (K : Int) := hKi.symm
  have t5 : IntKind.i64.wrap (-(K : Int)) = -(K : Int) := by rw [IntKind.wrap_i64]; omega
  have t6 : wrap64 (-(K : Int)) = -(K : Int) := by unfold wrap64; omega
  clear hK hKi hKl hM hQ hR lX lY lM lR hg hgm hlx hly
  generalize (K : Int) = k at *
  go_enter Tryz.func143, Tryz.ntmps143
  go_wp2_with fail
  first
  | go_region_held3 (fun w' => w'.cell? ⟨w.heap.size, 0, none⟩ = some (.bool false) ∧ w'.cell? ⟨w.heap.size, 1, none⟩ = some (.slice a (nl X) cap) ∧ w'.cell? ⟨w.heap.size + 1, 0, none⟩ = some (.bool false) ∧ w'.cell? ⟨w.heap.size + 1, 1, none⟩ = some (.slice a' (nl Y) cap')) (first | (go_simp; done))
    (first
      | (go_at_call 219; refine (HM _).out.mono ?_; rintro e w1 ⟨rfl, b1⟩)
      | (go_at_call 219; refine (HL _).out.mono ?_; rintro e w2 ⟨rfl, b2⟩)
      | fail)
  | fail "region"
  all_goals (
    go_upto_region 2 with fail
    go_cut [10] (fun pz wx => ∃ z aq cq ar cr, pz = .pointer (some ⟨z, 0, none⟩) ∧ BB wx (w.heap.size + 1 + 1) false (.slice aq (nl Q) cq) ∧ BB wx z false (.slice ar (nl R) cr) ∧ BI wx aq (nl Q) cq Q ∧ BI wx ar (nl R) cr R ∧ Beh w wx ∧ NA aq (nl Q) (w.heap.size + 1 + 1) ∧ NB z (w.heap.size + 1 + 1) ∧ (0 < nl Q → w.heap.size ≤ ab aq))
    case first =>
      first
      | go_region_held3 (fun w' => w'.cell? ⟨w.heap.size, 0, none⟩ = some (.bool false) ∧ w'.cell? ⟨w.heap.size, 1, none⟩ = some (.slice a (nl X) cap) ∧ w'.cell? ⟨w.heap.size + 1, 0, none⟩ = some (.bool false) ∧ w'.cell? ⟨w.heap.size + 1, 1, none⟩ = some (.slice a' (nl Y) cap')) (first | (go_simp; done))
        (first
          | (go_at_call 226; refine (HS _).out.mono ?_; rintro e w3 ⟨a3, c3, rfl, i3, b3, f3⟩)
          | (go_at_call 225; refine (HD _ _ _).out.mono ?_; rintro e w4 ⟨a4, c4, a5, c5, rfl, i4, i5, b4, f4, f5⟩; haveI g4 := FA.mk f4; haveI g5 := FA.mk f5)
          | fail)
      | fail "region"
      all_goals (
        go_wp2_with fail
        go_meet
        exact ⟨_, a4, c4, a5, c5, rfl, inferInstance, inferInstance, inferInstance, inferInstance, inferInstance, inferInstance, inferInstance, fresh_of b4 f4⟩)
    case rest =>
      obtain ⟨z, aq, cq, ar, cr, rfl, V1, V2, i6, i7, b5, k6, k7, f6⟩ := hcut
      generalize wc = v1 at *
      clear HS HD HL HM
      go_wp2_with fail
      first
      | go_region_held3 (fun w' => w'.cell? ⟨w.heap.size + 1 + 1, 0, none⟩ = some (.bool false) ∧ w'.cell? ⟨w.heap.size + 1 + 1, 1, none⟩ = some (.slice aq (nl Q) cq) ∧ w'.cell? ⟨z, 0, none⟩ = some (.bool false) ∧ w'.cell? ⟨z, 1, none⟩ = some (.slice ar (nl R) cr)) (first | (go_simp; done))
        (first
          | (go_at_call 142; refine (HG _ _ _).out.mono ?_; rintro e w5 ⟨rfl, b6⟩)
          | fail)
      | fail "region"
      all_goals (
        go_wp2_with fail
        refine bodyPost_ret (v := .tuple #[.agg #[.bool false, .slice aq (nl Q) cq], .int .i64 (-k), .bool (g != 0)]) (by simp only [results, Tryz.results143]; go_simp) rfl ?_
        exact ⟨aq, cq, rfl, inferInstance, ⟨zbh⟩, f6⟩))

end Go.Proofs.YtakbappmkdaioaaGreatDoor


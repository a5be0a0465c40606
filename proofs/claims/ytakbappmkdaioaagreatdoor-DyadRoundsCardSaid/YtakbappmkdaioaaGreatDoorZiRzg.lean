/-
  Walks: the reference's dyads: Root.
-/
import Derived.Test.YtakbappmkdaioaaGreatDoorZiRzd
namespace Go.Proofs.YtakbappmkdaioaaGreatDoor
open Go.RowKit Sp

attribute [local irreducible] Calls
/-- the bits by which a number is shifted ahead of its root -/
def rtk (A : Nat) (E n : Int) : Nat := (max (2 * n + 6 - blen A) 0).toNat + (if (E - max (2 * n + 6 - blen A) 0) % 2 = 0 then 0 else 1)
theorem rtk_even (A : Nat) (E n : Int) : (E - (rtk A E n : Nat)) % 2 = 0 := by
  unfold rtk; split <;> omega
set_option maxRecDepth 100000 in
set_option maxHeartbeats 20000000 in
theorem rroot_any (w : World) (a : Option Addr) (cap A r : Nat) (E n : Int) (hx : Mag w a (nl A) cap A) (hA : blen A ≤ 131072) (hE0 : -300000 ≤ E) (hE1 : E ≤ 300000) (hn0 : 0 ≤ n) (hn1 : n ≤ 4096) (K M : Nat) (hK : K = rtk A E n) (hM : M = A * 2 ^ K) (h1 : r * r ≤ M) (h2 : M < (r + 1) * (r + 1)) :
    Calls Tryz.prog 145 #[.agg #[.bool false, .slice a (nl A) cap], .int .i64 E, .int .i64 n] w fun e w' => ∃ a c, e = .returned (.tuple #[.agg #[.bool false, .slice a (nl r) c], .int .i64 ((E - K) / 2), .bool (decide (r * r ≠ M))]) ∧ BI w' a (nl r) c r ∧ From w w' ∧ (0 < nl r → w.heap.size ≤ ab a) := by
  have HM : BI w a (nl A) cap A := ⟨hx⟩
  have lA : nl A ≤ 549755813887 := Nat.le_trans (nl_le_blen _) (by omega)
  have HL := fun W [i : BI W a (nl A) cap A] => Lib.hid (frm (rbitlen_any W false a (nl A) cap A i.out (by omega)))
  have he := rtk_even A E n
  rw [← hK] at he
  obtain ⟨l, hl⟩ : ∃ l, l = blen A := ⟨_, rfl⟩
  rw [← hl] at HL
  obtain ⟨k0, hk0⟩ : ∃ k : Int, k = max (2 * n + 6 - (l : Int)) 0 := ⟨_, rfl⟩
  have hKk : (K : Int) = k0 + (if (E - k0) % 2 = 0 then 0 else 1) := by rw [hK, hk0, hl]; unfold rtk; split <;> omega
  have hK1 : K ≤ 8300 := by have : k0 ≤ 8200 := by omega
                            split at hKk <;> omega
  have hMl : blen M ≤ 262144 := by
    rw [hM]; by_cases h0 : A = 0
    · rw [h0, Nat.zero_mul]; decide
    · rw [blen_mul_pow (by omega) K]; omega
  have lM : nl M ≤ 549755813887 := Nat.le_trans (nl_le_blen _) (by omega)
  have hrM : r ≤ M := by
    rcases Nat.eq_zero_or_pos r with h | h
    · omega
    · exact Nat.le_trans (Nat.le_mul_of_pos_left r h) h1
  have lr : nl r ≤ 549755813887 := Nat.le_trans (nl_mono hrM) lM
  have HS := fun W [i : BI W a (nl A) cap A] => Lib.hid (show Calls Tryz.prog 226 #[.agg #[.bool false, .slice a (nl A) cap], .int .i64 (K : Int)] W fun e w' => ∃ a c, e = .returned (.agg #[.bool false, .slice a (nl M) c]) ∧ BI w' a (nl M) c M ∧ From W w' ∧ (0 < nl M → W.heap.size ≤ ab a) from by
    have := rshift_up W false a (nl A) cap A K i.out (by omega) (by omega)
    rw [show sgn false A * 2 ^ K = (M : Int) by rw [hM]; simp [sgn]] at this
    exact frbn this)
  have HQ := fun W b c [i : BI W b (nl M) c M] => Lib.hid (frbn (rsqrt_any W b c M r i.out (by omega) h1 h2))
  have HP := fun W b c [i : BI W b (nl r) c r] => Lib.hid (show Calls Tryz.prog 231 #[.agg #[.bool false, .slice b (nl r) c], .agg #[.bool false, .slice b (nl r) c]] W fun e w' => ∃ a c, e = .returned (.agg #[.bool false, .slice a (nl (r * r)) c]) ∧ BI w' a (nl (r * r)) c (r * r) ∧ From W w' ∧ (0 < nl (r * r) → W.heap.size ≤ ab a) from by
    have := rmul_any W false false b b (nl r) (nl r) c c r r i.out i.out (by omega) (by omega)
    rw [show sgn false r * sgn false r = ((r * r : Nat) : Int) by simp [sgn]] at this
    exact frbn this)
  have lP : nl (r * r) ≤ 549755813887 := Nat.le_trans (nl_mono h1) lM
  have HC := fun W b c b' c' [i : BI W b (nl (r * r)) c (r * r)] [j : BI W b' (nl M) c' M] => Lib.hid (frm (rcmp_any W false false b b' _ _ c c' (r * r) M i.out j.out (by omega) (by omega)))
  obtain ⟨u, hu⟩ : ∃ u, u = cmpI (sgn false (r * r)) (sgn false M) := ⟨_, rfl⟩
  rw [← hu] at HC
  have hu1 : (u != 0) = decide (r * r ≠ M) := by
    rw [hu, Bool.eq_iff_iff, bne_iff_ne, decide_eq_true_eq]; unfold cmpI sgn; simp; split <;> (try split) <;> omega
  rw [← hu1]
  have t1 : IntKind.i64.wrap (2 * n) = 2 * n := by rw [IntKind.wrap_i64]; omega
  have t2 : IntKind.i64.wrap (2 * n + 6) = 2 * n + 6 := by rw [IntKind.wrap_i64]; omega
  have t3 : max (IntKind.i64.wrap (2 * n + 6 - (l : Int))) 0 = k0 := by rw [hk0, IntKind.wrap_i64]; omega
  have t3' : max (wrap64 (2 * n + 6 - (l : Int))) 0 = k0 := by rw [hk0]; unfold wrap64; omega
  have t4 : max (2 * n + 6 - (l : Int)) 0 = k0 := hk0.symm
  have t5 : IntKind.i64.wrap (E - k0) = E - k0 := by rw [IntKind.wrap_i64]; omega
  have t6 : IntKind.i64.wrap (E - (K : Int)) = E - K := by rw [IntKind.wrap_i64]; omega
  have t5' : wrap64 (E - k0) = E - k0 := by unfold wrap64; omega
  have t6' : wrap64 (E - (K : Int)) = E - K := by unfold wrap64; omega
  have t7 : (E - (K : Int)).tdiv 2 = (E - K) / 2 := by
    obtain ⟨j, hj⟩ : ∃ j, E - (K : Int) = 2 * j := ⟨(E - K) / 2, by omega⟩
    rw [hj, Int.mul_comm, Int.mul_tdiv_cancel _ (by decide), Int.mul_ediv_cancel _ (by decide)]
  have t8 : IntKind.i64.wrap ((E - (K : Int)) / 2) = (E - K) / 2 := by rw [IntKind.wrap_i64]; omega
  have hpar : (k0 = K ∧ (E - k0).tmod 2 = 0) ∨ (k0 + 1 = K ∧ (E - k0).tmod 2 ≠ 0) := by
    have htm := Int.tmod_eq_emod (a := E - k0) (b := 2)
    by_cases h : (E - k0) % 2 = 0
    · left; refine ⟨by rw [if_pos h] at hKk; omega, ?_⟩
      exact Int.tmod_eq_zero_of_dvd (Int.dvd_of_emod_eq_zero h)
    · right; refine ⟨by rw [if_neg h] at hKk; omega, fun q => h ?_⟩
      exact Int.emod_eq_zero_of_dvd (Int.dvd_of_tmod_eq_zero q)
  generalize hv : (E - (K : Int)) / 2 = v at *
  have HPAR := Lib.hid hpar
  clear hK he hl hk0 hKk hK1 hMl hM hrM h1 h2 lM lr lP hu hu1 hpar hv
  go_enter Tryz.func145, Tryz.ntmps145
  go_wp2_with fail
  refine (HL _).out.mono ?_
  rintro e w1 ⟨rfl, b1⟩
  go_upto_if 22 with fail
  go_cut [9] (fun t wx => t = .int .i64 (K : Int) ∧ From w1 wx)
  case first =>
    clear t6 t6' t7 t8
    rcases HPAR.out with ⟨e1, e2⟩ | ⟨e1, e2⟩
    · have e3 : ((E - k0).tmod 2 != 0) = false := by rw [e2]; rfl
      go_wp2_with fail
      go_meet
      exact ⟨by first | rfl | rw [e1], ⟨zbh⟩⟩
    · have e3 : ((E - k0).tmod 2 != 0) = true := by simpa using e2
      have e4 : IntKind.i64.wrap (k0 + 1) = K := by rw [IntKind.wrap_i64]; omega
      have e5 : wrap64 (k0 + 1) = K := by unfold wrap64; omega
      go_wp2_with fail
      go_meet
      exact ⟨by first | rfl | rw [e1], ⟨zbh⟩⟩
  case rest =>
    obtain ⟨rfl, b2⟩ := hcut
    generalize wc = v1 at *
    clear HPAR t1 t2 t3 t4 t5 t3' t5' HL
    go_wp2_with fail
    refine (HS _).out.mono ?_
    rintro e w3 ⟨a3, c3, rfl, i3, b3, f3⟩
    obtain ⟨n1, n2⟩ := nb_of w3 (w.heap.size + 1)
    go_wp2_with fail
    refine (HQ _ _ _).out.mono ?_
    rintro e w4 ⟨a4, c4, rfl, i4, b4, f4⟩
    haveI k3 : NA a3 (nl M) (w.heap.size + 1) := ⟨na_of f3⟩
    haveI k4 : NA a4 (nl r) (w.heap.size + 1) := ⟨na_of f4⟩
    go_wp2_with fail
    first
    | go_region_held3 (fun w' => w'.cell? ⟨w.heap.size + 1, 0, none⟩ = some (.bool false) ∧ w'.cell? ⟨w.heap.size + 1, 1, none⟩ = some (.slice a4 (nl r) c4) ∧ w'.cell? ⟨w3.heap.size, 0, none⟩ = some (.bool false) ∧ w'.cell? ⟨w3.heap.size, 1, none⟩ = some (.slice a3 (nl M) c3)) (first | (go_simp; done))
      (first
        | (go_at_call 231; refine (HP _ _ _).out.mono ?_; rintro e w5 ⟨a5, c5, rfl, i5, b5, f5⟩)
        | (go_at_call 230; refine (HC _ _ _ _ _).out.mono ?_; rintro e w6 ⟨rfl, b6⟩)
        | fail)
    | fail "region"
    all_goals (
      go_wp2_with fail
      refine bodyPost_ret (v := .tuple #[.agg #[.bool false, .slice a4 (nl r) c4], .int .i64 v, .bool (u != 0)]) (by simp only [results, Tryz.results145]; go_simp) rfl ?_
      exact ⟨a4, c4, rfl, inferInstance, ⟨zbh⟩, fresh_of b4 f4⟩)

end Go.Proofs.YtakbappmkdaioaaGreatDoor


/-
  Walks: the reference's floats: Root, Quo.
-/
import Derived.Test.YtakbappmkdaioaaGreatDoorZkS3
import Derived.Test.YtakbappmkdaioaaGreatDoorZkRZ
import Derived.Test.YtakbappmkdaioaaGreatDoorZkCs
import Derived.Test.YtakbappmkdaioaaGreatDoorZkFP
namespace Go.Proofs.YtakbappmkdaioaaGreatDoor
open Go.RowKit Sp

attribute [local irreducible] Calls
theorem isq_long {M p : Nat} (h : 2 * p ≤ blen M) : p ≤ blen (isq M) := by
  rcases Nat.lt_or_ge (blen (isq M)) p with k | k
  · exfalso
    have h1 := lt_blen (isq M)
    have h2 : isq M + 1 ≤ 2 ^ (p - 1) := Nat.le_trans h1 (Nat.pow_le_pow_right (by decide) (by omega))
    have h3 := isq_lt M
    have h4 : (isq M + 1) * (isq M + 1) ≤ 2 ^ (p - 1) * 2 ^ (p - 1) := Nat.mul_le_mul h2 h2
    rw [← Nat.pow_add] at h4
    have h5 : blen M ≤ p - 1 + (p - 1) := blen_le (Nat.lt_of_lt_of_le h3 h4)
    omega
  · exact k
set_option maxRecDepth 100000 in
set_option maxHeartbeats 20000000 in
theorem r3root_any (w : World) (v s : Bool) (A : Option Addr) (n c : Nat) (e : Int) (d : Option (Int × Int)) (mode : Int) (hx : DyIs w v s A n c e d) (hT : Tab w) :
    Calls Tryz.prog 47 #[.agg #[.bool v, .bool s, .slice A n c, .int .i64 e], .int .i64 mode] w fun e w' => e = .returned (.int .u64 (froot d mode : Nat)) ∧ Below w.heap.size w w' := by
  have HT : Tb w := ⟨hT⟩
  have HX : DS w v s A n c e d := ⟨hx⟩
  have hN := hx.1.isN
  have HN := fun W [i : DS W v s A n c e d] [Tb W] => Lib.hid (frsF hN (rdnorm_in W i.out tb))
  have hB := isN_bounds hN
  have HG := fun W b c [i : BI W b (nl (dman d).natAbs) c (dman d).natAbs] => Lib.hid (frm (rsgn_z W b c (dman d) _ rfl i.out (nl_lim5 (by omega))))
  clear hx
  cases hb : dbad d with
  | true =>
    rw [show froot d mode = fNaN by rw [dbad_none hb]; rfl]
    show Calls _ _ _ _ fun e w' => e = .returned (.int .u64 9221120237041090560) ∧ Below w.heap.size w w'
    go_enter Tryz.func47, Tryz.ntmps47
    go_wp2_with fail
    refine (HN _).out.mono ?_
    rintro e w1 ⟨a1, c1, rfl, i1, b1, j1, f1⟩
    haveI k1 : NA a1 (nl (dman d).natAbs) w.heap.size := ⟨na_ofd f1⟩
    go_wp2_with fail
    go_ret
    exact ⟨rfl, zbh⟩
  | false =>
    obtain ⟨m, E, hd⟩ : ∃ m E, d = some (m, E) := ⟨_, _, dsome hb⟩
    obtain ⟨z, hz⟩ : ∃ z, z = dman d := ⟨_, rfl⟩
    have hzm : z = m := by rw [hz, hd]; rfl
    have hdE : dexp d = E := by rw [hd]; rfl
    rcases sg_cases z with ⟨hs, hq⟩ | ⟨hs, hq⟩ | ⟨hs, hq⟩
    · rw [show froot d mode = fNaN by rw [hd]; show (if m < 0 then _ else _) = _; rw [if_pos (by omega)]]
      show Calls _ _ _ _ fun e w' => e = .returned (.int .u64 9221120237041090560) ∧ Below w.heap.size w w'
      rw [← hz, hs] at HG
      rw [← hz] at HN
      clear hzm hd hdE hz hs hB
      have z0 : decide (z < 0) = true := by simpa using hq
      rw [z0] at HG HN
      clear hq
      go_enter Tryz.func47, Tryz.ntmps47
      go_wp2_with fail
      refine (HN _).out.mono ?_
      rintro e w1 ⟨a1, c1, rfl, i1, b1, j1, f1⟩
      haveI k1 : NA a1 (nl z.natAbs) w.heap.size := ⟨na_ofd f1⟩
      go_wp2_with fail
      refine (HG _ _ _).out.mono ?_
      rintro e w2 ⟨rfl, b2⟩
      go_wp2_with fail
      go_ret
      exact ⟨rfl, zbh⟩
    · rw [show froot d mode = 0 by rw [hd]; show (if m < 0 then _ else if m = 0 then _ else _) = _; rw [if_neg (by omega), if_pos (by omega)]]
      show Calls _ _ _ _ fun e w' => e = .returned (.int .u64 0) ∧ Below w.heap.size w w'
      rw [← hz, hs] at HG
      rw [← hz] at HN
      clear hzm hd hdE hz hs hB
      have z0 : decide (z < 0) = false := by simp; omega
      rw [z0] at HG HN
      clear hq
      go_enter Tryz.func47, Tryz.ntmps47
      go_wp2_with fail
      refine (HN _).out.mono ?_
      rintro e w1 ⟨a1, c1, rfl, i1, b1, j1, f1⟩
      haveI k1 : NA a1 (nl z.natAbs) w.heap.size := ⟨na_ofd f1⟩
      go_wp2_with fail
      refine (HG _ _ _).out.mono ?_
      rintro e w2 ⟨rfl, b2⟩
      go_wp2_with fail
      refine (HG _ _ _).out.mono ?_
      rintro e w3 ⟨rfl, b3⟩
      go_wp2_with fail
      go_ret
      exact ⟨rfl, zbh⟩
    · obtain ⟨K, hK⟩ : ∃ K, K = rtk z.natAbs E 60 := ⟨_, rfl⟩
      obtain ⟨M, hM⟩ : ∃ M, M = z.natAbs * 2 ^ K := ⟨_, rfl⟩
      rw [← hz, hdE] at hB
      have hMb : blen M = blen z.natAbs + K := by rw [hM]; exact blen_mul_pow (by omega) K
      have hKb : 126 ≤ blen z.natAbs + K ∧ K ≤ 200 := by rw [hK]; unfold rtk; split <;> omega
      have hrb : 63 ≤ blen (isq M) := isq_long (by omega)
      have hrl : blen (isq M) ≤ 140000 := by
        have h1 : isq M ≤ M := by
          rcases Nat.eq_zero_or_pos (isq M) with h | h
          · omega
          · exact Nat.le_trans (Nat.le_mul_of_pos_left _ h) (isq_le M)
        have := blen_mono h1; omega
      have hv : froot d mode = frnd false (isq M) ((E - (K : Nat)) / 2) (decide (isq M * isq M ≠ M)) mode := by
        rw [hd]; show (if m < 0 then _ else if m = 0 then _ else _) = _
        rw [if_neg (by omega), if_neg (by omega), hM, hzm]
        have hr := rsh_ge m E 56
        have e1 : blen (m.natAbs * 2 ^ rsh m E 56) = blen m.natAbs + rsh m E 56 := blen_mul_pow (by omega) _
        refine froot_indep E mode (rsh_even m E 56) (by rw [hK]; exact rtk_even _ _ _) (isq_long (p := 54) (by omega)) ?_
        rw [← hzm, ← hM]; omega
      have HR := fun W b c [i : BI W b (nl z.natAbs) c z.natAbs] => Lib.hid (rroot_any W b c z.natAbs (isq M) E 60 i.out (by omega) (by omega) (by omega) (by omega) (by omega) K M hK hM (isq_le M) (isq_lt M))
      have HO := fun W b c [i : BI W b (nl (isq M)) c (isq M)] [Tb W] => Lib.hid (frm (r3rounded_any W false (decide (isq M * isq M ≠ M)) b c (isq M) ((E - (K : Nat)) / 2) mode i.out (by rcases Nat.eq_zero_or_pos (isq M) with h | h; rw [h] at hrb; exact absurd hrb (by decide); exact h) (by omega) (by omega) (by omega) (fun _ => by omega) tb))
      rw [hv]
      generalize ((frnd false (isq M) ((E - (K : Nat)) / 2) (decide (isq M * isq M ≠ M)) mode : Nat) : Int) = u at *
      generalize decide (isq M * isq M ≠ M) = mo at *
      generalize (E - (K : Nat)) / 2 = x2 at *
      generalize isq M = r at *
      rw [← hz, hs] at HG
      rw [← hz, hdE] at HN
      have z0 : decide (z < 0) = false := by simp; omega
      rw [z0] at HG HN
      clear hq
      clear hv hrl hrb hKb hMb hM hK hB hzm hd hdE hz hs
      go_enter Tryz.func47, Tryz.ntmps47
      go_wp2_with fail
      refine (HN _).out.mono ?_
      rintro e w1 ⟨a1, c1, rfl, i1, b1, j1, f1⟩
      haveI k1 : NA a1 (nl z.natAbs) w.heap.size := ⟨na_ofd f1⟩
      go_wp2_with fail
      refine (HG _ _ _).out.mono ?_
      rintro e w2 ⟨rfl, b2⟩
      go_wp2_with fail
      refine (HG _ _ _).out.mono ?_
      rintro e w3 ⟨rfl, b3⟩
      go_wp2_with fail
      refine (HR _ _ _).out.mono ?_
      rintro e w4 ⟨a4, c4, rfl, i4, b4, f4⟩
      haveI T4 : Tb w4 := ⟨hT.below zbh⟩
      go_wp2_with fail
      refine (HO _ _ _).out.mono ?_
      rintro e w5 ⟨rfl, b5⟩
      go_wp2_with fail
      go_ret
      exact ⟨rfl, zbh⟩
end Go.Proofs.YtakbappmkdaioaaGreatDoor


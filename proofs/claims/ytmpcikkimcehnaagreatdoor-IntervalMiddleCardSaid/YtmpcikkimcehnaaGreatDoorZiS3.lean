/-
  Walks: the reference's floats: the functions of the bits.
  Walks: the reference's floats: Cmp, Up, Down.
  Walks: the reference's Int, and Of of its floats.
  Walks: the reference's floats: rounded.
  Walks: the reference's floats: Round, FromInt.
-/
import Derived.Test.YtmpcikkimcehnaaGreatDoorZiGc
import Derived.Test.YtmpcikkimcehnaaGreatDoorZiRq
import Derived.Test.YtmpcikkimcehnaaGreatDoorZiRm
import Derived.Test.YtmpcikkimcehnaaGreatDoorZiGi
import Derived.Test.YtmpcikkimcehnaaGreatDoorZiGo
import Derived.Test.YtmpcikkimcehnaaGreatDoorZiRu
import Derived.Test.YtmpcikkimcehnaaGreatDoorZiGr
namespace Go.Proofs.YtmpcikkimcehnaaGreatDoor
open Go.RowKit Sp

theorem fkind_B (f : Nat) : fkind f = bif (((fE f : Nat) : Int) == 2047) then (bif (((fR f : Nat) : Int) == 0) then 2 else 3) else bif (((fE f : Nat) : Int) == 0) then (bif (((fR f : Nat) : Int) == 0) then 0 else 1) else 1 := by
  rw [fkind_ER]
  have a1 : (((fE f : Nat) : Int) == 2047) = decide (fE f = 2047) := by rw [Bool.eq_iff_iff]; simp; omega
  have a2 : (((fE f : Nat) : Int) == 0) = decide (fE f = 0) := by rw [Bool.eq_iff_iff]; simp
  have a3 : (((fR f : Nat) : Int) == 0) = decide (fR f = 0) := by rw [Bool.eq_iff_iff]; simp
  rw [a1, a2, a3]
  by_cases a : fE f = 2047 <;> by_cases b : fR f = 0 <;> by_cases c : fE f = 0 <;> simp [a, b, c] <;> omega

set_option maxRecDepth 100000 in
set_option maxHeartbeats 2000000 in
theorem rkind_any (w : World) (f : Nat) : Calls Tryz.prog 82 #[.int .u64 f] w fun e w' => e = .returned (.int .i64 (fkind f)) ∧ w = w' := by
  have h1 := bits_E f
  have h2 := bits_R f
  have hk := fkind_B f
  generalize fkind f = k at *
  generalize ((fE f : Nat) : Int) = E at *
  generalize ((fR f : Nat) : Int) = R at *
  have a4 : (R != 0) = !(R == 0) := rfl
  cases ha : (E == 2047) <;> cases hb : (R == 0) <;> cases hc : (E == 0) <;> rw [hb] at a4 <;> rw [ha, hb, hc] at hk <;> simp only [cond_true, cond_false, Bool.not_true, Bool.not_false] at hk a4 <;> subst hk <;>
  · go_enter Tryz.func82, Tryz.ntmps82
    go_wp2
    go_ret
    exact ⟨rfl, rfl⟩

set_option maxRecDepth 100000 in
set_option maxHeartbeats 2000000 in
theorem rfin_any (w : World) (f : Nat) : Calls Tryz.prog 37 #[.int .u64 f] w fun e w' => e = .returned (.bool (ffin f)) ∧ w = w' := by
  have h1 := bits_E f
  have hk : (((fE f : Nat) : Int) != 2047) = ffin f := by rw [ffin_E, Bool.eq_iff_iff]; simp; omega
  generalize ((fE f : Nat) : Int) = E at *
  go_enter Tryz.func37, Tryz.ntmps37
  go_wp2_with fail
  go_ret
  exact ⟨by simp, rfl⟩

set_option maxRecDepth 100000 in
set_option maxHeartbeats 2000000 in
theorem rnan_any (w : World) (f : Nat) : Calls Tryz.prog 195 #[.int .u64 f] w fun e w' => e = .returned (.bool (fnan f)) ∧ w = w' := by
  have HP := fun W => Lib.hid (rkind_any W f)
  have hk := (fkind_eqs f).1
  generalize fkind f = k at *
  go_enter Tryz.func195, Tryz.ntmps195
  go_wp2_with fail
  refine (HP _).out.mono ?_
  rintro e w1 ⟨rfl, rfl⟩
  go_wp2_with fail
  go_ret
  exact ⟨by simp, rfl⟩

set_option maxRecDepth 100000 in
set_option maxHeartbeats 2000000 in
theorem rminus_any (w : World) (f : Nat) (hf : f < 18446744073709551616) : Calls Tryz.prog 200 #[.int .u64 f] w fun e w' => e = .returned (.bool (fS f)) ∧ w = w' := by
  have h1 := bits_sign hf
  cases hs : fS f <;> rw [hs] at h1 <;>
  · simp only [if_true, Bool.false_eq_true, if_false] at h1
    go_enter Tryz.func200, Tryz.ntmps200
    go_wp2
    go_ret
    exact ⟨by simp, rfl⟩

set_option maxRecDepth 100000 in
set_option maxHeartbeats 2000000 in
theorem rkey_any (w : World) (f : Nat) (hf : f < 18446744073709551616) : Calls Tryz.prog 196 #[.int .u64 f] w fun e w' => e = .returned (.int .i64 (fplace f)) ∧ w = w' := by
  have h1 := bits_abs hf
  have hM := fM_lt f
  have h2 : IntKind.i64.wrap ((fM f : Nat) : Int) = (fM f : Nat) := by rw [IntKind.wrap_i64]; omega
  have h3 : IntKind.i64.wrap (-((fM f : Nat) : Int)) = -((fM f : Nat) : Int) := by rw [IntKind.wrap_i64]; omega
  have HS := fun W => Lib.hid (rminus_any W f hf)
  rw [fplace_eq]
  cases hs : fS f with
  | true =>
    clear hM
    generalize ((fM f : Nat) : Int) = m at *
    rw [hs] at HS
    rw [if_pos rfl]
    go_enter Tryz.func196, Tryz.ntmps196
    go_wp2_with fail
    refine (HS _).out.mono ?_
    rintro e w1 ⟨rfl, rfl⟩
    go_wp2_with fail
    go_ret
    exact ⟨rfl, rfl⟩
  | false =>
    have e1 : (f : Int) = (fM f : Nat) := by
      unfold fS at hs; unfold fM
      have : f < 9223372036854775808 := by simpa using hs
      omega
    rw [← e1] at h2 ⊢
    clear hM h1 h3 e1
    rw [hs] at HS
    rw [if_neg (by decide)]
    go_enter Tryz.func196, Tryz.ntmps196
    go_wp2_with fail
    refine (HS _).out.mono ?_
    rintro e w1 ⟨rfl, rfl⟩
    go_wp2_with fail
    go_ret
    exact ⟨rfl, rfl⟩

end Go.Proofs.YtmpcikkimcehnaaGreatDoor

namespace Go.Proofs.YtmpcikkimcehnaaGreatDoor
open Go.RowKit Sp

set_option maxRecDepth 100000 in
set_option maxHeartbeats 2000000 in
theorem r3cmp_any (w : World) (a b : Nat) (ha : a < 18446744073709551616) (hb : b < 18446744073709551616) :
    Calls Tryz.prog 78 #[.int .u64 a, .int .u64 b] w fun e w' => e = .returned (.tuple #[.int .i64 (fcmpv a b), .bool (fcmpok a b)]) ∧ w = w' := by
  have HNa := fun W => Lib.hid (rnan_any W a)
  have HNb := fun W => Lib.hid (rnan_any W b)
  have HKa := fun W => Lib.hid (rkey_any W a ha)
  have HKb := fun W => Lib.hid (rkey_any W b hb)
  unfold fcmpv fcmpok
  cases hna : fnan a with
  | true =>
    rw [hna] at HNa
    go_enter Tryz.func78, Tryz.ntmps78
    go_wp2_with fail
    (refine (HNa _).out.mono ?_; rintro e w1 ⟨rfl, rfl⟩; go_wp2_with fail)
    refine bodyPost_ret (v := .tuple #[.int .i64 0, .bool false]) (by simp only [results, Tryz.results78]; go_simp) rfl ?_
    exact ⟨rfl, rfl⟩
  | false =>
    rw [hna] at HNa
    cases hnb : fnan b with
    | true =>
      rw [hnb] at HNb
      go_enter Tryz.func78, Tryz.ntmps78
      go_wp2_with fail
      (refine (HNa _).out.mono ?_; rintro e w1 ⟨rfl, rfl⟩; go_wp2_with fail)
      (refine (HNb _).out.mono ?_; rintro e w1 ⟨rfl, rfl⟩; go_wp2_with fail)
      refine bodyPost_ret (v := .tuple #[.int .i64 0, .bool false]) (by simp only [results, Tryz.results78]; go_simp) rfl ?_
      exact ⟨rfl, rfl⟩
    | false =>
      rw [hnb] at HNb
      generalize fplace a = x at *
      generalize fplace b = y at *
      clear hna hnb ha hb
      rw [if_neg (by decide)]
      obtain ⟨c, hc⟩ : ∃ c, c = cmpI x y := ⟨_, rfl⟩
      rw [← hc]
      rcases Int.lt_trichotomy x y with h | h | h
      · rw [cmpI_lt h] at hc; subst hc
        have h1 : decide (x < y) = true := by simpa using h
        clear h
        go_enter Tryz.func78, Tryz.ntmps78
        go_wp2_with fail
        (refine (HNa _).out.mono ?_; rintro e w1 ⟨rfl, rfl⟩; go_wp2_with fail)
        (refine (HNb _).out.mono ?_; rintro e w1 ⟨rfl, rfl⟩; go_wp2_with fail)
        (refine (HKa _).out.mono ?_; rintro e w1 ⟨rfl, rfl⟩; go_wp2_with fail)
        (refine (HKb _).out.mono ?_; rintro e w1 ⟨rfl, rfl⟩; go_wp2_with fail)
        refine bodyPost_ret (v := .tuple #[.int .i64 (-1), .bool true]) (by simp only [results, Tryz.results78]; go_simp) rfl ?_
        exact ⟨rfl, rfl⟩
      · rw [cmpI_eq h] at hc; subst hc
        have h1 : decide (x < y) = false := by simp; omega
        have h2 : decide (y < x) = false := by simp; omega
        clear h
        go_enter Tryz.func78, Tryz.ntmps78
        go_wp2_with fail
        (refine (HNa _).out.mono ?_; rintro e w1 ⟨rfl, rfl⟩; go_wp2_with fail)
        (refine (HNb _).out.mono ?_; rintro e w1 ⟨rfl, rfl⟩; go_wp2_with fail)
        (refine (HKa _).out.mono ?_; rintro e w1 ⟨rfl, rfl⟩; go_wp2_with fail)
        (refine (HKb _).out.mono ?_; rintro e w1 ⟨rfl, rfl⟩; go_wp2_with fail)
        (refine (HKa _).out.mono ?_; rintro e w1 ⟨rfl, rfl⟩; go_wp2_with fail)
        (refine (HKb _).out.mono ?_; rintro e w1 ⟨rfl, rfl⟩; go_wp2_with fail)
        refine bodyPost_ret (v := .tuple #[.int .i64 0, .bool true]) (by simp only [results, Tryz.results78]; go_simp) rfl ?_
        exact ⟨rfl, rfl⟩
      · rw [cmpI_gt h] at hc; subst hc
        have h1 : decide (x < y) = false := by simp; omega
        have h2 : decide (y < x) = true := by simpa using h
        clear h
        go_enter Tryz.func78, Tryz.ntmps78
        go_wp2_with fail
        (refine (HNa _).out.mono ?_; rintro e w1 ⟨rfl, rfl⟩; go_wp2_with fail)
        (refine (HNb _).out.mono ?_; rintro e w1 ⟨rfl, rfl⟩; go_wp2_with fail)
        (refine (HKa _).out.mono ?_; rintro e w1 ⟨rfl, rfl⟩; go_wp2_with fail)
        (refine (HKb _).out.mono ?_; rintro e w1 ⟨rfl, rfl⟩; go_wp2_with fail)
        (refine (HKa _).out.mono ?_; rintro e w1 ⟨rfl, rfl⟩; go_wp2_with fail)
        (refine (HKb _).out.mono ?_; rintro e w1 ⟨rfl, rfl⟩; go_wp2_with fail)
        refine bodyPost_ret (v := .tuple #[.int .i64 1, .bool true]) (by simp only [results, Tryz.results78]; go_simp) rfl ?_
        exact ⟨rfl, rfl⟩

end Go.Proofs.YtmpcikkimcehnaaGreatDoor

namespace Go.Proofs.YtmpcikkimcehnaaGreatDoor
open Go.RowKit Sp

set_option maxRecDepth 100000 in
set_option maxHeartbeats 8000000 in
theorem r3of_z (w : World) (f : Nat) (hf : f < 18446744073709551616) (h0 : fE f = 0) (m : Nat) (hm : m = fR f) (e : Int) (he : e = -1074) (d : Option (Int × Int)) (hd : d = nrm (sgn (fS f) m) e) (hT : Tab w) : Calls Tryz.prog 86 #[.int .u64 f] w (RetDy w d) := by
  have HF := fun W => Lib.hid (rfin_any W f)
  have hfin : ffin f = true := by rw [ffin_E]; simp; omega
  rw [hfin] at HF
  have HS := fun W => Lib.hid (rminus_any W f hf)
  have hR := fR_lt f
  have hE := fE_lt f
  have e1 := bits_E f
  have e2 := bits_R f
  have hmb : m < 9007199254740992 := by omega
  have hbl : blen m ≤ 53 := blen_le hmb
  have hw : IntKind.i64.wrap ((fE f : Nat) : Int) = (fE f : Nat) := by rw [IntKind.wrap_i64]; omega
  have a2 : decide (0 < ((fE f : Nat) : Int)) = false := by simp; omega
  have d0 : (m : Int) % 4294967296 = ((m % 4294967296 : Nat) : Int) := by simp
  have d1 : (m : Int) / 4294967296 % 4294967296 = ((m / 4294967296 : Nat) : Int) := by omega
  have d2 : (m : Int) / 4294967296 = ((m / 4294967296 : Nat) : Int) := by omega
  have hmm : m % 4294967296 + m / 4294967296 * B = m := by rw [B_eq]; omega
  have hl0 : m % 4294967296 < 4294967296 := by omega
  have hl1 : m / 4294967296 < 4294967296 := by omega
  have HM := fun W b c (h : Mag W b 2 c m) ht => Lib.hid (show Calls Tryz.prog 199 #[.agg #[.bool (fS f), .slice b 2 c], .int .i64 e] W (RetDy W d) from by rw [hd]; exact rmake_any W (fS f) b 2 c m e h (by omega) ht (by omega) (by omega))
  have a5 : ((fR f : Nat) : Int) = m := by rw [hm]
  have HMM := Lib.hid hmm
  generalize ((fE f : Nat) : Int) = E at *
  generalize ((fR f : Nat) : Int) = R at *
  generalize hL0 : m % 4294967296 = L0 at *
  generalize hL1 : m / 4294967296 = L1 at *
  generalize fS f = sg at *
  subst a5
  subst he
  clear hL0 hL1 hbl hd hm hR hE hmb hmm  h0 hfin
  go_enter Tryz.func86, Tryz.ntmps86
  go_wp2_with fail
  have Ir := (DyV.made' w 26 false false (.slice none 0 0) 0 (n := w.heap.size) (by rfl))
  have B0 : Below w.heap.size w (w.alloc (.cells #[.bool false, .bool false, (.slice none 0 0), .int .i64 0] 26)) := zbh
  generalize (w.alloc (.cells #[.bool false, .bool false, (.slice none 0 0), .int .i64 0] 26)) = w0 at Ir B0 ⊢
  generalize hb0 : w.heap.size = b0 at Ir ⊢
  obtain ⟨rc0, rc1, rc2, rc3, rc4, rc5⟩ := Ir
  have Vr0 := Lib.hid (DyV.mk rc0 rc1 rc2 rc3 rc4 rc5)
  refine (HF _).out.mono ?_
  rintro e1 w1 ⟨rfl, rfl⟩
  go_wp2_with fail
  refine (HS _).out.mono ?_
  rintro e1 w1 ⟨rfl, rfl⟩
  go_wp2_with fail
  have I1 := Mag.two w0 96 L0 L1 hl0 hl1
  rw [HMM.out] at I1
  have Vr1 := DyV.alloc Vr0.out (.cells #[.int .u32 L0, .int .u32 L1] 96)
  have B1 : Below w.heap.size w (w0.alloc (.cells #[.int .u32 L0, .int .u32 L1] 96)) := (have := Beh.mk B0; zbh)
  have nb : ¬ w0.heap.size = b0 := by have := Vr0.out.lt; omega
  generalize (w0.alloc (.cells #[.int .u32 L0, .int .u32 L1] 96)) = w1 at I1 Vr1 B1 ⊢
  (try clear rc0 rc1 rc2 rc3 rc4)
  obtain ⟨rc0, rc1, rc2, rc3, rc4, rc5⟩ := Vr1
  have Vr1 := Lib.hid (DyV.mk rc0 rc1 rc2 rc3 rc4 rc5)
  refine (HM _ (some ⟨w0.heap.size, 0, none⟩) 2 I1 (hT.below (have := Beh.mk B1; zbh))).out.mono ?_
  rintro e w2 ⟨ad, cd, rfl, Md2, hb2, hf2⟩
  have Vr2 : DyV w2 b0 false false (.slice none 0 0) 0 := (Vr1.out.on.below hb2)
  (try clear rc0 rc1 rc2 rc3 rc4)
  obtain ⟨rc0, rc1, rc2, rc3, rc4, rc5⟩ := Vr2
  have Vr2 := Lib.hid (DyV.mk rc0 rc1 rc2 rc3 rc4 rc5)
  have B2 := below_box (w := w) (have := Beh.mk B1; zbh) hb2
  have hF2 : 0 < (nl (dman d).natAbs) → w1.heap.size ≤ ab ad := (fun h => by have hq := hf2 h; (try simp at hq); omega)
  have frdr : 0 < (nl (dman d).natAbs) → ab ad ≠ b0 := (fun h => by have := hF2 h; have := Vr1.out.lt; omega)
  have fod : 0 < (nl (dman d).natAbs) → w.heap.size ≤ ab ad := (fun h => by have := hF2 h; have := B1.size; omega)
  clear hF2
  clear hb2 hf2
  go_wp2_with fail
  refine bodyPost_ret (v := .agg #[.bool (dbad d), .bool (decide (dman d < 0)), .slice ad (nl (dman d).natAbs) cd, .int .i64 (dexp d)]) (by simp only [results, Tryz.results86]; go_simp) rfl ?_
  exact ⟨ad, cd, rfl, (by repeat (with_reducible first | refine Mag.set ?_ frdr _ _ | refine Mag.drew ?_ | refine Mag.drewN ?_ _ | refine Mag.alloc ?_ _ | exact Md2)), (by have hszw := (B2).size; repeat (with_reducible first | refine Below.setCell ?_ (by first | omega | (simp <;> omega)) _ | refine Below.alloc ?_ (by first | omega | (simp <;> omega)) _ | refine Below.drew ?_ | refine below_drewN ?_ _ | exact B2)), fod⟩

set_option maxRecDepth 100000 in
set_option maxHeartbeats 8000000 in
theorem r3of_n (w : World) (f : Nat) (hf : f < 18446744073709551616) (h0 : fE f ≠ 0) (h1 : fE f ≠ 2047) (m : Nat) (hm : m = fR f + 4503599627370496) (e : Int) (he : e = (fE f : Int) - 1075) (d : Option (Int × Int)) (hd : d = nrm (sgn (fS f) m) e) (hT : Tab w) : Calls Tryz.prog 86 #[.int .u64 f] w (RetDy w d) := by
  have HF := fun W => Lib.hid (rfin_any W f)
  have hfin : ffin f = true := by rw [ffin_E]; simp; omega
  rw [hfin] at HF
  have HS := fun W => Lib.hid (rminus_any W f hf)
  have hR := fR_lt f
  have hE := fE_lt f
  have e1 := bits_E f
  have e2 := bits_R f
  have hmb : m < 9007199254740992 := by omega
  have hbl : blen m ≤ 53 := blen_le hmb
  have hw : IntKind.i64.wrap ((fE f : Nat) : Int) = (fE f : Nat) := by rw [IntKind.wrap_i64]; omega
  have a2 : decide (0 < ((fE f : Nat) : Int)) = true := by simp; omega
  have d0 : (m : Int) % 4294967296 = ((m % 4294967296 : Nat) : Int) := by simp
  have d1 : (m : Int) / 4294967296 % 4294967296 = ((m / 4294967296 : Nat) : Int) := by omega
  have d2 : (m : Int) / 4294967296 = ((m / 4294967296 : Nat) : Int) := by omega
  have hmm : m % 4294967296 + m / 4294967296 * B = m := by rw [B_eq]; omega
  have hl0 : m % 4294967296 < 4294967296 := by omega
  have hl1 : m / 4294967296 < 4294967296 := by omega
  have HM := fun W b c (h : Mag W b 2 c m) ht => Lib.hid (show Calls Tryz.prog 199 #[.agg #[.bool (fS f), .slice b 2 c], .int .i64 e] W (RetDy W d) from by rw [hd]; exact rmake_any W (fS f) b 2 c m e h (by omega) ht (by omega) (by omega))
  have a3 := bits_hidden hR
  rw [← hm] at a3
  have a4 : IntKind.i64.wrap (((fE f : Nat) : Int) - 1075) = e := by rw [he, IntKind.wrap_i64]; omega
  have a5 : wrap64 (((fE f : Nat) : Int) - 1075) = e := by unfold wrap64; omega
  have HMM := Lib.hid hmm
  generalize ((fE f : Nat) : Int) = E at *
  generalize ((fR f : Nat) : Int) = R at *
  generalize hL0 : m % 4294967296 = L0 at *
  generalize hL1 : m / 4294967296 = L1 at *
  generalize fS f = sg at *
  skip
  skip
  clear hL0 hL1 hbl hd hm hR hE hmb hmm he h1 h0 hfin
  go_enter Tryz.func86, Tryz.ntmps86
  go_wp2_with fail
  have Ir := (DyV.made' w 26 false false (.slice none 0 0) 0 (n := w.heap.size) (by rfl))
  have B0 : Below w.heap.size w (w.alloc (.cells #[.bool false, .bool false, (.slice none 0 0), .int .i64 0] 26)) := zbh
  generalize (w.alloc (.cells #[.bool false, .bool false, (.slice none 0 0), .int .i64 0] 26)) = w0 at Ir B0 ⊢
  generalize hb0 : w.heap.size = b0 at Ir ⊢
  obtain ⟨rc0, rc1, rc2, rc3, rc4, rc5⟩ := Ir
  have Vr0 := Lib.hid (DyV.mk rc0 rc1 rc2 rc3 rc4 rc5)
  refine (HF _).out.mono ?_
  rintro e1 w1 ⟨rfl, rfl⟩
  go_wp2_with fail
  refine (HS _).out.mono ?_
  rintro e1 w1 ⟨rfl, rfl⟩
  go_wp2_with fail
  have I1 := Mag.two w0 96 L0 L1 hl0 hl1
  rw [HMM.out] at I1
  have Vr1 := DyV.alloc Vr0.out (.cells #[.int .u32 L0, .int .u32 L1] 96)
  have B1 : Below w.heap.size w (w0.alloc (.cells #[.int .u32 L0, .int .u32 L1] 96)) := (have := Beh.mk B0; zbh)
  have nb : ¬ w0.heap.size = b0 := by have := Vr0.out.lt; omega
  generalize (w0.alloc (.cells #[.int .u32 L0, .int .u32 L1] 96)) = w1 at I1 Vr1 B1 ⊢
  (try clear rc0 rc1 rc2 rc3 rc4)
  obtain ⟨rc0, rc1, rc2, rc3, rc4, rc5⟩ := Vr1
  have Vr1 := Lib.hid (DyV.mk rc0 rc1 rc2 rc3 rc4 rc5)
  refine (HM _ (some ⟨w0.heap.size, 0, none⟩) 2 I1 (hT.below (have := Beh.mk B1; zbh))).out.mono ?_
  rintro e w2 ⟨ad, cd, rfl, Md2, hb2, hf2⟩
  have Vr2 : DyV w2 b0 false false (.slice none 0 0) 0 := (Vr1.out.on.below hb2)
  (try clear rc0 rc1 rc2 rc3 rc4)
  obtain ⟨rc0, rc1, rc2, rc3, rc4, rc5⟩ := Vr2
  have Vr2 := Lib.hid (DyV.mk rc0 rc1 rc2 rc3 rc4 rc5)
  have B2 := below_box (w := w) (have := Beh.mk B1; zbh) hb2
  have hF2 : 0 < (nl (dman d).natAbs) → w1.heap.size ≤ ab ad := (fun h => by have hq := hf2 h; (try simp at hq); omega)
  have frdr : 0 < (nl (dman d).natAbs) → ab ad ≠ b0 := (fun h => by have := hF2 h; have := Vr1.out.lt; omega)
  have fod : 0 < (nl (dman d).natAbs) → w.heap.size ≤ ab ad := (fun h => by have := hF2 h; have := B1.size; omega)
  clear hF2
  clear hb2 hf2
  go_wp2_with fail
  refine bodyPost_ret (v := .agg #[.bool (dbad d), .bool (decide (dman d < 0)), .slice ad (nl (dman d).natAbs) cd, .int .i64 (dexp d)]) (by simp only [results, Tryz.results86]; go_simp) rfl ?_
  exact ⟨ad, cd, rfl, (by repeat (with_reducible first | refine Mag.set ?_ frdr _ _ | refine Mag.drew ?_ | refine Mag.drewN ?_ _ | refine Mag.alloc ?_ _ | exact Md2)), (by have hszw := (B2).size; repeat (with_reducible first | refine Below.setCell ?_ (by first | omega | (simp <;> omega)) _ | refine Below.alloc ?_ (by first | omega | (simp <;> omega)) _ | refine Below.drew ?_ | refine below_drewN ?_ _ | exact B2)), fod⟩

set_option maxRecDepth 100000 in
set_option maxHeartbeats 8000000 in
theorem r3of_bad (w : World) (f : Nat) (h : ffin f = false) : Calls Tryz.prog 86 #[.int .u64 f] w (RetDy w none) := by
  have HF := fun W => Lib.hid (rfin_any W f)
  rw [h] at HF
  have HB := fun W => Lib.hid (rbad_any W)
  go_enter Tryz.func86, Tryz.ntmps86
  go_wp2_with fail
  have Ir := (DyV.made' w 26 false false (.slice none 0 0) 0 (n := w.heap.size) (by rfl))
  have B0 : Below w.heap.size w (w.alloc (.cells #[.bool false, .bool false, (.slice none 0 0), .int .i64 0] 26)) := zbh
  generalize (w.alloc (.cells #[.bool false, .bool false, (.slice none 0 0), .int .i64 0] 26)) = w0 at Ir B0 ⊢
  generalize hb0 : w.heap.size = b0 at Ir ⊢
  obtain ⟨rc0, rc1, rc2, rc3, rc4, rc5⟩ := Ir
  have Vr0 := Lib.hid (DyV.mk rc0 rc1 rc2 rc3 rc4 rc5)
  refine (HF _).out.mono ?_
  rintro e1 w1 ⟨rfl, rfl⟩
  go_wp2_with fail
  refine (HB _).out.mono ?_
  rintro e w1 ⟨rfl, hb1⟩
  have Vr1 : DyV w1 b0 false false (.slice none 0 0) 0 := (Vr0.out.on.below hb1)
  (try clear rc0 rc1 rc2 rc3 rc4)
  obtain ⟨rc0, rc1, rc2, rc3, rc4, rc5⟩ := Vr1
  have Vr1 := Lib.hid (DyV.mk rc0 rc1 rc2 rc3 rc4 rc5)
  have B1 := below_box (w := w) (have := Beh.mk B0; zbh) hb1
  clear hb1
  go_wp2_with fail
  refine bodyPost_ret (v := .agg #[.bool true, .bool false, .slice none 0 0, .int .i64 0]) (by simp only [results, Tryz.results86]; go_simp) rfl ?_
  exact ⟨none, 0, rfl, Mag.nil _, (by have hszw := (B1).size; repeat (with_reducible first | refine Below.setCell ?_ (by first | omega | (simp <;> omega)) _ | refine Below.alloc ?_ (by first | omega | (simp <;> omega)) _ | refine Below.drew ?_ | refine below_drewN ?_ _ | exact B1)), nl0⟩

theorem r3of_any (w : World) (f : Nat) (hf : f < 18446744073709551616) (hT : Tab w) : Calls Tryz.prog 86 #[.int .u64 f] w (RetDy w (fof f)) := by
  by_cases h1 : fE f = 2047
  · have h := fof_not (f := f) (by rw [ffin_E]; simpa using h1)
    rw [h]; exact r3of_bad w f (by rw [ffin_E]; simpa using h1)
  · have hd : fof f = nrm (sgn (fS f) (if fE f = 0 then fR f else fR f + 4503599627370496)) (if fE f = 0 then -1074 else (fE f : Int) - 1075) := by
      rw [fof_fin (by rw [ffin_E]; simpa using h1)]; exact fz_parts f
    by_cases h0 : fE f = 0
    · rw [if_pos h0, if_pos h0] at hd
      exact r3of_z w f hf h0 _ rfl _ rfl _ hd hT
    · rw [if_neg h0, if_neg h0] at hd
      exact r3of_n w f hf h0 h1 _ rfl _ rfl _ hd hT

end Go.Proofs.YtmpcikkimcehnaaGreatDoor

namespace Go.Proofs.YtmpcikkimcehnaaGreatDoor
open Go.RowKit Sp

end Go.Proofs.YtmpcikkimcehnaaGreatDoor

namespace Go.Proofs.YtmpcikkimcehnaaGreatDoor
open Go.RowKit Sp

end Go.Proofs.YtmpcikkimcehnaaGreatDoor


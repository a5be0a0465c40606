/-
  Walk: integer.digit, one limb of a quotient.
-/
import Derived.Test.YtjhngehajahbnaaDoorDown
import Derived.Test.YtjhngehajahbnaaDoorKnuth
import Derived.Deep.DeepCutAuto
import Derived.Deep.CutBlock
namespace Go.Proofs.YtjhngehajahbnaaDoor
open Go.RowKit Sp

set_option maxRecDepth 100000 in
set_option maxHeartbeats 4000000 in
theorem digit_any (w : World) (g o N n cap capv U V L : Nat) (a : Option Addr) (hrow : Row w g N 22 (L + U * B ^ o)) (hL : L < B ^ o) (hN : o + n + 1 ≤ N) (hcap : n + 1 ≤ cap) (hlim : N ≤ 4398046511104) (hcl : cap ≤ 9223372036854775807)
    (hv : Mag w a n capv V) (hva : ab a ≠ g) (hn2 : 2 ≤ n) (htop : 2147483648 ≤ dig V (n - 1)) (hUV : U < V * B) :
    Calls Tryd.prog 113 #[.slice (some ⟨g, o, none⟩) (n + 1) cap, .slice a n capv] w fun e w' =>
      e = .returned (.int .u32 (U / V)) ∧ Row w' g N 22 (L + U % V * B ^ o) ∧ w.grownBy w' (some g) := by
  have l1 := hv.lim
  have l2 := hv.fits
  have hUn : U < B ^ (n + 1) := by
    rw [Bpow_succ]; exact Nat.lt_of_lt_of_le hUV (Nat.mul_le_mul_right _ (Nat.le_of_lt hv.lt))
  obtain ⟨un, hun⟩ : ∃ un, un = dig U n := ⟨_, rfl⟩
  obtain ⟨u1, hu1⟩ : ∃ u1, u1 = dig U (n - 1) := ⟨_, rfl⟩
  obtain ⟨u2, hu2⟩ : ∃ u2, u2 = dig U (n - 2) := ⟨_, rfl⟩
  obtain ⟨v1, hv1⟩ : ∃ v1, v1 = dig V (n - 1) := ⟨_, rfl⟩
  obtain ⟨v2, hv2⟩ : ∃ v2, v2 = dig V (n - 2) := ⟨_, rfl⟩
  have bun : un < 4294967296 := hun ▸ dig_lt _ _
  have bu1 : u1 < 4294967296 := hu1 ▸ dig_lt _ _
  have bu2 : u2 < 4294967296 := hu2 ▸ dig_lt _ _
  have bv1 : v1 < 4294967296 := hv1 ▸ dig_lt _ _
  have bv2 : v2 < 4294967296 := hv2 ▸ dig_lt _ _
  have cun := hrow.cell (o + n) (by omega)
  have cu1 := hrow.cell (o + (n - 1)) (by omega)
  have cu2 := hrow.cell (o + (n - 2)) (by omega)
  rw [dig_hi hL] at cun cu1 cu2
  have cv1 := hv.cell (n - 1) (by omega)
  have cv2 := hv.cell (n - 2) (by omega)
  rw [← hun] at cun
  rw [← hu1] at cu1
  rw [← hu2] at cu2
  rw [← hv1] at cv1
  rw [← hv2] at cv2
  have iv1 := hv.idx' 23 und siz (n - 1) (by omega) ((n : Int) - 1) (by omega)
  have iv2 := hv.idx' 23 und siz (n - 2) (by omega) ((n : Int) - 2) (by omega)
  have hor1 := or_limb (r := un) (d := u1) bun bu1
  have b1 : (1 : Int) ≤ (v1 : Int) := by rw [← hv1] at htop; omega
  have b2 : (0 : Int) ≤ (un : Int) * 4294967296 + (u1 : Nat) := by omega
  have b3 : (un : Int) * 4294967296 + (u1 : Nat) ≤ 18446744073709551615 := by omega
  have G := guess hn2 hv.lt hUV htop
  rw [← hun, ← hu1, ← hu2, ← hv1, ← hv2] at G
  have HF := Lib.hid (And.intro hun (And.intro hu1 (And.intro hu2 (And.intro hv1 hv2))))
  have HG := Lib.hid G
  clear G
  clear hun hu1 hu2 hv1 hv2
  go_enter Tryd.func113, Tryd.ntmps113
  go_wp2
  go_quiet (fail)
  go_wp2
  go_quiet (fail)
  go_upto_block 0 with (fail)
  go_cut [7, 8] (fun q r wx => ∃ Q R z : Nat, q = .int .u64 Q ∧ r = .int .u64 R ∧ U / V ≤ Q ∧ Q ≤ U / V + 1 ∧ wx = w.drewN z)
  case first =>
    go_wp2
    go_loopw [7, 8] (fun q r wr => ∃ Q R z : Nat, q = .int .u64 Q ∧ r = .int .u64 R ∧ Q * v1 + R = un * B + u1 ∧ U / V ≤ Q ∧ Q ≤ 4294967297 ∧ R < 4294967296 ∧ wr = w.drewN z) (fun q _ _ => (intOf q).toNat)
    case atStart =>
      refine ⟨(un * B + u1) / v1, (un * B + u1) % v1, _, ?_, ?_, by rw [Nat.mul_comm]; exact Nat.div_add_mod _ _, HG.out.hi, HG.out.cap, ?_, by rw [World.drewN_drewN]⟩
      · rw [B_eq]; simp
      · rw [B_eq]; simp
      · have := Nat.mod_lt (un * B + u1) (show v1 > 0 by omega); omega
    case round =>
      obtain ⟨Q, R, z, rfl, rfl, hi, hQ, hQ1, hR, rfl⟩ := hrel
      have HI := Lib.hid hi
      have HQ := Lib.hid hQ
      clear hi hQ
      have hdn : U / V < Q → (Q - 1) * v1 + (R + v1) = un * B + u1 := fun h => by
        have := HI.out
        obtain ⟨p, rfl⟩ : ∃ p, Q = p + 1 := ⟨Q - 1, by have := Nat.lt_of_le_of_lt (Nat.zero_le _) h; omega⟩
        rw [Nat.add_mul, Nat.one_mul] at this
        rw [Nat.add_sub_cancel]; omega
      have HDN := Lib.hid hdn
      clear hdn
      by_cases hbig : (4294967295 : Int) < (Q : Int)
      · have hlt : U / V < Q := by have := HG.out.lt; rw [B_eq] at this; omega
        have hQ0 : 0 < Q := Nat.lt_of_le_of_lt (Nat.zero_le _) hlt
        have HLT := Lib.hid hlt
        clear hlt
        go_wp2
        go_quiet (fail)
        go_wp2
        · go_meet
          refine ⟨Q - 1, R + v1, z + nq, by go_num, by go_num, Nat.le_sub_one_of_lt HLT.out, ?_, rfl⟩
          refine HG.out.exit _ _ (HDN.out HLT.out) ?_ (by rw [B_eq]; omega)
          have h1 : (Q - 1) * v2 ≤ B * B := Nat.mul_le_mul (by rw [B_eq]; omega) (by rw [B_eq]; omega)
          have h2 : B * B ≤ (R + v1) * B := Nat.mul_le_mul_right _ (by rw [B_eq]; omega)
          omega
        · go_roundw
          case rel => exact ⟨Q - 1, R + v1, z + nq, by go_num, by go_num, HDN.out HLT.out, Nat.le_sub_one_of_lt HLT.out, by omega, by omega, rfl⟩
          case measure => simp [intOf]; omega
      · have hbig' : decide ((4294967295 : Int) < (Q : Int)) = false := by simp; omega
        have hor2 := or_limb (r := R) (d := u2) hR bu2
        have p0 : (0 : Int) ≤ (Q : Int) * (v2 : Int) := by rw [← Int.natCast_mul]; omega
        have p1 : (Q : Int) * (v2 : Int) ≤ 18446744065119617025 := by
          have := (mul_carry (x := Q) (y := v2) (z := 0) (c := 0) (by omega) bv2 (by omega) (by omega)).2
          rw [← Int.natCast_mul]; omega
        by_cases htest : (R : Int) * 4294967296 + (u2 : Nat) < (Q : Int) * (v2 : Int)
        · have hlt : U / V < Q := HG.out.dec Q R HI.out (by
            rw [B_eq]; apply Int.ofNat_lt.1; simp only [Int.natCast_add, Int.natCast_mul]; exact htest)
          have hQ0 : 0 < Q := Nat.lt_of_le_of_lt (Nat.zero_le _) hlt
          have HLT := Lib.hid hlt
          clear hlt
          go_wp2
          go_quiet (fail)
          go_wp2
          · go_meet
            refine ⟨Q - 1, R + v1, z + nq, by go_num, by go_num, Nat.le_sub_one_of_lt HLT.out, ?_, rfl⟩
            refine HG.out.exit _ _ (HDN.out HLT.out) ?_ (by rw [B_eq]; omega)
            have h1 : (Q - 1) * v2 ≤ B * B := Nat.mul_le_mul (by rw [B_eq]; omega) (by rw [B_eq]; omega)
            have h2 : B * B ≤ (R + v1) * B := Nat.mul_le_mul_right _ (by rw [B_eq]; omega)
            omega
          · go_roundw
            case rel => exact ⟨Q - 1, R + v1, z + nq, by go_num, by go_num, HDN.out HLT.out, Nat.le_sub_one_of_lt HLT.out, by omega, by omega, rfl⟩
            case measure => simp [intOf]; omega
        · have htest' : decide ((R : Int) * 4294967296 + (u2 : Nat) < (Q : Int) * (v2 : Int)) = false := by simp; omega
          go_wp2
          go_quiet (fail)
          go_wp2
          go_meet
          refine ⟨Q, R, z + nq, rfl, rfl, HQ.out, HG.out.exit _ _ HI.out ?_ (by rw [B_eq]; omega), by rw [World.drewN_drewN]⟩
          rw [B_eq]; apply Int.ofNat_le.1; simp only [Int.natCast_add, Int.natCast_mul]; first | exact htest | exact Int.not_lt.1 htest
  case rest =>
    obtain ⟨Q, R, z, rfl, rfl, hQ1, hQ2, rfl⟩ := hcut
    have HQ1 := Lib.hid hQ1
    have HQ2 := Lib.hid hQ2
    have hQB : Q ≤ 4294967296 := by have := HG.out.lt; rw [B_eq] at this; omega
    clear hQ1 hQ2 cu1 cu2 cv1 cv2 iv1 iv2 hor1 b1 b2 b3
    have hrow0 := hrow.drewN z
    have HC := Lib.hid cun
    clear cun
    go_wp2
    go_loopw [9, 10, 86] (fun c s i wr => ∃ k W cc ss : Nat, k ≤ n ∧ i = .int .i64 k ∧ c = .int .u64 cc ∧ s = .int .u64 ss ∧ cc < 4294967296 ∧ ss ≤ 1 ∧ Row wr g N 22 (L + W * B ^ o) ∧ W < B ^ (n + 1) ∧ dig W n = un ∧
      W + Q * (V % B ^ k) = U + (cc + ss) * B ^ k ∧ w.grownBy wr (some g)) (fun _ _ i _ => n - (intOf i).toNat)
    case atStart => exact ⟨0, U, 0, 0, by omega, rfl, rfl, rfl, by omega, by omega, hrow0, hUn, HF.out.1.symm, by rw [mod_zero_pow]; simp, only_draws (only_refl _ _) _⟩
    case round =>
      clear hrow0
      obtain ⟨k, W, cc, ss, hk, rfl, rfl, rfl, hcc, hss, hroww, hW, hWn, hinv, hon⟩ := hrel
      have HI := Lib.hid hinv
      have HWn := Lib.hid hWn
      clear hinv hWn
      have hv' := hv.only hon hva
      by_cases hlt : k < n
      · have c1 := hv'.cell k hlt
        have i1 := hv'.idx 23 und siz k hlt
        have hd1 := dig_lt V k
        have hd2 := dig_lt W k
        have c3 := hroww.cell (o + k) (by omega)
        rw [dig_hi hL] at c3
        have f3 := hroww.free (o + k)
        obtain ⟨x, hx⟩ : ∃ x, x = dig V k := ⟨_, rfl⟩
        obtain ⟨t, ht⟩ : ∃ t, t = dig W k := ⟨_, rfl⟩
        rw [← hx] at c1 hd1
        rw [← ht] at c3 hd2
        have HX := Lib.hid hx
        have HT := Lib.hid ht
        clear hx ht
        obtain ⟨tc1, tc2⟩ := take_carry (b := 4294967296) hQB hd1 hcc
        have p0 : (0 : Int) ≤ (Q : Int) * (x : Int) := by rw [← Int.natCast_mul]; omega
        have p1 : (Q : Int) * (x : Int) + (cc : Nat) < 18446744073709551616 := by
          rw [← Int.natCast_mul, ← Int.natCast_add]; omega
        have HTC := Lib.hid tc2
        clear tc1 tc2
        go_wp2
        obtain ⟨p, hp⟩ : ∃ p, p = Q * x + cc := ⟨_, rfl⟩
        have hpI : (Q : Int) * (x : Int) + (cc : Nat) = ((p : Nat) : Int) := by rw [hp]; simp
        have hpc := HTC.out
        rw [← hp] at hpc
        have ws := word_sub (t := (t : Int)) (r := (p : Int) % 4294967296) (s := (ss : Int)) (by omega) (by omega) (by omega) (by omega) (by omega) (by omega)
        obtain ⟨s2, hs2⟩ : ∃ s2 : Nat, (s2 : Int) = if (t : Int) - (p : Int) % 4294967296 - (ss : Int) < 0 then 1 else 0 := by
          split
          · exact ⟨1, rfl⟩
          · exact ⟨0, rfl⟩
        obtain ⟨d, hd⟩ : ∃ d : Nat, (d : Int) = ((t : Int) - (p : Int) % 4294967296 - (ss : Int)) % 4294967296 := ⟨(((t : Int) - (p : Int) % 4294967296 - (ss : Int)) % 4294967296).toNat, by omega⟩
        go_roundw
        case rel =>
          rw [hpI, ws.1, ws.2, ← hs2, ← hd]
          refine ⟨k + 1, setd W k d, p / 4294967296, s2, by omega, by go_num, rfl, rfl, hpc, by omega, ?_, setd_lt (by rw [B_eq]; omega) (by omega) hW, ?_, ?_, only_set hon _ _⟩
          · rw [← setd_hi hL]; exact hroww.store (o + k) d (by omega) (by omega)
          · rw [dig_setd_other (by rw [B_eq]; omega) (by omega)]; exact HWn.out
          · rw [mod_succ, Bpow_succ, ← HX.out]
            refine take_step (b := B) (t := t) (T := (t : Int) - (p : Int) % 4294967296 - (ss : Int)) HI.out hp (by rw [B_eq]; rfl) ?_ hss (by rw [B_eq]; exact hd2) hs2
            have v := setd_val W k d
            rw [← HT.out] at v
            rw [show ((B : Nat) : Int) = 4294967296 from rfl, ← hd]
            exact_mod_cast v
        case measure => simp [intOf]; omega
      · obtain rfl : k = n := by omega
        have hI := HI.out
        rw [mod_of_lt hv.lt] at hI
        have c3 := hroww.cell (o + k) (by omega)
        rw [dig_hi hL, HWn.out] at c3
        have f3 := hroww.free (o + k)
        have hlast := take_last hW HWn.out hI
        have hV0 : 0 < V := by
          rcases Nat.eq_zero_or_pos V with h | h
          · rw [h, Nat.zero_mul] at hUV; omega
          · exact h
        have HI := Lib.hid hI
        clear hI
        by_cases hneg : un < cc + ss
        · have hgt : U < Q * V := hlast.1 hneg
          have ws := word_sub (t := (un : Int)) (r := (cc : Int)) (s := (ss : Int)) (by omega) (by omega) (by omega) (by omega) (by omega) (by omega)
          have tb : (IntKind.u64.wrap (IntKind.u64.wrap ((un : Int) - cc) - ss) / 4294967296 % 2 == 0) = false := by
            rw [ws.2, if_pos (by omega)]; rfl
          obtain ⟨dd, hdd⟩ : ∃ dd : Nat, dd + (cc + ss) = un + 4294967296 := ⟨un + 4294967296 - (cc + ss), by omega⟩
          have v := setd_val W k dd
          rw [HWn.out] at v
          have HV := Lib.hid v
          have hd : dd < 4294967296 := by omega
          have hst := hroww.store (o + k) dd (by omega) hd
          rw [setd_hi hL] at hst
          have ew : Hid (IntKind.u64.wrap (IntKind.u64.wrap ((un : Int) - cc) - ss) % 4294967296 = ((dd : Nat) : Int)) := by
            show _ = _
            rw [ws.1]; omega
          have hW2 := setd_lt (x := W) (i := k) (d := dd) hd (by omega) hW
          have hon2 := only_set hon (o + k) (.int .u32 ((dd : Nat) : Int))
          have HDD := Lib.hid hdd
          generalize setd W k dd = W2 at *
          clear hdd
          clear hlast v ws hd hroww
          go_wp2
          go_loopw [9, 142] (fun c i wx => ∃ j S c2 : Nat, j ≤ k ∧ i = .int .i64 j ∧ c = .int .u64 c2 ∧ c2 ≤ 1 ∧ Row wx g N 22 (L + S * B ^ o) ∧ S < B ^ (k + 1) ∧ S + c2 * B ^ j = W2 + V % B ^ j ∧ w.grownBy wx (some g)) (fun _ i _ => k - (intOf i).toNat)
          case atStart => exact ⟨0, W2, 0, by omega, rfl, rfl, by omega, by rw [ew.out]; exact hst, hW2, by rw [mod_zero_pow, Nat.zero_mul], by rw [ew.out]; exact hon2⟩
          case round =>
            clear hst hon2 c3 f3 hW2
            obtain ⟨j, S, c2, hj, rfl, rfl, hc2, hrs, hS, hiS, honS⟩ := hrel
            have HIS := Lib.hid hiS
            clear hiS
            have hvS := hv.only honS hva
            by_cases hlt : j < k
            · have c1 := hvS.cell j hlt
              have i1 := hvS.idx 23 und siz j hlt
              have hd1 := dig_lt V j
              have hd2 := dig_lt S j
              have c3 := hrs.cell (o + j) (by omega)
              rw [dig_hi hL] at c3
              have f3 := hrs.free (o + j)
              go_wp2
              obtain ⟨T, hT⟩ : ∃ T, T = dig S j + dig V j + c2 := ⟨_, rfl⟩
              have hTI : ((dig S j : Nat) : Int) + (dig V j : Nat) + (c2 : Nat) = ((T : Nat) : Int) := by rw [hT]; simp
              have hTB : T / B ≤ 1 := by rw [B_eq]; omega
              have hTm : T % B < 4294967296 := Nat.mod_lt _ B_pos
              have v := setd_val S j (T % B)
              go_roundw
              case rel =>
                rw [hTI]
                refine ⟨j + 1, setd S j (T % B), T / B, by omega, by go_num, by rw [B_eq]; rfl, hTB, ?_, setd_lt hTm (by omega) hS, ?_, only_set honS _ _⟩
                · rw [← setd_hi hL]; exact hrs.store (o + j) (T % B) (by omega) hTm
                · rw [mod_succ, Bpow_succ]; exact back_step HIS.out hT v
              case measure => simp [intOf]; omega
            · obtain rfl : j = k := by omega
              have hiS := HIS.out
              rw [mod_of_lt hv.lt] at hiS
              have hback := take_back HI.out HDD.out HV.out HQ2.out hgt hV0 hv.lt hiS hS
              have c3 := hrs.cell (o + j) (by omega)
              rw [dig_hi hL] at c3
              have f3 := hrs.free (o + j)
              have hd2 := dig_lt S j
              have hQ1' : 1 ≤ Q := by rw [hback.1]; exact Nat.le_add_left _ _
              have HB := Lib.hid hback
              clear hback hiS hgt
              go_wp2
              go_ret
              have hb := HB.out
              have e1 : (Q : Int) - 1 = ((U / V : Nat) : Int) := by rw [hb.1]; simp
              have e2 : (((dig S j : Nat) : Int) + (c2 : Nat)) % 4294967296 = (((dig S j + c2) % B : Nat) : Int) := by rw [B_eq]; rfl
              refine ⟨congrArg (fun q : Int => Ending.returned (.int .u32 q)) e1, ?_, only_set honS _ _⟩
              rw [e2, ← hb.2, ← setd_hi hL]
              exact hrs.store (o + j) _ (by omega) (Nat.mod_lt _ B_pos)
        · have hle : Q * V ≤ U := Nat.not_lt.1 fun h => hneg (hlast.2 h)
          have v := setd_val W k (un - (cc + ss))
          rw [HWn.out] at v
          have hdone := take_done HI.out (Nat.not_lt.1 hneg) v HQ1.out hle hV0
          have hQs : Q ≤ 4294967295 := by
            have := HG.out.lt
            rw [← hdone.1, B_eq] at this; omega
          have HD := Lib.hid hdone
          clear hlast v hdone hle
          have tb : ((((un : Int) - cc - ss) / 4294967296 % 2) == 0) = true := by rw [beq_iff_eq]; omega
          go_wp2
          go_ret
          refine ⟨congrArg (fun q : Nat => Ending.returned (.int .u32 q)) HD.out.1, ?_, only_set hon _ _⟩
          have e : ((un : Int) - cc - ss) % 4294967296 = ((un - (cc + ss) : Nat) : Int) := by omega
          rw [e, ← HD.out.2, ← setd_hi hL]
          exact hroww.store (o + k) _ (by omega) (by omega)
end Go.Proofs.YtjhngehajahbnaaDoor

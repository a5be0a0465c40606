/-
  Walks: package sparsegen: Mod, Word, Small, Num.
-/
import Derived.Test.YtablcbgeeeboeaaGreatDoorZhTk
import Derived.Test.YtablcbgeeeboeaaGreatDoorZhRy
import Derived.Test.YtablcbgeeeboeaaGreatDoorZhS3
import Derived.Test.YtablcbgeeeboeaaGreatDoorZhBe
import Derived.Test.YtablcbgeeeboeaaGreatDoorZhGi
set_option maxRecDepth 100000
set_option maxHeartbeats 20000000
namespace Go.Proofs.YtablcbgeeeboeaaGreatDoor
open Go.RowKit Sp
theorem zP9 : Tryz.prog.underlying 22 = some (.slice (Tryz.prog.elem 22)) := by kernel_rfl
theorem zPh (w : World) : (Go.sizeOf (Tryz.prog.elem 22)).run Tryz.prog w = .ok 1 w := by kernel_rfl
theorem Fls.idxU {w : World} {a : Option Addr} {n cap : Nat} {L : Nat → Nat} (h : Fls w a n cap L) (i : Nat) (hi : i < n) (W : World) :
 (Instr.indexAt 22 (.slice a n cap) (.int .i64 i)).run Tryz.prog W = .ok (.pointer (some ⟨ab a, ao a + i, none⟩)) W := by
 have ha := h.addr (by omega)
 generalize ab a = b at *
 generalize ao a = o at *
 subst ha
 rw [run_indexAt_slice _ _ _ _ _ _ _ zP9, if_pos ⟨by omega, by omega⟩, zPh]
 simp only [Result.andThen, Int.toNat_natCast, Nat.mul_one, Addr.add_lit]
theorem bx {op : BinOp} (x y : Int) : (bits op .u64 x y).toNat < 18446744073709551616 := by have := bits_lo_u64 op x y; have := bits_hi_u64 op x y; omega
theorem zPw {op : BinOp} (x y : Int) : (((bits op .u64 x y).toNat : Nat) : Int) = bits op .u64 x y := by have := bits_lo_u64 op x y; omega
theorem zKD {op : BinOp} {x y : Int} {w : World} : ∃ z : Nat, z < 18446744073709551616 ∧ Ending.returned (.int .u64 (bits op .u64 x y)) = .returned (.int .u64 ((z : Nat) : Int)) ∧ w = w := ⟨_, bx x y, by rw [zPw], rfl⟩
def Sty (s : Int) (y : Nat) : Prop := y < 18446744073709551616 ∧ zB0 y = true ∧ (zDE s 4 ≠ 3 → fM y < 4791830003522207744)
theorem zMU {x e K : Nat} (hK : K % 9223372036854775808 < 4503599627370496) (hK2 : K < 18446744073709551616) (he : e < 2000) : ((x &&& K) ||| (e * 4503599627370496)) < 18446744073709551616 ∧ zB0 ((x &&& K) ||| (e * 4503599627370496)) = true ∧ fM ((x &&& K) ||| (e * 4503599627370496)) < (e + 1) * 4503599627370496 := by
 have h1 : x &&& K ≤ K := Nat.and_le_right
 have h2 : ((x &&& K) ||| (e * 4503599627370496)) < 2 ^ 64 := Nat.or_lt_two_pow (by omega) (by omega)
 have key : fM ((x &&& K) ||| (e * 4503599627370496)) < (e + 1) * 4503599627370496 := ?_
 · exact ⟨h2, decide_eq_true (by omega), key⟩
 show ((x &&& K) ||| (e * 4503599627370496)) % 2 ^ 63 < _
 rw [Nat.or_mod_two_pow, Nat.and_mod_two_pow]
 have h3 : (x % 2 ^ 63) &&& (K % 2 ^ 63) ≤ K % 2 ^ 63 := Nat.and_le_right
 have h4 : e * 4503599627370496 % 2 ^ 63 = e * 4503599627370496 := Nat.mod_eq_of_lt (by omega)
 rw [h4, Nat.or_comm, Nat.mul_comm e, show (4503599627370496 : Nat) = 2 ^ 52 from rfl, ← Nat.two_pow_add_eq_or_of_lt (by omega)]
 omega
theorem zNF {s : Int} {x : Nat} (hx : x < 18446744073709551616) {P : Prop} (hP : P) : ∃ y : Nat, Sty s y ∧
 Ending.returned (.int .u64 (bits .or .u64 (bits .and .u64 (x : Int) 9227875636482146303) (IntKind.u64.wrap (IntKind.u64.wrap (1019 + bits .and .u64 ((x : Int) / 4503599627370496) 7) * 4503599627370496)))) = .returned (.int .u64 ((y : Nat) : Int)) ∧ P := by
 have h7 : x / 4503599627370496 &&& 7 ≤ 7 := Nat.and_le_right
 obtain ⟨h1, h2, h3⟩ := zMU (x := x) (e := 1019 + (x / 4503599627370496 &&& 7)) (K := 9227875636482146303) (by decide) (by decide) (by omega)
 refine ⟨_, ⟨h1, h2, fun _ => by omega⟩, ?_, hP⟩
 have e1 := bits_and_u64_nat (x / 4503599627370496) 7 (by omega) (by omega)
 have e2 := bits_and_u64_nat x 9227875636482146303 hx (by omega)
 have e3 := bits_or_u64_nat (x &&& 9227875636482146303) ((1019 + (x / 4503599627370496 &&& 7)) * 4503599627370496) (by have : x &&& 9227875636482146303 ≤ 9227875636482146303 := Nat.and_le_right; omega) (by omega)
 rw [← e3, ← e2]
 have e4 : ((x / 4503599627370496 : Nat) : Int) = (x : Int) / 4503599627370496 := by omega
 rw [e4] at e1
 rw [show ((7 : Nat) : Int) = 7 from rfl] at e1
 rw [e1, show ((9227875636482146303 : Nat) : Int) = 9227875636482146303 from rfl]
 have e5 : IntKind.u64.wrap (IntKind.u64.wrap (1019 + ((x / 4503599627370496 &&& 7 : Nat) : Int)) * 4503599627370496) = (((1019 + (x / 4503599627370496 &&& 7)) * 4503599627370496 : Nat) : Int) := by
  rw [IntKind.wrap_u64, IntKind.wrap_u64]; omega
 rw [e5]
theorem zNE {s : Int} {x : Nat} (hx : x < 18446744073709551616) {P : Prop} (hP : P) : ∃ y : Nat, Sty s y ∧
 Ending.returned (.int .u64 (bits .or .u64 (bits .and .u64 (x : Int) 9225623836668461056) ((983 + (x : Int) / 256 % 81) * 4503599627370496))) = .returned (.int .u64 ((y : Nat) : Int)) ∧ P := by
 obtain ⟨h1, h2, h3⟩ := zMU (x := x) (e := 983 + x / 256 % 81) (K := 9225623836668461056) (by decide) (by decide) (by omega)
 refine ⟨_, ⟨h1, h2, fun _ => by omega⟩, ?_, hP⟩
 have e2 := bits_and_u64_nat x 9225623836668461056 hx (by omega)
 have e3 := bits_or_u64_nat (x &&& 9225623836668461056) ((983 + x / 256 % 81) * 4503599627370496) (by have : x &&& 9225623836668461056 ≤ 9225623836668461056 := Nat.and_le_right; omega) (by omega)
 rw [← e3, ← e2]
 have e5 : (983 + (x : Int) / 256 % 81) * 4503599627370496 = (((983 + x / 256 % 81) * 4503599627370496 : Nat) : Int) := by omega
 rw [e5]; rfl
theorem zJg {r : Int} (h0 : -9 ≤ r) (h1 : r ≤ 9) : zB0 (zAF (nrm r 0) 0) = true ∧ zAF (nrm r 0) 0 < 18446744073709551616 ∧ fM (zAF (nrm r 0) 0) < 4791830003522207744 := by
 have : ∀ k : Fin 19, zB0 (zAF (nrm ((k.val : Int) - 9) 0) 0) = true ∧ zAF (nrm ((k.val : Int) - 9) 0) 0 < 18446744073709551616 ∧ fM (zAF (nrm ((k.val : Int) - 9) 0) 0) < 4791830003522207744 := by decide +kernel
 have h := this ⟨(r + 9).toNat, by omega⟩
 have e : (((r + 9).toNat : Nat) : Int) - 9 = r := by omega
 rw [show ((⟨(r + 9).toNat, by omega⟩ : Fin 19).val : Int) - 9 = r from e] at h
 exact h
attribute [local irreducible] Calls
theorem zCG (w : World) (a n : Int) (hn0 : 1 ≤ n) (hn1 : n ≤ 9223372036854775807) :
 Calls Tryz.prog 12 #[.int .i64 a, .int .i64 n] w fun o w' => o = .returned (.int .i64 (zDE a n)) ∧ w = w' := by
 have hw : IntKind.u64.wrap a = a % 18446744073709551616 := by rw [IntKind.wrap_u64]
 obtain ⟨u, hu⟩ : ∃ u, u = a % 18446744073709551616 := ⟨_, rfl⟩
 have hp : zDE a n = u % n := by unfold zDE; rw [← hu]
 have hu0 : 0 ≤ u := by omega
 have hu1 : u ≤ 18446744073709551615 := by omega
 rw [← hu] at hw
 rw [hp]
 have hr0 := Int.emod_nonneg u (show n ≠ 0 by omega)
 have hr1 := Int.emod_lt_of_pos u (show 0 < n by omega)
 clear hu hp
 go_enter Tryz.func12, Tryz.ntmps12
 go_wp2
 go_ret
 exact ⟨rfl, rfl⟩
theorem zEK (a : Int) (n : Nat) (h : 0 < n) : ∃ k : Nat, zDE a n = (k : Int) ∧ k < n := by
 have h1 := Int.emod_nonneg (a % 18446744073709551616) (show ((n : Nat) : Int) ≠ 0 by omega)
 have h2 := Int.emod_lt_of_pos (a % 18446744073709551616) (show 0 < ((n : Nat) : Int) by omega)
 exact ⟨(zDE a n).toNat, by unfold zDE; omega, by unfold zDE; omega⟩
theorem zGm (w : World) (a : Option Addr) (n cap : Nat) (L : Nat → Nat) (hL : Fls w a n cap L) (k : Int) (hk0 : 0 ≤ k) (hk : k ≤ 1000000) :
 Calls Tryz.prog 26 #[.slice a n cap, .int .i64 k] w fun o w' => ∃ x : Nat, x < 18446744073709551616 ∧ o = .returned (.int .u64 ((x : Nat) : Int)) ∧ w = w' := by
 have l1 := hL.lim
 have l2 := hL.fits
 by_cases h0 : 0 < n
 · obtain ⟨j, hj, hjn⟩ := zEK k n h0
   have HM := fun W => Lib.hid (zCG W k n (by omega) (by omega))
   rw [hj] at HM
   have k0 := hL.cell j hjn
   have i0 := hL.idxU j hjn
   clear hj
   generalize ((L j : Nat) : Int) = y at *
   go_enter Tryz.func26, Tryz.ntmps26
   go_wp2_with fail
   refine (HM _).out.mono ?_; rintro o w1 ⟨rfl, rfl⟩; go_wp2_with fail
   go_ret
   exact zKD
 · obtain rfl : n = 0 := by omega
   go_enter Tryz.func26, Tryz.ntmps26
   go_wp2_with fail
   go_ret
   exact zKD
theorem zIG (w : World) (x : Nat) (hx : x < 18446744073709551616) (hT : Tab w) :
 Calls Tryz.prog 65 #[.int .u64 x] w fun o w' => ∃ y : Nat, (y < 18446744073709551616 ∧ zB0 y = true ∧ fM y < 4791830003522207744) ∧ o = .returned (.int .u64 ((y : Nat) : Int)) ∧ Below w.heap.size w w' := by
 obtain ⟨r, hr⟩ : ∃ r : Int, r = ((x : Nat) : Int) % 19 - 9 := ⟨_, rfl⟩
 have hr0 : -9 ≤ r := by omega
 have hr1 : r ≤ 9 := by omega
 obtain ⟨y, hy⟩ : ∃ y, y = zAF (nrm r 0) 0 := ⟨_, rfl⟩
 have hf : zB0 y = true ∧ y < 18446744073709551616 ∧ fM y < 4791830003522207744 := by rw [hy]; exact zJg hr0 hr1
 have HF := fun W [Tb W] => Lib.hid (frm (zFf W r 0 (by omega) (by omega) tb))
 rw [← hy] at HF
 haveI HT : Tb w := ⟨hT⟩
 clear hy
 subst hr
 go_enter Tryz.func65, Tryz.ntmps65
 go_wp2_with fail
 refine (HF _).out.mono ?_; rintro o w1 ⟨rfl, b1⟩; go_wp2_with fail
 go_ret
 exact ⟨_, ⟨hf.2.1, hf.1, hf.2.2⟩, rfl, zbh⟩
theorem zHO (w : World) (x : Nat) (hx : x < 18446744073709551616) (s : Int) (hT : Tab w) :
 Calls Tryz.prog 25 #[.int .u64 x, .int .i64 s] w fun o w' => ∃ y : Nat, Sty s y ∧ o = .returned (.int .u64 ((y : Nat) : Int)) ∧ Below w.heap.size w w' := by
 obtain ⟨k, hk, hk4⟩ := zEK s 4 (by omega)
 have HM := fun W => Lib.hid (zCG W s 4 (by omega) (by omega))
 have HS := fun W [Tb W] => Lib.hid ((zIG W x hx tb).mono fun _ _ ⟨y, h1, h3, h4⟩ => (⟨y, h1, h3, ⟨h4⟩⟩ : ∃ y : Nat, (y < 18446744073709551616 ∧ zB0 y = true ∧ fM y < 4791830003522207744) ∧ _ = Ending.returned (.int .u64 ((y : Nat) : Int)) ∧ From W _))
 have HI := fun W => Lib.hid (zCi W x)
 haveI HT : Tb w := ⟨hT⟩
 rw [show ((4 : Nat) : Int) = 4 from rfl] at hk
 rw [hk] at HM
 have HK := Lib.hid hk
 clear hk
 rcases (show k = 1 ∨ k = 2 ∨ k = 3 ∨ k = 0 by omega) with rfl | rfl | rfl | rfl
 · go_enter Tryz.func25, Tryz.ntmps25
   go_wp2_with fail
   refine (HM _).out.mono ?_; rintro o w1 ⟨rfl, rfl⟩; go_wp2_with fail
   go_ret
   exact zNF hx (Below.refl w.heap.size w)
 · go_enter Tryz.func25, Tryz.ntmps25
   go_wp2_with fail
   refine (HM _).out.mono ?_; rintro o w1 ⟨rfl, rfl⟩; go_wp2_with fail
   go_ret
   exact zNE hx (Below.refl w.heap.size w)
 · cases hf : zB0 x with
   | true =>
    rw [hf] at HI
    go_enter Tryz.func25, Tryz.ntmps25
    go_wp2_with fail
    refine (HM _).out.mono ?_; rintro o w1 ⟨rfl, rfl⟩; go_wp2_with fail
    refine (HI _).out.mono ?_; rintro o w1 ⟨rfl, rfl⟩; go_wp2_with fail
    go_ret
    exact ⟨x, ⟨hx, hf, fun h => absurd HK.out h⟩, rfl, zbh⟩
   | false =>
    rw [hf] at HI
    go_enter Tryz.func25, Tryz.ntmps25
    go_wp2_with fail
    refine (HM _).out.mono ?_; rintro o w1 ⟨rfl, rfl⟩; go_wp2_with fail
    refine (HI _).out.mono ?_; rintro o w1 ⟨rfl, rfl⟩; go_wp2_with fail
    go_ret
    exact ⟨0, ⟨by omega, by decide, fun _ => by decide⟩, rfl, zbh⟩
 · go_enter Tryz.func25, Tryz.ntmps25
   go_wp2_with fail
   refine (HM _).out.mono ?_; rintro o w1 ⟨rfl, rfl⟩; go_wp2_with fail
   refine (HS _).out.mono ?_; rintro o w1 ⟨y, hy, rfl, b1⟩; go_wp2_with fail
   go_ret
   exact ⟨y, ⟨hy.1, hy.2.1, fun _ => hy.2.2⟩, rfl, zbh⟩
end Go.Proofs.YtablcbgeeeboeaaGreatDoor
set_option maxRecDepth 100000
set_option maxHeartbeats 20000000
namespace Go.Proofs.YtablcbgeeeboeaaGreatDoor
open Go.RowKit Sp
def szE (r c : Int) (n : Nat) : Int := if r < 0 ∨ c < 0 then 5 else if 64 < r ∨ 64 < c then 6 else if (n : Int) = r * c then 0 else 2
theorem zMA {r c : Int} (h0 : ¬ r < 0) (h1 : ¬ c < 0) (h2 : ¬ 64 < r) (h3 : ¬ 64 < c) : 0 ≤ r * c ∧ r * c ≤ 4096 :=
 ⟨Int.mul_nonneg (by omega) (by omega), by have := Int.mul_le_mul (show r ≤ 64 by omega) (show c ≤ 64 by omega) (by omega) (by omega); omega⟩
def zD3 (r c : Int) (n : Nat) (bad : Bool) : Int := if szE r c n = 0 then (if bad then 4 else 0) else szE r c n
theorem Dys.ce {w : World} {a : Option Addr} {n cap : Nat} {L : Nat → El} (h : Dys w a n cap L) {i : Nat} (hi : i < n) :
 CE w (ab a) (ao a + i * 4) (.bool (L i).bd) ∧ CE w (ab a) (ao a + i * 4 + 1) (.bool (L i).s) ∧ CE w (ab a) (ao a + i * 4 + 2) (.slice (L i).a (L i).n (L i).p) ∧ CE w (ab a) (ao a + i * 4 + 3) (.int .i64 (L i).e) := by
 have hl := h.old (by omega)
 exact ⟨⟨h.c0 i hi, hl⟩, ⟨h.c1 i hi, hl⟩, ⟨h.c2 i hi, hl⟩, ⟨h.c3 i hi, hl⟩⟩
def ElB (L : Nat → El) (n : Nat) : Prop := ∀ i, i < n → (L i).n ≤ 549755813888 ∧ zA4 (L i).x ≤ 1048576
theorem zEw {d : Nat → Option (Int × Int)} {n k : Nat} (hk : k < n) (h : zA3 (d k) = true) : zA5 d n = true := (zCe d n).2 ⟨k, hk, h⟩
attribute [local irreducible] Calls
theorem zDy (w : World) (r c : Int) (n : Nat) :
 Calls Tryz.prog 66 #[.int .i64 r, .int .i64 c, .int .i64 n] w fun o w' => o = .returned (.int .i64 (szE r c n)) ∧ w = w' := by
 obtain ⟨E, hE⟩ : ∃ E, E = szE r c n := ⟨_, rfl⟩
 rw [← hE]
 unfold szE at hE
 by_cases h1 : r < 0
 · rw [if_pos (Or.inl h1)] at hE; subst hE
   go_enter Tryz.func66, Tryz.ntmps66
   go_wp2_with fail
   go_ret
   exact ⟨rfl, rfl⟩
 by_cases h2 : c < 0
 · rw [if_pos (Or.inr h2)] at hE; subst hE
   go_enter Tryz.func66, Tryz.ntmps66
   go_wp2_with fail
   go_ret
   exact ⟨rfl, rfl⟩
 rw [if_neg (by omega)] at hE
 by_cases h3 : 64 < r
 · rw [if_pos (Or.inl h3)] at hE; subst hE
   go_enter Tryz.func66, Tryz.ntmps66
   go_wp2_with fail
   go_ret
   exact ⟨rfl, rfl⟩
 by_cases h4 : 64 < c
 · rw [if_pos (Or.inr h4)] at hE; subst hE
   go_enter Tryz.func66, Tryz.ntmps66
   go_wp2_with fail
   go_ret
   exact ⟨rfl, rfl⟩
 rw [if_neg (by omega)] at hE
 obtain ⟨m0, m1⟩ := zMA h1 h2 h3 h4
 obtain ⟨p, hp⟩ : ∃ p, p = r * c := ⟨_, rfl⟩
 rw [← hp] at hE m0 m1
 have hw : wrap64 (r * c) = p := by rw [← hp]; unfold wrap64; omega
 clear hp
 by_cases h5 : (n : Int) = p
 · rw [if_pos h5] at hE; subst hE
   have hq : ((n : Int) != p) = false := by rw [h5]; simp
   go_enter Tryz.func66, Tryz.ntmps66
   go_wp2_with fail
   go_ret
   exact ⟨rfl, rfl⟩
 · rw [if_neg h5] at hE; subst hE
   have hq : ((n : Int) != p) = true := by rw [bne_iff_ne]; exact h5
   go_enter Tryz.func66, Tryz.ntmps66
   go_wp2_with fail
   go_ret
   exact ⟨rfl, rfl⟩
theorem zDr (w : World) (r c : Int) (n : Nat) :
 Calls Tryz.prog 68 #[.int .i64 r, .int .i64 c, .int .i64 n] w fun o w' => o = .returned (.int .i64 (szE r c n)) ∧ w = w' := by
 obtain ⟨E, hE⟩ : ∃ E, E = szE r c n := ⟨_, rfl⟩
 rw [← hE]
 unfold szE at hE
 by_cases h1 : r < 0
 · rw [if_pos (Or.inl h1)] at hE; subst hE
   go_enter Tryz.func68, Tryz.ntmps68
   go_wp2_with fail
   go_ret
   exact ⟨rfl, rfl⟩
 by_cases h2 : c < 0
 · rw [if_pos (Or.inr h2)] at hE; subst hE
   go_enter Tryz.func68, Tryz.ntmps68
   go_wp2_with fail
   go_ret
   exact ⟨rfl, rfl⟩
 rw [if_neg (by omega)] at hE
 by_cases h3 : 64 < r
 · rw [if_pos (Or.inl h3)] at hE; subst hE
   go_enter Tryz.func68, Tryz.ntmps68
   go_wp2_with fail
   go_ret
   exact ⟨rfl, rfl⟩
 by_cases h4 : 64 < c
 · rw [if_pos (Or.inr h4)] at hE; subst hE
   go_enter Tryz.func68, Tryz.ntmps68
   go_wp2_with fail
   go_ret
   exact ⟨rfl, rfl⟩
 rw [if_neg (by omega)] at hE
 obtain ⟨m0, m1⟩ := zMA h1 h2 h3 h4
 obtain ⟨p, hp⟩ : ∃ p, p = r * c := ⟨_, rfl⟩
 rw [← hp] at hE m0 m1
 have hw : wrap64 (r * c) = p := by rw [← hp]; unfold wrap64; omega
 clear hp
 by_cases h5 : (n : Int) = p
 · rw [if_pos h5] at hE; subst hE
   have hq : ((n : Int) != p) = false := by rw [h5]; simp
   go_enter Tryz.func68, Tryz.ntmps68
   go_wp2_with fail
   go_ret
   exact ⟨rfl, rfl⟩
 · rw [if_neg h5] at hE; subst hE
   have hq : ((n : Int) != p) = true := by rw [bne_iff_ne]; exact h5
   go_enter Tryz.func68, Tryz.ntmps68
   go_wp2_with fail
   go_ret
   exact ⟨rfl, rfl⟩
theorem zFB (w : World) (r c : Int) (a : Option Addr) (n cap : Nat) (L : Nat → El) (hL : Dys w a n cap L) (hE : szE r c n ≠ 0) :
 Calls Tryz.prog 27 #[.agg #[.int .i64 r, .int .i64 c, .slice a n cap]] w fun o w' => o = .returned (.int .i64 (szE r c n)) ∧ Below w.heap.size w w' := by
 have l1 := hL.lim
 have l2 := hL.fits
 have HS := fun W => Lib.hid (frw (zDy W r c n))
 generalize szE r c n = E at *
 clear hL
 go_enter Tryz.func27, Tryz.ntmps27
 go_wp2_with fail
 refine (HS _).out.mono ?_; rintro o w2 ⟨rfl, b2⟩
 go_wp2_with fail
 go_ret
 exact ⟨rfl, zbh⟩
theorem zAw (w : World) (hT : Tab w) (r c : Int) (a : Option Addr) (n cap : Nat) (L : Nat → El) (hL : Dys w a n cap L) (hB : ElB L n) :
 Calls Tryz.prog 27 #[.agg #[.int .i64 r, .int .i64 c, .slice a n cap]] w fun o w' => o = .returned (.int .i64 (zD3 r c n (zA5 (fun i => (L i).d) n))) ∧ Below w.heap.size w w' := by
 by_cases hE : szE r c n = 0
 · unfold zD3
   rw [if_pos hE]
   have l1 := hL.lim
   have l2 := hL.fits
   have hb := hL.b
   have HS := fun W => Lib.hid (frw (zDy W r c n))
   rw [hE] at HS
   have HV := fun k (hk : k < n) W [i : BI W (L k).a (L k).n (L k).p (L k).x] [Tb W] => Lib.hid (frm (zCJ W (L k).bd (L k).s (L k).a (L k).n (L k).p (L k).x (L k).e i.out (by have := (hB k hk).1; omega) tb (hB k hk).2 (zDC (hB k hk).2) (hb k hk).1 (hb k hk).2))
   haveI HT : Tb w := ⟨hT⟩
   have HD := Lib.hid hL
   obtain ⟨D, hD⟩ : ∃ D, D = fun i => (L i).d := ⟨_, rfl⟩
   have hDk : ∀ k, zFm (L k).bd (sgn (L k).s (L k).x) (L k).e = D k := fun k => by rw [hD]; rfl
   rw [← hD]
   simp only [hDk] at HV
   obtain ⟨E, hE1⟩ : ∃ E : Int, E = (if zA5 D n then 4 else 0) := ⟨_, rfl⟩
   rw [← hE1]
   have HE := Lib.hid hE1
   clear hE1
   clear hL hE hB hb hD hDk
   go_enter Tryz.func27, Tryz.ntmps27
   go_wp2_with fail
   refine (HS _).out.mono ?_; rintro o w2 ⟨rfl, b2⟩
   go_wp2_with fail
   have hw2 := Lib.hid (show Beh w w2 from inferInstance)
   go_loopw [20] (fun i wr => ∃ k : Nat, k ≤ n ∧ i = .int .i64 k ∧ zA5 D k = false ∧ Below w2.heap.size w2 wr) (fun i _ => n - (intOf i).toNat)
   case atStart => exact ⟨0, by omega, rfl, rfl, Below.refl _ _⟩
   case round =>
    obtain ⟨k, hk, rfl, hz, hbr⟩ := hrel
    haveI bw : From w2 wr := ⟨hbr⟩
    have hs := hbr.size
    have HZ := Lib.hid hz
    clear hbr hz
    by_cases hlt : k < n
    · have hLr := HD.out.below (w' := wr) zbh
      obtain ⟨z0, z1, z2, z3⟩ := hLr.ce hlt
      haveI zm : BI wr (L k).a (L k).n (L k).p (L k).x := ⟨hLr.m k hlt⟩
      have zi := hLr.idx k hlt
      have HVk := HV k hlt
      have HDk := Lib.hid (show zA3 (D k) = zA3 (D k) from rfl)
      clear hLr HV
      obtain ⟨v, hv⟩ : ∃ v, v = zA3 (D k) := ⟨_, rfl⟩
      rw [← hv] at HVk
      have HVV := Lib.hid hv
      clear hv
      cases v with
      | false =>
       go_wp2_with fail
       refine (HVk _).out.mono ?_; rintro o w3 ⟨rfl, b3⟩
       go_wp2_with fail
       go_roundw
       case rel => exact ⟨k + 1, by omega, by go_num, by show (zA5 D k || zA3 (D k)) = false; rw [HZ.out, ← HVV.out]; rfl, zbh⟩
       case measure => simp [intOf]; omega
      | true =>
       have e4 := Lib.hid (zEw hlt HVV.out.symm)
       go_wp2_with fail
       refine (HVk _).out.mono ?_; rintro o w3 ⟨rfl, b3⟩
       go_wp2_with fail
       go_ret
       exact ⟨by rw [HE.out, e4.out]; rfl, zbh⟩
    · obtain rfl : k = n := by omega
      go_wp2_with fail
      go_ret
      exact ⟨by rw [HE.out, HZ.out]; rfl, zbh⟩
 · unfold zD3
   rw [if_neg hE]
   exact zFB w r c a n cap L hL hE
theorem zFe (w : World) (r c : Int) (a : Option Addr) (n cap : Nat) (L : Nat → El) (hL : Dys w a n cap L) (hE : szE r c n ≠ 0) :
 Calls Tryz.prog 28 #[.agg #[.int .i64 r, .int .i64 c, .slice a n cap]] w fun o w' => o = .returned (.int .i64 (szE r c n)) ∧ Below w.heap.size w w' := by
 have l1 := hL.lim
 have l2 := hL.fits
 have HS := fun W => Lib.hid (frw (zDr W r c n))
 generalize szE r c n = E at *
 clear hL
 go_enter Tryz.func28, Tryz.ntmps28
 go_wp2_with fail
 refine (HS _).out.mono ?_; rintro o w2 ⟨rfl, b2⟩
 go_wp2_with fail
 go_ret
 exact ⟨rfl, zbh⟩
theorem zAv (w : World) (hT : Tab w) (r c : Int) (a : Option Addr) (n cap : Nat) (L : Nat → El) (hL : Dys w a n cap L) (hB : ElB L n) :
 Calls Tryz.prog 28 #[.agg #[.int .i64 r, .int .i64 c, .slice a n cap]] w fun o w' => o = .returned (.int .i64 (zD3 r c n (zA5 (fun i => (L i).d) n))) ∧ Below w.heap.size w w' := by
 by_cases hE : szE r c n = 0
 · unfold zD3
   rw [if_pos hE]
   have l1 := hL.lim
   have l2 := hL.fits
   have hb := hL.b
   have HS := fun W => Lib.hid (frw (zDr W r c n))
   rw [hE] at HS
   have HV := fun k (hk : k < n) W [i : BI W (L k).a (L k).n (L k).p (L k).x] [Tb W] => Lib.hid (frm (zDq W (L k).bd (L k).s (L k).a (L k).n (L k).p (L k).e _ ⟨⟨_, i.out, by have := (hB k hk).1; omega, (hB k hk).2, (hb k hk).1, (hb k hk).2, rfl⟩, (hB k hk).1⟩ tb))
   haveI HT : Tb w := ⟨hT⟩
   have HD := Lib.hid hL
   obtain ⟨D, hD⟩ : ∃ D, D = fun i => (L i).d := ⟨_, rfl⟩
   have hDk : ∀ k, zFm (L k).bd (sgn (L k).s (L k).x) (L k).e = D k := fun k => by rw [hD]; rfl
   rw [← hD]
   simp only [hDk] at HV
   obtain ⟨E, hE1⟩ : ∃ E : Int, E = (if zA5 D n then 4 else 0) := ⟨_, rfl⟩
   rw [← hE1]
   have HE := Lib.hid hE1
   clear hE1
   clear hL hE hB hb hD hDk
   go_enter Tryz.func28, Tryz.ntmps28
   go_wp2_with fail
   refine (HS _).out.mono ?_; rintro o w2 ⟨rfl, b2⟩
   go_wp2_with fail
   have hw2 := Lib.hid (show Beh w w2 from inferInstance)
   go_loopw [4] (fun i wr => ∃ k : Nat, k ≤ n ∧ i = .int .i64 k ∧ zA5 D k = false ∧ Below w2.heap.size w2 wr) (fun i _ => n - (intOf i).toNat)
   case atStart => exact ⟨0, by omega, rfl, rfl, Below.refl _ _⟩
   case round =>
    obtain ⟨k, hk, rfl, hz, hbr⟩ := hrel
    haveI bw : From w2 wr := ⟨hbr⟩
    have hs := hbr.size
    have HZ := Lib.hid hz
    clear hbr hz
    by_cases hlt : k < n
    · have hLr := HD.out.below (w' := wr) zbh
      obtain ⟨z0, z1, z2, z3⟩ := hLr.ce hlt
      haveI zm : BI wr (L k).a (L k).n (L k).p (L k).x := ⟨hLr.m k hlt⟩
      have zi := hLr.idx k hlt
      have HVk := HV k hlt
      have HDk := Lib.hid (show zA3 (D k) = zA3 (D k) from rfl)
      clear hLr HV
      obtain ⟨v, hv⟩ : ∃ v, v = zA3 (D k) := ⟨_, rfl⟩
      rw [← hv] at HVk
      have HVV := Lib.hid hv
      clear hv
      cases v with
      | false =>
       go_wp2_with fail
       refine (HVk _).out.mono ?_; rintro o w3 ⟨rfl, b3⟩
       go_wp2_with fail
       go_roundw
       case rel => exact ⟨k + 1, by omega, by go_num, by show (zA5 D k || zA3 (D k)) = false; rw [HZ.out, ← HVV.out]; rfl, zbh⟩
       case measure => simp [intOf]; omega
      | true =>
       have e4 := Lib.hid (zEw hlt HVV.out.symm)
       go_wp2_with fail
       refine (HVk _).out.mono ?_; rintro o w3 ⟨rfl, b3⟩
       go_wp2_with fail
       go_ret
       exact ⟨by rw [HE.out, e4.out]; rfl, zbh⟩
    · obtain rfl : k = n := by omega
      go_wp2_with fail
      go_ret
      exact ⟨by rw [HE.out, HZ.out]; rfl, zbh⟩
 · unfold zD3
   rw [if_neg hE]
   exact zFe w r c a n cap L hL hE
theorem zCo (w : World) (r c : Int) (a : Option Addr) (n cap : Nat) (X : Nat → Nat) (hL : Fls w a n cap X) :
 Calls Tryz.prog 29 #[.agg #[.int .i64 r, .int .i64 c, .slice a n cap]] w fun o w' => o = .returned (.int .i64 (zD3 r c n (!zAp X n))) ∧ Below w.heap.size w w' := by
 have l1 := hL.lim
 have l2 := hL.fits
 have HS := fun W => Lib.hid (frw (zDy W r c n))
 unfold zD3
 by_cases hE : szE r c n = 0
 · rw [if_pos hE]
   rw [hE] at HS
   have HV := fun k W => Lib.hid (frw (zFz W (X k)))
   have HD := Lib.hid hL
   obtain ⟨E, hE1⟩ : ∃ E : Int, E = (if !zAp X n then 4 else 0) := ⟨_, rfl⟩
   rw [← hE1]
   have HE := Lib.hid hE1
   clear hL hE hE1
   go_enter Tryz.func29, Tryz.ntmps29
   go_wp2_with fail
   refine (HS _).out.mono ?_; rintro o w2 ⟨rfl, b2⟩
   go_wp2_with fail
   have hw2 := Lib.hid (show Beh w w2 from inferInstance)
   go_loopw [20] (fun i wr => ∃ k : Nat, k ≤ n ∧ i = .int .i64 k ∧ zAp X k = true ∧ Below w2.heap.size w2 wr) (fun i _ => n - (intOf i).toNat)
   case atStart => exact ⟨0, by omega, rfl, rfl, Below.refl _ _⟩
   case round =>
    obtain ⟨k, hk, rfl, hz, hbr⟩ := hrel
    haveI bw : From w2 wr := ⟨hbr⟩
    have hs := hbr.size
    have HZ := Lib.hid hz
    clear hbr hz
    by_cases hlt : k < n
    · have hLr := HD.out.below (w' := wr) zbh
      haveI z0 : CE wr (ab a) (ao a + k) (.int .u64 ((X k : Nat) : Int)) := ⟨hLr.cell k hlt, hLr.old (by omega)⟩
      have zi := hLr.idx k hlt
      have HVk := HV k
      clear hLr HV
      obtain ⟨v, hv⟩ : ∃ v, v = zB0 (X k) := ⟨_, rfl⟩
      rw [← hv] at HVk
      have HVV := Lib.hid hv
      clear hv
      cases v with
      | true =>
       go_wp2_with fail
       refine (HVk _).out.mono ?_; rintro o w3 ⟨rfl, b3⟩
       go_wp2_with fail
       go_roundw
       case rel => exact ⟨k + 1, by omega, by go_num, by rw [zAD]; intro i hi; rcases Nat.lt_succ_iff_lt_or_eq.1 hi with h | h; exact (zAD X k).1 HZ.out i h; rw [h]; exact HVV.out.symm, zbh⟩
       case measure => simp [intOf]; omega
      | false =>
       have e4 : Hid (zAp X n = false) := (by cases hh : zAp X n with | false => rfl | true => (have := (zAD X n).1 hh k hlt; rw [← HVV.out] at this; cases this))
       go_wp2_with fail
       refine (HVk _).out.mono ?_; rintro o w3 ⟨rfl, b3⟩
       go_wp2_with fail
       go_ret
       exact ⟨by rw [HE.out, e4.out]; rfl, zbh⟩
    · obtain rfl : k = n := by omega
      go_wp2_with fail
      go_ret
      exact ⟨by rw [HE.out, HZ.out]; rfl, zbh⟩
 · rw [if_neg hE]
   generalize szE r c n = E at *
   clear hL
   go_enter Tryz.func29, Tryz.ntmps29
   go_wp2_with fail
   refine (HS _).out.mono ?_; rintro o w2 ⟨rfl, b2⟩
   go_wp2_with fail
   go_ret
   exact ⟨rfl, zbh⟩
theorem zCj (w : World) (r c : Int) (a : Option Addr) (n cap : Nat) (X : Nat → Nat) (hL : Fls w a n cap X) :
 Calls Tryz.prog 30 #[.agg #[.int .i64 r, .int .i64 c, .slice a n cap]] w fun o w' => o = .returned (.int .i64 (zD3 r c n (!zAp X n))) ∧ Below w.heap.size w w' := by
 have l1 := hL.lim
 have l2 := hL.fits
 have HS := fun W => Lib.hid (frw (zDr W r c n))
 unfold zD3
 by_cases hE : szE r c n = 0
 · rw [if_pos hE]
   rw [hE] at HS
   have HV := fun k W => Lib.hid (frw (zCi W (X k)))
   have HD := Lib.hid hL
   obtain ⟨E, hE1⟩ : ∃ E : Int, E = (if !zAp X n then 4 else 0) := ⟨_, rfl⟩
   rw [← hE1]
   have HE := Lib.hid hE1
   clear hL hE hE1
   go_enter Tryz.func30, Tryz.ntmps30
   go_wp2_with fail
   refine (HS _).out.mono ?_; rintro o w2 ⟨rfl, b2⟩
   go_wp2_with fail
   have hw2 := Lib.hid (show Beh w w2 from inferInstance)
   go_loopw [4] (fun i wr => ∃ k : Nat, k ≤ n ∧ i = .int .i64 k ∧ zAp X k = true ∧ Below w2.heap.size w2 wr) (fun i _ => n - (intOf i).toNat)
   case atStart => exact ⟨0, by omega, rfl, rfl, Below.refl _ _⟩
   case round =>
    obtain ⟨k, hk, rfl, hz, hbr⟩ := hrel
    haveI bw : From w2 wr := ⟨hbr⟩
    have hs := hbr.size
    have HZ := Lib.hid hz
    clear hbr hz
    by_cases hlt : k < n
    · have hLr := HD.out.below (w' := wr) zbh
      haveI z0 : CE wr (ab a) (ao a + k) (.int .u64 ((X k : Nat) : Int)) := ⟨hLr.cell k hlt, hLr.old (by omega)⟩
      have zi := hLr.idx k hlt
      have HVk := HV k
      clear hLr HV
      obtain ⟨v, hv⟩ : ∃ v, v = zB0 (X k) := ⟨_, rfl⟩
      rw [← hv] at HVk
      have HVV := Lib.hid hv
      clear hv
      cases v with
      | true =>
       go_wp2_with fail
       refine (HVk _).out.mono ?_; rintro o w3 ⟨rfl, b3⟩
       go_wp2_with fail
       go_roundw
       case rel => exact ⟨k + 1, by omega, by go_num, by rw [zAD]; intro i hi; rcases Nat.lt_succ_iff_lt_or_eq.1 hi with h | h; exact (zAD X k).1 HZ.out i h; rw [h]; exact HVV.out.symm, zbh⟩
       case measure => simp [intOf]; omega
      | false =>
       have e4 : Hid (zAp X n = false) := (by cases hh : zAp X n with | false => rfl | true => (have := (zAD X n).1 hh k hlt; rw [← HVV.out] at this; cases this))
       go_wp2_with fail
       refine (HVk _).out.mono ?_; rintro o w3 ⟨rfl, b3⟩
       go_wp2_with fail
       go_ret
       exact ⟨by rw [HE.out, e4.out]; rfl, zbh⟩
    · obtain rfl : k = n := by omega
      go_wp2_with fail
      go_ret
      exact ⟨by rw [HE.out, HZ.out]; rfl, zbh⟩
 · rw [if_neg hE]
   generalize szE r c n = E at *
   clear hL
   go_enter Tryz.func30, Tryz.ntmps30
   go_wp2_with fail
   refine (HS _).out.mono ?_; rintro o w2 ⟨rfl, b2⟩
   go_wp2_with fail
   go_ret
   exact ⟨rfl, zbh⟩
end Go.Proofs.YtablcbgeeeboeaaGreatDoor

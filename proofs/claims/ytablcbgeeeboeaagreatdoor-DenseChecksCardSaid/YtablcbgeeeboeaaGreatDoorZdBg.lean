/-
  Walks: package integer: Int, of a small number that is not negative.
-/
import Derived.Test.YtablcbgeeeboeaaGreatDoorZdBd
import Derived.Test.YtablcbgeeeboeaaGreatDoorZdBe
import Derived.Test.YtablcbgeeeboeaaGreatDoorZdBL
set_option maxRecDepth 100000
set_option maxHeartbeats 2000000
namespace Go.Proofs.YtablcbgeeeboeaaGreatDoor
open Go.RowKit Sp
theorem int_step {x k : Nat} (h : k = 0 ∨ k = 1) : Go.bits .or .u64 ((x % B ^ k : Nat) : Int) (IntKind.u64.wrap (IntKind.u64.wrap (dig x k : Nat) * 2 ^ (32 * k))) = ((x % B ^ (k + 1) : Nat) : Int) := by
 have hdl := dig_lt x k
 rw [wrap_u64_nat (show dig x k < 18446744073709551616 by omega)]
 rcases h with rfl | rfl
 · rw [mod_succ x 0, Nat.pow_zero, Nat.mod_one]
   have e : ((dig x 0 : Nat) : Int) * 2 ^ (32 * 0) = ((dig x 0 : Nat) : Int) := by simp
   rw [e, wrap_u64_nat (by omega), u64_or_nat _ _ (by decide) (by omega)]
   simp
 · have e : ((dig x 1 : Nat) : Int) * 2 ^ (32 * 1) = ((dig x 1 * 4294967296 : Nat) : Int) := by simp
   have hm : x % B ^ 1 < 2 ^ 32 := by rw [Nat.pow_one, B_eq]; exact Nat.mod_lt _ (by decide)
   rw [e, wrap_u64_nat (by omega), u64_or_nat _ _ (by omega) (by omega), or_add (p := 32) (z := x % B ^ 1) hm ⟨dig x 1, by omega⟩, mod_succ x 1, Nat.pow_one, B_eq]
theorem int_any (w : World) (a : Option Addr) (cap x : Nat) (hx : Mag w a (nl x) cap x) (hb : x ≤ 9007199254740992) :
 Calls Tryz.prog 158 #[.agg #[.bool false, .slice a (nl x) cap]] w fun e w' => e = .returned (.tuple #[.int .i64 x, .bool true]) ∧ Below w.heap.size w w' := by
 have hn : nl x ≤ 2 := nl_le (x := x) (n := 2) (by rw [show B ^ 2 = 18446744073709551616 by decide]; omega)
 have l1 := hx.lim
 have l2 := hx.fits
 have hd : decide ((2 : Int) < ((nl x : Nat) : Int)) = false := by simp; omega
 have HT := fun W h => Lib.hid (trim_any W a (nl x) cap x h)
 have hlt := Lib.hid hx.lt
 obtain ⟨n, hnn⟩ : ∃ n, n = nl x := ⟨_, rfl⟩
 rw [← hnn] at hx hn l2 hd HT hlt ⊢
 clear hnn
 go_enter Tryz.func158, Tryz.ntmps158
 go_wp2_with fail
 refine (HT _ (hx.below zbh)).out.mono ?_
 rintro e w1 ⟨rfl, rfl⟩
 go_wp2_with fail
 go_loop [5, 16] (fun u i => ∃ k : Nat, k ≤ n ∧ i = .int .i64 k ∧ u = .int .u64 (x % B ^ k : Nat)) (fun _ i => n - (intOf i).toNat)
 case atStart => exact ⟨0, Nat.zero_le _, rfl, by rw [Nat.pow_zero, Nat.mod_one]; rfl⟩
 case round =>
  obtain ⟨k, hk, rfl, rfl⟩ := hrel
  by_cases h0 : k < n
  · have c1 := (hx.below (w' := w.alloc (.cells #[.bool false, .slice a n cap] 44)) zbh).cell k h0
    have i1 := hx.idx 42 und siz k h0
    have hval := int_step (x := x) (k := k) (by omega)
    generalize hy : ((x % B ^ (k + 1) : Nat) : Int) = y at hval
    generalize ((x % B ^ k : Nat) : Int) = U at hval ⊢
    generalize ((dig x k : Nat) : Int) = D at hval c1
    have HY := Lib.hid hy
    clear hy
    go_wp2
    go_round
    case rel => exact ⟨k + 1, by omega, by go_num, by rw [HY.out]⟩
    case measure => simp [intOf]; omega
  · obtain rfl : k = n := by omega
    have hval : x % B ^ k = x := mod_of_lt hlt.out
    have h1 : IntKind.i64.wrap (x : Int) = x := by rw [IntKind.wrap_i64]; omega
    have h2 : decide ((x : Int) < 9223372036854775808) = true := by simp; omega
    rw [hval]
    go_wp2
    refine bodyPost_ret (v := .tuple #[.int .i64 x, .bool true]) (by simp only [results, Tryz.results158]; go_simp) rfl ?_
    exact ⟨rfl, zbh⟩
end Go.Proofs.YtablcbgeeeboeaaGreatDoor
set_option maxRecDepth 100000
set_option maxHeartbeats 2000000
namespace Go.Proofs.YtablcbgeeeboeaaGreatDoor
open Go.RowKit Sp
theorem neg_z (w : World) (a : Option Addr) (cap : Nat) (z y : Int) (hy : y = -z) (hm : Mag w a (nl z.natAbs) cap z.natAbs) (hl : nl z.natAbs ≤ 1099511627776) :
 Calls Tryz.prog 128 #[.agg #[.bool (decide (z < 0)), .slice a (nl z.natAbs) cap]] w (RetBig w y) := by
 have h := neg_any w (decide (z < 0)) a _ cap _ hm hl
 rwa [sgn_not, sgn_self, ← hy] at h
theorem abs_z (w : World) (a : Option Addr) (cap : Nat) (z y : Int) (hy : y = (z.natAbs : Int)) (hm : Mag w a (nl z.natAbs) cap z.natAbs) (hl : nl z.natAbs ≤ 1099511627776) :
 Calls Tryz.prog 159 #[.agg #[.bool (decide (z < 0)), .slice a (nl z.natAbs) cap]] w (RetBig w y) := by
 have h := abs_any w (decide (z < 0)) a _ cap _ hm hl
 rwa [show sgn false z.natAbs = y by rw [hy]; rfl] at h
theorem dneg_bad (w : World) (bd s : Bool) (a : Option Addr) (n cap : Nat) (e : Int) (hx : DyIn w bd s a n cap e none) (hT : Tab w) :
 Calls Tryz.prog 137 #[.agg #[.bool bd, .bool s, .slice a n cap, .int .i64 e]] w (RetDy w none) := by
 have e2 : ¬ w.heap.size + 1 = w.heap.size := by omega
 have HN := fun W h ht => Lib.hid (@norm_v W bd s a n cap e none h ht true 0 0 rfl rfl rfl)
 go_enter Tryz.func137, Tryz.ntmps137
 go_wp2_with fail
 refine (HN _ (hx.below zbh) (hT.below zbh)).out.mono ?_
 rintro e w1 ⟨a1, c1, rfl, hm1, hb, hf1⟩
 obtain ⟨hc1, hz1⟩ := bcell (hb.mono (show w.heap.size + 2 ≤ _ by simp))
 have hbw := below_box (w := w) zbh hb
 go_wp2_with fail
 refine bodyPost_ret (v := .agg #[.bool true, .bool false, .slice a1 (nl 0) c1, .int .i64 0]) (by simp only [results, Tryz.results137]; go_simp) rfl ?_
 exact ⟨a1, c1, rfl, Mag.empty _ _ _ hm1.lim, (have := Beh.mk hbw; zbh), nl0⟩
theorem dneg_ok (w : World) (bd s : Bool) (a : Option Addr) (n cap : Nat) (e z f y : Int) (hx : DyIn w bd s a n cap e (some (z, f))) (hT : Tab w) (hy : y = -z) :
 Calls Tryz.prog 137 #[.agg #[.bool bd, .bool s, .slice a n cap, .int .i64 e]] w (RetDy w (some (y, f))) := by
 have e2 : ¬ w.heap.size + 1 = w.heap.size := by omega
 have hl := nl_lim (Nat.le_trans (isN_bounds hx.isN).1 (by omega))
 have HN := fun W h ht => Lib.hid (@norm_v W bd s a n cap e (some (z, f)) h ht false z f rfl rfl rfl)
 have HG := fun W b c h => Lib.hid (neg_z W b c z y hy h hl)
 clear hy
 go_enter Tryz.func137, Tryz.ntmps137
 go_wp2_with fail
 refine (HN _ (hx.below zbh) (hT.below zbh)).out.mono ?_
 rintro e w1 ⟨a1, c1, rfl, hm1, hb, hf1⟩
 obtain ⟨hc1, hz1⟩ := bcell (hb.mono (show w.heap.size + 2 ≤ _ by simp))
 have hg1 : w.heap.size + 2 ≤ w1.heap.size := by have := hb.size; simpa using this
 have hfr1 : 0 < nl z.natAbs → w.heap.size + 2 ≤ ab a1 := fun h => by have := hf1 h; simpa using this
 have hbw := below_box (w := w) zbh hb
 go_wp2_with fail
 refine (HG _ a1 c1 (by repeat (with_reducible first | refine Mag.set ?_ (fun h => by have := hfr1 h; omega) _ _ | refine Mag.drew ?_ | refine Mag.alloc ?_ _ | refine Mag.drewN ?_ _ | refine Mag.below ?_ (Below.drew (Below.refl _ _)) | refine Mag.below ?_ ((Below.refl _ _).alloc (Nat.le_refl _) _) | exact hm1))).out.mono ?_
 rintro e w2 ⟨a2, c2, rfl, hm2, hb2, hf2⟩
 obtain ⟨hc2, hz2⟩ := bcell (hb2.mono (show w.heap.size + 2 ≤ _ by simpa using hg1))
 have hfr2 : 0 < nl y.natAbs → w.heap.size + 2 ≤ ab a2 := fun h => by have := hf2 h; simp at this; omega
 have hbw2 := below_box (w := w) (have := Beh.mk hbw; zbh) hb2
 clear hbw
 have hbw := hbw2
 go_wp2_with fail
 refine bodyPost_ret (v := .agg #[.bool false, .bool (decide (y < 0)), .slice a2 (nl y.natAbs) c2, .int .i64 f]) (by simp only [results, Tryz.results137]; go_simp) rfl ?_
 exact ret_dy false y f rfl rfl rfl (by repeat (with_reducible first | refine Mag.set ?_ (fun h => by have := hfr2 h; omega) _ _ | refine Mag.drew ?_ | refine Mag.alloc ?_ _ | refine Mag.drewN ?_ _ | refine Mag.below ?_ (Below.drew (Below.refl _ _)) | refine Mag.below ?_ ((Below.refl _ _).alloc (Nat.le_refl _) _) | exact hm2)) (by have hszw := hbw.size; repeat (with_reducible first | refine Below.setCell ?_ (by first | omega | (simp <;> omega)) _ | refine Below.alloc ?_ (by first | omega | (simp <;> omega)) _ | refine Below.drew ?_ | refine below_drewN ?_ _ | exact hbw)) (fun h => by have := hfr2 h; omega)
theorem dneg_any (w : World) (bd s : Bool) (a : Option Addr) (n cap : Nat) (e : Int) (d : Option (Int × Int)) (hx : DyIn w bd s a n cap e d) (hT : Tab w) :
 Calls Tryz.prog 137 #[.agg #[.bool bd, .bool s, .slice a n cap, .int .i64 e]] w (RetDy w (dneg d)) := by
 rcases d with _ | ⟨z, f⟩
 · exact dneg_bad w bd s a n cap e hx hT
 · exact dneg_ok w bd s a n cap e z f _ hx hT rfl
theorem dsign_any (w : World) (bd s : Bool) (a : Option Addr) (n cap : Nat) (e : Int) (d : Option (Int × Int)) (hx : DyIn w bd s a n cap e d) (hT : Tab w) :
 Calls Tryz.prog 92 #[.agg #[.bool bd, .bool s, .slice a n cap, .int .i64 e]] w fun o w' => o = .returned (.int .i64 (cmpI (dman d) 0)) ∧ Below w.heap.size w w' := by
 have HN := fun W h ht => Lib.hid (@norm_v W bd s a n cap e d h ht _ _ _ rfl rfl rfl)
 obtain ⟨b, hb0⟩ : ∃ b, b = dbad d := ⟨_, rfl⟩
 obtain ⟨z, hz0⟩ : ∃ z, z = dman d := ⟨_, rfl⟩
 obtain ⟨f, hf0⟩ : ∃ f, f = dexp d := ⟨_, rfl⟩
 rw [← hb0, ← hz0, ← hf0] at HN
 rw [← hz0]
 clear hb0 hz0 hf0
 have HG := fun W b c h => Lib.hid (sign_z W b c z h)
 obtain ⟨g, hg⟩ : ∃ g, g = sg z := ⟨_, rfl⟩
 rw [← hg] at HG
 rw [show cmpI z 0 = g from hg.symm]
 clear hg
 go_enter Tryz.func92, Tryz.ntmps92
 go_wp2_with fail
 refine (HN _ (hx.below zbh) (hT.below zbh)).out.mono ?_
 rintro e w1 ⟨a1, c1, rfl, hm1, hb, hf1⟩
 obtain ⟨hc1, hz1⟩ := bcell (hb.mono (show w.heap.size + 1 ≤ _ by simp))
 have hfr1 : 0 < nl z.natAbs → w.heap.size + 1 ≤ ab a1 := fun h => by have := hf1 h; simpa using this
 have hbw := below_box (w := w) zbh hb
 go_wp2_with fail
 refine (HG _ a1 c1 (by repeat (with_reducible first | refine Mag.set ?_ (fun h => by have := hfr1 h; omega) _ _ | refine Mag.drew ?_ | refine Mag.alloc ?_ _ | refine Mag.drewN ?_ _ | refine Mag.below ?_ (Below.drew (Below.refl _ _)) | refine Mag.below ?_ ((Below.refl _ _).alloc (Nat.le_refl _) _) | exact hm1))).out.mono ?_
 rintro e w2 ⟨rfl, hb2⟩
 have hbw2 := below_box (w := w) (have := Beh.mk hbw; zbh) hb2
 clear hbw
 have hbw := hbw2
 go_wp2_with fail
 go_ret
 exact ⟨rfl, (have := Beh.mk hbw; zbh)⟩
theorem left_z (w : World) (a : Option Addr) (cap : Nat) (z k y : Int) (hy : y = z * 2 ^ k.toNat) (hm : Mag w a (nl z.natAbs) cap z.natAbs) (hl : nl z.natAbs ≤ 1099511627776) (h0 : 0 ≤ k) (h1 : k ≤ 1048576) :
 Calls Tryz.prog 131 #[.agg #[.bool (decide (z < 0)), .slice a (nl z.natAbs) cap], .int .i64 k] w (RetBig w y) := by
 have h := left_any w (decide (z < 0)) a _ cap _ k hm hl h0 h1
 rwa [sgn_self, show shl z k = y by rw [hy]; unfold shl; rw [if_pos h0]] at h
theorem old3 {a b : Nat} (h : a + 3 ≤ b) : (¬ a = b) ∧ (¬ a + 1 = b) ∧ (¬ a + 1 + 1 = b) ∧ (¬ b = a) ∧ (¬ b = a + 1) ∧ (¬ b = a + 1 + 1) ∧ (a < b) ∧ (a + 1 < b) ∧ (a + 1 + 1 < b) ∧ (a < b + 1) ∧ (a < b + 2) ∧ (a < b + 1 + 1) ∧ (a + 1 < b + 1 + 1) ∧ (a + 1 < b + 1) ∧
 (a + 2 < b) ∧ (¬ a + 2 = b) ∧ (¬ b = a + 2) ∧ (¬ a = b + 1) ∧ (¬ b + 1 = a) ∧ (¬ a = b + 1 + 1) ∧ (¬ b + 1 + 1 = a) ∧ (¬ a = b + 2) ∧ (¬ a + 1 = b + 1) ∧ (¬ a + 1 + 1 = b + 1) ∧ (¬ b + 1 = a + 1) ∧ (a ≤ b) := by omega
theorem add_z (w : World) (a a' : Option Addr) (cap cap' : Nat) (x y v : Int) (hv : v = x + y) (hm : Mag w a (nl x.natAbs) cap x.natAbs) (hm' : Mag w a' (nl y.natAbs) cap' y.natAbs) (hl : nl x.natAbs ≤ 1099511627776) (hl' : nl y.natAbs ≤ 1099511627776) :
 Calls Tryz.prog 123 #[.agg #[.bool (decide (x < 0)), .slice a (nl x.natAbs) cap], .agg #[.bool (decide (y < 0)), .slice a' (nl y.natAbs) cap']] w (RetBig w v) := by
 have h := add_any w (decide (x < 0)) (decide (y < 0)) a a' _ _ cap cap' _ _ hm hm' hl hl'
 rwa [sgn_self, sgn_self, ← hv] at h
theorem mul_z (w : World) (a a' : Option Addr) (cap cap' : Nat) (x y v : Int) (hv : v = x * y) (hm : Mag w a (nl x.natAbs) cap x.natAbs) (hm' : Mag w a' (nl y.natAbs) cap' y.natAbs) (hl : nl x.natAbs ≤ 1099511627776) (hl' : nl y.natAbs ≤ 1099511627776) :
 Calls Tryz.prog 125 #[.agg #[.bool (decide (x < 0)), .slice a (nl x.natAbs) cap], .agg #[.bool (decide (y < 0)), .slice a' (nl y.natAbs) cap']] w (RetBig w v) := by
 have h := mul_any w (decide (x < 0)) (decide (y < 0)) a a' _ _ cap cap' _ _ hm hm' hl hl'
 rwa [sgn_self, sgn_self, ← hv] at h
theorem cmp_z (w : World) (a a' : Option Addr) (cap cap' : Nat) (x y v : Int) (hv : v = cmpI x y) (hm : Mag w a (nl x.natAbs) cap x.natAbs) (hm' : Mag w a' (nl y.natAbs) cap' y.natAbs) :
 Calls Tryz.prog 133 #[.agg #[.bool (decide (x < 0)), .slice a (nl x.natAbs) cap], .agg #[.bool (decide (y < 0)), .slice a' (nl y.natAbs) cap']] w fun e w' => e = .returned (.int .i64 v) ∧ Below w.heap.size w w' := by
 have h := cmp_any w (decide (x < 0)) (decide (y < 0)) a a' _ _ cap cap' _ _ hm hm'
 rwa [sgn_self, sgn_self, ← hv] at h
theorem make_z (w : World) (a : Option Addr) (cap : Nat) (z e : Int) (d : Option (Int × Int)) (hd : d = nrm z e) (hm : Mag w a (nl z.natAbs) cap z.natAbs) (hT : Tab w) (hB : blen z.natAbs ≤ 1048576) (he0 : -9223372036854775808 ≤ e) (he1 : e ≤ 9223372036854775807) :
 Calls Tryz.prog 122 #[.agg #[.bool (decide (z < 0)), .slice a (nl z.natAbs) cap], .int .i64 e] w (RetDy w d) := by
 have h := make_any w (decide (z < 0)) a _ cap _ e hm (nl_lim hB) hT hB (tz_lim hB) he0 he1
 rwa [sgn_self, ← hd] at h
theorem dmul_bad (w : World) (bd s bd' s' : Bool) (a a' : Option Addr) (n n' cap cap' : Nat) (e e' : Int) (d d' : Option (Int × Int)) (hx : DyIn w bd s a n cap e d) (hy : DyIn w bd' s' a' n' cap' e' d') (hT : Tab w) (hk : (!dbad d && !dbad d') = false) :
 Calls Tryz.prog 76 #[.agg #[.bool bd, .bool s, .slice a n cap, .int .i64 e], .agg #[.bool bd', .bool s', .slice a' n' cap', .int .i64 e']] w (RetDy w none) := by
 have HN := fun W hx hy ht => Lib.hid (@two_v W bd s bd' s' a a' n n' cap cap' e e' d d' hx hy ht _ _ _ rfl rfl rfl _ _ _ rfl rfl rfl false hk)
 generalize dbad d = b at HN
 generalize dman d = z at HN
 generalize dexp d = f at HN
 generalize dbad d' = b' at HN
 generalize dman d' = z' at HN
 generalize dexp d' = f' at HN
 clear hk
 have e1 : ¬ w.heap.size + 1 = w.heap.size := by omega
 have e2 : ¬ w.heap.size + 1 + 1 = w.heap.size := by omega
 have l2 : w.heap.size < w.heap.size + 1 + 1 := by omega
 have k2 : ¬ w.heap.size = w.heap.size + 1 + 1 := by omega
 have l3 : w.heap.size < w.heap.size + 1 + 1 + 1 := by omega
 have k3 : ¬ w.heap.size = w.heap.size + 1 + 1 + 1 := by omega
 go_enter Tryz.func76, Tryz.ntmps76
 go_wp2_with fail
 refine (HN _ (hx.below zbh) (hy.below zbh) (hT.below zbh)).out.mono ?_
 rintro e w1 ⟨a1, c1, a2, c2, rfl, hm1, hm2, hb, hf1, hf2⟩
 obtain ⟨hc1, hz1⟩ := bcell (hb.mono (show w.heap.size + 3 ≤ _ by simp))
 have hg1 : w.heap.size + 3 ≤ w1.heap.size := by have := hb.size; simpa using this
 have hbw := below_box (w := w) zbh hb
 go_wp2_with fail
 refine (bad_any _).mono ?_
 rintro e w2 ⟨rfl, hb2⟩
 obtain ⟨hc2, hz2⟩ := bcell (hb2.mono (show w.heap.size + 3 ≤ _ by simpa using hg1))
 have hbw2 := below_box (w := w) (have := Beh.mk hbw; zbh) hb2
 clear hbw
 have hbw := hbw2
 go_wp2_with fail
 refine bodyPost_ret (v := .agg #[.bool true, .bool false, .slice none 0 0, .int .i64 0]) (by simp only [results, Tryz.results76]; go_simp) rfl ?_
 exact ret_bad rfl (have := Beh.mk hbw; zbh)
theorem dmul_ok (w : World) (bd s bd' s' : Bool) (a a' : Option Addr) (n n' cap cap' : Nat) (e e' : Int) (z f z' f' : Int) (hx : DyIn w bd s a n cap e (some (z, f))) (hy : DyIn w bd' s' a' n' cap' e' (some (z', f'))) (hT : Tab w) :
 Calls Tryz.prog 76 #[.agg #[.bool bd, .bool s, .slice a n cap, .int .i64 e], .agg #[.bool bd', .bool s', .slice a' n' cap', .int .i64 e']] w (RetDy w (nrm (z * z') (f + f'))) := by
 have HN := fun W hx hy ht => Lib.hid (@two_v W bd s bd' s' a a' n n' cap cap' e e' (some (z, f)) (some (z', f')) hx hy ht false z f rfl rfl rfl false z' f' rfl rfl rfl true rfl)
 obtain ⟨hb0, hf0, hf1⟩ := isN_bounds hx.isN
 obtain ⟨hb0', hf0', hf1'⟩ := isN_bounds hy.isN
 simp only [dman, dexp, Option.getD_some] at hb0 hf0 hf1 hb0' hf0' hf1'
 have hl := nl_lim (Nat.le_trans hb0 (by omega))
 have hl' := nl_lim (Nat.le_trans hb0' (by omega))
 have hv0 := Nat.le_trans (bl_mul z z') (show _ ≤ 262144 by omega)
 have HC := fun W b c b' c' h h' => Lib.hid (mul_z W b b' c c' z z' _ rfl h h' hl hl')
 generalize z * z' = v at HC hv0 ⊢
 obtain ⟨E, hE⟩ : ∃ E, E = f + f' := ⟨_, rfl⟩
 have hwr : IntKind.i64.wrap (f + f') = E := by rw [IntKind.wrap_i64]; omega
 have HM := fun W b c h ht => Lib.hid (make_z W b c v E _ rfl h ht (by omega) (by omega) (by omega))
 rw [← hE]
 clear hE
 generalize nrm v E = d at HM ⊢
 have e1 : ¬ w.heap.size + 1 = w.heap.size := by omega
 have e2 : ¬ w.heap.size + 1 + 1 = w.heap.size := by omega
 have l2 : w.heap.size < w.heap.size + 1 + 1 := by omega
 have k2 : ¬ w.heap.size = w.heap.size + 1 + 1 := by omega
 have l3 : w.heap.size < w.heap.size + 1 + 1 + 1 := by omega
 have k3 : ¬ w.heap.size = w.heap.size + 1 + 1 + 1 := by omega
 clear hb0 hf0 hf1 hb0' hf0' hf1'
 go_enter Tryz.func76, Tryz.ntmps76
 go_wp2_with fail
 refine (HN _ (hx.below zbh) (hy.below zbh) (hT.below zbh)).out.mono ?_
 rintro e w1 ⟨a1, c1, a2, c2, rfl, hm1, hm2, hb, hf1, hf2⟩
 obtain ⟨hc1, hz1⟩ := bcell (hb.mono (show w.heap.size + 3 ≤ _ by simp))
 have hg1 : w.heap.size + 3 ≤ w1.heap.size := by have := hb.size; simpa using this
 have hfr1 : 0 < nl z.natAbs → w.heap.size + 3 ≤ ab a1 := fun h => by have := hf1 h; simpa using this
 have hfr2 : 0 < nl z'.natAbs → w.heap.size + 3 ≤ ab a2 := fun h => by have := hf2 h; simpa using this
 have hbw := below_box (w := w) zbh hb
 go_wp2_with fail
 obtain ⟨q0, q1, q2, q3, q4, q5, q6, q7⟩ : w1.cell? ⟨w.heap.size, 0, none⟩ = some (.bool bd) ∧ w1.cell? ⟨w.heap.size, 1, none⟩ = some (.bool s) ∧ w1.cell? ⟨w.heap.size, 2, none⟩ = some (.slice a n cap) ∧ w1.cell? ⟨w.heap.size, 3, none⟩ = some (.int .i64 e)
  ∧ w1.cell? ⟨w.heap.size + 1, 0, none⟩ = some (.bool bd') ∧ w1.cell? ⟨w.heap.size + 1, 1, none⟩ = some (.bool s') ∧ w1.cell? ⟨w.heap.size + 1, 2, none⟩ = some (.slice a' n' cap') ∧ w1.cell? ⟨w.heap.size + 1, 3, none⟩ = some (.int .i64 e') := by
  refine ⟨?_, ?_, ?_, ?_, ?_, ?_, ?_, ?_⟩ <;> go_simp
 go_region_held3 (fun w' => w'.cell? ⟨w.heap.size, 1, none⟩ = some (.bool (decide (z < 0))) ∧ w'.cell? ⟨w.heap.size, 2, none⟩ = some (.slice a1 (nl z.natAbs) c1) ∧ w'.cell? ⟨w.heap.size, 3, none⟩ = some (.int .i64 f)
  ∧ w'.cell? ⟨w.heap.size + 1, 1, none⟩ = some (.bool (decide (z' < 0))) ∧ w'.cell? ⟨w.heap.size + 1, 2, none⟩ = some (.slice a2 (nl z'.natAbs) c2) ∧ w'.cell? ⟨w.heap.size + 1, 3, none⟩ = some (.int .i64 f')) (first | (go_keep; done) | (go_simp; done))
  (first
   | (go_at_call 125; refine (HC _ a1 c1 a2 c2 (by repeat (with_reducible first | refine Mag.set ?_ (fun h => by have := hfr1 h; omega) _ _ | refine Mag.drew ?_ | refine Mag.alloc ?_ _ | refine Mag.drewN ?_ _ | refine Mag.below ?_ (Below.drew (Below.refl _ _)) | refine Mag.below ?_ ((Below.refl _ _).alloc (Nat.le_refl _) _) | exact hm1)) (by repeat (with_reducible first | refine Mag.set ?_ (fun h => by have := hfr2 h; omega) _ _ | refine Mag.drew ?_ | refine Mag.alloc ?_ _ | refine Mag.drewN ?_ _ | refine Mag.below ?_ (Below.drew (Below.refl _ _)) | refine Mag.below ?_ ((Below.refl _ _).alloc (Nat.le_refl _) _) | exact hm2))).out.mono ?_; rintro e w2 ⟨a3, c3, rfl, hm3, hb2, hf3⟩; obtain ⟨hc2, hz2⟩ := bcell (hb2.mono (show w.heap.size + 3 ≤ _ by simpa using hg1)); have hg2 : w.heap.size + 3 ≤ w2.heap.size := (by have := hb2.size; simp at this; omega); have hbw2 := below_box (w := w) (by have hszw := hbw.size; repeat (with_reducible first | refine Below.setCell ?_ (by first | omega | (simp <;> omega)) _ | refine Below.alloc ?_ (by first | omega | (simp <;> omega)) _ | refine Below.drew ?_ | refine below_drewN ?_ _ | exact hbw)) hb2)
   | (go_at_call 122; refine (HM _ a3 c3 (Mag.below hm3 (by repeat (with_reducible first | refine Below.setCell ?_ (by simp <;> omega) _ | refine Below.alloc ?_ (by simp <;> omega) _ | refine Below.drew ?_ | refine below_drewN ?_ _ | exact Below.refl _ _))) (hT.below (by have hszw := (hbw2).size; repeat (with_reducible first | refine Below.setCell ?_ (by first | omega | (simp <;> omega)) _ | refine Below.alloc ?_ (by first | omega | (simp <;> omega)) _ | refine Below.drew ?_ | refine below_drewN ?_ _ | exact hbw2)))).out.mono ?_; rintro e w4 ⟨a6, c6, rfl, hm6, hb4, hf6⟩; obtain ⟨hc4, hz4⟩ := bcell (hb4.mono (show w.heap.size + 3 ≤ _ by simpa using hg2)); have hbw4 := below_box (w := w) (by have hszw := (hbw2).size; repeat (with_reducible first | refine Below.setCell ?_ (by first | omega | (simp <;> omega)) _ | refine Below.alloc ?_ (by first | omega | (simp <;> omega)) _ | refine Below.drew ?_ | refine below_drewN ?_ _ | exact hbw2)) hb4))
 have hfr6 : 0 < nl (dman d).natAbs → w.heap.size + 3 ≤ ab a6 := fun h => by have := hf6 h; (try simp at this); omega
 clear hbw
 have hbw := hbw4
 go_wp2_with fail
 refine bodyPost_ret (v := .agg #[.bool (dbad d), .bool (decide (dman d < 0)), .slice a6 (nl (dman d).natAbs) c6, .int .i64 (dexp d)]) (by simp only [results, Tryz.results76]; go_simp) rfl ?_
 exact ⟨a6, c6, rfl, (by repeat (with_reducible first | refine Mag.set ?_ (fun h => by have := hfr6 h; omega) _ _ | refine Mag.drew ?_ | refine Mag.alloc ?_ _ | refine Mag.drewN ?_ _ | refine Mag.below ?_ (Below.drew (Below.refl _ _)) | refine Mag.below ?_ ((Below.refl _ _).alloc (Nat.le_refl _) _) | exact hm6)), (by have hszw := hbw.size; repeat (with_reducible first | refine Below.setCell ?_ (by first | omega | (simp <;> omega)) _ | refine Below.alloc ?_ (by first | omega | (simp <;> omega)) _ | refine Below.drew ?_ | refine below_drewN ?_ _ | exact hbw)), fun h => by have := hfr6 h; omega⟩
theorem dmul_any (w : World) (bd s bd' s' : Bool) (a a' : Option Addr) (n n' cap cap' : Nat) (e e' : Int) (d d' : Option (Int × Int)) (hx : DyIn w bd s a n cap e d) (hy : DyIn w bd' s' a' n' cap' e' d') (hT : Tab w) :
 Calls Tryz.prog 76 #[.agg #[.bool bd, .bool s, .slice a n cap, .int .i64 e], .agg #[.bool bd', .bool s', .slice a' n' cap', .int .i64 e']] w (RetDy w (dmul d d')) := by
 rcases d with _ | ⟨z, f⟩
 · exact dmul_bad w bd s bd' s' a a' n n' cap cap' e e' _ _ hx hy hT rfl
 · rcases d' with _ | ⟨z', f'⟩
   · exact dmul_bad w bd s bd' s' a a' n n' cap cap' e e' _ _ hx hy hT rfl
   · exact dmul_ok w bd s bd' s' a a' n n' cap cap' e e' z f z' f' hx hy hT
theorem bitlen_z (w : World) (a : Option Addr) (cap : Nat) (z : Int) (hm : Mag w a (nl z.natAbs) cap z.natAbs) (hl : nl z.natAbs ≤ 1099511627776) :
 Calls Tryz.prog 148 #[.agg #[.bool (decide (z < 0)), .slice a (nl z.natAbs) cap]] w fun e w' => e = .returned (.int .i64 (blen z.natAbs)) ∧ Below w.heap.size w w' :=
 bitlen_any w (decide (z < 0)) a _ cap _ hm hl
end Go.Proofs.YtablcbgeeeboeaaGreatDoor

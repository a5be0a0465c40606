/-
  Walks: package dyad: Neg, Abs, Sign, Scale, Floor.
  Walks: package dyad: aligned.
  Walks: package dyad: Cmp, Add, Mul.
  Walks: package dyad: FromInt, precise, Log2, Sub.
-/
import Derived.Test.YtablcbgeeeboeaaGreatDoorZhBe
import Derived.Test.YtablcbgeeeboeaaGreatDoorZhFP
set_option maxRecDepth 100000
set_option maxHeartbeats 2000000
namespace Go.Proofs.YtablcbgeeeboeaaGreatDoor
open Go.RowKit Sp
theorem zK3 (w : World) (a : Option Addr) (cap : Nat) (z y : Int) (hy : y = -z) (hm : Mag w a (nl z.natAbs) cap z.natAbs) (hl : nl z.natAbs ≤ 1099511627776) :
 Calls Tryz.prog 128 #[.agg #[.bool (decide (z < 0)), .slice a (nl z.natAbs) cap]] w (zAj w y) := by
 have h := zNq w (decide (z < 0)) a _ cap _ hm hl
 rwa [zGI, zAg, ← hy] at h
theorem zGC (w : World) (a : Option Addr) (cap : Nat) (z y : Int) (hy : y = (z.natAbs : Int)) (hm : Mag w a (nl z.natAbs) cap z.natAbs) (hl : nl z.natAbs ≤ 1099511627776) :
 Calls Tryz.prog 159 #[.agg #[.bool (decide (z < 0)), .slice a (nl z.natAbs) cap]] w (zAj w y) := by
 have h := zO1 w (decide (z < 0)) a _ cap _ hm hl
 rwa [show sgn false z.natAbs = y by rw [hy]; rfl] at h
theorem zMf (w : World) (bd s : Bool) (a : Option Addr) (n cap : Nat) (e : Int) (hx : DyIn w bd s a n cap e none) (hT : Tab w) :
 Calls Tryz.prog 137 #[.agg #[.bool bd, .bool s, .slice a n cap, .int .i64 e]] w (zAy w none) := by
 have e2 : ¬ w.heap.size + 1 = w.heap.size := by omega
 have HN := fun W h ht => Lib.hid (@zJY W bd s a n cap e none h ht true 0 0 rfl rfl rfl)
 go_enter Tryz.func137, Tryz.ntmps137
 go_wp2_with fail
 refine (HN _ (hx.below zbh) (hT.below zbh)).out.mono ?_
 rintro e w1 ⟨a1, c1, rfl, hm1, hb, hf1⟩
 obtain ⟨hc1, hz1⟩ := zA8 (hb.mono (show w.heap.size + 2 ≤ _ by simp))
 have hbw := zA0 (w := w) zbh hb
 go_wp2_with fail
 refine bodyPost_ret (v := .agg #[.bool true, .bool false, .slice a1 (nl 0) c1, .int .i64 0]) (by simp only [results, Tryz.results137]; go_simp) rfl ?_
 exact ⟨a1, c1, rfl, Mag.empty _ _ _ hm1.lim, (have := Beh.mk hbw; zbh), nl0⟩
theorem zNL (w : World) (bd s : Bool) (a : Option Addr) (n cap : Nat) (e z f y : Int) (hx : DyIn w bd s a n cap e (some (z, f))) (hT : Tab w) (hy : y = -z) :
 Calls Tryz.prog 137 #[.agg #[.bool bd, .bool s, .slice a n cap, .int .i64 e]] w (zAy w (some (y, f))) := by
 have e2 : ¬ w.heap.size + 1 = w.heap.size := by omega
 have hl := zAz (Nat.le_trans (zA7 hx.isN).1 (by omega))
 have HN := fun W h ht => Lib.hid (@zJY W bd s a n cap e (some (z, f)) h ht false z f rfl rfl rfl)
 have HG := fun W b c h => Lib.hid (zK3 W b c z y hy h hl)
 clear hy
 go_enter Tryz.func137, Tryz.ntmps137
 go_wp2_with fail
 refine (HN _ (hx.below zbh) (hT.below zbh)).out.mono ?_
 rintro e w1 ⟨a1, c1, rfl, hm1, hb, hf1⟩
 obtain ⟨hc1, hz1⟩ := zA8 (hb.mono (show w.heap.size + 2 ≤ _ by simp))
 have hg1 : w.heap.size + 2 ≤ w1.heap.size := by have := hb.size; simpa using this
 have hfr1 : 0 < nl z.natAbs → w.heap.size + 2 ≤ ab a1 := fun h => by have := hf1 h; simpa using this
 have hbw := zA0 (w := w) zbh hb
 go_wp2_with fail
 refine (HG _ a1 c1 (by repeat (with_reducible first | refine Mag.set ?_ (fun h => by have := hfr1 h; omega) _ _ | refine Mag.drew ?_ | refine Mag.alloc ?_ _ | refine Mag.drewN ?_ _ | refine Mag.below ?_ (Below.drew (Below.refl _ _)) | refine Mag.below ?_ ((Below.refl _ _).alloc (Nat.le_refl _) _) | exact hm1))).out.mono ?_
 rintro e w2 ⟨a2, c2, rfl, hm2, hb2, hf2⟩
 obtain ⟨hc2, hz2⟩ := zA8 (hb2.mono (show w.heap.size + 2 ≤ _ by simpa using hg1))
 have hfr2 : 0 < nl y.natAbs → w.heap.size + 2 ≤ ab a2 := fun h => by have := hf2 h; simp at this; omega
 have hbw2 := zA0 (w := w) (have := Beh.mk hbw; zbh) hb2
 clear hbw
 have hbw := hbw2
 go_wp2_with fail
 refine bodyPost_ret (v := .agg #[.bool false, .bool (decide (y < 0)), .slice a2 (nl y.natAbs) c2, .int .i64 f]) (by simp only [results, Tryz.results137]; go_simp) rfl ?_
 exact zOm false y f rfl rfl rfl (by repeat (with_reducible first | refine Mag.set ?_ (fun h => by have := hfr2 h; omega) _ _ | refine Mag.drew ?_ | refine Mag.alloc ?_ _ | refine Mag.drewN ?_ _ | refine Mag.below ?_ (Below.drew (Below.refl _ _)) | refine Mag.below ?_ ((Below.refl _ _).alloc (Nat.le_refl _) _) | exact hm2)) (by have hszw := hbw.size; repeat (with_reducible first | refine Below.setCell ?_ (by first | omega | (simp <;> omega)) _ | refine Below.alloc ?_ (by first | omega | (simp <;> omega)) _ | refine Below.drew ?_ | refine below_drewN ?_ _ | exact hbw)) (fun h => by have := hfr2 h; omega)
theorem zMg (w : World) (bd s : Bool) (a : Option Addr) (n cap : Nat) (e : Int) (d : Option (Int × Int)) (hx : DyIn w bd s a n cap e d) (hT : Tab w) :
 Calls Tryz.prog 137 #[.agg #[.bool bd, .bool s, .slice a n cap, .int .i64 e]] w (zAy w (zIV d)) := by
 rcases d with _ | ⟨z, f⟩
 · exact zMf w bd s a n cap e hx hT
 · exact zNL w bd s a n cap e z f _ hx hT rfl
theorem zBG (w : World) (bd s : Bool) (a : Option Addr) (n cap : Nat) (e : Int) (d : Option (Int × Int)) (hx : DyIn w bd s a n cap e d) (hT : Tab w) :
 Calls Tryz.prog 92 #[.agg #[.bool bd, .bool s, .slice a n cap, .int .i64 e]] w fun o w' => o = .returned (.int .i64 (zAr (zA1 d) 0)) ∧ Below w.heap.size w w' := by
 have HN := fun W h ht => Lib.hid (@zJY W bd s a n cap e d h ht _ _ _ rfl rfl rfl)
 obtain ⟨b, hb0⟩ : ∃ b, b = zA3 d := ⟨_, rfl⟩
 obtain ⟨z, hz0⟩ : ∃ z, z = zA1 d := ⟨_, rfl⟩
 obtain ⟨f, hf0⟩ : ∃ f, f = zA2 d := ⟨_, rfl⟩
 rw [← hb0, ← hz0, ← hf0] at HN
 rw [← hz0]
 clear hb0 hz0 hf0
 have HG := fun W b c h => Lib.hid (zDD W b c z h)
 obtain ⟨g, hg⟩ : ∃ g, g = sg z := ⟨_, rfl⟩
 rw [← hg] at HG
 rw [show zAr z 0 = g from hg.symm]
 clear hg
 go_enter Tryz.func92, Tryz.ntmps92
 go_wp2_with fail
 refine (HN _ (hx.below zbh) (hT.below zbh)).out.mono ?_
 rintro e w1 ⟨a1, c1, rfl, hm1, hb, hf1⟩
 obtain ⟨hc1, hz1⟩ := zA8 (hb.mono (show w.heap.size + 1 ≤ _ by simp))
 have hfr1 : 0 < nl z.natAbs → w.heap.size + 1 ≤ ab a1 := fun h => by have := hf1 h; simpa using this
 have hbw := zA0 (w := w) zbh hb
 go_wp2_with fail
 refine (HG _ a1 c1 (by repeat (with_reducible first | refine Mag.set ?_ (fun h => by have := hfr1 h; omega) _ _ | refine Mag.drew ?_ | refine Mag.alloc ?_ _ | refine Mag.drewN ?_ _ | refine Mag.below ?_ (Below.drew (Below.refl _ _)) | refine Mag.below ?_ ((Below.refl _ _).alloc (Nat.le_refl _) _) | exact hm1))).out.mono ?_
 rintro e w2 ⟨rfl, hb2⟩
 have hbw2 := zA0 (w := w) (have := Beh.mk hbw; zbh) hb2
 clear hbw
 have hbw := hbw2
 go_wp2_with fail
 go_ret
 exact ⟨rfl, (have := Beh.mk hbw; zbh)⟩
def zP3 (w : World) (x y E : Int) (e : Ending) (w' : World) : Prop :=
 ∃ a c a' c', e = .returned (.tuple #[.agg #[.bool (decide (x < 0)), .slice a (nl x.natAbs) c], .agg #[.bool (decide (y < 0)), .slice a' (nl y.natAbs) c'], .int .i64 E]) ∧ Mag w' a (nl x.natAbs) c x.natAbs ∧ Mag w' a' (nl y.natAbs) c' y.natAbs ∧ Below w.heap.size w w' ∧ (0 < nl x.natAbs → w.heap.size ≤ ab a) ∧ (0 < nl y.natAbs → w.heap.size ≤ ab a')
theorem zEP (w : World) (a : Option Addr) (cap : Nat) (z k y : Int) (hy : y = z * 2 ^ k.toNat) (hm : Mag w a (nl z.natAbs) cap z.natAbs) (hl : nl z.natAbs ≤ 1099511627776) (h0 : 0 ≤ k) (h1 : k ≤ 1048576) :
 Calls Tryz.prog 131 #[.agg #[.bool (decide (z < 0)), .slice a (nl z.natAbs) cap], .int .i64 k] w (zAj w y) := by
 have h := zFs w (decide (z < 0)) a _ cap _ k hm hl h0 h1
 rwa [zAg, show shl z k = y by rw [hy]; unfold shl; rw [if_pos h0]] at h
theorem zGB (w : World) (bd bd' : Bool) (a a' : Option Addr) (c c' : Nat) (z z' f f' E k k' x y : Int) (hx : Mag w a (nl z.natAbs) c z.natAbs) (hy : Mag w a' (nl z'.natAbs) c' z'.natAbs) (hl : nl z.natAbs ≤ 1099511627776) (hl' : nl z'.natAbs ≤ 1099511627776)
 (hE : min f f' = E) (hk : IntKind.i64.wrap (f - E) = k) (hk' : IntKind.i64.wrap (f' - E) = k') (h0 : 0 ≤ k) (h1 : k ≤ 1048576) (h0' : 0 ≤ k') (h1' : k' ≤ 1048576) (hxx : x = z * 2 ^ k.toNat) (hyy : y = z' * 2 ^ k'.toNat) :
 Calls Tryz.prog 121 #[.agg #[.bool bd, .bool (decide (z < 0)), .slice a (nl z.natAbs) c, .int .i64 f], .agg #[.bool bd', .bool (decide (z' < 0)), .slice a' (nl z'.natAbs) c', .int .i64 f']] w (zP3 w x y E) := by
 have HX := fun W h => Lib.hid (zEP W a c z k x hxx h hl h0 h1)
 have HY := fun W h => Lib.hid (zEP W a' c' z' k' y hyy h hl' h0' h1')
 have e1 : ¬ w.heap.size + 1 = w.heap.size := by omega
 have e2 : ¬ w.heap.size + 1 + 1 = w.heap.size := by omega
 have e3 : ¬ w.heap.size + 1 + 1 + 1 = w.heap.size := by omega
 clear h0 h1 h0' h1' hxx hyy
 go_enter Tryz.func121, Tryz.ntmps121
 go_wp2_with fail
 go_region_held3 (fun w' => w'.cell? ⟨w.heap.size, 1, none⟩ = some (.bool (decide (z < 0))) ∧ w'.cell? ⟨w.heap.size, 2, none⟩ = some (.slice a (nl z.natAbs) c) ∧ w'.cell? ⟨w.heap.size, 3, none⟩ = some (.int .i64 f)
  ∧ w'.cell? ⟨w.heap.size + 1, 1, none⟩ = some (.bool (decide (z' < 0))) ∧ w'.cell? ⟨w.heap.size + 1, 2, none⟩ = some (.slice a' (nl z'.natAbs) c') ∧ w'.cell? ⟨w.heap.size + 1, 3, none⟩ = some (.int .i64 f')) (first | (go_keep; done) | (go_simp; done))
  (first
   | (have hbw1x := hb1; go_at_call 131; refine (HY _ (hy.below (have := Beh.mk hbw; zbh))).out.mono ?_; rintro e w2 ⟨a2, c2, rfl, hm2, hb2, hf2⟩; obtain ⟨hc2, hz2⟩ := zA8 (hb2.mono (show w.heap.size + 4 ≤ _ by simpa using hg1)))
   | (go_at_call 131; refine (HX _ (hx.below zbh)).out.mono ?_; rintro e w1 ⟨a1, c1, rfl, hm1, hb1, hf1⟩; obtain ⟨hc1, hz1⟩ := zA8 (hb1.mono (show w.heap.size + 4 ≤ _ by simp)); have hg1 : w.heap.size + 4 ≤ w1.heap.size := (by have := hb1.size; simpa using this); have hbw := zA0 (w := w) zbh hb1)
   | fail)
 have hfr1 : 0 < nl x.natAbs → w.heap.size + 4 ≤ ab a1 := fun h => by have := hf1 h; (try simp at this); omega
 have hfr2 : 0 < nl y.natAbs → w.heap.size + 4 ≤ ab a2 := fun h => by have := hf2 h; (try simp at this); omega
 have hm1' : Mag w2 a1 (nl x.natAbs) c1 x.natAbs := Mag.below hm1.on hb2
 have hbw2 := zA0 (w := w) (have := Beh.mk hbw; zbh) hb2
 clear hbw
 have hbw := hbw2
 go_wp2_with fail
 refine zAa (v := .tuple #[.agg #[.bool (decide (x < 0)), .slice a1 (nl x.natAbs) c1], .agg #[.bool (decide (y < 0)), .slice a2 (nl y.natAbs) c2], .int .i64 E]) (by simp only [results, Tryz.results121]; go_simp) rfl ?_
 exact ⟨a1, c1, a2, c2, rfl, (by repeat (with_reducible first | refine Mag.set ?_ (fun h => by have := hfr1 h; omega) _ _ | refine Mag.drew ?_ | refine Mag.alloc ?_ _ | refine Mag.drewN ?_ _ | refine Mag.below ?_ (Below.drew (Below.refl _ _)) | refine Mag.below ?_ ((Below.refl _ _).alloc (Nat.le_refl _) _) | exact hm1')), (by repeat (with_reducible first | refine Mag.set ?_ (fun h => by have := hfr2 h; omega) _ _ | refine Mag.drew ?_ | refine Mag.alloc ?_ _ | refine Mag.drewN ?_ _ | refine Mag.below ?_ (Below.drew (Below.refl _ _)) | refine Mag.below ?_ ((Below.refl _ _).alloc (Nat.le_refl _) _) | exact hm2)), (by have hszw := hbw.size; repeat (with_reducible first | refine Below.setCell ?_ (by first | omega | (simp <;> omega)) _ | refine Below.alloc ?_ (by first | omega | (simp <;> omega)) _ | refine Below.drew ?_ | refine below_drewN ?_ _ | exact hbw)), fun h => by have := hfr1 h; omega, fun h => by have := hfr2 h; omega⟩
theorem zHf (w : World) (bd bd' : Bool) (a a' : Option Addr) (c c' : Nat) (z z' f f' : Int) (hx : Mag w a (nl z.natAbs) c z.natAbs) (hy : Mag w a' (nl z'.natAbs) c' z'.natAbs) (hl : nl z.natAbs ≤ 1099511627776) (hl' : nl z'.natAbs ≤ 1099511627776)
 (h0 : -65536 ≤ f) (h1 : f ≤ 65536) (h0' : -65536 ≤ f') (h1' : f' ≤ 65536) :
 Calls Tryz.prog 121 #[.agg #[.bool bd, .bool (decide (z < 0)), .slice a (nl z.natAbs) c, .int .i64 f], .agg #[.bool bd', .bool (decide (z' < 0)), .slice a' (nl z'.natAbs) c', .int .i64 f']] w (zP3 w (up z f (min f f')) (up z' f' (min f f')) (min f f')) :=
 zGB w bd bd' a a' c c' z z' f f' (min f f') (f - min f f') (f' - min f f') _ _ hx hy hl hl' rfl (by rw [IntKind.wrap_i64]; omega) (by rw [IntKind.wrap_i64]; omega) (by omega) (by omega) (by omega) (by omega) rfl rfl
theorem zPA {a b : Nat} (h : a + 3 ≤ b) : (¬ a = b) ∧ (¬ a + 1 = b) ∧ (¬ a + 1 + 1 = b) ∧ (¬ b = a) ∧ (¬ b = a + 1) ∧ (¬ b = a + 1 + 1) ∧ (a < b) ∧ (a + 1 < b) ∧ (a + 1 + 1 < b) ∧ (a < b + 1) ∧ (a < b + 2) ∧ (a < b + 1 + 1) ∧ (a + 1 < b + 1 + 1) ∧ (a + 1 < b + 1) ∧
 (a + 2 < b) ∧ (¬ a + 2 = b) ∧ (¬ b = a + 2) ∧ (¬ a = b + 1) ∧ (¬ b + 1 = a) ∧ (¬ a = b + 1 + 1) ∧ (¬ b + 1 + 1 = a) ∧ (¬ a = b + 2) ∧ (¬ a + 1 = b + 1) ∧ (¬ a + 1 + 1 = b + 1) ∧ (¬ b + 1 = a + 1) ∧ (a ≤ b) := by omega
theorem zO0 (w : World) (a a' : Option Addr) (cap cap' : Nat) (x y v : Int) (hv : v = x + y) (hm : Mag w a (nl x.natAbs) cap x.natAbs) (hm' : Mag w a' (nl y.natAbs) cap' y.natAbs) (hl : nl x.natAbs ≤ 1099511627776) (hl' : nl y.natAbs ≤ 1099511627776) :
 Calls Tryz.prog 123 #[.agg #[.bool (decide (x < 0)), .slice a (nl x.natAbs) cap], .agg #[.bool (decide (y < 0)), .slice a' (nl y.natAbs) cap']] w (zAj w v) := by
 have h := zLb w (decide (x < 0)) (decide (y < 0)) a a' _ _ cap cap' _ _ hm hm' hl hl'
 rwa [zAg, zAg, ← hv] at h
theorem zOB (w : World) (a a' : Option Addr) (cap cap' : Nat) (x y v : Int) (hv : v = x * y) (hm : Mag w a (nl x.natAbs) cap x.natAbs) (hm' : Mag w a' (nl y.natAbs) cap' y.natAbs) (hl : nl x.natAbs ≤ 1099511627776) (hl' : nl y.natAbs ≤ 1099511627776) :
 Calls Tryz.prog 125 #[.agg #[.bool (decide (x < 0)), .slice a (nl x.natAbs) cap], .agg #[.bool (decide (y < 0)), .slice a' (nl y.natAbs) cap']] w (zAj w v) := by
 have h := zNr w (decide (x < 0)) (decide (y < 0)) a a' _ _ cap cap' _ _ hm hm' hl hl'
 rwa [zAg, zAg, ← hv] at h
theorem zOS (w : World) (a a' : Option Addr) (cap cap' : Nat) (x y v : Int) (hv : v = zAr x y) (hm : Mag w a (nl x.natAbs) cap x.natAbs) (hm' : Mag w a' (nl y.natAbs) cap' y.natAbs) :
 Calls Tryz.prog 133 #[.agg #[.bool (decide (x < 0)), .slice a (nl x.natAbs) cap], .agg #[.bool (decide (y < 0)), .slice a' (nl y.natAbs) cap']] w fun e w' => e = .returned (.int .i64 v) ∧ Below w.heap.size w w' := by
 have h := zNU w (decide (x < 0)) (decide (y < 0)) a a' _ _ cap cap' _ _ hm hm'
 rwa [zAg, zAg, ← hv] at h
theorem zEf (w : World) (a : Option Addr) (cap : Nat) (z e : Int) (d : Option (Int × Int)) (hd : d = nrm z e) (hm : Mag w a (nl z.natAbs) cap z.natAbs) (hT : Tab w) (hB : zA4 z.natAbs ≤ 1048576) (he0 : -9223372036854775808 ≤ e) (he1 : e ≤ 9223372036854775807) :
 Calls Tryz.prog 122 #[.agg #[.bool (decide (z < 0)), .slice a (nl z.natAbs) cap], .int .i64 e] w (zAy w d) := by
 have h := zLP w (decide (z < 0)) a _ cap _ e hm (zAz hB) hT hB (zDC hB) he0 he1
 rwa [zAg, ← hd] at h
theorem zHW (w : World) (bd s bd' s' : Bool) (a a' : Option Addr) (n n' cap cap' : Nat) (e e' : Int) (d d' : Option (Int × Int)) (hx : DyIn w bd s a n cap e d) (hy : DyIn w bd' s' a' n' cap' e' d') (hT : Tab w) (hk : (!zA3 d && !zA3 d') = false) :
 Calls Tryz.prog 73 #[.agg #[.bool bd, .bool s, .slice a n cap, .int .i64 e], .agg #[.bool bd', .bool s', .slice a' n' cap', .int .i64 e']] w (zAy w none) := by
 have HN := fun W hx hy ht => Lib.hid (@zLl W bd s bd' s' a a' n n' cap cap' e e' d d' hx hy ht _ _ _ rfl rfl rfl _ _ _ rfl rfl rfl false hk)
 generalize zA3 d = b at HN
 generalize zA1 d = z at HN
 generalize zA2 d = f at HN
 generalize zA3 d' = b' at HN
 generalize zA1 d' = z' at HN
 generalize zA2 d' = f' at HN
 clear hk
 have e1 : ¬ w.heap.size + 1 = w.heap.size := by omega
 have e2 : ¬ w.heap.size + 1 + 1 = w.heap.size := by omega
 have l2 : w.heap.size < w.heap.size + 1 + 1 := by omega
 have k2 : ¬ w.heap.size = w.heap.size + 1 + 1 := by omega
 have l3 : w.heap.size < w.heap.size + 1 + 1 + 1 := by omega
 have k3 : ¬ w.heap.size = w.heap.size + 1 + 1 + 1 := by omega
 go_enter Tryz.func73, Tryz.ntmps73
 go_wp2_with fail
 refine (HN _ (hx.below zbh) (hy.below zbh) (hT.below zbh)).out.mono ?_
 rintro e w1 ⟨a1, c1, a2, c2, rfl, hm1, hm2, hb, hf1, hf2⟩
 obtain ⟨hc1, hz1⟩ := zA8 (hb.mono (show w.heap.size + 3 ≤ _ by simp))
 have hg1 : w.heap.size + 3 ≤ w1.heap.size := by have := hb.size; simpa using this
 have hbw := zA0 (w := w) zbh hb
 go_wp2_with fail
 refine (zDA _).mono ?_
 rintro e w2 ⟨rfl, hb2⟩
 obtain ⟨hc2, hz2⟩ := zA8 (hb2.mono (show w.heap.size + 3 ≤ _ by simpa using hg1))
 have hbw2 := zA0 (w := w) (have := Beh.mk hbw; zbh) hb2
 clear hbw
 have hbw := hbw2
 go_wp2_with fail
 refine bodyPost_ret (v := .agg #[.bool true, .bool false, .slice none 0 0, .int .i64 0]) (by simp only [results, Tryz.results73]; go_simp) rfl ?_
 exact zJA rfl (have := Beh.mk hbw; zbh)
theorem zHS (w : World) (bd s bd' s' : Bool) (a a' : Option Addr) (n n' cap cap' : Nat) (e e' : Int) (d d' : Option (Int × Int)) (hx : DyIn w bd s a n cap e d) (hy : DyIn w bd' s' a' n' cap' e' d') (hT : Tab w) (hk : (!zA3 d && !zA3 d') = false) :
 Calls Tryz.prog 76 #[.agg #[.bool bd, .bool s, .slice a n cap, .int .i64 e], .agg #[.bool bd', .bool s', .slice a' n' cap', .int .i64 e']] w (zAy w none) := by
 have HN := fun W hx hy ht => Lib.hid (@zLl W bd s bd' s' a a' n n' cap cap' e e' d d' hx hy ht _ _ _ rfl rfl rfl _ _ _ rfl rfl rfl false hk)
 generalize zA3 d = b at HN
 generalize zA1 d = z at HN
 generalize zA2 d = f at HN
 generalize zA3 d' = b' at HN
 generalize zA1 d' = z' at HN
 generalize zA2 d' = f' at HN
 clear hk
 have e1 : ¬ w.heap.size + 1 = w.heap.size := by omega
 have e2 : ¬ w.heap.size + 1 + 1 = w.heap.size := by omega
 have l2 : w.heap.size < w.heap.size + 1 + 1 := by omega
 have k2 : ¬ w.heap.size = w.heap.size + 1 + 1 := by omega
 have l3 : w.heap.size < w.heap.size + 1 + 1 + 1 := by omega
 have k3 : ¬ w.heap.size = w.heap.size + 1 + 1 + 1 := by omega
 go_enter Tryz.func76, Tryz.ntmps76
 go_wp2_with fail
 refine (HN _ (hx.below zbh) (hy.below zbh) (hT.below zbh)).out.mono ?_
 rintro e w1 ⟨a1, c1, a2, c2, rfl, hm1, hm2, hb, hf1, hf2⟩
 obtain ⟨hc1, hz1⟩ := zA8 (hb.mono (show w.heap.size + 3 ≤ _ by simp))
 have hg1 : w.heap.size + 3 ≤ w1.heap.size := by have := hb.size; simpa using this
 have hbw := zA0 (w := w) zbh hb
 go_wp2_with fail
 refine (zDA _).mono ?_
 rintro e w2 ⟨rfl, hb2⟩
 obtain ⟨hc2, hz2⟩ := zA8 (hb2.mono (show w.heap.size + 3 ≤ _ by simpa using hg1))
 have hbw2 := zA0 (w := w) (have := Beh.mk hbw; zbh) hb2
 clear hbw
 have hbw := hbw2
 go_wp2_with fail
 refine bodyPost_ret (v := .agg #[.bool true, .bool false, .slice none 0 0, .int .i64 0]) (by simp only [results, Tryz.results76]; go_simp) rfl ?_
 exact zJA rfl (have := Beh.mk hbw; zbh)
theorem zNR (w : World) (bd s bd' s' : Bool) (a a' : Option Addr) (n n' cap cap' : Nat) (e e' : Int) (z f z' f' : Int) (hx : DyIn w bd s a n cap e (some (z, f))) (hy : DyIn w bd' s' a' n' cap' e' (some (z', f'))) (hT : Tab w) :
 Calls Tryz.prog 73 #[.agg #[.bool bd, .bool s, .slice a n cap, .int .i64 e], .agg #[.bool bd', .bool s', .slice a' n' cap', .int .i64 e']] w (zAy w (nrm (up z f (min f f') + up z' f' (min f f')) (min f f'))) := by
 have HN := fun W hx hy ht => Lib.hid (@zLl W bd s bd' s' a a' n n' cap cap' e e' (some (z, f)) (some (z', f')) hx hy ht false z f rfl rfl rfl false z' f' rfl rfl rfl true rfl)
 obtain ⟨hb0, hf0, hf1⟩ := zA7 hx.isN
 obtain ⟨hb0', hf0', hf1'⟩ := zA7 hy.isN
 simp only [zA1, zA2, Option.getD_some] at hb0 hf0 hf1 hb0' hf0' hf1'
 have hl := zAz (Nat.le_trans hb0 (by omega))
 have hl' := zAz (Nat.le_trans hb0' (by omega))
 have HA := fun W b c b' c' h h' => Lib.hid (zHf W false false b b' c c' z z' f f' h h' hl hl' (by omega) (by omega) (by omega) (by omega))
 have hx0 : zA4 (up z f (min f f')).natAbs ≤ 262144 := zBx (by omega) (by omega)
 have hy0 : zA4 (up z' f' (min f f')).natAbs ≤ 262144 := zBx (by omega) (by omega)
 have hE0 : -65536 ≤ min f f' ∧ min f f' ≤ 65536 := by omega
 generalize up z f (min f f') = x at HA hx0 ⊢
 generalize up z' f' (min f f') = y at HA hy0 ⊢
 generalize min f f' = E at HA hE0 ⊢
 have hlx := zAz (Nat.le_trans hx0 (by omega))
 have hly := zAz (Nat.le_trans hy0 (by omega))
 have hv0 := Nat.le_trans (zMX x y) (show _ ≤ 262145 by omega)
 have HC := fun W b c b' c' h h' => Lib.hid (zO0 W b b' c c' x y _ rfl h h' hlx hly)
 generalize x + y = v at HC hv0 ⊢
 have HM := fun W b c h ht => Lib.hid (zEf W b c v E _ rfl h ht (by omega) (by omega) (by omega))
 generalize nrm v E = d at HM ⊢
 have e1 : ¬ w.heap.size + 1 = w.heap.size := by omega
 have e2 : ¬ w.heap.size + 1 + 1 = w.heap.size := by omega
 have l2 : w.heap.size < w.heap.size + 1 + 1 := by omega
 have k2 : ¬ w.heap.size = w.heap.size + 1 + 1 := by omega
 have l3 : w.heap.size < w.heap.size + 1 + 1 + 1 := by omega
 have k3 : ¬ w.heap.size = w.heap.size + 1 + 1 + 1 := by omega
 clear hb0 hf0 hf1 hb0' hf0' hf1'
 go_enter Tryz.func73, Tryz.ntmps73
 go_wp2_with fail
 refine (HN _ (hx.below zbh) (hy.below zbh) (hT.below zbh)).out.mono ?_
 rintro e w1 ⟨a1, c1, a2, c2, rfl, hm1, hm2, hb, hf1, hf2⟩
 obtain ⟨hc1, hz1⟩ := zA8 (hb.mono (show w.heap.size + 3 ≤ _ by simp))
 have hg1 : w.heap.size + 3 ≤ w1.heap.size := by have := hb.size; simpa using this
 have hfr1 : 0 < nl z.natAbs → w.heap.size + 3 ≤ ab a1 := fun h => by have := hf1 h; simpa using this
 have hfr2 : 0 < nl z'.natAbs → w.heap.size + 3 ≤ ab a2 := fun h => by have := hf2 h; simpa using this
 have hbw := zA0 (w := w) zbh hb
 go_wp2_with fail
 refine (HA _ a1 c1 a2 c2 (by repeat (with_reducible first | refine Mag.set ?_ (fun h => by have := hfr1 h; omega) _ _ | refine Mag.drew ?_ | refine Mag.alloc ?_ _ | refine Mag.drewN ?_ _ | refine Mag.below ?_ (Below.drew (Below.refl _ _)) | refine Mag.below ?_ ((Below.refl _ _).alloc (Nat.le_refl _) _) | exact hm1)) (by repeat (with_reducible first | refine Mag.set ?_ (fun h => by have := hfr2 h; omega) _ _ | refine Mag.drew ?_ | refine Mag.alloc ?_ _ | refine Mag.drewN ?_ _ | refine Mag.below ?_ (Below.drew (Below.refl _ _)) | refine Mag.below ?_ ((Below.refl _ _).alloc (Nat.le_refl _) _) | exact hm2))).out.mono ?_
 rintro e w2 ⟨a3, c3, a4, c4, rfl, hm3, hm4, hb2, hf3, hf4⟩
 obtain ⟨hc2, hz2⟩ := zA8 (hb2.mono (show w.heap.size + 3 ≤ _ by simpa using hg1))
 have hg2 : w.heap.size + 3 ≤ w2.heap.size := by have := hb2.size; simp at this; omega
 have hbw2 := zA0 (w := w) (have := Beh.mk hbw; zbh) hb2
 clear hbw
 have hbw := hbw2
 obtain ⟨o01, o02, o03, o04, o05, o06, o07, o08, o09, o10, o11, o12, o13, o14, o15, o16, o17, o18, o19, o20, o21, o22, o23, o24, o25, o26⟩ := zPA hg2
 have hm3' := hm3
 go_wp2_with fail
 refine (HC _ a3 c3 a4 c4 (Mag.below hm3 zbh) (Mag.below hm4 zbh)).out.mono ?_
 rintro e w3 ⟨a5, c5, rfl, hm5, hb3, hf5⟩
 obtain ⟨hc3, hz3⟩ := zA8 (hb3.mono (show w2.heap.size ≤ _ by simp <;> omega))
 have hbw3 := zA0 (w := w) (have := Beh.mk hbw; zbh) hb3
 have hg3 : w.heap.size + 3 ≤ w3.heap.size := by have := hb3.size; simp at this; omega
 clear hbw
 have hbw := hbw3
 go_wp2_with fail
 refine (HM _ a5 c5 hm5 (hT.below hbw)).out.mono ?_
 rintro e w4 ⟨a6, c6, rfl, hm6, hb4, hf6⟩
 obtain ⟨hc4, hz4⟩ := zA8 (hb4.mono (show w.heap.size + 3 ≤ _ from hg3))
 have hfr6 : 0 < nl (zA1 d).natAbs → w.heap.size + 3 ≤ ab a6 := fun h => by have := hf6 h; omega
 have hbw4 := zA0 (w := w) hbw hb4
 clear hbw
 have hbw := hbw4
 go_wp2_with fail
 refine bodyPost_ret (v := .agg #[.bool (zA3 d), .bool (decide (zA1 d < 0)), .slice a6 (nl (zA1 d).natAbs) c6, .int .i64 (zA2 d)]) (by simp only [results, Tryz.results73]; go_simp) rfl ?_
 exact ⟨a6, c6, rfl, (by repeat (with_reducible first | refine Mag.set ?_ (fun h => by have := hfr6 h; omega) _ _ | refine Mag.drew ?_ | refine Mag.alloc ?_ _ | refine Mag.drewN ?_ _ | refine Mag.below ?_ (Below.drew (Below.refl _ _)) | refine Mag.below ?_ ((Below.refl _ _).alloc (Nat.le_refl _) _) | exact hm6)), (by have hszw := hbw.size; repeat (with_reducible first | refine Below.setCell ?_ (by first | omega | (simp <;> omega)) _ | refine Below.alloc ?_ (by first | omega | (simp <;> omega)) _ | refine Below.drew ?_ | refine below_drewN ?_ _ | exact hbw)), fun h => by have := hfr6 h; omega⟩
theorem zNM (w : World) (bd s bd' s' : Bool) (a a' : Option Addr) (n n' cap cap' : Nat) (e e' : Int) (z f z' f' : Int) (hx : DyIn w bd s a n cap e (some (z, f))) (hy : DyIn w bd' s' a' n' cap' e' (some (z', f'))) (hT : Tab w) :
 Calls Tryz.prog 76 #[.agg #[.bool bd, .bool s, .slice a n cap, .int .i64 e], .agg #[.bool bd', .bool s', .slice a' n' cap', .int .i64 e']] w (zAy w (nrm (z * z') (f + f'))) := by
 have HN := fun W hx hy ht => Lib.hid (@zLl W bd s bd' s' a a' n n' cap cap' e e' (some (z, f)) (some (z', f')) hx hy ht false z f rfl rfl rfl false z' f' rfl rfl rfl true rfl)
 obtain ⟨hb0, hf0, hf1⟩ := zA7 hx.isN
 obtain ⟨hb0', hf0', hf1'⟩ := zA7 hy.isN
 simp only [zA1, zA2, Option.getD_some] at hb0 hf0 hf1 hb0' hf0' hf1'
 have hl := zAz (Nat.le_trans hb0 (by omega))
 have hl' := zAz (Nat.le_trans hb0' (by omega))
 have hv0 := Nat.le_trans (zL4 z z') (show _ ≤ 262144 by omega)
 have HC := fun W b c b' c' h h' => Lib.hid (zOB W b b' c c' z z' _ rfl h h' hl hl')
 generalize z * z' = v at HC hv0 ⊢
 obtain ⟨E, hE⟩ : ∃ E, E = f + f' := ⟨_, rfl⟩
 have hwr : IntKind.i64.wrap (f + f') = E := by rw [IntKind.wrap_i64]; omega
 have HM := fun W b c h ht => Lib.hid (zEf W b c v E _ rfl h ht (by omega) (by omega) (by omega))
 rw [← hE]
 clear hE
 generalize nrm v E = d at HM ⊢
 have e1 : ¬ w.heap.size + 1 = w.heap.size := by omega
 have e2 : ¬ w.heap.size + 1 + 1 = w.heap.size := by omega
 have l2 : w.heap.size < w.heap.size + 1 + 1 := by omega
 have k2 : ¬ w.heap.size = w.heap.size + 1 + 1 := by omega
 have l3 : w.heap.size < w.heap.size + 1 + 1 + 1 := by omega
 have k3 : ¬ w.heap.size = w.heap.size + 1 + 1 + 1 := by omega
 clear hb0 hf0 hf1 hb0' hf0' hf1'
 go_enter Tryz.func76, Tryz.ntmps76
 go_wp2_with fail
 refine (HN _ (hx.below zbh) (hy.below zbh) (hT.below zbh)).out.mono ?_
 rintro e w1 ⟨a1, c1, a2, c2, rfl, hm1, hm2, hb, hf1, hf2⟩
 obtain ⟨hc1, hz1⟩ := zA8 (hb.mono (show w.heap.size + 3 ≤ _ by simp))
 have hg1 : w.heap.size + 3 ≤ w1.heap.size := by have := hb.size; simpa using this
 have hfr1 : 0 < nl z.natAbs → w.heap.size + 3 ≤ ab a1 := fun h => by have := hf1 h; simpa using this
 have hfr2 : 0 < nl z'.natAbs → w.heap.size + 3 ≤ ab a2 := fun h => by have := hf2 h; simpa using this
 have hbw := zA0 (w := w) zbh hb
 go_wp2_with fail
 obtain ⟨q0, q1, q2, q3, q4, q5, q6, q7⟩ : w1.cell? ⟨w.heap.size, 0, none⟩ = some (.bool bd) ∧ w1.cell? ⟨w.heap.size, 1, none⟩ = some (.bool s) ∧ w1.cell? ⟨w.heap.size, 2, none⟩ = some (.slice a n cap) ∧ w1.cell? ⟨w.heap.size, 3, none⟩ = some (.int .i64 e)
  ∧ w1.cell? ⟨w.heap.size + 1, 0, none⟩ = some (.bool bd') ∧ w1.cell? ⟨w.heap.size + 1, 1, none⟩ = some (.bool s') ∧ w1.cell? ⟨w.heap.size + 1, 2, none⟩ = some (.slice a' n' cap') ∧ w1.cell? ⟨w.heap.size + 1, 3, none⟩ = some (.int .i64 e') := by
  refine ⟨?_, ?_, ?_, ?_, ?_, ?_, ?_, ?_⟩ <;> go_simp
 go_region_held3 (fun w' => w'.cell? ⟨w.heap.size, 1, none⟩ = some (.bool (decide (z < 0))) ∧ w'.cell? ⟨w.heap.size, 2, none⟩ = some (.slice a1 (nl z.natAbs) c1) ∧ w'.cell? ⟨w.heap.size, 3, none⟩ = some (.int .i64 f)
  ∧ w'.cell? ⟨w.heap.size + 1, 1, none⟩ = some (.bool (decide (z' < 0))) ∧ w'.cell? ⟨w.heap.size + 1, 2, none⟩ = some (.slice a2 (nl z'.natAbs) c2) ∧ w'.cell? ⟨w.heap.size + 1, 3, none⟩ = some (.int .i64 f')) (first | (go_keep; done) | (go_simp; done))
  (first
   | (go_at_call 125; refine (HC _ a1 c1 a2 c2 (by repeat (with_reducible first | refine Mag.set ?_ (fun h => by have := hfr1 h; omega) _ _ | refine Mag.drew ?_ | refine Mag.alloc ?_ _ | refine Mag.drewN ?_ _ | refine Mag.below ?_ (Below.drew (Below.refl _ _)) | refine Mag.below ?_ ((Below.refl _ _).alloc (Nat.le_refl _) _) | exact hm1)) (by repeat (with_reducible first | refine Mag.set ?_ (fun h => by have := hfr2 h; omega) _ _ | refine Mag.drew ?_ | refine Mag.alloc ?_ _ | refine Mag.drewN ?_ _ | refine Mag.below ?_ (Below.drew (Below.refl _ _)) | refine Mag.below ?_ ((Below.refl _ _).alloc (Nat.le_refl _) _) | exact hm2))).out.mono ?_; rintro e w2 ⟨a3, c3, rfl, hm3, hb2, hf3⟩; obtain ⟨hc2, hz2⟩ := zA8 (hb2.mono (show w.heap.size + 3 ≤ _ by simpa using hg1)); have hg2 : w.heap.size + 3 ≤ w2.heap.size := (by have := hb2.size; simp at this; omega); have hbw2 := zA0 (w := w) (by have hszw := hbw.size; repeat (with_reducible first | refine Below.setCell ?_ (by first | omega | (simp <;> omega)) _ | refine Below.alloc ?_ (by first | omega | (simp <;> omega)) _ | refine Below.drew ?_ | refine below_drewN ?_ _ | exact hbw)) hb2)
   | (go_at_call 122; refine (HM _ a3 c3 (Mag.below hm3 (by repeat (with_reducible first | refine Below.setCell ?_ (by simp <;> omega) _ | refine Below.alloc ?_ (by simp <;> omega) _ | refine Below.drew ?_ | refine below_drewN ?_ _ | exact Below.refl _ _))) (hT.below (by have hszw := (hbw2).size; repeat (with_reducible first | refine Below.setCell ?_ (by first | omega | (simp <;> omega)) _ | refine Below.alloc ?_ (by first | omega | (simp <;> omega)) _ | refine Below.drew ?_ | refine below_drewN ?_ _ | exact hbw2)))).out.mono ?_; rintro e w4 ⟨a6, c6, rfl, hm6, hb4, hf6⟩; obtain ⟨hc4, hz4⟩ := zA8 (hb4.mono (show w.heap.size + 3 ≤ _ by simpa using hg2)); have hbw4 := zA0 (w := w) (by have hszw := (hbw2).size; repeat (with_reducible first | refine Below.setCell ?_ (by first | omega | (simp <;> omega)) _ | refine Below.alloc ?_ (by first | omega | (simp <;> omega)) _ | refine Below.drew ?_ | refine below_drewN ?_ _ | exact hbw2)) hb4))
 have hfr6 : 0 < nl (zA1 d).natAbs → w.heap.size + 3 ≤ ab a6 := fun h => by have := hf6 h; (try simp at this); omega
 clear hbw
 have hbw := hbw4
 go_wp2_with fail
 refine bodyPost_ret (v := .agg #[.bool (zA3 d), .bool (decide (zA1 d < 0)), .slice a6 (nl (zA1 d).natAbs) c6, .int .i64 (zA2 d)]) (by simp only [results, Tryz.results76]; go_simp) rfl ?_
 exact ⟨a6, c6, rfl, (by repeat (with_reducible first | refine Mag.set ?_ (fun h => by have := hfr6 h; omega) _ _ | refine Mag.drew ?_ | refine Mag.alloc ?_ _ | refine Mag.drewN ?_ _ | refine Mag.below ?_ (Below.drew (Below.refl _ _)) | refine Mag.below ?_ ((Below.refl _ _).alloc (Nat.le_refl _) _) | exact hm6)), (by have hszw := hbw.size; repeat (with_reducible first | refine Below.setCell ?_ (by first | omega | (simp <;> omega)) _ | refine Below.alloc ?_ (by first | omega | (simp <;> omega)) _ | refine Below.drew ?_ | refine below_drewN ?_ _ | exact hbw)), fun h => by have := hfr6 h; omega⟩
theorem zMn (w : World) (bd s bd' s' : Bool) (a a' : Option Addr) (n n' cap cap' : Nat) (e e' : Int) (d d' : Option (Int × Int)) (hx : DyIn w bd s a n cap e d) (hy : DyIn w bd' s' a' n' cap' e' d') (hT : Tab w) :
 Calls Tryz.prog 73 #[.agg #[.bool bd, .bool s, .slice a n cap, .int .i64 e], .agg #[.bool bd', .bool s', .slice a' n' cap', .int .i64 e']] w (zAy w (zEX d d')) := by
 rcases d with _ | ⟨z, f⟩
 · exact zHW w bd s bd' s' a a' n n' cap cap' e e' _ _ hx hy hT rfl
 · rcases d' with _ | ⟨z', f'⟩
   · exact zHW w bd s bd' s' a a' n n' cap cap' e e' _ _ hx hy hT rfl
   · exact zNR w bd s bd' s' a a' n n' cap cap' e e' z f z' f' hx hy hT
theorem zHT (w : World) (bd s bd' s' : Bool) (a a' : Option Addr) (n n' cap cap' : Nat) (e e' : Int) (d d' : Option (Int × Int)) (hx : DyIn w bd s a n cap e d) (hy : DyIn w bd' s' a' n' cap' e' d') (hT : Tab w) :
 Calls Tryz.prog 76 #[.agg #[.bool bd, .bool s, .slice a n cap, .int .i64 e], .agg #[.bool bd', .bool s', .slice a' n' cap', .int .i64 e']] w (zAy w (zCZ d d')) := by
 rcases d with _ | ⟨z, f⟩
 · exact zHS w bd s bd' s' a a' n n' cap cap' e e' _ _ hx hy hT rfl
 · rcases d' with _ | ⟨z', f'⟩
   · exact zHS w bd s bd' s' a a' n n' cap cap' e e' _ _ hx hy hT rfl
   · exact zNM w bd s bd' s' a a' n n' cap cap' e e' z f z' f' hx hy hT
theorem zCN (w : World) (a : Option Addr) (cap : Nat) (z : Int) (hm : Mag w a (nl z.natAbs) cap z.natAbs) (hl : nl z.natAbs ≤ 1099511627776) :
 Calls Tryz.prog 148 #[.agg #[.bool (decide (z < 0)), .slice a (nl z.natAbs) cap]] w fun e w' => e = .returned (.int .i64 (zA4 z.natAbs)) ∧ Below w.heap.size w w' :=
 zCO w (decide (z < 0)) a _ cap _ hm hl
end Go.Proofs.YtablcbgeeeboeaaGreatDoor

/-
  Walks: package sparseref23: left.
-/
import Derived.Test.YtablcbgeeeboeaaGreatDoorZdRsum
import Derived.Test.YtablcbgeeeboeaaGreatDoorZdGq
import Derived.Test.YtablcbgeeeboeaaGreatDoorZdPz
set_option maxRecDepth 100000
set_option maxHeartbeats 20000000
namespace Go.Proofs.YtablcbgeeeboeaaGreatDoor
open Go.RowKit Sp
theorem dms_rsum {w : World} {base : Nat} {v : Value} {k : Nat} {d : Nat → Option (Int × Int)} {A : Nat → Option Addr} {C : Nat → Nat} (hT : Tab w) (h : Dms w base v k d A C) (hd : ∀ i, IsN (d i)) (hk : k ≤ 1048576) :
 ∃ a cap, v = .slice a k cap ∧ Calls Tryz.prog 22 #[.slice a k cap] w (RetDy w (dsum d k)) := by
 obtain ⟨a, cap, hv, hD⟩ := h.dys hd
 refine ⟨a, cap, hv, ?_⟩
 have s := rsum_any w hT a k cap _ hD hk (fun i hi => by
  have := isN_bounds (hd i)
  refine ⟨Nat.le_trans (nl_le_blen _) (by omega), ?_⟩
  show blen (dman (d i)).natAbs ≤ 1048576
  omega)
 rwa [els_d hd] at s
theorem N3.grown {W W' : World} {b : Nat} {x0 x1 x2 : Value} (h : N3 W b x0 x1 x2) {row : Option Nat} (hg : W.grownBy W' row) (hne : some b ≠ row) : N3 W' b x0 x1 x2 := by
 have hblk := hg.block b h.lt hne
 have hc : ∀ i, W'.cell? ⟨b, i, none⟩ = W.cell? ⟨b, i, none⟩ := fun i => World.cell?_of_block (a := ⟨b, i, none⟩) hblk
 exact ⟨(hc 0).trans h.c0, (hc 1).trans h.c1, (hc 2).trans h.c2, fun i => (World.frozen?_of_block (a := ⟨b, i, none⟩) hblk).trans (h.z i), Nat.lt_of_lt_of_le h.lt hg.size⟩
attribute [local irreducible] Calls
theorem rleft_any (w : World) [Tb w] (n : Nat) (cc kk : Int) (ae : Option Addr) (M ce : Nat) (B : Nat → Option (Int × Int)) [hB : DZ w ae M ce B] (pa : Option Addr) (N pc : Nat) (V : Nat → Nat) [hV : FZ w pa N pc V]
 (hM : M = n * n) (hn : n ≤ 64) (hBN : ∀ t, IsN (B t)) (i j m k : Nat) (hi : i < n) (hj : j < n) (hm : m ≤ k) (hk : k ≤ 64) (hNk : N = n * k) :
 Calls Tryz.prog 47 #[.agg #[.int .i64 n, .int .i64 cc, .slice ae M ce], .agg #[.int .i64 n, .int .i64 kk, .slice pa N pc], .int .i64 i, .int .i64 j, .int .i64 m] w (RetDy w (dleft B n V i j m)) := by
 have l1 := hB.out.fits
 have l2 := hV.out.fits
 have l3 := hV.out.lim
 have HAt := fun W [DZ W ae M ce B] => Lib.hid (show Calls Tryz.prog 75 #[.agg #[.int .i64 n, .int .i64 cc, .slice ae M ce], .int .i64 i, .int .i64 j] W fun o w' => ∃ a q, o = .returned (.agg #[.bool (dbad (B (j * n + i))), .bool (decide (dman (B (j * n + i)) < 0)), .slice a (nl (dman (B (j * n + i))).natAbs) q, .int .i64 (dexp (B (j * n + i)))]) ∧ BI w' a (nl (dman (B (j * n + i))).natAbs) q (dman (B (j * n + i))).natAbs ∧ From W w' from
  (r23at_any W n cc ae M ce B i j hn hi hj hM).mono fun _ _ ⟨a, q, h1, h2, h3⟩ => ⟨a, q, h1, ⟨h2.below h3⟩, ⟨h3⟩⟩)
 have hRes : Hid (dleft B n V i j m = dsum (dterm B n V i j) (m + 1)) := Lib.hid rfl
 obtain ⟨D, hD⟩ : ∃ D, D = dterm B n V i j := ⟨_, rfl⟩
 rw [← hD] at hRes
 have HB0 : Hid (B (j * n + i) = D 0) := by rw [hD]; exact rfl
 have hDN : Hid (∀ q, IsN (D q)) := by rw [hD]; exact fun q => isN_dterm hBN n V i j q
 have hDS : Hid (∀ q, D (q + 1) = dneg (dmul (fof (V (q * n + i))) (fof (V (q * n + j))))) := by rw [hD]; exact fun q => rfl
 generalize B (j * n + i) = b0 at *
 have HNk := Lib.hid hNk
 clear hD hBN hM hNk
 go_enter Tryz.func47, Tryz.ntmps47
 go_wp2_with fail
 refine (HAt _).out.mono ?_; rintro o w1 ⟨A0, C0, rfl, i1, b1⟩
 have e1 := b1.out.size
 simp at e1
 have DX0 := DX.one (w := w1) (base := w.heap.size + 3) (d := D) (e := b0) (n := w1.heap.size) (by omega) HB0.out i1.out rfl
 have P0 : N3 (w1.alloc (.cells #[.bool (dbad b0), .bool (decide (dman b0 < 0)), .slice A0 (nl (dman b0).natAbs) C0, .int .i64 (dexp b0)] 46)) (w.heap.size + 1) (.int .i64 n) (.int .i64 kk) (.slice pa N pc) := inferInstance
 have R0 : DB (w1.alloc (.cells #[.bool (dbad b0), .bool (decide (dman b0 < 0)), .slice A0 (nl (dman b0).natAbs) C0, .int .i64 (dexp b0)] 46)) (w.heap.size + 1 + 1) false false (.slice none 0 0) 0 := inferInstance
 have L0 : Below w.heap.size w (w1.alloc (.cells #[.bool (dbad b0), .bool (decide (dman b0 < 0)), .slice A0 (nl (dman b0).natAbs) C0, .int .i64 (dexp b0)] 46)) := zbh
 have E0 : w.heap.size + 3 ≤ (w1.alloc (.cells #[.bool (dbad b0), .bool (decide (dman b0 < 0)), .slice A0 (nl (dman b0).natAbs) C0, .int .i64 (dexp b0)] 46)).heap.size := by simp; omega
 clear HAt HB0
 go_wp2_with fail
 go_loopw [11, 12] (fun v x wr => ∃ (c : Nat) (A : Nat → Option Addr) (C : Nat → Nat), c ≤ m ∧ x = .int .i64 c ∧ DX wr (w.heap.size + 3) v (c + 1) D A C ∧ N3 wr (w.heap.size + 1) (.int .i64 n) (.int .i64 kk) (.slice pa N pc) ∧ DB wr (w.heap.size + 1 + 1) false false (.slice none 0 0) 0 ∧ Below w.heap.size w wr ∧ w.heap.size + 3 ≤ wr.heap.size) (fun _ x _ => m - (intOf x).toNat)
 case atStart => exact ⟨0, _, _, by omega, rfl, DX0, P0, R0, L0, E0⟩
 case round =>
  clear DX0 P0 R0 L0 E0 i1 b1
  obtain ⟨c, A, C, hc, rfl, iX, iP, iR, hbr, hsz⟩ := hrel
  haveI bw : From w wr := ⟨hbr⟩
  by_cases hlt : c < m
  · have t1 : c * n + i < N := by rw [HNk.out]; exact idx_lt hi (by omega)
    have t2 : c * n + j < N := by rw [HNk.out]; exact idx_lt hj (by omega)
    have t3 : c * n ≤ 4096 := Nat.mul_le_mul (show c ≤ 64 by omega) hn
    have HDc := Lib.hid (hDS.out c)
    obtain ⟨x, hx⟩ : ∃ x, x = c * n := ⟨_, rfl⟩
    have hcn : (c : Int) * (n : Int) = (x : Int) := by rw [hx]; exact (Int.natCast_mul c n).symm
    rw [← hx] at t1 t2 t3 HDc
    haveI u1 : CE w (ab pa) (ao pa + (x + i)) (.int .u64 ((V (x + i) : Nat) : Int)) := ⟨hV.out.cell _ t1, hV.out.old (by omega)⟩
    haveI u2 : CE w (ab pa) (ao pa + (x + j)) (.int .u64 ((V (x + j) : Nat) : Int)) := ⟨hV.out.cell _ t2, hV.out.old (by omega)⟩
    have y1 := hV.out.idx _ t1
    have y2 := hV.out.idx _ t2
    rw [show (((x + i : Nat)) : Int) = (x : Int) + (i : Int) by omega] at y1
    rw [show (((x + j : Nat)) : Int) = (x : Int) + (j : Int) by omega] at y2
    have v1 := hV.out.b _ t1
    have v2 := hV.out.b _ t2
    have HM := fun W [Tb W] => Lib.hid (frF (r23prod_any W (V (x + i)) (V (x + j)) v1 v2))
    obtain ⟨dm, hdm⟩ : ∃ dm, dm = dmul (fof (V (x + i))) (fof (V (x + j))) := ⟨_, rfl⟩
    have hmN : IsN dm := by rw [hdm]; exact isN_mul _ _
    rw [← hdm] at HM HDc
    have HN := fun W a c [i1 : BI W a (nl (dman dm).natAbs) c (dman dm).natAbs] [Tb W] => Lib.hid (frF (rdneg_any W (dbad dm) (decide (dman dm < 0)) a _ c (dexp dm) dm (dys_of hmN i1.out) tb))
    obtain ⟨dk, hdk⟩ : ∃ dk, dk = dneg dm := ⟨_, rfl⟩
    rw [← hdk] at HN HDc
    have w1 : IntKind.i64.wrap (x : Int) = (x : Int) := by rw [IntKind.wrap_i64]; omega
    have w2 : IntKind.i64.wrap ((x : Int) + (i : Int)) = (x : Int) + (i : Int) := by rw [IntKind.wrap_i64]; omega
    have w3 : IntKind.i64.wrap ((x : Int) + (j : Int)) = (x : Int) + (j : Int) := by rw [IntKind.wrap_i64]; omega
    generalize ((V (x + i) : Nat) : Int) = f1 at *
    generalize ((V (x + j) : Nat) : Int) = f2 at *
    clear hx hdm hdk hmN v1 v2
    go_wp2_with fail
    first
    | go_region_held3 (fun w' => w'.cell? ⟨w.heap.size + 1, 0, none⟩ = some (.int .i64 n) ∧ w'.cell? ⟨w.heap.size + 1, 2, none⟩ = some (.slice pa N pc) ∧ w'.cell? ⟨ab pa, ao pa + (x + i), none⟩ = some (.int .u64 f1) ∧ w'.cell? ⟨ab pa, ao pa + (x + j), none⟩ = some (.int .u64 f2)) (first | (go_simp; done))
     (first
      | (go_at_call 80; refine (HM _).out.mono ?_; rintro o z1 ⟨a1, c1, rfl, i1, b1, g1⟩)
      | (go_at_call 18; refine (HN _ _ _).out.mono ?_; rintro o z2 ⟨a2, c2, rfl, i2, b2, g2⟩; have e1 := b1.out.size; have e2 := b2.out.size; simp at e1 e2; have XX : Hid (DX (z2.alloc (.cells #[.bool (dbad dk), .bool (decide (dman dk < 0)), .slice a2 (nl (dman dk).natAbs) c2, .int .i64 (dexp dk)] 46)) (w.heap.size + 3) u11 (c + 1) D A C) := Lib.hid inferInstance; have RR : Hid (DB (z2.alloc (.cells #[.bool (dbad dk), .bool (decide (dman dk < 0)), .slice a2 (nl (dman dk).natAbs) c2, .int .i64 (dexp dk)] 46)) (w.heap.size + 1 + 1) false false (.slice none 0 0) 0) := Lib.hid inferInstance; have PP : Hid (N3 (z2.alloc (.cells #[.bool (dbad dk), .bool (decide (dman dk < 0)), .slice a2 (nl (dman dk).natAbs) c2, .int .i64 (dexp dk)] 46)) (w.heap.size + 1) (.int .i64 n) (.int .i64 kk) (.slice pa N pc)) := Lib.hid inferInstance; have LL : Hid (Below w.heap.size w (z2.alloc (.cells #[.bool (dbad dk), .bool (decide (dman dk < 0)), .slice a2 (nl (dman dk).natAbs) c2, .int .i64 (dexp dk)] 46))) := Lib.hid zbh)
      | ((refine step_app_dyad (by rfl) _ _ (by rfl) (w.heap.size + 3) u11 (c + 1) (dcells (mcell D A C) (c + 1)) (by rfl) _ (dbad dk) (decide (dman dk < 0)) (.slice a2 (nl (dman dk).natAbs) c2) (dexp dk) (by rfl) (by rfl) XX.out.out.own (by go_simp) (by go_simp) (by go_simp) (by go_simp) (by omega) (by simp; omega) ?_; intro g4 cap4 w4 hown4 hg4 hob4; haveI f4 : From w w4 := ⟨LL.out.trans ((below_grown XX.out.out.own hg4 (by simp; omega)).mono (by omega))⟩; haveI P4 : N3 w4 (w.heap.size + 1) (.int .i64 n) (.int .i64 kk) (.slice pa N pc) := N3.grown PP.out hg4 (own_ne XX.out.out.own (by omega))))
      | fail)
    | fail "region"
    all_goals (
     have hne : 0 < nl (dman dk).natAbs → some (ab a2) ≠ u11.ownBlock := fun h q => by have h1 := (iX.out.own.lt _ q.symm).2; have h2 := g2 h; omega
     have X5 := XX.out.app HDc.out hown4 hg4 hob4 (i2.out.alloc _) hne
     have R5 : DB w4 (w.heap.size + 1 + 1) false false (.slice none 0 0) 0 := ⟨RR.out.out.grown hg4 (own_ne XX.out.out.own (by omega))⟩
     have e4 := hg4.size
     simp at e4
     clear hown4 hg4 hob4 XX RR LL PP HM HN
     go_wp2_with fail
     go_roundw
     case rel => exact ⟨c + 1, _, _, by omega, by go_num, X5, P4, R5, f4.out, by omega⟩
     case measure => simp [intOf]; omega)
  · have hcm : c = m := by omega
    rw [hcm] at iX
    obtain ⟨oa, oc, hv, hZ⟩ := dms_rsum (tb (w := wr)) iX.out hDN.out (by omega)
    have HZ := Lib.hid (frF hZ)
    clear hZ
    subst hv
    go_wp2_with fail
    refine HZ.out.mono ?_; rintro o z1 ⟨a1, c1, rfl, i1, b1, g1⟩
    have e1 := b1.out.size
    go_wp2_with fail
    refine bodyPost_ret (v := .agg #[.bool (dbad (dsum D (m + 1))), .bool (decide (dman (dsum D (m + 1)) < 0)), .slice a1 (nl (dman (dsum D (m + 1))).natAbs) c1, .int .i64 (dexp (dsum D (m + 1)))]) (by simp only [results, Tryz.results47]; go_simp) rfl ?_
    rw [hRes.out]
    exact ⟨a1, c1, rfl, Mag.st4 i1.out (fun h => by have := g1 h; omega) _ _ _ _, zbh, fun h => by have := g1 h; omega⟩
end Go.Proofs.YtablcbgeeeboeaaGreatDoor
namespace Go.Proofs.YtablcbgeeeboeaaGreatDoor
open Go.RowKit Sp
set_option linter.unusedSimpArgs false
theorem fround_lt' (d : Option (Int × Int)) (mode : Int) : fround d mode < 18446744073709551616 := by
 unfold fround; split
 · decide
 · split
   · decide
   · exact fcut_lt _ _ _
def TT : Int := 9218868437227405312
theorem place_fin {f : Nat} (h : fnan f = false) : ffin f = true ↔ (-TT < fplace f ∧ fplace f < TT) := by
 have h1 : fM f ≤ 9218868437227405312 := by unfold fnan at h; simpa using h
 unfold ffin; rw [fplace_eq]; unfold TT
 rw [decide_eq_true_eq]
 constructor
 · intro k; split <;> omega
 · intro k; split at k <;> omega
theorem fin_of {f : Nat} (h : fnan f = false) (h1 : -TT < fplace f) (h2 : fplace f < TT) : ffin f = true := (place_fin h).2 ⟨h1, h2⟩
theorem fin_lt {f : Nat} (h : ffin f = true) : fnan f = false ∧ -TT < fplace f ∧ fplace f < TT := ⟨(fin_not h).1, (place_fin (fin_not h).1).1 h⟩
set_option linter.unusedSimpArgs false
set_option linter.unusedSimpArgs false
set_option linter.unusedSimpArgs false
set_option linter.unusedSimpArgs false
set_option linter.unusedSimpArgs false
theorem g1 : (-1074 : Int) - 1 = -1074 - ((1 : Nat) : Int) := by decide
set_option linter.unusedSimpArgs false
end Go.Proofs.YtablcbgeeeboeaaGreatDoor
namespace Go.Proofs.YtablcbgeeeboeaaGreatDoor
open Go.RowKit Sp
def skp (i q : Nat) : Nat := if q < i then q else q + 1
def dtrm (S I F : Nat → Nat) (i : Nat) : Nat → Option (Int × Int)
 | 0 => nrm 1 0
 | q + 1 => dabs (fof (atv S I F (max i (skp i q)) (min i (skp i q))))
def ddiag (n : Nat) (S I F : Nat → Nat) (i : Nat) : Nat := fround (dsum (dtrm S I F i) n) 2
def dEN (n : Nat) (S I F : Nat → Nat) (i j : Nat) : Option Nat := if i = j then some (ddiag n S I F i) else if stv S I F i j then some (atv S I F i j) else none
def dM (S I F : Nat → Nat) (i : Nat) : Nat → Int
 | 0 => 2 ^ 1074
 | q + 1 => ((fz (atv S I F (max i (skp i q)) (min i (skp i q)))).natAbs : Int)
theorem isN_dtrm (S I F : Nat → Nat) (i q : Nat) : IsN (dtrm S I F i q) := by
 cases q with
 | zero => exact isN_nrm _ _
 | succ q => exact isN_abs (isN_fof _)
theorem p1115 : fzN 4791830003522207744 = 2 ^ 1115 := by
 have h := fzN_code 1063 4503599627370496 (by omega) (by omega)
 rw [show 1063 * 4503599627370496 + 4503599627370496 = 4791830003522207744 by decide] at h
 rw [h]; exact p52 1063 1115 (by decide)
theorem bnd_blen {f : Nat} (h : fM f < 4791830003522207744) : blen (fz f).natAbs ≤ 1115 := by
 refine blen_le ?_
 rw [fz_abs, ← p1115]; exact fzN_lt h
theorem one_up : nrm 1 0 = nrm ((2 : Int) ^ 1074) (-1074) := by
 have := nrm_scale 1 (-1074) 1074
 rw [Int.one_mul] at this
 rw [this]; rfl
theorem dtrm_val {r c q : Nat} {S I F : Nat → Nat} (h : Val r c q S I F) (hb : ∀ x, fM (F x) < 4791830003522207744) (i t : Nat) :
 dtrm S I F i t = nrm (dM S I F i t) (-1074) ∧ nrm (dM S I F i t) (-1074) ≠ none ∧ blen (dM S I F i t).natAbs ≤ 1115 := by
 cases t with
 | zero =>
  have hv : nrm 1 0 ≠ none := nrm_valid (by omega) (by decide)
  refine ⟨one_up, by show nrm ((2 : Int) ^ 1074) (-1074) ≠ none; rw [← one_up]; exact hv, ?_⟩
  show blen ((2 : Int) ^ 1074).natAbs ≤ 1115
  have := blen_mulpow (z := 1) (k := 1) 1074 (by decide)
  rw [Int.one_mul] at this; omega
 | succ t =>
  have hf := (atv_fin h (max i (skp i t)) (min i (skp i t))).2
  have hB : fM (atv S I F (max i (skp i t)) (min i (skp i t))) < 4791830003522207744 := atv_pred (P := fun y => fM y < 4791830003522207744) (by decide) hb _ _
  show dabs (fof _) = _ ∧ _
  rw [fof_fin hf]
  obtain ⟨h1, h2⟩ := dabs_nrm _ _ (fof_some hf)
  refine ⟨h1, h2, ?_⟩
  show blen ((fz _).natAbs : Int).natAbs ≤ 1115
  rw [Int.natAbs_natCast]; exact bnd_blen hB
theorem big_code : fzN 5408823152471965696 = 2 ^ 1252 := by
 have h := fzN_code 1200 4503599627370496 (by omega) (by omega)
 rw [show 1200 * 4503599627370496 + 4503599627370496 = 5408823152471965696 by decide] at h
 rw [h]; exact p52 1200 1252 (by decide)
theorem cast_pow (a : Nat) : (2 : Int) ^ a = ((2 ^ a : Nat) : Int) := by rw [Int.natCast_pow]; rfl
theorem round_fin {M : Int} (h0 : 0 ≤ M) (hM : M ≤ 2 ^ 1252) (hv : nrm M (-1074) ≠ none) (mode : Int) : ffin (fround (nrm M (-1074)) mode) = true := by
 have e0 : (-1074 : Int) = -1074 - ((0 : Nat) : Int) := by omega
 have hc := fround_code (R := (2 : Int) ^ 1252) (r := 5408823152471965696) (by rw [big_code, cast_pow, Int.natAbs_natCast]) (by decide) mode
 have v2 : nrm ((2 : Int) ^ 1252) (-1074) ≠ none := nrm_valid (by omega) (by
  have := blen_mulpow (z := 1) (k := 1) 1252 (by decide)
  rw [Int.one_mul] at this; omega)
 have v0 : nrm 0 (-1074) ≠ none := nrm_valid (by omega) (by decide)
 have m1 := fround_mono M ((2 : Int) ^ 1252) 0 mode (by rw [← e0]; exact hv) (by rw [← e0]; exact v2) hM
 have m0 := fround_mono 0 M 0 mode (by rw [← e0]; exact v0) (by rw [← e0]; exact hv) h0
 have p := (fround_place M 0 mode (by rw [← e0]; exact hv)).1
 rw [← e0] at m1 m0 p
 have hl := (fin_lt hc.1).2.2
 rw [fround_zero] at m0
 have z0 : fplace 0 = 0 := by decide
 exact fin_of p (by unfold TT at *; omega) (by omega)
theorem sumI_nonneg {M : Nat → Int} : ∀ n, (∀ i, i < n → 0 ≤ M i) → 0 ≤ sumI M n := by
 intro n
 induction n with
 | zero => intro _; exact Int.le_refl _
 | succ n ih => intro h; have h1 := ih fun i hi => h i (by omega); have h2 := h n (by omega); show 0 ≤ sumI M n + M n; omega
theorem dM_nonneg (S I F : Nat → Nat) (i t : Nat) : 0 ≤ dM S I F i t := by
 cases t with
 | zero => show (0 : Int) ≤ 2 ^ 1074; exact Int.le_of_lt (Int.pow_pos (by decide))
 | succ t => exact Int.natCast_nonneg _
theorem pow_step (a b : Nat) (h : a ≤ b) : (2 : Nat) ^ a ≤ 2 ^ b := Nat.pow_le_pow_right (by decide) h
theorem ddiag_fin {r c q : Nat} {S I F : Nat → Nat} (h : Val r c q S I F) (hb : ∀ x, fM (F x) < 4791830003522207744) {n : Nat} (hn : n ≤ 15) (i : Nat) :
 dsum (dtrm S I F i) n = nrm (sumI (dM S I F i) n) (-1074) ∧ nrm (sumI (dM S I F i) n) (-1074) ≠ none ∧ ffin (ddiag n S I F i) = true := by
 have hs := dsum_nrm (dtrm S I F i) (dM S I F i) (by omega) n fun t _ => ⟨(dtrm_val h hb i t).1, (dtrm_val h hb i t).2.1⟩
 have hbl := sumI_blen (dM S I F i) hn (P := 1115) fun t _ => (dtrm_val h hb i t).2.2
 have hv : nrm (sumI (dM S I F i) n) (-1074) ≠ none := nrm_valid (by omega) (by omega)
 refine ⟨hs, hv, ?_⟩
 unfold ddiag
 rw [hs]
 have h0 := sumI_nonneg n fun t _ => dM_nonneg S I F i t
 have h1 := lt_blen (sumI (dM S I F i) n).natAbs
 have h2 := pow_step _ _ (show blen (sumI (dM S I F i) n).natAbs ≤ 1252 by omega)
 refine round_fin h0 ?_ hv 2
 rw [cast_pow]
 generalize (2 : Nat) ^ 1252 = D at *
 omega
end Go.Proofs.YtablcbgeeeboeaaGreatDoor

/-
  Walks: package sparseref23: left.
-/
import Derived.Test.YtablcbgeeeboeaaGreatDoorZhPo
import Derived.Test.YtablcbgeeeboeaaGreatDoorZhRsum
set_option maxRecDepth 100000
set_option maxHeartbeats 20000000
namespace Go.Proofs.YtablcbgeeeboeaaGreatDoor
open Go.RowKit Sp
theorem zMj {w : World} {base : Nat} {v : Value} {k : Nat} {d : Nat → Option (Int × Int)} {A : Nat → Option Addr} {C : Nat → Nat} (hT : Tab w) (h : Dms w base v k d A C) (hd : ∀ i, IsN (d i)) (hk : k ≤ 1048576) :
 ∃ a cap, v = .slice a k cap ∧ Calls Tryz.prog 22 #[.slice a k cap] w (zAy w (zBv d k)) := by
 obtain ⟨a, cap, hv, hD⟩ := h.dys hd
 refine ⟨a, cap, hv, ?_⟩
 have s := zLr w hT a k cap _ hD hk (fun i hi => by
  have := zA7 (hd i)
  refine ⟨Nat.le_trans (zAe _) (by omega), ?_⟩
  show zA4 (zA1 (d i)).natAbs ≤ 1048576
  omega)
 rwa [zOO hd] at s
theorem N3.grown {W W' : World} {b : Nat} {x0 x1 x2 : Value} (h : N3 W b x0 x1 x2) {row : Option Nat} (hg : W.grownBy W' row) (hne : some b ≠ row) : N3 W' b x0 x1 x2 := by
 have hblk := hg.block b h.lt hne
 have hc : ∀ i, W'.cell? ⟨b, i, none⟩ = W.cell? ⟨b, i, none⟩ := fun i => World.cell?_of_block (a := ⟨b, i, none⟩) hblk
 exact ⟨(hc 0).trans h.c0, (hc 1).trans h.c1, (hc 2).trans h.c2, fun i => (World.frozen?_of_block (a := ⟨b, i, none⟩) hblk).trans (h.z i), Nat.lt_of_lt_of_le h.lt hg.size⟩
attribute [local irreducible] Calls
theorem zJx (w : World) [Tb w] (n : Nat) (cc kk : Int) (ae : Option Addr) (M ce : Nat) (B : Nat → Option (Int × Int)) [hB : DZ w ae M ce B] (pa : Option Addr) (N pc : Nat) (V : Nat → Nat) [hV : FZ w pa N pc V]
 (hM : M = n * n) (hn : n ≤ 64) (hBN : ∀ t, IsN (B t)) (i j m k : Nat) (hi : i < n) (hj : j < n) (hm : m ≤ k) (hk : k ≤ 64) (hNk : N = n * k) :
 Calls Tryz.prog 47 #[.agg #[.int .i64 n, .int .i64 cc, .slice ae M ce], .agg #[.int .i64 n, .int .i64 kk, .slice pa N pc], .int .i64 i, .int .i64 j, .int .i64 m] w (zAy w (zAQ B n V i j m)) := by
 have l1 := hB.out.fits
 have l2 := hV.out.fits
 have l3 := hV.out.lim
 have HAt := fun W [DZ W ae M ce B] => Lib.hid (show Calls Tryz.prog 75 #[.agg #[.int .i64 n, .int .i64 cc, .slice ae M ce], .int .i64 i, .int .i64 j] W fun o w' => ∃ a q, o = .returned (.agg #[.bool (zA3 (B (j * n + i))), .bool (decide (zA1 (B (j * n + i)) < 0)), .slice a (nl (zA1 (B (j * n + i))).natAbs) q, .int .i64 (zA2 (B (j * n + i)))]) ∧ BI w' a (nl (zA1 (B (j * n + i))).natAbs) q (zA1 (B (j * n + i))).natAbs ∧ From W w' from
  (zGd W n cc ae M ce B i j hn hi hj hM).mono fun _ _ ⟨a, q, h1, h2, h3⟩ => ⟨a, q, h1, ⟨h2.below h3⟩, ⟨h3⟩⟩)
 have hRes : Hid (zAQ B n V i j m = zBv (zFA B n V i j) (m + 1)) := Lib.hid rfl
 obtain ⟨D, hD⟩ : ∃ D, D = zFA B n V i j := ⟨_, rfl⟩
 rw [← hD] at hRes
 have HB0 : Hid (B (j * n + i) = D 0) := by rw [hD]; exact rfl
 have hDN : Hid (∀ q, IsN (D q)) := by rw [hD]; exact fun q => zGl hBN n V i j q
 have hDS : Hid (∀ q, D (q + 1) = zIV (zCZ (fof (V (q * n + i))) (fof (V (q * n + j))))) := by rw [hD]; exact fun q => rfl
 generalize B (j * n + i) = b0 at *
 have HNk := Lib.hid hNk
 clear hD hBN hM hNk
 go_enter Tryz.func47, Tryz.ntmps47
 go_wp2_with fail
 refine (HAt _).out.mono ?_; rintro o w1 ⟨A0, C0, rfl, i1, b1⟩
 have e1 := b1.out.size
 simp at e1
 have DX0 := DX.one (w := w1) (base := w.heap.size + 3) (d := D) (e := b0) (n := w1.heap.size) (by omega) HB0.out i1.out rfl
 have P0 : N3 (w1.alloc (.cells #[.bool (zA3 b0), .bool (decide (zA1 b0 < 0)), .slice A0 (nl (zA1 b0).natAbs) C0, .int .i64 (zA2 b0)] 46)) (w.heap.size + 1) (.int .i64 n) (.int .i64 kk) (.slice pa N pc) := inferInstance
 have R0 : DB (w1.alloc (.cells #[.bool (zA3 b0), .bool (decide (zA1 b0 < 0)), .slice A0 (nl (zA1 b0).natAbs) C0, .int .i64 (zA2 b0)] 46)) (w.heap.size + 1 + 1) false false (.slice none 0 0) 0 := inferInstance
 have L0 : Below w.heap.size w (w1.alloc (.cells #[.bool (zA3 b0), .bool (decide (zA1 b0 < 0)), .slice A0 (nl (zA1 b0).natAbs) C0, .int .i64 (zA2 b0)] 46)) := zbh
 have E0 : w.heap.size + 3 ≤ (w1.alloc (.cells #[.bool (zA3 b0), .bool (decide (zA1 b0 < 0)), .slice A0 (nl (zA1 b0).natAbs) C0, .int .i64 (zA2 b0)] 46)).heap.size := by simp; omega
 clear HAt HB0
 go_wp2_with fail
 go_loopw [11, 12] (fun v x wr => ∃ (c : Nat) (A : Nat → Option Addr) (C : Nat → Nat), c ≤ m ∧ x = .int .i64 c ∧ DX wr (w.heap.size + 3) v (c + 1) D A C ∧ N3 wr (w.heap.size + 1) (.int .i64 n) (.int .i64 kk) (.slice pa N pc) ∧ DB wr (w.heap.size + 1 + 1) false false (.slice none 0 0) 0 ∧ Below w.heap.size w wr ∧ w.heap.size + 3 ≤ wr.heap.size) (fun _ x _ => m - (intOf x).toNat)
 case atStart => exact ⟨0, _, _, by omega, rfl, DX0, P0, R0, L0, E0⟩
 case round =>
  clear DX0 P0 R0 L0 E0 i1 b1
  obtain ⟨c, A, C, hc, rfl, iX, iP, iR, hbr, hsz⟩ := hrel
  haveI bw : From w wr := ⟨hbr⟩
  by_cases hlt : c < m
  · have t1 : c * n + i < N := by rw [HNk.out]; exact zCc hi (by omega)
    have t2 : c * n + j < N := by rw [HNk.out]; exact zCc hj (by omega)
    have t3 : c * n ≤ 4096 := Nat.mul_le_mul (show c ≤ 64 by omega) hn
    have HDc := Lib.hid (hDS.out c)
    obtain ⟨x, hx⟩ : ∃ x, x = c * n := ⟨_, rfl⟩
    have hcn : (c : Int) * (n : Int) = (x : Int) := by rw [hx]; exact (Int.natCast_mul c n).symm
    rw [← hx] at t1 t2 t3 HDc
    haveI u1 : CE w (ab pa) (ao pa + (x + i)) (.int .u64 ((V (x + i) : Nat) : Int)) := ⟨hV.out.cell _ t1, hV.out.old (by omega)⟩
    haveI u2 : CE w (ab pa) (ao pa + (x + j)) (.int .u64 ((V (x + j) : Nat) : Int)) := ⟨hV.out.cell _ t2, hV.out.old (by omega)⟩
    have y1 := hV.out.idx _ t1
    have y2 := hV.out.idx _ t2
    rw [show (((x + i : Nat)) : Int) = (x : Int) + (i : Int) by omega] at y1
    rw [show (((x + j : Nat)) : Int) = (x : Int) + (j : Int) by omega] at y2
    have v1 := hV.out.b _ t1
    have v2 := hV.out.b _ t2
    have HM := fun W [Tb W] => Lib.hid (frF (zE7 W (V (x + i)) (V (x + j)) v1 v2))
    obtain ⟨dm, hdm⟩ : ∃ dm, dm = zCZ (fof (V (x + i))) (fof (V (x + j))) := ⟨_, rfl⟩
    have hmN : IsN dm := by rw [hdm]; exact zDv _ _
    rw [← hdm] at HM HDc
    have HN := fun W a c [i1 : BI W a (nl (zA1 dm).natAbs) c (zA1 dm).natAbs] [Tb W] => Lib.hid (frF (zJG W (zA3 dm) (decide (zA1 dm < 0)) a _ c (zA2 dm) dm (zBp hmN i1.out) tb))
    obtain ⟨dk, hdk⟩ : ∃ dk, dk = zIV dm := ⟨_, rfl⟩
    rw [← hdk] at HN HDc
    have w1 : IntKind.i64.wrap (x : Int) = (x : Int) := by rw [IntKind.wrap_i64]; omega
    have w2 : IntKind.i64.wrap ((x : Int) + (i : Int)) = (x : Int) + (i : Int) := by rw [IntKind.wrap_i64]; omega
    have w3 : IntKind.i64.wrap ((x : Int) + (j : Int)) = (x : Int) + (j : Int) := by rw [IntKind.wrap_i64]; omega
    generalize ((V (x + i) : Nat) : Int) = f1 at *
    generalize ((V (x + j) : Nat) : Int) = f2 at *
    clear hx hdm hdk hmN v1 v2
    go_wp2_with fail
    first
    | go_region_held3 (fun w' => w'.cell? ⟨w.heap.size + 1, 0, none⟩ = some (.int .i64 n) ∧ w'.cell? ⟨w.heap.size + 1, 2, none⟩ = some (.slice pa N pc) ∧ w'.cell? ⟨ab pa, ao pa + (x + i), none⟩ = some (.int .u64 f1) ∧ w'.cell? ⟨ab pa, ao pa + (x + j), none⟩ = some (.int .u64 f2)) (first | (go_simp; done))
     (first
      | (go_at_call 80; refine (HM _).out.mono ?_; rintro o z1 ⟨a1, c1, rfl, i1, b1, g1⟩)
      | (go_at_call 18; refine (HN _ _ _).out.mono ?_; rintro o z2 ⟨a2, c2, rfl, i2, b2, g2⟩; have e1 := b1.out.size; have e2 := b2.out.size; simp at e1 e2; have XX : Hid (DX (z2.alloc (.cells #[.bool (zA3 dk), .bool (decide (zA1 dk < 0)), .slice a2 (nl (zA1 dk).natAbs) c2, .int .i64 (zA2 dk)] 46)) (w.heap.size + 3) u11 (c + 1) D A C) := Lib.hid inferInstance; have RR : Hid (DB (z2.alloc (.cells #[.bool (zA3 dk), .bool (decide (zA1 dk < 0)), .slice a2 (nl (zA1 dk).natAbs) c2, .int .i64 (zA2 dk)] 46)) (w.heap.size + 1 + 1) false false (.slice none 0 0) 0) := Lib.hid inferInstance; have PP : Hid (N3 (z2.alloc (.cells #[.bool (zA3 dk), .bool (decide (zA1 dk < 0)), .slice a2 (nl (zA1 dk).natAbs) c2, .int .i64 (zA2 dk)] 46)) (w.heap.size + 1) (.int .i64 n) (.int .i64 kk) (.slice pa N pc)) := Lib.hid inferInstance; have LL : Hid (Below w.heap.size w (z2.alloc (.cells #[.bool (zA3 dk), .bool (decide (zA1 dk < 0)), .slice a2 (nl (zA1 dk).natAbs) c2, .int .i64 (zA2 dk)] 46))) := Lib.hid zbh)
      | ((refine zBK (by rfl) _ _ (by rfl) (w.heap.size + 3) u11 (c + 1) (zAm (zBe D A C) (c + 1)) (by rfl) _ (zA3 dk) (decide (zA1 dk < 0)) (.slice a2 (nl (zA1 dk).natAbs) c2) (zA2 dk) (by rfl) (by rfl) XX.out.out.own (by go_simp) (by go_simp) (by go_simp) (by go_simp) (by omega) (by simp; omega) ?_; intro g4 cap4 w4 hown4 hg4 hob4; haveI f4 : From w w4 := ⟨LL.out.trans ((zB3 XX.out.out.own hg4 (by simp; omega)).mono (by omega))⟩; haveI P4 : N3 w4 (w.heap.size + 1) (.int .i64 n) (.int .i64 kk) (.slice pa N pc) := N3.grown PP.out hg4 (zDF XX.out.out.own (by omega))))
      | fail)
    | fail "region"
    all_goals (
     have hne : 0 < nl (zA1 dk).natAbs → some (ab a2) ≠ u11.ownBlock := fun h q => by have h1 := (iX.out.own.lt _ q.symm).2; have h2 := g2 h; omega
     have X5 := XX.out.app HDc.out hown4 hg4 hob4 (i2.out.alloc _) hne
     have R5 : DB w4 (w.heap.size + 1 + 1) false false (.slice none 0 0) 0 := ⟨RR.out.out.grown hg4 (zDF XX.out.out.own (by omega))⟩
     have e4 := hg4.size
     simp at e4
     clear hown4 hg4 hob4 XX RR LL PP HM HN
     go_wp2_with fail
     go_roundw
     case rel => exact ⟨c + 1, _, _, by omega, by go_num, X5, P4, R5, f4.out, by omega⟩
     case measure => simp [intOf]; omega)
  · have hcm : c = m := by omega
    rw [hcm] at iX
    obtain ⟨oa, oc, hv, hZ⟩ := zMj (tb (w := wr)) iX.out hDN.out (by omega)
    have HZ := Lib.hid (frF hZ)
    clear hZ
    subst hv
    go_wp2_with fail
    refine HZ.out.mono ?_; rintro o z1 ⟨a1, c1, rfl, i1, b1, g1⟩
    have e1 := b1.out.size
    go_wp2_with fail
    refine bodyPost_ret (v := .agg #[.bool (zA3 (zBv D (m + 1))), .bool (decide (zA1 (zBv D (m + 1)) < 0)), .slice a1 (nl (zA1 (zBv D (m + 1))).natAbs) c1, .int .i64 (zA2 (zBv D (m + 1)))]) (by simp only [results, Tryz.results47]; go_simp) rfl ?_
    rw [hRes.out]
    exact ⟨a1, c1, rfl, Mag.st4 i1.out (fun h => by have := g1 h; omega) _ _ _ _, zbh, fun h => by have := g1 h; omega⟩
end Go.Proofs.YtablcbgeeeboeaaGreatDoor

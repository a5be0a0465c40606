/-
  Walks: package dense: the memory of an elimination; schur.
-/
import Derived.Test.YtablcbgeeeboeaaGreatDoorZhPx
import Derived.Test.YtablcbgeeeboeaaGreatDoorZhSum
import Derived.Test.YtablcbgeeeboeaaGreatDoorZhTk
import Derived.Test.YtablcbgeeeboeaaGreatDoorZhPz
import Derived.Test.YtablcbgeeeboeaaGreatDoorZhRq
import Derived.Test.YtablcbgeeeboeaaGreatDoorZhBe
import Derived.Test.YtablcbgeeeboeaaGreatDoorZhRy
set_option maxRecDepth 100000
set_option maxHeartbeats 20000000
namespace Go.Proofs.YtablcbgeeeboeaaGreatDoor
open Go.RowKit Sp
class St (base : outParam Nat) (W : World) (b : Nat) (n k : outParam Nat) (vE : outParam Value) (gp ge : outParam Nat) (V : outParam (Nat → Nat)) (d : outParam (Nat → Option (Int × Int))) : Prop where
 c0 : W.cell? ⟨b, 0, none⟩ = some (.int .i64 n)
 c1 : W.cell? ⟨b, 1, none⟩ = some (.int .i64 n)
 c2 : W.cell? ⟨b, 2, none⟩ = some vE
 c3 : W.cell? ⟨b, 3, none⟩ = some (.int .i64 n)
 c4 : W.cell? ⟨b, 4, none⟩ = some (.int .i64 k)
 c5 : W.cell? ⟨b, 5, none⟩ = some (.slice (some ⟨gp, 0, none⟩) (n * k) (n * k))
 c6 : W.cell? ⟨b, 6, none⟩ = some (.slice (some ⟨ge, 0, none⟩) (n * k) (n * k))
 z : ∀ i, W.frozen? ⟨b, i, none⟩ = false
 lt : b < W.heap.size
 lb : base ≤ b
 op : W.ownsRow base 40 1 (.slice (some ⟨gp, 0, none⟩) (n * k) (n * k)) (n * k) (zAX V (n * k))
 ox : ∃ A C, Dms W base (.slice (some ⟨ge, 0, none⟩) (n * k) (n * k)) (n * k) d A C ∧ ∀ i, i < n * k → 0 < nl (zA1 (d i)).natAbs → ab (A i) ≠ b ∧ ab (A i) ≠ gp
 ne : gp ≠ ge ∧ b ≠ gp ∧ b ≠ ge
 N : ∀ i, IsN (d i)
section
variable {base b n k gp ge : Nat} {W W' : World} {vE : Value} {V : Nat → Nat} {d : Nat → Option (Int × Int)}
theorem St.below (h : St base W b n k vE gp ge V d) (hb : Below W.heap.size W W') : St base W' b n k vE gp ge V d := by
 obtain ⟨h1, h2⟩ := zA8 hb
 obtain ⟨A, C, q1, q2⟩ := h.ox
 exact ⟨(h1 _ _ h.lt).trans h.c0, (h1 _ _ h.lt).trans h.c1, (h1 _ _ h.lt).trans h.c2, (h1 _ _ h.lt).trans h.c3, (h1 _ _ h.lt).trans h.c4, (h1 _ _ h.lt).trans h.c5, (h1 _ _ h.lt).trans h.c6, fun i => (h2 _ _ h.lt).trans (h.z i), Nat.lt_of_lt_of_le h.lt hb.size, h.lb,
  zAx h.op hb, ⟨A, C, q1.below hb, q2⟩, h.ne, h.N⟩
instance St.dr [h : St base W b n k vE gp ge V d] : St base W.drew b n k vE gp ge V d := h.below (Below.refl _ _).drew
instance St.dn (q : Nat) [h : St base W b n k vE gp ge V d] : St base (W.drewN q) b n k vE gp ge V d := h.below (below_drewN (Below.refl _ _) _)
instance St.al (o : Obj) [h : St base W b n k vE gp ge V d] : St base (W.alloc o) b n k vE gp ge V d := h.below ((Below.refl _ _).alloc (Nat.le_refl _) _)
instance St.fr (L : World) [f : From L W] [h : St base L b n k vE gp ge V d] : St base W b n k vE gp ge V d := h.below f.out
end
@[go_sem] theorem St.r0 (W : World) (b : Nat) {base n k gp ge : Nat} {vE : Value} {V : Nat → Nat} {d : Nat → Option (Int × Int)} [h : St base W b n k vE gp ge V d] : W.cell? ⟨b, 0, none⟩ = some (.int .i64 n) := h.c0
@[go_sem] theorem St.r1 (W : World) (b : Nat) {base n k gp ge : Nat} {vE : Value} {V : Nat → Nat} {d : Nat → Option (Int × Int)} [h : St base W b n k vE gp ge V d] : W.cell? ⟨b, 1, none⟩ = some (.int .i64 n) := h.c1
@[go_sem] theorem St.r2 (W : World) (b : Nat) {base n k gp ge : Nat} {vE : Value} {V : Nat → Nat} {d : Nat → Option (Int × Int)} [h : St base W b n k vE gp ge V d] : W.cell? ⟨b, 2, none⟩ = some (vE) := h.c2
@[go_sem] theorem St.r3 (W : World) (b : Nat) {base n k gp ge : Nat} {vE : Value} {V : Nat → Nat} {d : Nat → Option (Int × Int)} [h : St base W b n k vE gp ge V d] : W.cell? ⟨b, 3, none⟩ = some (.int .i64 n) := h.c3
@[go_sem] theorem St.r4 (W : World) (b : Nat) {base n k gp ge : Nat} {vE : Value} {V : Nat → Nat} {d : Nat → Option (Int × Int)} [h : St base W b n k vE gp ge V d] : W.cell? ⟨b, 4, none⟩ = some (.int .i64 k) := h.c4
@[go_sem] theorem St.r5 (W : World) (b : Nat) {base n k gp ge : Nat} {vE : Value} {V : Nat → Nat} {d : Nat → Option (Int × Int)} [h : St base W b n k vE gp ge V d] : W.cell? ⟨b, 5, none⟩ = some (.slice (some ⟨gp, 0, none⟩) (n * k) (n * k)) := h.c5
@[go_sem] theorem St.r6 (W : World) (b : Nat) {base n k gp ge : Nat} {vE : Value} {V : Nat → Nat} {d : Nat → Option (Int × Int)} [h : St base W b n k vE gp ge V d] : W.cell? ⟨b, 6, none⟩ = some (.slice (some ⟨ge, 0, none⟩) (n * k) (n * k)) := h.c6
section
variable {base b n k gp ge : Nat} {W : World} {vE : Value} {V : Nat → Nat} {d : Nat → Option (Int × Int)}
theorem St.dz (h : St base W b n k vE gp ge V d) : Dz W (some ⟨ge, 0, none⟩) (n * k) (n * k) d := by
 obtain ⟨A, C, q1, q2⟩ := h.ox
 obtain ⟨a, c, e, hz⟩ := q1.dz h.N
 injection e with e1 e2 e3
 subst e1 e3
 exact hz
theorem St.ltP (h : St base W b n k vE gp ge V d) : gp < W.heap.size ∧ ge < W.heap.size ∧ base ≤ gp ∧ base ≤ ge := by
 obtain ⟨A, C, q1, q2⟩ := h.ox
 have h1 := h.op.lt gp rfl
 have h2 := q1.own.lt ge rfl
 exact ⟨h1.2, h2.2, h1.1, h2.1⟩
theorem St.putV (h : St base W b n k vE gp ge V d) {t : Nat} (ht : t < n * k) (x : Nat) : St base (W.setCell ⟨gp, t, none⟩ (.int .u64 ((x : Nat) : Int))) b n k vE gp ge (fun i => if i = t then x else V i) d := by
 obtain ⟨A, C, q1, q2⟩ := h.ox
 obtain ⟨o1, g1⟩ := h.op.stored t (.int .u64 ((x : Nat) : Int))
 rw [zGr _ _ ht] at o1
 have hc : ∀ i, (W.setCell ⟨gp, t, none⟩ (.int .u64 ((x : Nat) : Int))).cell? ⟨b, i, none⟩ = W.cell? ⟨b, i, none⟩ := fun i => zAk h.ne.2.1 _ _ _
 exact ⟨(hc 0).trans h.c0, (hc 1).trans h.c1, (hc 2).trans h.c2, (hc 3).trans h.c3, (hc 4).trans h.c4, (hc 5).trans h.c5, (hc 6).trans h.c6, fun i => (zAn i _ _).trans (h.z i), by rw [World.size_setCell]; exact h.lt, h.lb, o1,
  ⟨A, C, q1.kept g1 (Or.inr (by simp [Value.ownBlock]; exact fun e => h.ne.1 e.symm)) (fun i hi hp e => (q2 i hi hp).2 (Option.some.inj e)), q2⟩, h.ne, h.N⟩
theorem St.putD (h : St base W b n k vE gp ge V d) {t : Nat} (ht : t < n * k) {dk : Option (Int × Int)} (hN : IsN dk) {a1 : Option Addr} {c1 : Nat} (hm : Mag W a1 (nl (zA1 dk).natAbs) c1 (zA1 dk).natAbs) (hf : 0 < nl (zA1 dk).natAbs → ab a1 ≠ b ∧ ab a1 ≠ gp ∧ ab a1 ≠ ge) :
 St base ((((W.setCell ⟨ge, t * 4, none⟩ (.bool (zA3 dk))).setCell ⟨ge, t * 4 + 1, none⟩ (.bool (decide (zA1 dk < 0)))).setCell ⟨ge, t * 4 + 2, none⟩ (.slice a1 (nl (zA1 dk).natAbs) c1)).setCell ⟨ge, t * 4 + 3, none⟩ (.int .i64 (zA2 dk))) b n k vE gp ge V (fun i => if i = t then dk else d i) := by
 obtain ⟨A, C, q1, q2⟩ := h.ox
 obtain ⟨o1, g1⟩ := q1.put ht hm (fun hp => (hf hp).2.2)
 have hblk : some b ≠ some ge := fun e => h.ne.2.2 (Option.some.inj e)
 generalize ((((W.setCell ⟨ge, t * 4, none⟩ (.bool (zA3 dk))).setCell ⟨ge, t * 4 + 1, none⟩ (.bool (decide (zA1 dk < 0)))).setCell ⟨ge, t * 4 + 2, none⟩ (.slice a1 (nl (zA1 dk).natAbs) c1)).setCell ⟨ge, t * 4 + 3, none⟩ (.int .i64 (zA2 dk))) = W' at *
 have hbk := g1.block b h.lt hblk
 have hc : ∀ i, W'.cell? ⟨b, i, none⟩ = W.cell? ⟨b, i, none⟩ := fun i => World.cell?_of_block (a := ⟨b, i, none⟩) hbk
 refine ⟨(hc 0).trans h.c0, (hc 1).trans h.c1, (hc 2).trans h.c2, (hc 3).trans h.c3, (hc 4).trans h.c4, (hc 5).trans h.c5, (hc 6).trans h.c6, fun i => (World.frozen?_of_block (a := ⟨b, i, none⟩) hbk).trans (h.z i), Nat.lt_of_lt_of_le h.lt g1.size, h.lb,
  h.op.kept g1 (Or.inr (by simp [Value.ownBlock]; exact h.ne.1)), ⟨_, _, o1, fun i hi hp => ?_⟩, h.ne, fun i => ?_⟩
 · by_cases e : i = t
   · simp only [if_pos e] at hp ⊢; exact ⟨(hf hp).1, (hf hp).2.1⟩
   · simp only [if_neg e] at hp ⊢; exact q2 i hi hp
 · show IsN (if i = t then dk else d i)
   split
   · exact hN
   · exact h.N i
end
class DX (w : World) (base : Nat) (v : Value) (k : Nat) (d : outParam (Nat → Option (Int × Int))) (A : outParam (Nat → Option Addr)) (C : outParam (Nat → Nat)) : Prop where out : Dms w base v k d A C
section
variable {w : World} {base : Nat} {v : Value} {k : Nat} {d : Nat → Option (Int × Int)} {A : Nat → Option Addr} {C : Nat → Nat}
instance DX.dr [h : DX w base v k d A C] : DX w.drew base v k d A C := ⟨h.out.below (Below.refl _ _).drew⟩
instance DX.dn (q : Nat) [h : DX w base v k d A C] : DX (w.drewN q) base v k d A C := ⟨h.out.below (below_drewN (Below.refl _ _) _)⟩
instance DX.al (o : Obj) [h : DX w base v k d A C] : DX (w.alloc o) base v k d A C := ⟨h.out.below ((Below.refl _ _).alloc (Nat.le_refl _) _)⟩
instance DX.fr' (L : World) [f : From L w] [h : DX L base v k d A C] : DX w base v k d A C := ⟨h.out.below f.out⟩
theorem DX.app {w' : World} {v' : Value} {dk : Option (Int × Int)} {a1 : Option Addr} {c1 : Nat} (h : DX w base v k d A C) (e : d k = dk)
 (ho : w'.ownsRow base 46 4 v' (k + 1) (zAm (zBe d A C) k ++ [.bool (zA3 dk), .bool (decide (zA1 dk < 0)), .slice a1 (nl (zA1 dk).natAbs) c1, .int .i64 (zA2 dk)]))
 (hg : w.grownBy w' v.ownBlock) (hv : v'.ownBlock = v.ownBlock ∨ v'.ownBlock = some w.heap.size) (hm : Mag w a1 (nl (zA1 dk).natAbs) c1 (zA1 dk).natAbs) (hne : 0 < nl (zA1 dk).natAbs → some (ab a1) ≠ v.ownBlock) :
 DX w' base v' (k + 1) d (fun i => if i = k then a1 else A i) (fun i => if i = k then c1 else C i) := by
 subst e
 exact ⟨h.out.app ho hg hv hm hne⟩
theorem DX.one {w : World} {base : Nat} {d : Nat → Option (Int × Int)} {a0 : Option Addr} {c0 : Nat} (hb : base ≤ w.heap.size) {e : Option (Int × Int)} (he : e = d 0) (hm : Mag w a0 (nl (zA1 e).natAbs) c0 (zA1 e).natAbs) {n : Nat} (hn : n = w.heap.size) :
 DX (w.alloc (.cells #[.bool (zA3 e), .bool (decide (zA1 e < 0)), .slice a0 (nl (zA1 e).natAbs) c0, .int .i64 (zA2 e)] 46)) base (.slice (some ⟨n, 0, none⟩) 1 1) 1 d (fun _ => a0) (fun _ => c0) := by
 subst he hn
 refine ⟨⟨?_, fun i hi => ?_, fun i hi hp => ?_⟩⟩
 · exact World.ownsRow_lit w #[.bool (zA3 (d 0)), .bool (decide (zA1 (d 0) < 0)), .slice a0 (nl (zA1 (d 0)).natAbs) c0, .int .i64 (zA2 (d 0))] 1 hb (by unfold maxLen; omega) rfl
 · obtain rfl : i = 0 := by omega
   exact hm.alloc _
 · obtain rfl : i = 0 := by omega
   have := hm.old hp
   simp [Value.ownBlock]; omega
end
attribute [local irreducible] Calls
theorem zFT (w : World) [Tb w] (base b n k gp ge : Nat) (ae : Option Addr) (M ce : Nat) (B : Nat → Option (Int × Int)) (V : Nat → Nat) (d : Nat → Option (Int × Int)) [hS : St base w b n k (.slice ae M ce) gp ge V d] [hB : DZ w ae M ce B]
 (hM : M = n * n) (hn : n ≤ 64) (hBN : ∀ t, IsN (B t)) (hd : ∀ t, t < n * k → d t = fof (V t)) (i j m : Nat) (hi : i < n) (hj : j < n) (hm : m ≤ k) (hk : k ≤ 64) :
 Calls Tryz.prog 91 #[.pointer (some ⟨b, 0, none⟩), .int .i64 i, .int .i64 j, .int .i64 m] w (zAy w (zAQ B n V i j m)) := by
 have l1 := hB.out.fits
 have P1 : j * n + i < M := by rw [hM]; exact zCc hi hj
 have P2 : j * n ≤ 4096 := Nat.mul_le_mul (show j ≤ 64 by omega) hn
 obtain ⟨p, hp⟩ : ∃ p, p = j * n := ⟨_, rfl⟩
 have hN : (j : Int) * (n : Int) = (p : Int) := by rw [hp]; exact (Int.natCast_mul j n).symm
 obtain ⟨A0, C0, z0, z1, z2, z3, z4⟩ := hB.out.el P1
 have y0 := hB.out.idx (j * n + i) P1
 have hNB := hB.out.N _ P1
 rw [← hp] at z0 z1 z2 z3 y0 P1 P2
 rw [show (((p + i : Nat)) : Int) = (p : Int) + (i : Int) by omega] at y0
 have HB0 := Lib.hid (show B (p + i) = zFA B n V i j 0 by rw [hp]; rfl)
 rw [← hp] at z4 hNB
 clear hp
 have w1 : IntKind.i64.wrap (p : Int) = (p : Int) := by rw [IntKind.wrap_i64]; omega
 have w2 : IntKind.i64.wrap ((p : Int) + (i : Int)) = (p : Int) + (i : Int) := by rw [IntKind.wrap_i64]; omega
 clear hM
 generalize B (p + i) = b0 at *
 have DD := Lib.hid (zGl (B := B) (fun t => hBN t) n V i j)
 go_enter Tryz.func91, Tryz.ntmps91
 go_wp2_with fail
 first
 | go_region_held3 (fun w' => w'.cell? ⟨b, 0, none⟩ = some (.int .i64 n) ∧ w'.cell? ⟨b, 2, none⟩ = some (.slice ae M ce) ∧ w'.cell? ⟨ab ae, ao ae + (p + i) * 4, none⟩ = some (.bool (zA3 b0)) ∧ w'.cell? ⟨ab ae, ao ae + (p + i) * 4 + 1, none⟩ = some (.bool (decide (zA1 b0 < 0))) ∧ w'.cell? ⟨ab ae, ao ae + (p + i) * 4 + 2, none⟩ = some (.slice A0 (nl (zA1 b0).natAbs) C0) ∧ w'.cell? ⟨ab ae, ao ae + (p + i) * 4 + 3, none⟩ = some (.int .i64 (zA2 b0))) (first | (go_simp; done))
  (first
   | fail
   | fail)
 | fail "region"
 have DB0 : DB (w.alloc (.cells #[.bool false, .bool false, .slice none 0 0, .int .i64 0] 46)) w.heap.size false false (.slice none 0 0) 0 := inferInstance
 obtain ⟨D, hD⟩ : ∃ D, D = zFA B n V i j := ⟨_, rfl⟩
 have DX0 := DX.one (w := (w.alloc (.cells #[.bool false, .bool false, .slice none 0 0, .int .i64 0] 46)).drew) (base := w.heap.size + 1) (d := D) (e := b0) (n := w.heap.size + 1) (by simp) (by rw [hD]; exact HB0.out) (show Mag ((w.alloc (.cells #[.bool false, .bool false, .slice none 0 0, .int .i64 0] 46)).drew) A0 (nl (zA1 b0).natAbs) C0 (zA1 b0).natAbs from (inferInstance : BI _ _ _ _ _).out) (by simp)
 have hDN : Hid (∀ q, IsN (D q)) := by rw [hD]; exact DD.out
 have hDS : Hid (∀ q, D (q + 1) = zIV (zCZ (fof (V (q * n + i))) (fof (V (q * n + j))))) := by rw [hD]; exact fun q => rfl
 have hRes : Hid (zAQ B n V i j m = zBv D (m + 1)) := by rw [hD]; exact rfl
 clear hD DD HB0 hBN z0 z1 z2 z3 z4 y0 hNB w1 w2
 go_wp2_with fail
 go_loopw [9, 29] (fun v x wr => ∃ (c : Nat) (A : Nat → Option Addr) (C : Nat → Nat), c ≤ m ∧ x = .int .i64 c ∧ DX wr (w.heap.size + 1) v (c + 1) D A C ∧ DB wr w.heap.size false false (.slice none 0 0) 0 ∧ Below w.heap.size w wr ∧ w.heap.size + 1 ≤ wr.heap.size) (fun _ x _ => m - (intOf x).toNat)
 case atStart => exact ⟨0, _, _, by omega, rfl, DX0, inferInstance, zbh, by simp⟩
 case round =>
  clear DX0 DB0
  obtain ⟨c, A, C, hc, rfl, iX, iR, hbr, hsz⟩ := hrel
  haveI bw : From w wr := ⟨hbr⟩
  by_cases hlt : c < m
  · have t1 := zCc hi (show c < k by omega)
    have t2 := zCc hj (show c < k by omega)
    have t3 : c * n ≤ 4096 := Nat.mul_le_mul (show c ≤ 64 by omega) hn
    have HDc := Lib.hid (hDS.out c)
    obtain ⟨x, hx⟩ : ∃ x, x = c * n := ⟨_, rfl⟩
    have hcn : (c : Int) * (n : Int) = (x : Int) := by rw [hx]; exact (Int.natCast_mul c n).symm
    have e1 := hd _ t1
    have e2 := hd _ t2
    have n1 := hS.N (c * n + i)
    have n2 := hS.N (c * n + j)
    obtain ⟨p1, q1, z0, z1, z2, z3, z4⟩ := hS.dz.el t1
    obtain ⟨p2, q2, u0, u1, u2, u3, u4⟩ := hS.dz.el t2
    have y1 := hS.dz.idx _ t1
    have y2 := hS.dz.idx _ t2
    rw [← e1, ← e2] at HDc
    rw [← hx] at t1 t2 t3 HDc n1 n2 z0 z1 z2 z3 z4 u0 u1 u2 u3 u4 y1 y2
    rw [show (((x + i : Nat)) : Int) = (x : Int) + (i : Int) by omega] at y1
    rw [show (((x + j : Nat)) : Int) = (x : Int) + (j : Int) by omega] at y2
    simp only [zAo, zAO, Nat.zero_add] at z0 z1 z2 z3 u0 u1 u2 u3 y1 y2
    clear hx e1 e2
    obtain ⟨dx, hdx⟩ : ∃ dx, dx = d (x + i) := ⟨_, rfl⟩
    obtain ⟨dy, hdy⟩ : ∃ dy, dy = d (x + j) := ⟨_, rfl⟩
    rw [← hdx] at HDc n1 z0 z1 z2 z3 z4
    rw [← hdy] at HDc n2 u0 u1 u2 u3 u4
    clear hdx hdy
    have w1 : IntKind.i64.wrap (x : Int) = (x : Int) := by rw [IntKind.wrap_i64]; omega
    have w2 : IntKind.i64.wrap ((x : Int) + (i : Int)) = (x : Int) + (i : Int) := by rw [IntKind.wrap_i64]; omega
    have w3 : IntKind.i64.wrap ((x : Int) + (j : Int)) = (x : Int) + (j : Int) := by rw [IntKind.wrap_i64]; omega
    have HM := fun W a c a' c' [i1 : BI W a (nl (zA1 dx).natAbs) c (zA1 dx).natAbs] [i2 : BI W a' (nl (zA1 dy).natAbs) c' (zA1 dy).natAbs] [Tb W] => Lib.hid (frF (zHT W (zA3 dx) (decide (zA1 dx < 0)) (zA3 dy) (decide (zA1 dy < 0)) a a' _ _ c c' (zA2 dx) (zA2 dy) dx dy (zAI n1 i1.out) (zAI n2 i2.out) tb))
    have HN := fun W a c [i1 : BI W a (nl (zA1 (zCZ dx dy)).natAbs) c (zA1 (zCZ dx dy)).natAbs] [Tb W] => Lib.hid (frF (zMg W (zA3 (zCZ dx dy)) (decide (zA1 (zCZ dx dy) < 0)) a _ c (zA2 (zCZ dx dy)) (zCZ dx dy) (zAI (zDv _ _) i1.out) tb))
    obtain ⟨dm, hdm⟩ : ∃ dm, dm = zCZ dx dy := ⟨_, rfl⟩
    rw [← hdm] at HM HN HDc
    obtain ⟨dk, hdk⟩ : ∃ dk, dk = zIV dm := ⟨_, rfl⟩
    rw [← hdk] at HN HDc
    clear hdm hdk n1 n2
    go_wp2_with fail
    first
    | go_region_held3 (fun w' => w'.cell? ⟨b, 0, none⟩ = some (.int .i64 n) ∧ w'.cell? ⟨b, 6, none⟩ = some (.slice (some ⟨ge, 0, none⟩) (n * k) (n * k)) ∧ w'.cell? ⟨ge, (x + i) * 4, none⟩ = some (.bool (zA3 dx)) ∧ w'.cell? ⟨ge, (x + i) * 4 + 1, none⟩ = some (.bool (decide (zA1 dx < 0))) ∧ w'.cell? ⟨ge, (x + i) * 4 + 2, none⟩ = some (.slice p1 (nl (zA1 dx).natAbs) q1) ∧ w'.cell? ⟨ge, (x + i) * 4 + 3, none⟩ = some (.int .i64 (zA2 dx)) ∧ w'.cell? ⟨ge, (x + j) * 4, none⟩ = some (.bool (zA3 dy)) ∧ w'.cell? ⟨ge, (x + j) * 4 + 1, none⟩ = some (.bool (decide (zA1 dy < 0))) ∧ w'.cell? ⟨ge, (x + j) * 4 + 2, none⟩ = some (.slice p2 (nl (zA1 dy).natAbs) q2) ∧ w'.cell? ⟨ge, (x + j) * 4 + 3, none⟩ = some (.int .i64 (zA2 dy))) (first | (go_simp; done))
     (first
      | (go_at_call 76; refine (HM _ _ _ _ _).out.mono ?_; rintro o w1 ⟨a1, c1, rfl, i1, b1, f1⟩)
      | (go_at_call 137; refine (HN _ _ _).out.mono ?_; rintro o w2 ⟨a2, c2, rfl, i2, b2, f2⟩; have e1 := b1.out.size; have e2 := b2.out.size; simp at e1 e2; have XX : Hid (DX (w2.alloc (.cells #[.bool (zA3 dk), .bool (decide (zA1 dk < 0)), .slice a2 (nl (zA1 dk).natAbs) c2, .int .i64 (zA2 dk)] 46)) (w.heap.size + 1) u9 (c + 1) D A C) := Lib.hid inferInstance; have RR : Hid (DB (w2.alloc (.cells #[.bool (zA3 dk), .bool (decide (zA1 dk < 0)), .slice a2 (nl (zA1 dk).natAbs) c2, .int .i64 (zA2 dk)] 46)) w.heap.size false false (.slice none 0 0) 0) := Lib.hid inferInstance; have LL : Hid (Below w.heap.size w (w2.alloc (.cells #[.bool (zA3 dk), .bool (decide (zA1 dk < 0)), .slice a2 (nl (zA1 dk).natAbs) c2, .int .i64 (zA2 dk)] 46))) := Lib.hid zbh)
      | ((refine zBK (by rfl) _ _ (by rfl) (w.heap.size + 1) u9 (c + 1) (zAm (zBe D A C) (c + 1)) (by rfl) _ (zA3 dk) (decide (zA1 dk < 0)) (.slice a2 (nl (zA1 dk).natAbs) c2) (zA2 dk) (by rfl) (by rfl) XX.out.out.own (by go_simp) (by go_simp) (by go_simp) (by go_simp) (by omega) (by simp; omega) ?_; intro g4 cap4 w4 hown4 hg4 hob4; haveI f4 : From w w4 := ⟨LL.out.trans ((zB3 XX.out.out.own hg4 (by simp; omega)).mono (by omega))⟩; skip))
      | fail)
    | fail "region"
    all_goals (
     have hne : 0 < nl (zA1 dk).natAbs → some (ab a2) ≠ u9.ownBlock := fun h q => by have h1 := (iX.out.own.lt _ q.symm).2; have h2 := f2 h; omega
     have X5 := XX.out.app HDc.out hown4 hg4 hob4 (i2.out.alloc _) hne
     have R5 : DB w4 w.heap.size false false (.slice none 0 0) 0 := ⟨RR.out.out.grown hg4 (zDF XX.out.out.own (by omega))⟩
     have e4 := hg4.size
     simp at e4
     clear hown4 hg4 hob4 XX RR LL HM HN
     go_wp2_with fail
     go_roundw
     case rel => exact ⟨c + 1, _, _, by omega, by go_num, X5, R5, f4.out, by omega⟩
     case measure => simp [intOf]; omega)
  · obtain rfl : c = m := by omega
    obtain ⟨oa, oc, rfl, hZ⟩ := zKH (tb (w := wr)) iX.out hDN.out (by omega)
    have HZ := Lib.hid (frF hZ)
    clear hZ
    go_wp2_with fail
    refine HZ.out.mono ?_; rintro o w1 ⟨a1, c1, rfl, i1, b1, f1⟩
    go_wp2_with fail
    refine bodyPost_ret (v := .agg #[.bool (zA3 (zBv D (c + 1))), .bool (decide (zA1 (zBv D (c + 1)) < 0)), .slice a1 (nl (zA1 (zBv D (c + 1))).natAbs) c1, .int .i64 (zA2 (zBv D (c + 1)))]) (by simp only [results, Tryz.results91]; go_simp) rfl ?_
    have e1 := b1.out.size
    rw [hRes.out]
    exact ⟨a1, c1, rfl, Mag.st4 i1.out (fun h => by have := f1 h; omega) _ _ _ _, zbh, fun h => by have := f1 h; omega⟩
end Go.Proofs.YtablcbgeeeboeaaGreatDoor
set_option maxRecDepth 100000
set_option maxHeartbeats 20000000
namespace Go.Proofs.YtablcbgeeeboeaaGreatDoor
open Go.RowKit Sp
class IZ (W : World) (a : Option Addr) (n c : Nat) (L : outParam (Nat → Int)) : Prop where out : Ils W a n c L
section
variable {W : World} {a : Option Addr} {n c : Nat} {L : Nat → Int}
instance IZ.dr [h : IZ W a n c L] : IZ W.drew a n c L := ⟨h.out.below (Below.refl _ _).drew⟩
instance IZ.dn (q : Nat) [h : IZ W a n c L] : IZ (W.drewN q) a n c L := ⟨h.out.below (below_drewN (Below.refl _ _) _)⟩
instance IZ.al (o : Obj) [h : IZ W a n c L] : IZ (W.alloc o) a n c L := ⟨h.out.below ((Below.refl _ _).alloc (Nat.le_refl _) _)⟩
instance IZ.fr (L' : World) [k : From L' W] [h : IZ L' a n c L] : IZ W a n c L := ⟨h.out.below k.out⟩
end
def zFZ (A : Nat → Int) (n : Int) (i : Nat) : Bool := decide (0 ≤ A i ∧ A i < n ∧ (i = 0 ∨ A (i - 1) < A i))
def zBA (A : Nat → Int) (n : Int) : Nat → Bool
 | 0 => true
 | k + 1 => zBA A n k && zFZ A n k
theorem zFY {A : Nat → Int} {n : Int} {m i : Nat} (hi : i < m) (h : zFZ A n i = false) : zBA A n m = false := by
 induction m with
 | zero => omega
 | succ m ih =>
  show (zBA A n m && zFZ A n m) = false
  rcases Nat.lt_succ_iff_lt_or_eq.1 hi with h1 | h1
  · rw [ih h1]; rfl
  · rw [← h1, h]; exact Bool.and_false _
theorem zCv {A : Nat → Int} {n : Int} {m i : Nat} (h : zBA A n m = true) (hi : i < m) : 0 ≤ A i ∧ A i < n ∧ (i = 0 ∨ A (i - 1) < A i) := by
 cases hh : zFZ A n i with
 | false => rw [zFY hi hh] at h; cases h
 | true => exact of_decide_eq_true hh
attribute [local irreducible] Calls
theorem zEH (w : World) (al : Option Addr) (m cl : Nat) (A : Nat → Int) [hA : IZ w al m cl A] (n : Int) :
 Calls Tryz.prog 71 #[.slice al m cl, .int .i64 n] w fun o w' => o = .returned (.bool (zBA A n m)) ∧ Below w.heap.size w w' := by
 have l1 := hA.out.lim
 have l2 := hA.out.fits
 obtain ⟨R, hR⟩ : ∃ R, R = zBA A n m := ⟨_, rfl⟩
 have HR := Lib.hid hR
 rw [← hR]
 clear hR
 go_enter Tryz.func71, Tryz.ntmps71
 go_wp2_with fail
 go_loopw [9] (fun x wr => ∃ i : Nat, i ≤ m ∧ x = .int .i64 i ∧ zBA A n i = true ∧ Below w.heap.size w wr) (fun x _ => m - (intOf x).toNat)
 case atStart => exact ⟨0, by omega, rfl, rfl, zbh⟩
 case round =>
  obtain ⟨i, hi, rfl, hok, hbr⟩ := hrel
  haveI bw : From w wr := ⟨hbr⟩
  have HOK := Lib.hid hok
  clear hok hbr
  by_cases hlt : i < m
  · have k1 := (inferInstance : IZ wr al m cl A).out
    have y1 := k1.idx i hlt
    haveI z1 : CE wr (ab al) (ao al + i) (.int .i64 (A i)) := ⟨k1.cell i hlt, k1.old (by omega)⟩
    cases hh : zFZ A n i with
    | false =>
     have HNO : Hid (R = false) := Lib.hid (by rw [HR.out]; exact zFY hlt hh)
     have hn : ¬ (0 ≤ A i ∧ A i < n ∧ (i = 0 ∨ A (i - 1) < A i)) := of_decide_eq_false hh
     clear hh
     by_cases h0 : A i < 0
     · generalize A i = x at *
       clear hn k1
       go_wp2_with fail
       go_ret
       exact ⟨by rw [HNO.out]; rfl, zbh⟩
     · by_cases h1 : n ≤ A i
       · generalize A i = x at *
         clear hn k1
         go_wp2_with fail
         go_ret
         exact ⟨by rw [HNO.out]; rfl, zbh⟩
       · have h2 : 0 < i := by omega
         have h3 : A i ≤ A (i - 1) := by omega
         have y2 := k1.idx (i - 1) (by omega)
         haveI z2 : CE wr (ab al) (ao al + (i - 1)) (.int .i64 (A (i - 1))) := ⟨k1.cell _ (by omega), k1.old (by omega)⟩
         rw [show ((i - 1 : Nat) : Int) = (i : Int) - 1 by omega] at y2
         generalize A (i - 1) = x1 at *
         generalize A i = x at *
         generalize i - 1 = i1 at *
         clear hn k1
         go_wp2_with fail
         go_ret
         exact ⟨by rw [HNO.out]; rfl, zbh⟩
    | true =>
     have hy : 0 ≤ A i ∧ A i < n ∧ (i = 0 ∨ A (i - 1) < A i) := of_decide_eq_true hh
     have HN : Hid (zBA A n (i + 1) = true) := Lib.hid (by show (zBA A n i && zFZ A n i) = true; rw [HOK.out, hh]; rfl)
     clear hh
     have h0 : ¬ A i < 0 := by omega
     have h1 : ¬ n ≤ A i := by omega
     by_cases h2 : i = 0
     · have d2 : decide (0 < i) = false := decide_eq_false (by omega)
       generalize A i = x at *
       clear hy k1 h2
       go_wp2_with fail
       go_roundw
       case rel => exact ⟨i + 1, by omega, by go_num, HN.out, zbh⟩
       case measure => simp [intOf]; omega
     · have h2' : 0 < i := by omega
       have h3 : ¬ A i ≤ A (i - 1) := by omega
       have y2 := k1.idx (i - 1) (by omega)
       haveI z2 : CE wr (ab al) (ao al + (i - 1)) (.int .i64 (A (i - 1))) := ⟨k1.cell _ (by omega), k1.old (by omega)⟩
       rw [show ((i - 1 : Nat) : Int) = (i : Int) - 1 by omega] at y2
       generalize A (i - 1) = x1 at *
       generalize A i = x at *
       generalize i - 1 = i1 at *
       clear hy k1
       go_wp2_with fail
       go_roundw
       case rel => exact ⟨i + 1, by omega, by go_num, HN.out, zbh⟩
       case measure => simp [intOf]; omega
  · have him : i = m := by omega
    subst him
    have HY : Hid (R = true) := Lib.hid (by rw [HR.out]; exact HOK.out)
    go_wp2_with fail
    go_ret
    exact ⟨by rw [HY.out]; rfl, zbh⟩
end Go.Proofs.YtablcbgeeeboeaaGreatDoor

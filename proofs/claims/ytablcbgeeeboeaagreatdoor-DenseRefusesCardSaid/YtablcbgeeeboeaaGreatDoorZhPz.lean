/-
  Walks: package sparsegen: SameDyad, SameBlock, SamePanel.
-/
import Derived.Test.YtablcbgeeeboeaaGreatDoorZhPc
import Derived.Test.YtablcbgeeeboeaaGreatDoorZhKit
import Derived.Test.YtablcbgeeeboeaaGreatDoorZhRy
import Derived.Test.YtablcbgeeeboeaaGreatDoorZhS3
import Derived.Test.YtablcbgeeeboeaaGreatDoorZhSqt
import Derived.Test.YtablcbgeeeboeaaGreatDoorZhGq
set_option maxRecDepth 100000
set_option maxHeartbeats 20000000
namespace Go.Proofs.YtablcbgeeeboeaaGreatDoor
open Go.RowKit Sp
def mel (d : Nat → Option (Int × Int)) (A : Nat → Option Addr) (C : Nat → Nat) (i : Nat) : El :=
 ⟨zA3 (d i), decide (zA1 (d i) < 0), A i, nl (zA1 (d i)).natAbs, C i, zA2 (d i), (zA1 (d i)).natAbs⟩
theorem zFp {d : Nat → Option (Int × Int)} {A : Nat → Option Addr} {C : Nat → Nat} {i : Nat} (h : IsN (d i)) : (mel d A C i).d = d i := by
 show zFm (zA3 (d i)) (sgn (decide (zA1 (d i) < 0)) (zA1 (d i)).natAbs) (zA2 (d i)) = d i
 rw [zAg]; exact zCF h
structure Dz (w : World) (a : Option Addr) (n c : Nat) (d : Nat → Option (Int × Int)) : Prop where
 ex : ∃ A C, Dys w a n c (mel d A C)
 N : ∀ i, i < n → IsN (d i)
class DZ (W : World) (a : Option Addr) (n c : Nat) (d : outParam (Nat → Option (Int × Int))) : Prop where out : Dz W a n c d
section
variable {W W' : World} {a : Option Addr} {n c : Nat} {d d' : Nat → Option (Int × Int)}
theorem Dz.below (h : Dz W a n c d) (hb : Below W.heap.size W W') : Dz W' a n c d := by
 obtain ⟨⟨A, C, h1⟩, h2⟩ := h; exact ⟨⟨A, C, h1.below hb⟩, h2⟩
instance DZ.dr [h : DZ W a n c d] : DZ W.drew a n c d := ⟨h.out.below (Below.refl _ _).drew⟩
instance DZ.dn (q : Nat) [h : DZ W a n c d] : DZ (W.drewN q) a n c d := ⟨h.out.below (below_drewN (Below.refl _ _) _)⟩
instance DZ.al (o : Obj) [h : DZ W a n c d] : DZ (W.alloc o) a n c d := ⟨h.out.below ((Below.refl _ _).alloc (Nat.le_refl _) _)⟩
instance DZ.fr (L : World) [k : From L W] [h : DZ L a n c d] : DZ W a n c d := ⟨h.out.below k.out⟩
theorem Dz.fits (h : Dz W a n c d) : n ≤ c ∧ c ≤ 9223372036854775807 := by obtain ⟨⟨A, C, h1⟩, _⟩ := h; exact ⟨h1.fits, h1.lim⟩
theorem Dz.idx (h : Dz W a n c d) (i : Nat) (hi : i < n) (V : World) : (Instr.indexAt 23 (.slice a n c) (.int .i64 i)).run Tryz.prog V = .ok (.pointer (some ⟨ab a, ao a + i * 4, none⟩)) V := by
 obtain ⟨⟨A, C, h1⟩, _⟩ := h; exact h1.idx i hi V
theorem Dz.el (h : Dz W a n c d) {i : Nat} (hi : i < n) : ∃ A C, CE W (ab a) (ao a + i * 4) (.bool (zA3 (d i))) ∧ CE W (ab a) (ao a + i * 4 + 1) (.bool (decide (zA1 (d i) < 0))) ∧
 CE W (ab a) (ao a + i * 4 + 2) (.slice A (nl (zA1 (d i)).natAbs) C) ∧ CE W (ab a) (ao a + i * 4 + 3) (.int .i64 (zA2 (d i))) ∧ BI W A (nl (zA1 (d i)).natAbs) C (zA1 (d i)).natAbs := by
 obtain ⟨⟨A, C, h1⟩, _⟩ := h
 obtain ⟨z0, z1, z2, z3⟩ := h1.ce hi
 exact ⟨A i, C i, z0, z1, z2, z3, ⟨h1.m i hi⟩⟩
theorem zFq (h : ∀ i, i < n → IsN (d i)) (A : Nat → Option Addr) (C : Nat → Nat) : ElB (mel d A C) n := fun i hi => by
 have := zA7 (h i hi)
 exact ⟨Nat.le_trans (zAe _) (by omega), by show zA4 (zA1 (d i)).natAbs ≤ _; omega⟩
theorem Dz.congr (h : Dz W a n c d) (e : ∀ i, i < n → d i = d' i) : Dz W a n c d' := by
 obtain ⟨⟨A, C, h1⟩, h2⟩ := h
 have em : ∀ i, i < n → mel d A C i = mel d' A C i := fun i hi => by unfold mel; rw [e i hi]
 exact ⟨⟨A, C, ⟨h1.fits, h1.lim, h1.addr, fun i hi => by rw [← em i hi]; exact h1.c0 i hi, fun i hi => by rw [← em i hi]; exact h1.c1 i hi, fun i hi => by rw [← em i hi]; exact h1.c2 i hi, fun i hi => by rw [← em i hi]; exact h1.c3 i hi, fun i hi => by rw [← em i hi]; exact h1.m i hi, fun i hi => by rw [← em i hi]; exact h1.b i hi, h1.old⟩⟩, fun i hi => by rw [← e i hi]; exact h2 i hi⟩
theorem zCS (W : World) (d : Nat → Option (Int × Int)) : Dz W none 0 0 d :=
 ⟨⟨fun _ => none, fun _ => 0, ⟨by omega, by omega, by omega, fun i hi => by omega, fun i hi => by omega, fun i hi => by omega, fun i hi => by omega, fun i hi => by omega, fun i hi => by omega, by omega⟩⟩, fun i hi => by omega⟩
theorem Dms.dz {base : Nat} {v : Value} {A : Nat → Option Addr} {C : Nat → Nat} (h : Dms W base v n d A C) (hd : ∀ i, IsN (d i)) : ∃ a c, v = .slice a n c ∧ Dz W a n c d := by
 obtain ⟨a, c, h1, h2⟩ := h.dys hd
 exact ⟨a, c, h1, ⟨A, C, h2⟩, fun i _ => hd i⟩
end
attribute [local irreducible] Calls
theorem zGn (w : World) [Tb w] (v s v' s' : Bool) (a a' : Option Addr) (n n' c c' : Nat) (e e' : Int) (d d' : Option (Int × Int)) [hx : DS w v s a n c e d] [hy : DS w v' s' a' n' c' e' d'] (y : Bool) (hv : y = decide (d = d')) :
 Calls Tryz.prog 24 #[.agg #[.bool v, .bool s, .slice a n c, .int .i64 e], .agg #[.bool v', .bool s', .slice a' n' c', .int .i64 e']] w fun o w' => o = .returned (.bool y) ∧ Below w.heap.size w w' := by
 have N1 : IsN d := hx.out.1.isN
 have N2 : IsN d' := hy.out.1.isN
 have HN := fun W [i : DS W v s a n c e d] [Tb W] => Lib.hid (frI (zAt W i.out tb))
 have HM := fun W [i : DS W v' s' a' n' c' e' d'] [Tb W] => Lib.hid (frI (zAt W i.out tb))
 have HK := fun W b q b' q' [i : BI W b (nl (zA1 d).natAbs) q (zA1 d).natAbs] [j : BI W b' (nl (zA1 d').natAbs) q' (zA1 d').natAbs] => Lib.hid (frm (zKf W (zA3 d) (zA3 d') (decide (zA1 d < 0)) (decide (zA1 d' < 0)) b b' _ _ q q' _ _ (zA2 d) (zA2 d') i.out j.out rfl rfl y (by rw [hv, zM6])))
 clear hv N1 N2
 go_enter Tryz.func24, Tryz.ntmps24
 go_wp2_with fail
 first
 | go_region_held3 (fun w' => w'.cell? ⟨w.heap.size, 0, none⟩ = some (.bool v) ∧ w'.cell? ⟨w.heap.size, 1, none⟩ = some (.bool s) ∧ w'.cell? ⟨w.heap.size, 2, none⟩ = some (.slice a n c) ∧ w'.cell? ⟨w.heap.size, 3, none⟩ = some (.int .i64 e) ∧ w'.cell? ⟨w.heap.size + 1, 0, none⟩ = some (.bool v') ∧ w'.cell? ⟨w.heap.size + 1, 1, none⟩ = some (.bool s') ∧ w'.cell? ⟨w.heap.size + 1, 2, none⟩ = some (.slice a' n' c') ∧ w'.cell? ⟨w.heap.size + 1, 3, none⟩ = some (.int .i64 e')) (first | (go_simp; done))
  (first
   | (go_at_call 55; refine (HN _).out.mono ?_; rintro o w1 ⟨a1, c1, rfl, i1, b1⟩)
   | (go_at_call 55; refine (HM _).out.mono ?_; rintro o w2 ⟨a2, c2, rfl, i2, b2⟩)
   | (go_at_call 64; refine (HK _ _ _ _ _).out.mono ?_; rintro o w3 ⟨rfl, b3⟩)
   | fail)
 | fail "region"
 all_goals (
  go_wp2_with fail
  go_ret
  exact ⟨rfl, zbh⟩)
theorem zII (w : World) [Tb w] (r s : Int) (a a' : Option Addr) (n c c' : Nat) (d : Nat → Option (Int × Int)) [hx : DZ w a n c d] [hy : DZ w a' n c' d] :
 Calls Tryz.prog 16 #[.agg #[.int .i64 r, .int .i64 s, .slice a n c], .agg #[.int .i64 r, .int .i64 s, .slice a' n c']] w fun o w' => o = .returned (.bool true) ∧ Below w.heap.size w w' := by
 have l1 := hx.out.fits
 have l2 := hy.out.fits
 have HN := hx.out.N
 have HS := fun k (hk : k < n) W p q p' q' [Tb W] [i : BI W p (nl (zA1 (d k)).natAbs) q (zA1 (d k)).natAbs] [j : BI W p' (nl (zA1 (d k)).natAbs) q' (zA1 (d k)).natAbs] => Lib.hid (by
  haveI i1 : DS W (zA3 (d k)) (decide (zA1 (d k) < 0)) p (nl (zA1 (d k)).natAbs) q (zA2 (d k)) (d k) := ⟨zBp (HN k hk) i.out⟩
  haveI i2 : DS W (zA3 (d k)) (decide (zA1 (d k) < 0)) p' (nl (zA1 (d k)).natAbs) q' (zA2 (d k)) (d k) := ⟨zBp (HN k hk) j.out⟩
  exact frm (zGn W (zA3 (d k)) (decide (zA1 (d k) < 0)) (zA3 (d k)) (decide (zA1 (d k) < 0)) p p' (nl (zA1 (d k)).natAbs) (nl (zA1 (d k)).natAbs) q q' (zA2 (d k)) (zA2 (d k)) (d k) (d k) true (by simp)))
 clear HN
 go_enter Tryz.func16, Tryz.ntmps16
 go_wp2_with fail
 have hw2 := Lib.hid (show Beh w ((w.alloc (.cells #[.int .i64 r, .int .i64 s, .slice a n c] 25)).alloc (.cells #[.int .i64 r, .int .i64 s, .slice a' n c'] 25)) from inferInstance)
 have n1 : N3 ((w.alloc (.cells #[.int .i64 r, .int .i64 s, .slice a n c] 25)).alloc (.cells #[.int .i64 r, .int .i64 s, .slice a' n c'] 25)) w.heap.size (.int .i64 r) (.int .i64 s) (.slice a n c) := inferInstance
 have n2 : N3 ((w.alloc (.cells #[.int .i64 r, .int .i64 s, .slice a n c] 25)).alloc (.cells #[.int .i64 r, .int .i64 s, .slice a' n c'] 25)) (w.heap.size + 1) (.int .i64 r) (.int .i64 s) (.slice a' n c') := inferInstance
 haveI t2 : Tb ((w.alloc (.cells #[.int .i64 r, .int .i64 s, .slice a n c] 25)).alloc (.cells #[.int .i64 r, .int .i64 s, .slice a' n c'] 25)) := inferInstance
 haveI x2 : DZ ((w.alloc (.cells #[.int .i64 r, .int .i64 s, .slice a n c] 25)).alloc (.cells #[.int .i64 r, .int .i64 s, .slice a' n c'] 25)) a n c d := inferInstance
 haveI y2 : DZ ((w.alloc (.cells #[.int .i64 r, .int .i64 s, .slice a n c] 25)).alloc (.cells #[.int .i64 r, .int .i64 s, .slice a' n c'] 25)) a' n c' d := inferInstance
 generalize ((w.alloc (.cells #[.int .i64 r, .int .i64 s, .slice a n c] 25)).alloc (.cells #[.int .i64 r, .int .i64 s, .slice a' n c'] 25)) = w2 at *
 haveI b2 : Beh w w2 := hw2.out
 go_loopw [5] (fun i wr => ∃ k : Nat, k ≤ n ∧ i = .int .i64 k ∧ Below w2.heap.size w2 wr) (fun i _ => n - (intOf i).toNat)
 case atStart => exact ⟨0, by omega, rfl, Below.refl _ _⟩
 case round =>
  obtain ⟨k, hk, rfl, hbr⟩ := hrel
  haveI bw : From w2 wr := ⟨hbr⟩
  have hs := hbr.size
  clear hbr
  by_cases hlt : k < n
  · obtain ⟨p1, q1, z0, z1, z2, z3, z4⟩ := (inferInstance : DZ wr a n c d).out.el hlt
    obtain ⟨p2, q2, y0, y1, y2, y3, y4⟩ := (inferInstance : DZ wr a' n c' d).out.el hlt
    have i1 := (inferInstance : DZ wr a n c d).out.idx k hlt
    have i2 := (inferInstance : DZ wr a' n c' d).out.idx k hlt
    have HSk := HS k hlt
    go_wp2_with fail
    first
    | go_region_held3 (fun w' => w'.cell? ⟨w.heap.size, 2, none⟩ = some (.slice a n c) ∧ w'.cell? ⟨w.heap.size + 1, 2, none⟩ = some (.slice a' n c') ∧ w'.cell? ⟨ab a, ao a + k * 4, none⟩ = some (.bool (zA3 (d k))) ∧ w'.cell? ⟨ab a, ao a + k * 4 + 1, none⟩ = some (.bool (decide (zA1 (d k) < 0))) ∧ w'.cell? ⟨ab a, ao a + k * 4 + 2, none⟩ = some (.slice p1 (nl (zA1 (d k)).natAbs) q1) ∧ w'.cell? ⟨ab a, ao a + k * 4 + 3, none⟩ = some (.int .i64 (zA2 (d k))) ∧ w'.cell? ⟨ab a', ao a' + k * 4, none⟩ = some (.bool (zA3 (d k))) ∧ w'.cell? ⟨ab a', ao a' + k * 4 + 1, none⟩ = some (.bool (decide (zA1 (d k) < 0))) ∧ w'.cell? ⟨ab a', ao a' + k * 4 + 2, none⟩ = some (.slice p2 (nl (zA1 (d k)).natAbs) q2) ∧ w'.cell? ⟨ab a', ao a' + k * 4 + 3, none⟩ = some (.int .i64 (zA2 (d k)))) (first | (go_simp; done))
     (first
      | (go_at_call 24; refine (HSk _ _ _ _ _).out.mono ?_; rintro o w3 ⟨rfl, b3⟩)
      | fail)
    | fail "region"
    all_goals (
     go_wp2_with fail
     go_roundw
     case rel => exact ⟨k + 1, by omega, by go_num, zbh⟩
     case measure => simp [intOf]; omega)
  · obtain rfl : k = n := by omega
    go_wp2_with fail
    go_ret
    exact ⟨rfl, zbh⟩
theorem zIH (w : World) (r s : Int) (a a' : Option Addr) (n c c' : Nat) (X : Nat → Nat) [hx : FZ w a n c X] [hy : FZ w a' n c' X] :
 Calls Tryz.prog 15 #[.agg #[.int .i64 r, .int .i64 s, .slice a n c], .agg #[.int .i64 r, .int .i64 s, .slice a' n c']] w fun o w' => o = .returned (.bool true) ∧ Below w.heap.size w w' := by
 have HS := fun W [i : FZ W a n c X] [j : FZ W a' n c' X] => Lib.hid (frm (zGW W a a' n c c' X i.out j.out))
 go_enter Tryz.func15, Tryz.ntmps15
 go_wp2_with fail
 refine (HS _).out.mono ?_; rintro o w3 ⟨rfl, b3⟩
 go_wp2_with fail
 go_ret
 exact ⟨rfl, zbh⟩
end Go.Proofs.YtablcbgeeeboeaaGreatDoor
set_option maxRecDepth 100000
set_option maxHeartbeats 20000000
namespace Go.Proofs.YtablcbgeeeboeaaGreatDoor
open Go.RowKit Sp
class DM (w : World) (base : Nat) (v : Value) (k : Nat) (d : outParam (Nat → Option (Int × Int))) (A : outParam (Nat → Option Addr)) (C : outParam (Nat → Nat)) : Prop where
 out : Dms w base v k d A C
 fr : ∀ i, i < k → 0 < nl (zA1 (d i)).natAbs → base ≤ ab (A i)
section
variable {w w' : World} {base : Nat} {v v' : Value} {k : Nat} {d : Nat → Option (Int × Int)} {A : Nat → Option Addr} {C : Nat → Nat}
instance DM.dr [h : DM w base v k d A C] : DM w.drew base v k d A C := ⟨h.out.below (Below.refl _ _).drew, h.fr⟩
instance DM.dn (q : Nat) [h : DM w base v k d A C] : DM (w.drewN q) base v k d A C := ⟨h.out.below (below_drewN (Below.refl _ _) _), h.fr⟩
instance DM.al (o : Obj) [h : DM w base v k d A C] : DM (w.alloc o) base v k d A C := ⟨h.out.below ((Below.refl _ _).alloc (Nat.le_refl _) _), h.fr⟩
instance DM.fr' (L : World) [f : From L w] [h : DM L base v k d A C] : DM w base v k d A C := ⟨h.out.below f.out, h.fr⟩
theorem DM.nil (w : World) (base : Nat) (d : Nat → Option (Int × Int)) : DM w base (.slice none 0 0) 0 d (fun _ => none) (fun _ => 0) :=
 ⟨⟨World.ownsRow_nil _ _ _ _, fun i hi => by omega, fun i hi => by omega⟩, fun i hi => by omega⟩
theorem DM.sen (h : DM w base v k d A C) {b : Nat} (hb : b < base) (i : Nat) (u : Value) : DM (w.setCell ⟨b, i, none⟩ u) base v k d A C := by
 have hg : w.grownBy (w.setCell ⟨b, i, none⟩ u) (some b) := zAY (zBk w b) i u
 refine ⟨h.out.kept hg ?_ (fun j hj hp e => ?_), h.fr⟩
 · rcases hv : v.ownBlock with _ | g
   · exact Or.inl rfl
   · refine Or.inr fun e => ?_
     have := (h.out.own.lt g hv).1
     injection e with e; omega
 · have := h.fr j hj hp
   injection e with e; omega
theorem DM.app (h : DM w base v k d A C) {dk : Option (Int × Int)} {a1 : Option Addr} {c1 : Nat}
 (ho : w'.ownsRow base 46 4 v' (k + 1) (zAm (zBe d A C) k ++ [.bool (zA3 dk), .bool (decide (zA1 dk < 0)), .slice a1 (nl (zA1 dk).natAbs) c1, .int .i64 (zA2 dk)]))
 (hg : w.grownBy w' v.ownBlock) (hv : v'.ownBlock = v.ownBlock ∨ v'.ownBlock = some w.heap.size) (hm : Mag w a1 (nl (zA1 dk).natAbs) c1 (zA1 dk).natAbs) (hf : 0 < nl (zA1 dk).natAbs → base ≤ ab a1) (hne : 0 < nl (zA1 dk).natAbs → some (ab a1) ≠ v.ownBlock) :
 DM w' base v' (k + 1) (fun i => if i = k then dk else d i) (fun i => if i = k then a1 else A i) (fun i => if i = k then c1 else C i) := by
 have h2 := h.out.congr (d' := fun i => if i = k then dk else d i) (fun i hi => (if_neg (by omega)).symm)
 have e2 : zAm (zBe d A C) k = zAm (zBe (fun i => if i = k then dk else d i) A C) k := zBH fun i hi => by unfold zBe; simp only [if_neg (show ¬ i = k by omega)]
 rw [e2] at ho
 refine ⟨h2.app (by simp only [if_true]; exact ho) hg hv (by simp only [if_true]; exact hm) (by simp only [if_true]; exact hne), fun i hi => ?_⟩
 by_cases hk : i = k
 · simp only [if_pos hk]; exact hf
 · simp only [if_neg hk]; exact h.fr i (by omega)
end
theorem DM.dz {a : Option Addr} {c n base k : Nat} {w : World} {d : Nat → Option (Int × Int)} {A : Nat → Option Addr} {C : Nat → Nat} (h : DM w base (.slice a n c) k d A C) (hd : ∀ i, IsN (d i)) : n = k ∧ Dz w a k c d := by
 obtain ⟨a', c', e, hz⟩ := h.out.dz hd
 injection e with e1 e2 e3
 subst e1 e3
 exact ⟨e2, hz⟩
theorem DM.mono {w : World} {base base' k : Nat} {v : Value} {d : Nat → Option (Int × Int)} {A : Nat → Option Addr} {C : Nat → Nat} (h : DM w base v k d A C) (hb : base' ≤ base) : DM w base' v k d A C :=
 ⟨⟨⟨h.out.own.1, h.out.own.2.imp id fun ⟨g, c, cur, e, hbg, r⟩ => ⟨g, c, cur, e, Nat.le_trans hb hbg, r⟩⟩, h.out.m, h.out.ap⟩, fun i hi hp => Nat.le_trans hb (h.fr i hi hp)⟩
def DN (w w' : World) (a : Option Addr) (n c : Nat) (d : Nat → Option (Int × Int)) : Prop := ∃ A C, DM w' w.heap.size (.slice a n c) n d A C
theorem DN.dz {w w' : World} {a : Option Addr} {n c : Nat} {d : Nat → Option (Int × Int)} (h : DN w w' a n c d) (hd : ∀ i, IsN (d i)) : Dz w' a n c d := by obtain ⟨A, C, h1⟩ := h; exact (h1.dz hd).2
theorem N3.own {W W' : World} {b base : Nat} {x0 x1 x2 : Value} {v : Value} {k : Nat} {d : Nat → Option (Int × Int)} {A : Nat → Option Addr} {C : Nat → Nat} (h : N3 W b x0 x1 x2) (hd : DM W base v k d A C) (hb : b < base) (hg : W.grownBy W' v.ownBlock) : N3 W' b x0 x1 x2 := by
 have hne : some b ≠ v.ownBlock := fun e => by have := (hd.out.own.lt b e.symm).1; omega
 have hblk := hg.block b h.lt hne
 have hc : ∀ i, W'.cell? ⟨b, i, none⟩ = W.cell? ⟨b, i, none⟩ := fun i => World.cell?_of_block (a := ⟨b, i, none⟩) hblk
 exact ⟨(hc 0).trans h.c0, (hc 1).trans h.c1, (hc 2).trans h.c2, fun i => (World.frozen?_of_block (a := ⟨b, i, none⟩) hblk).trans (h.z i), Nat.lt_of_lt_of_le h.lt hg.size⟩
theorem N3.se2 {W : World} {b : Nat} {x0 x1 x2 : Value} (h : N3 W b x0 x1 x2) (y : Value) : N3 (W.setCell ⟨b, 2, none⟩ y) b x0 x1 y := by
 obtain ⟨c0, c1, c2, c3, c4⟩ := h
 exact ⟨by go_simp, by go_simp, by go_simp, fun i => by go_simp, by simpa using c4⟩
theorem N3.sen {W : World} {b g : Nat} {x0 x1 x2 : Value} (h : N3 W b x0 x1 x2) (ne : b ≠ g) (i : Nat) (y : Value) : N3 (W.setCell ⟨g, i, none⟩ y) b x0 x1 x2 :=
 ⟨(zAk ne _ _ _).trans h.c0, (zAk ne _ _ _).trans h.c1, (zAk ne _ _ _).trans h.c2, fun j => (zAn j _ _).trans (h.z j), by rw [World.size_setCell]; exact h.lt⟩
theorem zOJ {X : Nat → Nat} {k y : Nat} : (fun i => if i = k then fof y else fof (X i)) = fun i => fof (if i = k then y else X i) := by funext i; split <;> rfl
def Fin' (X : Nat → Nat) : Prop := ∀ i, X i < 18446744073709551616 ∧ zB0 (X i) = true
theorem Fin'.up {X : Nat → Nat} (h : Fin' X) {k y : Nat} (h1 : y < 18446744073709551616) (h2 : zB0 y = true) : Fin' (fun i => if i = k then y else X i) := fun i => by
 by_cases e : i = k
 · simp only [if_pos e]; exact ⟨h1, h2⟩
 · simp only [if_neg e]; exact h i
theorem zM4 : Fin' fun _ => 0 := fun _ => ⟨by show 0 < 18446744073709551616; omega, by show zB0 0 = true; decide⟩
theorem zPB {P : Program} {f : FuncId} {args : Array Value} {W : World} (h : Calls P f args W fun o w' => ∃ x : Nat, x < 18446744073709551616 ∧ o = .returned (.int .u64 ((x : Nat) : Int)) ∧ W = w') :
 Calls P f args W fun o w' => ∃ x : Nat, x < 18446744073709551616 ∧ o = .returned (.int .u64 ((x : Nat) : Int)) ∧ From W w' :=
 h.mono fun _ _ ⟨x, h1, h2, h3⟩ => ⟨x, h1, h2, ⟨by subst h3; exact Below.refl _ _⟩⟩
theorem zPC {P : Program} {f : FuncId} {args : Array Value} {W : World} {R : Nat → Prop} (h : Calls P f args W fun o w' => ∃ y : Nat, R y ∧ o = .returned (.int .u64 ((y : Nat) : Int)) ∧ Below W.heap.size W w') :
 Calls P f args W fun o w' => ∃ y : Nat, R y ∧ o = .returned (.int .u64 ((y : Nat) : Int)) ∧ From W w' :=
 h.mono fun _ _ ⟨y, h1, h3, h4⟩ => ⟨y, h1, h3, ⟨h4⟩⟩
attribute [local irreducible] Calls
theorem zER (w : World) [Tb w] (a : Option Addr) (n cap : Nat) (L : Nat → Nat) [hL : FZ w a n cap L] (r c : Nat) (hr : r ≤ 64) (hc : c ≤ 64) (s : Int) :
 Calls Tryz.prog 31 #[.slice a n cap, .int .i64 r, .int .i64 c, .int .i64 s] w fun o w' => ∃ oa oc X, o = .returned (.agg #[.int .i64 r, .int .i64 c, .slice oa (r * c) oc]) ∧ DN w w' oa (r * c) oc (fun i => fof (X i)) ∧ Fin' X ∧ Below w.heap.size w w' := by
 have HW := fun W k (h0 : 0 ≤ k) (hk : k ≤ 1000000) [i : FZ W a n cap L] => Lib.hid (zPB (zGm W a n cap L i.out k h0 hk))
 have HN := fun W x (hx : x < 18446744073709551616) [Tb W] => Lib.hid (zPC (zHO W x hx s tb))
 have HO := fun W y (hy : y < 18446744073709551616) [Tb W] => Lib.hid (frF (zDS W y hy tb))
 have hN : ((r : Nat) : Int) * (c : Nat) = ((r * c : Nat) : Int) := (Int.natCast_mul r c).symm
 have hN2 : r * c ≤ 4096 := Nat.mul_le_mul hr hc
 obtain ⟨N, hNe⟩ : ∃ N, N = r * c := ⟨_, rfl⟩
 rw [← hNe] at hN hN2 ⊢
 have hwr : wrap64 ((r : Int) * (c : Int)) = (N : Int) := by rw [hN]; unfold wrap64; omega
 clear hNe
 go_enter Tryz.func31, Tryz.ntmps31
 go_wp2_with fail
 go_loopw [10] (fun i wr => ∃ (k : Nat) (v : Value) (X : Nat → Nat) (A : Nat → Option Addr) (C : Nat → Nat), k ≤ N ∧ i = .int .i64 k ∧ Fin' X ∧ DM wr (w.heap.size + 2) v k (fun i => fof (X i)) A C ∧ N3 wr (w.heap.size + 1) (.int .i64 r) (.int .i64 c) v ∧ N3 wr w.heap.size (.int .i64 0) (.int .i64 0) (.slice none 0 0) ∧ Below w.heap.size w wr ∧ w.heap.size + 2 ≤ wr.heap.size) (fun i _ => N - (intOf i).toNat)
 case atStart => exact ⟨0, .slice none 0 0, fun _ => 0, _, _, by omega, rfl, zM4, DM.nil _ _ _, inferInstance, inferInstance, zbh, by simp⟩
 case round =>
  obtain ⟨k, v, X, A, C, hk, rfl, hF, iM, iB, iR, hbr, hsz⟩ := hrel
  haveI bw : From w wr := ⟨hbr⟩
  by_cases hlt : k < N
  · have hw3 : IntKind.i64.wrap (300 + (k : Int)) = 300 + (k : Int) := by rw [IntKind.wrap_i64]; omega
    go_wp2_with fail
    first
    | go_region_law (first
     | (refine zBK (by rfl) _ _ (by rfl) (w.heap.size + 2) v k (zAm (zBe (fun i => fof (X i)) A C) k) (by rfl) _ (zA3 (fof y)) (decide (zA1 (fof y) < 0)) (.slice a3 (nl (zA1 (fof y)).natAbs) c3) (zA2 (fof y)) (by rfl) (by rfl) (inferInstance : DM (w3.alloc (.cells #[.bool (zA3 (fof y)), .bool (decide (zA1 (fof y) < 0)), .slice a3 (nl (zA1 (fof y)).natAbs) c3, .int .i64 (zA2 (fof y))] 46)) (w.heap.size + 2) v k (fun i => fof (X i)) A C).out.own (by go_simp) (by go_simp) (by go_simp) (by go_simp) (by omega) (by have e1 := b1.out.size; have e2 := b2.out.size; have e3 := b3.out.size; simp at e1 e2 e3 ⊢; omega) ?_; intro g4 cap4 w4 hown4 hg4 hob4; have DM4 : Hid (DM (w3.alloc (.cells #[.bool (zA3 (fof y)), .bool (decide (zA1 (fof y) < 0)), .slice a3 (nl (zA1 (fof y)).natAbs) c3, .int .i64 (zA2 (fof y))] 46)) (w.heap.size + 2) v k (fun i => fof (X i)) A C) := (inferInstance : DM (w3.alloc (.cells #[.bool (zA3 (fof y)), .bool (decide (zA1 (fof y) < 0)), .slice a3 (nl (zA1 (fof y)).natAbs) c3, .int .i64 (zA2 (fof y))] 46)) (w.heap.size + 2) v k (fun i => fof (X i)) A C); haveI iB4 : N3 w4 (w.heap.size + 1) (.int .i64 r) (.int .i64 c) v := N3.own (inferInstance : N3 (w3.alloc (.cells #[.bool (zA3 (fof y)), .bool (decide (zA1 (fof y) < 0)), .slice a3 (nl (zA1 (fof y)).natAbs) c3, .int .i64 (zA2 (fof y))] 46)) (w.heap.size + 1) (.int .i64 r) (.int .i64 c) v) DM4.out (by omega) hg4; haveI iR4 : N3 w4 w.heap.size (.int .i64 0) (.int .i64 0) (.slice none 0 0) := N3.own (inferInstance : N3 (w3.alloc (.cells #[.bool (zA3 (fof y)), .bool (decide (zA1 (fof y) < 0)), .slice a3 (nl (zA1 (fof y)).natAbs) c3, .int .i64 (zA2 (fof y))] 46)) w.heap.size (.int .i64 0) (.int .i64 0) (.slice none 0 0)) DM4.out (by omega) hg4)
     | (go_simp; go_wp2_with (first
      | (go_at_call 26; refine (HW _ (300 + (k : Int)) (by omega) (by omega)).out.mono ?_; rintro o w1 ⟨x, hx, rfl, b1⟩)
      | (go_at_call 25; refine (HN _ x hx).out.mono ?_; rintro o w2 ⟨y, ⟨hy1, hy2, _⟩, rfl, b2⟩)
      | (go_at_call 20; refine (HO _ y hy1).out.mono ?_; rintro o w3 ⟨a3, c3, rfl, i3, b3, f3⟩)
      | fail))
     | fail)
    | fail "region"
    all_goals (
     have e1 := b1.out.size
     have e2 := b2.out.size
     have e3 := b3.out.size
     have e4 := hg4.size
     simp at e1 e2 e3 e4
     have hf : 0 < nl (zA1 (fof y)).natAbs → w.heap.size + 2 ≤ ab a3 := fun h => by have := f3 h; omega
     have hne : 0 < nl (zA1 (fof y)).natAbs → some (ab a3) ≠ v.ownBlock := fun h q => by have h1 := (iM.out.own.lt _ q.symm).2; have h2 := f3 h; omega
     have DM5 := DM4.out.app hown4 hg4 hob4 (i3.out.alloc _) hf hne
     rw [zOJ] at DM5
     have B4 : Below w.heap.size w w4 := Below.trans (show Below w.heap.size w (w3.alloc (.cells #[.bool (zA3 (fof y)), .bool (decide (zA1 (fof y) < 0)), .slice a3 (nl (zA1 (fof y)).natAbs) c3, .int .i64 (zA2 (fof y))] 46)) from zbh) ((zB3 DM4.out.out.own hg4 (by simp; omega)).mono (by omega))
     haveI f4 : From w w4 := ⟨B4⟩
     have DM6 := DM5.sen (show w.heap.size + 1 < w.heap.size + 2 by omega) 2 (.slice (some ⟨g4, 0, none⟩) (k + 1) cap4)
     have iB5 := iB4.se2 (.slice (some ⟨g4, 0, none⟩) (k + 1) cap4)
     have iR5 := N3.sen iR4 (show w.heap.size ≠ w.heap.size + 1 by omega) 2 (.slice (some ⟨g4, 0, none⟩) (k + 1) cap4)
     have B5 : Below w.heap.size w (w4.setCell ⟨w.heap.size + 1, 2, none⟩ (.slice (some ⟨g4, 0, none⟩) (k + 1) cap4)) := B4.setCell (by simp) _
     have hs5 : w.heap.size + 2 ≤ (w4.setCell ⟨w.heap.size + 1, 2, none⟩ (.slice (some ⟨g4, 0, none⟩) (k + 1) cap4)).heap.size := by rw [World.size_setCell]; omega
     have HX5 := hF.up (k := k) hy1 hy2
     generalize (w4.setCell ⟨w.heap.size + 1, 2, none⟩ (.slice (some ⟨g4, 0, none⟩) (k + 1) cap4)) = w5 at *
     clear DM4 DM5 hown4 hg4 hob4 iB4 iR4 hf hne
     go_wp2_with fail
     go_roundw
     case rel => exact ⟨k + 1, _, _, _, _, by omega, by go_num, HX5, DM6, iB5, iR5, B5, hs5⟩
     case measure => simp [intOf]; omega)
  · obtain rfl : k = N := by omega
    obtain ⟨oa, oc, rfl, hZ⟩ := iM.out.dz (fun i => zBI _)
    clear hZ
    have hl : w.heap.size < w.heap.size + 2 := by omega
    have M6 := ((iM.sen hl 0 (.int .i64 r)).sen hl 1 (.int .i64 c)).sen hl 2 (.slice oa k oc)
    go_wp2_with fail
    refine bodyPost_ret (v := .agg #[.int .i64 r, .int .i64 c, .slice oa k oc]) (by simp only [results, Tryz.results31]; go_simp) rfl ?_
    exact ⟨_, _, X, rfl, ⟨_, _, M6.mono (by omega)⟩, hF, zbh⟩
end Go.Proofs.YtablcbgeeeboeaaGreatDoor
namespace Go.Proofs.YtablcbgeeeboeaaGreatDoor
open Go.RowKit Sp
structure Val (r c q : Nat) (S I F : Nat → Nat) : Prop where
 z : S 0 = 0
 e : S c = q
 m : ∀ t, t < c → S t ≤ S (t + 1)
 a : ∀ t x, t < c → S t ≤ x → x < S (t + 1) → I x < r ∧ (S t < x → I (x - 1) < I x)
 f : ∀ x, F x < 18446744073709551616 ∧ zB0 (F x) = true
theorem Val.mono {r c q : Nat} {S I F : Nat → Nat} (h : Val r c q S I F) : ∀ d t, t + d ≤ c → S t ≤ S (t + d) := by
 intro d
 induction d with
 | zero => intro t _; exact Nat.le_refl _
 | succ d ih => intro t ht; exact Nat.le_trans (ih t (by omega)) (h.m (t + d) (by omega))
theorem Val.le {r c q : Nat} {S I F : Nat → Nat} (h : Val r c q S I F) {t : Nat} (ht : t ≤ c) : S t ≤ q := by
 have := h.mono (c - t) t (by omega)
 rwa [show t + (c - t) = c by omega, h.e] at this
def lk (I F : Nat → Nat) (i a : Nat) : Nat → Option Nat
 | 0 => none
 | n + 1 => match lk I F i a n with
  | some y => some y
  | none => if I (a + n) = i then some (F (a + n)) else none
theorem zLQ {I F I' F' : Nat → Nat} {i a : Nat} : ∀ n, (∀ x, a ≤ x → x < a + n → I x = I' x ∧ F x = F' x) → lk I F i a n = lk I' F' i a n := by
 intro n
 induction n with
 | zero => intro _; rfl
 | succ n ih =>
  intro h
  simp only [lk]
  rw [ih fun x h1 h2 => h x h1 (by omega), (h (a + n) (by omega) (by omega)).1, (h (a + n) (by omega) (by omega)).2]
theorem zKo {l : List Nat} {x t : Nat} (h : t < l.length) : (l ++ [x]).getD t 0 = l.getD t 0 := by
 rw [List.getD_eq_getElem?_getD, List.getD_eq_getElem?_getD, List.getElem?_append_left h]
theorem zKp {l : List Nat} {x n : Nat} (h : l.length = n) : (l ++ [x]).getD n 0 = x := by
 subst h
 rw [List.getD_eq_getElem?_getD, List.getElem?_append_right (Nat.le_refl _), Nat.sub_self]; rfl
structure GV (r j k : Nat) (S I : List Nat) (q : Nat) : Prop where
 sl : S.length = j + 1
 il : I.length = q
 z : S.getD 0 0 = 0
 m : ∀ t, t < j → S.getD t 0 ≤ S.getD (t + 1) 0
 l : S.getD j 0 ≤ q
 a : ∀ t x, t < j → S.getD t 0 ≤ x → x < S.getD (t + 1) 0 → I.getD x 0 < r ∧ (S.getD t 0 < x → I.getD (x - 1) 0 < I.getD x 0)
 b : ∀ x, S.getD j 0 ≤ x → x < q → I.getD x 0 < k ∧ (S.getD j 0 < x → I.getD (x - 1) 0 < I.getD x 0)
section
variable {r j k q : Nat} {S I : List Nat}
theorem GV.mono (h : GV r j k S I q) : ∀ d t, t + d ≤ j → S.getD t 0 ≤ S.getD (t + d) 0 := by
 intro d
 induction d with
 | zero => intro t _; exact Nat.le_refl _
 | succ d ih => intro t ht; exact Nat.le_trans (ih t (by omega)) (h.m (t + d) (by omega))
theorem GV.le (h : GV r j k S I q) {t : Nat} (ht : t ≤ j) : S.getD t 0 ≤ q := by
 have h1 := h.mono (j - t) t (by omega)
 rw [show t + (j - t) = j by omega] at h1
 exact Nat.le_trans h1 h.l
theorem GV.put (h : GV r j k S I q) : GV r j (k + 1) S (I ++ [k]) (q + 1) := by
 have e : ∀ x, x < q → (I ++ [k]).getD x 0 = I.getD x 0 := fun x hx => zKo (by rw [h.il]; exact hx)
 refine ⟨h.sl, by rw [List.length_append, h.il]; rfl, h.z, h.m, by have := h.l; omega, fun t x h0 h1 h2 => ?_, fun x h1 h2 => ?_⟩
 · have hq : x < q := Nat.lt_of_lt_of_le h2 (h.le (t := t + 1) (by omega))
   rw [e x hq, e (x - 1) (by omega)]
   exact h.a t x h0 h1 h2
 · by_cases hx : x = q
   · subst hx
     rw [zKp h.il]
     refine ⟨by omega, fun h3 => ?_⟩
     rw [e (x - 1) (by omega)]
     exact (h.b (x - 1) (by omega) (by omega)).1
   · rw [e x (by omega), e (x - 1) (by omega)]
     have := h.b x h1 (by omega)
     exact ⟨by omega, this.2⟩
theorem GV.val {c : Nat} {F : Nat → Nat} (h : GV r c 0 S I q) (hF : ∀ x, F x < 18446744073709551616 ∧ zB0 (F x) = true) : Val r c q (fun t => S.getD t 0) (fun t => I.getD t 0) F := by
 refine ⟨h.z, ?_, h.m, h.a, hF⟩
 show S.getD c 0 = q
 have h1 := h.l
 by_cases h2 : S.getD c 0 < q
 · exact absurd (h.b _ (Nat.le_refl _) h2).1 (Nat.not_lt_zero _)
 · omega
end
structure Con (r j k : Nat) (S I : List Nat) (X : Nat → Nat) (q : Nat) (E : Nat → Nat → Option Nat) : Prop where
 c : ∀ t i, t < j → i < r → lk (fun t => I.getD t 0) X i (S.getD t 0) (S.getD (t + 1) 0 - S.getD t 0) = E i t
 o : ∀ i, lk (fun t => I.getD t 0) X i (S.getD j 0) (q - S.getD j 0) = if i < k then E i j else none
section
variable {r j k q : Nat} {S I : List Nat} {X : Nat → Nat} {E : Nat → Nat → Option Nat}
theorem Con.put (h : Con r j k S I X q E) (g : GV r j k S I q) {y : Nat} (hE : E k j = some y) : Con r j (k + 1) S (I ++ [k]) (fun t => if t = q then y else X t) (q + 1) E := by
 have e : ∀ x, x < q → (I ++ [k]).getD x 0 = I.getD x 0 := fun x hx => zKo (by rw [g.il]; exact hx)
 have c1 : ∀ i a n, a + n ≤ q → lk (fun t => (I ++ [k]).getD t 0) (fun t => if t = q then y else X t) i a n = lk (fun t => I.getD t 0) X i a n := fun i a n ha => zLQ n fun x h1 h2 => ⟨e x (by omega), if_neg (by omega)⟩
 refine ⟨fun t i h0 h1 => ?_, fun i => ?_⟩
 · have h2 := g.m t h0
   have h3 := g.le (t := t + 1) (by omega)
   rw [c1 i _ _ (by omega)]; exact h.c t i h0 h1
 · have h3 := g.l
   rw [show q + 1 - S.getD j 0 = q - S.getD j 0 + 1 by omega]
   simp only [lk]
   rw [c1 i _ _ (by omega), h.o i]
   have e3 : S.getD j 0 + (q - S.getD j 0) = q := by omega
   simp only [e3, zKp g.il, if_true]
   by_cases hi : i = k
   · subst hi; rw [if_neg (Nat.lt_irrefl i), if_pos (Nat.lt_succ_self i), hE]; simp
   · by_cases h2 : i < k
     · rw [if_pos h2, if_pos (show i < k + 1 by omega)]
       cases E i j with
       | none => simp only; rw [if_neg (show ¬ k = i by omega)]
       | some z => rfl
     · rw [if_neg h2, if_neg (show ¬ i < k + 1 by omega)]
       simp only; rw [if_neg (show ¬ k = i by omega)]
end
end Go.Proofs.YtablcbgeeeboeaaGreatDoor

/-
  Walks: the reference's dyads: Cmp, Add, Sub, Mul.
-/
import Derived.Test.YtablcbgeeeboeaaGreatDoorZhRva
import Derived.Test.YtablcbgeeeboeaaGreatDoorZhCs
import Derived.Test.YtablcbgeeeboeaaGreatDoorZhCm
import Derived.Test.YtablcbgeeeboeaaGreatDoorZhKit
import Derived.Test.YtablcbgeeeboeaaGreatDoorZhRy
import Derived.Test.YtablcbgeeeboeaaGreatDoorZhS3
set_option maxRecDepth 100000
set_option maxHeartbeats 20000000
namespace Go.Proofs.YtablcbgeeeboeaaGreatDoor
open Go.RowKit Sp
attribute [local irreducible] Calls
theorem frA {P : Program} {f : FuncId} {args : Array Value} {W : World} {x y E : Int} (h : Calls P f args W (zMZ W x y E)) :
 Calls P f args W fun e w' => ∃ a c a' c', e = .returned (.tuple #[.agg #[.bool (decide (x < 0)), .slice a (nl x.natAbs) c], .agg #[.bool (decide (y < 0)), .slice a' (nl y.natAbs) c'], .int .i64 E]) ∧ BI w' a (nl x.natAbs) c x.natAbs ∧ BI w' a' (nl y.natAbs) c' y.natAbs ∧ From W w' :=
 h.mono fun _ _ ⟨a, c, a', c', he, h1, h2, hb⟩ => ⟨a, c, a', c', he, ⟨h1⟩, ⟨h2⟩, ⟨hb⟩⟩
theorem zGa (w : World) (v s v' s' : Bool) (A A' : Option Addr) (n n' c c' : Nat) (e e' : Int) (d d' : Option (Int × Int)) (hx : DyIs w v s A n c e d) (hy : DyIs w v' s' A' n' c' e' d') (hT : Tab w) :
 Calls Tryz.prog 74 #[.agg #[.bool v, .bool s, .slice A n c, .int .i64 e], .agg #[.bool v', .bool s', .slice A' n' c', .int .i64 e']] w (zAy w (zEX d d')) := by
 obtain ⟨u, hu⟩ : ∃ u, u = zEX d d' := ⟨_, rfl⟩
 rw [← hu]
 have HT : Tb w := ⟨hT⟩
 have HX : DS w v s A n c e d := ⟨hx⟩
 have HY : DS w v' s' A' n' c' e' d' := ⟨hy⟩
 have hN := hx.1.isN
 have hN' := hy.1.isN
 have HN := fun W [i : DS W v s A n c e d] [Tb W] => Lib.hid (zM0 hN (zAt W i.out tb))
 have HN2 := fun W [i : DS W v' s' A' n' c' e' d'] [Tb W] => Lib.hid (zM0 hN' (zAt W i.out tb))
 have HB := fun W => Lib.hid (frm (zCk W))
 have hB := zA7 hN
 have hB' := zA7 hN'
 have hU := Lib.hid hu
 clear hx hy hu
 go_enter Tryz.func74, Tryz.ntmps74
 go_upto_region 1 with fail
 go_cut [] (fun wx => ∃ a1 c1 a2 c2, DB wx w.heap.size (zA3 d) (decide (zA1 d < 0)) (.slice a1 (nl (zA1 d).natAbs) c1) (zA2 d) ∧ DB wx (w.heap.size + 1) (zA3 d') (decide (zA1 d' < 0)) (.slice a2 (nl (zA1 d').natAbs) c2) (zA2 d') ∧ DB wx (w.heap.size + 1 + 1) false false (.slice none 0 0) 0 ∧ BI wx a1 (nl (zA1 d).natAbs) c1 (zA1 d).natAbs ∧ BI wx a2 (nl (zA1 d').natAbs) c2 (zA1 d').natAbs ∧ Beh w wx)
 case first =>
  first
  | go_region_with (first
   | (go_at_call 55; refine (HN _).out.mono ?_; rintro o w1 ⟨a1, c1, rfl, i1, b1, j1, f1⟩; haveI g1 := FA.mk f1)
   | (go_at_call 55; refine (HN2 _).out.mono ?_; rintro o w2 ⟨a2, c2, rfl, i2, b2, j2, f2⟩; haveI g2 := FA.mk f2)
   | fail)
  | fail "region"
  all_goals (
   go_wp2_with fail
   go_meet
   exact ⟨a1, c1, a2, c2, inferInstance, inferInstance, inferInstance, inferInstance, inferInstance, inferInstance⟩)
 case rest =>
  obtain ⟨a1, c1, a2, c2, V1, V2, V3, j1, j2, b3⟩ := hcut
  generalize wc = v1 at *
  clear HN HN2
  haveI T1 : Tb v1 := ⟨hT.below b3.out⟩
  cases hb : zA3 d with
  | true =>
   obtain rfl : u = none := by rw [hU.out, zBl hb]; cases d' <;> rfl
   clear hU
   go_wp2_with fail
   refine (HB _).out.mono ?_
   rintro o w8 ⟨rfl, b8⟩
   go_wp2_with fail
   refine bodyPost_ret (v := .agg #[.bool true, .bool false, .slice none 0 0, .int .i64 0]) (by simp only [results, Tryz.results74]; go_simp) rfl ?_
   exact ⟨none, 0, rfl, Mag.nil _, zbh, nl0⟩
  | false =>
  cases hb' : zA3 d' with
  | true =>
   obtain rfl : u = none := by rw [hU.out, zBl hb', zEC hb]; rfl
   clear hU
   go_wp2_with fail
   refine (HB _).out.mono ?_
   rintro o w8 ⟨rfl, b8⟩
   go_wp2_with fail
   refine bodyPost_ret (v := .agg #[.bool true, .bool false, .slice none 0 0, .int .i64 0]) (by simp only [results, Tryz.results74]; go_simp) rfl ?_
   exact ⟨none, 0, rfl, Mag.nil _, zbh, nl0⟩
  | false =>
  obtain ⟨m, E, hd⟩ : ∃ m E, d = some (m, E) := ⟨_, _, zEC hb⟩
  obtain ⟨m', E', hd'⟩ : ∃ m E, d' = some (m, E) := ⟨_, _, zEC hb'⟩
  subst hd hd'
  have V1 : DB v1 w.heap.size false (decide (m < 0)) (.slice a1 (nl m.natAbs) c1) E := V1
  have V2 : DB v1 (w.heap.size + 1) false (decide (m' < 0)) (.slice a2 (nl m'.natAbs) c2) E' := V2
  have j1 : BI v1 a1 (nl m.natAbs) c1 m.natAbs := j1
  have j2 : BI v1 a2 (nl m'.natAbs) c2 m'.natAbs := j2
  have hB : zA4 m.natAbs ≤ 131072 ∧ -65536 ≤ E ∧ E ≤ 65536 := hB
  have hB' : zA4 m'.natAbs ≤ 131072 ∧ -65536 ≤ E' ∧ E' ≤ 65536 := hB'
  have hu : u = nrm (up m E (ale m E m' E') + up m' E' (ale m E m' E')) (ale m E m' E') := by rw [hU.out, zNZ m E m' E' (hN _ _ rfl) (hN' _ _ rfl)]; rfl
  clear hN hN' hU hb hb' HX HY
  obtain ⟨K, hE⟩ : ∃ K, K = ale m E m' E' := ⟨_, rfl⟩
  have HA := fun W b c b' c' [i : BI W b (nl m.natAbs) c m.natAbs] [j : BI W b' (nl m'.natAbs) c' m'.natAbs] => Lib.hid (frA (zIw W false false b b' c c' m m' E E' i.out j.out (zAS (by omega)) (zAS (by omega)) hB.2.1 hB.2.2 hB'.2.1 hB'.2.2))
  have hbl := zOY m E m' E' hB.2 hB'.2 hB.1 hB'.1
  have hge := zOX m E m' E' hB.2 hB'.2
  rw [← hE] at HA hbl hge hu
  obtain ⟨X, hX⟩ : ∃ X, X = up m E K := ⟨_, rfl⟩
  obtain ⟨Y, hY⟩ : ∃ Y, Y = up m' E' K := ⟨_, rfl⟩
  rw [← hX, ← hY] at HA hbl hu
  obtain ⟨hblX, hblY⟩ := hbl
  obtain ⟨Z, hZ⟩ : ∃ Z, Z = X + Y := ⟨_, rfl⟩
  have hblZ : zA4 Z.natAbs ≤ 262145 := by
   rw [hZ]
   have h1 : (X + Y).natAbs ≤ X.natAbs + Y.natAbs := by omega
   have h2 := zBm h1
   have h3 := zD5 X.natAbs Y.natAbs
   omega
  rw [← hZ] at hu
  have nu : IsN u := by rw [hu]; exact zB7 _ _
  have HC := fun W b c b' c' [i : BI W b (nl X.natAbs) c X.natAbs] [j : BI W b' (nl Y.natAbs) c' Y.natAbs] => Lib.hid (frb (zJN W b b' c c' X Y Z hZ i.out j.out (zAS (by omega)) (zAS (by omega))))
  have HM := fun W b c [i : BI W b (nl Z.natAbs) c Z.natAbs] [Tb W] => Lib.hid (zM0 nu (zFb W b c Z K u hu i.out tb (zAS (by omega)) (by omega) (by omega)))
  clear hE hX hY hu hZ nu hge hblX hblY hblZ hB hB'
  go_wp2_with fail
  refine (HA _ _ _ _ _).out.mono ?_
  rintro o w4 ⟨a4, c4, a5, c5, rfl, i4, i5, b4⟩
  go_wp2_with fail
  refine (HC _ _ _ _ _).out.mono ?_
  rintro o w6 ⟨a6, c6, rfl, i6, b6, f6⟩
  haveI T6 : Tb w6 := ⟨hT.below zbh⟩
  go_wp2_with fail
  refine (HM _ _ _).out.mono ?_
  rintro o w9 ⟨a9, c9, rfl, i9, b9, j9, f9⟩
  haveI g9 := FA.mk f9
  go_wp2_with fail
  refine bodyPost_ret (v := .agg #[.bool (zA3 u), .bool (decide (zA1 u < 0)), .slice a9 (nl (zA1 u).natAbs) c9, .int .i64 (zA2 u)]) (by simp only [results, Tryz.results74]; go_simp) rfl ?_
  exact ⟨a9, c9, rfl, BI.out, zbh, zBN b9 f9⟩
theorem zJH (w : World) (v s v' s' : Bool) (A A' : Option Addr) (n n' c c' : Nat) (e e' : Int) (d d' : Option (Int × Int)) (hx : DyIs w v s A n c e d) (hy : DyIs w v' s' A' n' c' e' d') (hT : Tab w) :
 Calls Tryz.prog 19 #[.agg #[.bool v, .bool s, .slice A n c, .int .i64 e], .agg #[.bool v', .bool s', .slice A' n' c', .int .i64 e']] w (zAy w (zCZ d d')) := by
 obtain ⟨u, hu⟩ : ∃ u, u = zCZ d d' := ⟨_, rfl⟩
 rw [← hu]
 have HT : Tb w := ⟨hT⟩
 have HX : DS w v s A n c e d := ⟨hx⟩
 have HY : DS w v' s' A' n' c' e' d' := ⟨hy⟩
 have hN := hx.1.isN
 have hN' := hy.1.isN
 have HN := fun W [i : DS W v s A n c e d] [Tb W] => Lib.hid (zM0 hN (zAt W i.out tb))
 have HN2 := fun W [i : DS W v' s' A' n' c' e' d'] [Tb W] => Lib.hid (zM0 hN' (zAt W i.out tb))
 have HB := fun W => Lib.hid (frm (zCk W))
 have hB := zA7 hN
 have hB' := zA7 hN'
 have hU := Lib.hid hu
 clear hx hy hu
 go_enter Tryz.func19, Tryz.ntmps19
 go_upto_region 1 with fail
 go_cut [] (fun wx => ∃ a1 c1 a2 c2, DB wx w.heap.size (zA3 d) (decide (zA1 d < 0)) (.slice a1 (nl (zA1 d).natAbs) c1) (zA2 d) ∧ DB wx (w.heap.size + 1) (zA3 d') (decide (zA1 d' < 0)) (.slice a2 (nl (zA1 d').natAbs) c2) (zA2 d') ∧ DB wx (w.heap.size + 1 + 1) false false (.slice none 0 0) 0 ∧ BI wx a1 (nl (zA1 d).natAbs) c1 (zA1 d).natAbs ∧ BI wx a2 (nl (zA1 d').natAbs) c2 (zA1 d').natAbs ∧ Beh w wx)
 case first =>
  first
  | go_region_with (first
   | (go_at_call 55; refine (HN _).out.mono ?_; rintro o w1 ⟨a1, c1, rfl, i1, b1, j1, f1⟩; haveI g1 := FA.mk f1)
   | (go_at_call 55; refine (HN2 _).out.mono ?_; rintro o w2 ⟨a2, c2, rfl, i2, b2, j2, f2⟩; haveI g2 := FA.mk f2)
   | fail)
  | fail "region"
  all_goals (
   go_wp2_with fail
   go_meet
   exact ⟨a1, c1, a2, c2, inferInstance, inferInstance, inferInstance, inferInstance, inferInstance, inferInstance⟩)
 case rest =>
  obtain ⟨a1, c1, a2, c2, V1, V2, V3, j1, j2, b3⟩ := hcut
  generalize wc = v1 at *
  clear HN HN2
  haveI T1 : Tb v1 := ⟨hT.below b3.out⟩
  cases hb : zA3 d with
  | true =>
   obtain rfl : u = none := by rw [hU.out, zBl hb]; cases d' <;> rfl
   clear hU
   go_wp2_with fail
   refine (HB _).out.mono ?_
   rintro o w8 ⟨rfl, b8⟩
   go_wp2_with fail
   refine bodyPost_ret (v := .agg #[.bool true, .bool false, .slice none 0 0, .int .i64 0]) (by simp only [results, Tryz.results19]; go_simp) rfl ?_
   exact ⟨none, 0, rfl, Mag.nil _, zbh, nl0⟩
  | false =>
  cases hb' : zA3 d' with
  | true =>
   obtain rfl : u = none := by rw [hU.out, zBl hb', zEC hb]; rfl
   clear hU
   go_wp2_with fail
   refine (HB _).out.mono ?_
   rintro o w8 ⟨rfl, b8⟩
   go_wp2_with fail
   refine bodyPost_ret (v := .agg #[.bool true, .bool false, .slice none 0 0, .int .i64 0]) (by simp only [results, Tryz.results19]; go_simp) rfl ?_
   exact ⟨none, 0, rfl, Mag.nil _, zbh, nl0⟩
  | false =>
  obtain ⟨m, E, hd⟩ : ∃ m E, d = some (m, E) := ⟨_, _, zEC hb⟩
  obtain ⟨m', E', hd'⟩ : ∃ m E, d' = some (m, E) := ⟨_, _, zEC hb'⟩
  subst hd hd'
  have V1 : DB v1 w.heap.size false (decide (m < 0)) (.slice a1 (nl m.natAbs) c1) E := V1
  have V2 : DB v1 (w.heap.size + 1) false (decide (m' < 0)) (.slice a2 (nl m'.natAbs) c2) E' := V2
  have j1 : BI v1 a1 (nl m.natAbs) c1 m.natAbs := j1
  have j2 : BI v1 a2 (nl m'.natAbs) c2 m'.natAbs := j2
  have hB : zA4 m.natAbs ≤ 131072 ∧ -65536 ≤ E ∧ E ≤ 65536 := hB
  have hB' : zA4 m'.natAbs ≤ 131072 ∧ -65536 ≤ E' ∧ E' ≤ 65536 := hB'
  have hu : u = nrm (m * m') (E + E') := hU.out
  clear hN hN' hU hb hb' HX HY
  obtain ⟨Z, hZ⟩ : ∃ Z, Z = m * m' := ⟨_, rfl⟩
  obtain ⟨K, hK⟩ : ∃ K, K = E + E' := ⟨_, rfl⟩
  have hblZ : zA4 Z.natAbs ≤ 262145 := by
   rw [hZ, Int.natAbs_mul]
   have := zEs m.natAbs m'.natAbs
   omega
  rw [← hZ, ← hK] at hu
  have nu : IsN u := by rw [hu]; exact zB7 _ _
  have HC := fun W b c b' c' [i : BI W b (nl m.natAbs) c m.natAbs] [j : BI W b' (nl m'.natAbs) c' m'.natAbs] => Lib.hid (frb (zOl W b b' c c' m m' Z hZ i.out j.out (zAS (by omega)) (zAS (by omega))))
  have HM := fun W b c [i : BI W b (nl Z.natAbs) c Z.natAbs] [Tb W] => Lib.hid (zM0 nu (zFb W b c Z K u hu i.out tb (zAS (by omega)) (by omega) (by omega)))
  have t1 : IntKind.i64.wrap (E + E') = K := by rw [IntKind.wrap_i64]; omega
  have t2 : wrap64 (E + E') = K := by unfold wrap64; omega
  clear hu hZ hK nu hblZ hB hB'
  go_wp2_with fail
  first
  | go_region_held3 (fun w' => w'.cell? ⟨w.heap.size, 1, none⟩ = some (.bool (decide (m < 0))) ∧ w'.cell? ⟨w.heap.size, 2, none⟩ = some (.slice a1 (nl m.natAbs) c1) ∧ w'.cell? ⟨w.heap.size, 3, none⟩ = some (.int .i64 E) ∧ w'.cell? ⟨w.heap.size + 1, 1, none⟩ = some (.bool (decide (m' < 0))) ∧ w'.cell? ⟨w.heap.size + 1, 2, none⟩ = some (.slice a2 (nl m'.natAbs) c2) ∧ w'.cell? ⟨w.heap.size + 1, 3, none⟩ = some (.int .i64 E')) (first | (go_simp; done)) (first
   | (go_at_call 59; refine (HC _ _ _ _ _).out.mono ?_; rintro o w6 ⟨a6, c6, rfl, i6, b6, f6⟩; haveI T6 : Tb w6 := ⟨hT.below zbh⟩)
   | (go_at_call 56; refine (HM _ _ _).out.mono ?_; rintro o w9 ⟨a9, c9, rfl, i9, b9, j9, f9⟩; haveI g9 := FA.mk f9)
   | fail)
  | fail "region"
  all_goals (
   go_wp2_with fail
   refine bodyPost_ret (v := .agg #[.bool (zA3 u), .bool (decide (zA1 u < 0)), .slice a9 (nl (zA1 u).natAbs) c9, .int .i64 (zA2 u)]) (by simp only [results, Tryz.results19]; go_simp) rfl ?_
   exact ⟨a9, c9, rfl, BI.out, zbh, zBN b9 f9⟩)
end Go.Proofs.YtablcbgeeeboeaaGreatDoor
namespace Go.Proofs.YtablcbgeeeboeaaGreatDoor
open Go.RowKit Sp
def zBq (d : Nat → Option (Int × Int)) : Nat → Option (Int × Int)
 | 0 => some (0, 0)
 | k + 1 => zEX (zBq d k) (d k)
theorem zLX (d : Nat → Option (Int × Int)) (n : Nat) : IsN (zBq d n) := by
 cases n with
 | zero => exact zHL
 | succ n => exact zFu _ _
theorem zJp {d : Nat → Option (Int × Int)} {M : Nat → Int} {E : Int} {n : Nat} (h : ∀ i, i < n → d i = nrm (M i) E ∧ nrm (M i) E ≠ none) (hs : ∀ k, k ≤ n → zBv d k = nrm (zJf M k) E ∧ nrm (zJf M k) E ≠ none) :
 ∀ k, k ≤ n → zBq d k = zBv d k := by
 intro k
 induction k with
 | zero => intro _; rw [(hs 0 (by omega)).1]; show some (0, 0) = nrm 0 E; rw [zBc]
 | succ k ih =>
  intro hk
  show zEX (zBq d k) (d k) = _
  rw [ih (by omega), (hs k (by omega)).1, (hs (k + 1) hk).1, (h k (by omega)).1, zMm _ _ _ (hs k (by omega)).2 (h k (by omega)).2]
  rfl
theorem zLC (X Y : Nat → Nat) {n : Nat} (hn : n ≤ 15) (hx : zAp X n = true) (hy : zAp Y n = true) : zBq (fun i => zCZ (fof (X i)) (fof (Y i))) n = zPD X Y n := by
 have h := (zAD X n).1 hx
 have h' := (zAD Y n).1 hy
 exact zJp (M := fun i => fz (X i) * fz (Y i)) (E := -2148) (fun i hi => zHQ (h i hi) (h' i hi)) (fun k hk => zMv (by omega) (fun i hi => h i (by omega)) (fun i hi => h' i (by omega))) n (Nat.le_refl _)
end Go.Proofs.YtablcbgeeeboeaaGreatDoor
namespace Go.Proofs.YtablcbgeeeboeaaGreatDoor
open Go.RowKit Sp
attribute [local irreducible] Calls
class FZ (W : World) (a : Option Addr) (n c : Nat) (X : outParam (Nat → Nat)) : Prop where out : Fls W a n c X
section
variable {W : World} {a : Option Addr} {n c : Nat} {X : Nat → Nat}
instance FZ.dr [h : FZ W a n c X] : FZ W.drew a n c X := ⟨h.out.below (Below.refl _ _).drew⟩
instance FZ.dn (q : Nat) [h : FZ W a n c X] : FZ (W.drewN q) a n c X := ⟨h.out.below (below_drewN (Below.refl _ _) _)⟩
instance FZ.al (o : Obj) [h : FZ W a n c X] : FZ (W.alloc o) a n c X := ⟨h.out.below ((Below.refl _ _).alloc (Nat.le_refl _) _)⟩
instance FZ.fr (L : World) [k : From L W] [h : FZ L a n c X] : FZ W a n c X := ⟨h.out.below k.out⟩
end
theorem frT {P : Program} {f : FuncId} {args : Array Value} {W : World} {n : Nat} {X : Nat → Nat} (h : Calls P f args W fun e w' => ∃ oa ocap, e = .returned (.slice oa n ocap) ∧ Fls w' oa n ocap X ∧ Below W.heap.size W w') :
 Calls P f args W fun e w' => ∃ oa ocap, e = .returned (.slice oa n ocap) ∧ FZ w' oa n ocap X ∧ From W w' :=
 h.mono fun _ _ ⟨a, c, he, hm, hb⟩ => ⟨a, c, he, ⟨hm⟩, ⟨hb⟩⟩
end Go.Proofs.YtablcbgeeeboeaaGreatDoor
namespace Go.Proofs.YtablcbgeeeboeaaGreatDoor
open Go.RowKit Sp
class N3 (W : World) (b : Nat) (x0 x1 x2 : outParam Value) : Prop where
 c0 : W.cell? ⟨b, 0, none⟩ = some x0
 c1 : W.cell? ⟨b, 1, none⟩ = some x1
 c2 : W.cell? ⟨b, 2, none⟩ = some x2
 z : ∀ i, W.frozen? ⟨b, i, none⟩ = false
 lt : b < W.heap.size
theorem N3.below {W W' : World} {b : Nat} {x0 x1 x2 : Value} (h : N3 W b x0 x1 x2) (hb : Below W.heap.size W W') : N3 W' b x0 x1 x2 := by
 obtain ⟨h1, h2⟩ := zA8 hb
 exact ⟨(h1 _ _ h.lt).trans h.c0, (h1 _ _ h.lt).trans h.c1, (h1 _ _ h.lt).trans h.c2, fun i => (h2 _ _ h.lt).trans (h.z i), Nat.lt_of_lt_of_le h.lt hb.size⟩
section
variable {W : World} {b : Nat} {x0 x1 x2 : Value}
instance N3.dr [h : N3 W b x0 x1 x2] : N3 W.drew b x0 x1 x2 := ⟨h.c0, h.c1, h.c2, h.z, h.lt⟩
instance N3.dn (q : Nat) [h : N3 W b x0 x1 x2] : N3 (W.drewN q) b x0 x1 x2 := ⟨h.c0, h.c1, h.c2, h.z, h.lt⟩
instance N3.al (o : Obj) [h : N3 W b x0 x1 x2] : N3 (W.alloc o) b x0 x1 x2 := N3.below h ((Below.refl _ _).alloc (Nat.le_refl _) _)
instance N3.fr (L : World) [f : From L W] [h : N3 L b x0 x1 x2] : N3 W b x0 x1 x2 := N3.below h f.out
end
theorem N3.made (W : World) (t : TypeId) (x0 x1 x2 : Value) {n : Nat} (hn : n = W.heap.size) : N3 (W.alloc (.cells #[x0, x1, x2] t)) n x0 x1 x2 := by
 subst hn
 exact ⟨by rw [World.cell?_alloc_new]; rfl, by rw [World.cell?_alloc_new]; rfl, by rw [World.cell?_alloc_new]; rfl, fun i => by simp [go_sem], by rw [World.size_alloc]; omega⟩
instance N3.mk' (W : World) (t : TypeId) (x0 x1 x2 : Value) (n : Nat) [h : Sz W n] : N3 (W.alloc (.cells #[x0, x1, x2] t)) n x0 x1 x2 := N3.made W t x0 x1 x2 h.out
@[go_sem] theorem N3.r0 (W : World) (b : Nat) {x0 x1 x2 : Value} [h : N3 W b x0 x1 x2] : W.cell? ⟨b, 0, none⟩ = some x0 := h.c0
@[go_sem] theorem N3.r1 (W : World) (b : Nat) {x0 x1 x2 : Value} [h : N3 W b x0 x1 x2] : W.cell? ⟨b, 1, none⟩ = some x1 := h.c1
@[go_sem] theorem N3.r2 (W : World) (b : Nat) {x0 x1 x2 : Value} [h : N3 W b x0 x1 x2] : W.cell? ⟨b, 2, none⟩ = some x2 := h.c2
@[go_sem] theorem N3.rz (W : World) (b i : Nat) {x0 x1 x2 : Value} [h : N3 W b x0 x1 x2] : W.frozen? ⟨b, i, none⟩ = false := h.z i
@[go_sem] theorem N3.rs (W : World) (b : Nat) {x0 x1 x2 : Value} [h : N3 W b x0 x1 x2] : b < W.heap.size := h.lt
theorem zGr (L : Nat → Nat) {k i : Nat} (x : Nat) (h : i < k) : (zAX L k).set i (.int .u64 ((x : Nat) : Int)) = zAX (fun t => if t = i then x else L t) k := by
 refine List.ext_getElem? fun j => ?_
 rw [List.getElem?_set]
 by_cases hj : j < k
 · by_cases he : i = j
   · subst he; rw [if_pos rfl, if_pos (by rw [zAZ]; exact h), zBF _ hj, if_pos rfl]
   · rw [if_neg he, zBF _ hj, zBF _ hj, if_neg (fun e => he e.symm)]
 · rw [List.getElem?_eq_none (l := zAX (fun t => if t = i then x else L t) k) (by rw [zAZ]; omega), if_neg (by omega), List.getElem?_eq_none (by rw [zAZ]; omega)]
theorem zH1 {L L' : Nat → Nat} {k : Nat} (h : ∀ i, i < k → L i = L' i) : zAX L k = zAX L' k := by
 induction k with
 | zero => rfl
 | succ k ih => show zAX L k ++ _ = zAX L' k ++ _; rw [ih fun i hi => h i (by omega), h k (by omega)]
theorem zIP (f : Nat → Value × Value × Value × Value) {k i : Nat} (p q r s : Value) (h : i < k) :
 ((((zAm f k).set (i * 4) p).set (i * 4 + 1) q).set (i * 4 + 2) r).set (i * 4 + 3) s = zAm (fun t => if t = i then (p, q, r, s) else f t) k := by
 refine List.ext_getElem? fun j => ?_
 simp only [List.getElem?_set, List.length_set, zAV]
 by_cases hj : j < k * 4
 · obtain ⟨a, b, rfl, hb⟩ : ∃ a b, j = a * 4 + b ∧ b < 4 := ⟨j / 4, j % 4, by omega, by omega⟩
   have hak : a < k := by omega
   have g := zAC f hak
   have g' := zAC (fun t => if t = i then (p, q, r, s) else f t) hak
   by_cases he : a = i
   · subst he
     simp only [if_true] at g'
     have l0 : a * 4 < k * 4 := by omega
     have l1 : a * 4 + 1 < k * 4 := by omega
     have l2 : a * 4 + 2 < k * 4 := by omega
     have l3 : a * 4 + 3 < k * 4 := by omega
     rcases b with _ | _ | _ | _ | b
     · simp [l0, g'.1]
     · simp [l1, g'.2.1]
     · simp [l2, g'.2.2.1]
     · simp [l3, g'.2.2.2]
     · omega
   · simp only [if_neg he] at g'
     rw [if_neg (by omega), if_neg (by omega), if_neg (by omega), if_neg (by omega)]
     rcases b with _ | _ | _ | _ | b
     · rw [Nat.add_zero]; exact g.1.trans g'.1.symm
     · exact g.2.1.trans g'.2.1.symm
     · exact g.2.2.1.trans g'.2.2.1.symm
     · exact g.2.2.2.trans g'.2.2.2.symm
     · omega
 · have h1 : (zAm (fun t => if t = i then (p, q, r, s) else f t) k)[j]? = none := List.getElem?_eq_none (by rw [zAV]; omega)
   have h2 : (zAm f k)[j]? = none := List.getElem?_eq_none (by rw [zAV]; omega)
   rw [h1, h2, if_neg (by omega), if_neg (by omega), if_neg (by omega), if_neg (by omega)]
theorem Dms.put {w : World} {base g n cap : Nat} {d : Nat → Option (Int × Int)} {A : Nat → Option Addr} {C : Nat → Nat} (h : Dms w base (.slice (some ⟨g, 0, none⟩) n cap) n d A C) {i : Nat} (hi : i < n)
 {dk : Option (Int × Int)} {a1 : Option Addr} {c1 : Nat} (hm : Mag w a1 (nl (zA1 dk).natAbs) c1 (zA1 dk).natAbs) (hne : 0 < nl (zA1 dk).natAbs → ab a1 ≠ g) :
 Dms ((((w.setCell ⟨g, i * 4, none⟩ (.bool (zA3 dk))).setCell ⟨g, i * 4 + 1, none⟩ (.bool (decide (zA1 dk < 0)))).setCell ⟨g, i * 4 + 2, none⟩ (.slice a1 (nl (zA1 dk).natAbs) c1)).setCell ⟨g, i * 4 + 3, none⟩ (.int .i64 (zA2 dk))) base
  (.slice (some ⟨g, 0, none⟩) n cap) n (fun t => if t = i then dk else d t) (fun t => if t = i then a1 else A t) (fun t => if t = i then c1 else C t) ∧
 w.grownBy ((((w.setCell ⟨g, i * 4, none⟩ (.bool (zA3 dk))).setCell ⟨g, i * 4 + 1, none⟩ (.bool (decide (zA1 dk < 0)))).setCell ⟨g, i * 4 + 2, none⟩ (.slice a1 (nl (zA1 dk).natAbs) c1)).setCell ⟨g, i * 4 + 3, none⟩ (.int .i64 (zA2 dk))) (some g) := by
 obtain ⟨o1, q1⟩ := h.own.stored (i * 4) (.bool (zA3 dk))
 obtain ⟨o2, q2⟩ := o1.stored (i * 4 + 1) (.bool (decide (zA1 dk < 0)))
 obtain ⟨o3, q3⟩ := o2.stored (i * 4 + 2) (.slice a1 (nl (zA1 dk).natAbs) c1)
 obtain ⟨o4, q4⟩ := o3.stored (i * 4 + 3) (.int .i64 (zA2 dk))
 have hg := zBP q1 (zBP q2 (zBP q3 q4))
 rw [zIP _ _ _ _ _ hi] at o4
 refine ⟨⟨?_, fun t ht => ?_, fun t ht => ?_⟩, hg⟩
 · have e : zAm (zBe (fun t => if t = i then dk else d t) (fun t => if t = i then a1 else A t) (fun t => if t = i then c1 else C t)) n = zAm (fun t => if t = i then (.bool (zA3 dk), .bool (decide (zA1 dk < 0)), .slice a1 (nl (zA1 dk).natAbs) c1, .int .i64 (zA2 dk)) else zBe d A C t) n :=
    zBH fun t _ => by
     unfold zBe
     by_cases he : t = i
     · simp only [if_pos he]
     · simp only [if_neg he]
   rw [e]; exact o4
 · by_cases he : t = i
   · subst he; simp only [if_true]; exact zBD hm hg (fun h0 h1 => hne h0 (Option.some.inj h1))
   · simp only [if_neg he]; exact zBD (h.m t ht) hg (h.ap t ht)
 · by_cases he : t = i
   · subst he; simp only [if_true]; exact fun h0 h1 => hne h0 (Option.some.inj h1)
   · simp only [if_neg he]; exact h.ap t ht
theorem Dms.congr {w : World} {base : Nat} {v : Value} {k : Nat} {d d' : Nat → Option (Int × Int)} {A : Nat → Option Addr} {C : Nat → Nat} (h : Dms w base v k d A C) (e : ∀ i, i < k → d i = d' i) : Dms w base v k d' A C := by
 refine ⟨?_, fun i hi => ?_, fun i hi => ?_⟩
 · have : zAm (zBe d' A C) k = zAm (zBe d A C) k := zBH fun i hi => by unfold zBe; rw [e i hi]
   rw [this]; exact h.own
 · rw [← e i hi]; exact h.m i hi
 · rw [← e i hi]; exact h.ap i hi
theorem Dms.kept {w w' : World} {base : Nat} {v : Value} {k : Nat} {d : Nat → Option (Int × Int)} {A : Nat → Option Addr} {C : Nat → Nat} (h : Dms w base v k d A C) {row : Option Nat} (hg : w.grownBy w' row)
 (hv : v.ownBlock = none ∨ v.ownBlock ≠ row) (hA : ∀ i, i < k → 0 < nl (zA1 (d i)).natAbs → some (ab (A i)) ≠ row) : Dms w' base v k d A C :=
 ⟨h.own.kept hg hv, fun i hi => zBD (h.m i hi) hg (hA i hi), h.ap⟩
theorem zPo (n : Nat) : (madeCells #[.int .u64 0] (n * 1)).toList = zAX (fun _ => 0) n := by
 rw [toList_madeCells_one, Nat.mul_one]
 refine List.ext_getElem? fun j => ?_
 by_cases hj : j < n
 · rw [zBF _ hj, List.getElem?_replicate, if_pos hj]; rfl
 · rw [List.getElem?_eq_none (by simp; omega), List.getElem?_eq_none (by rw [zAZ]; omega)]
theorem zPp (n : Nat) : (madeCells (Value.agg #[.bool false, .bool false, .slice none 0 0, .int .i64 0]).cells (n * 4)).toList = zAm (zBe (fun _ => some (0, 0)) (fun _ => none) (fun _ => 0)) n := by
 have hs : (Value.agg #[.bool false, .bool false, .slice none 0 0, .int .i64 0]).cells = #[.bool false, .bool false, .slice none 0 0, .int .i64 0] := by simp [Value.cells]
 rw [hs]
 refine List.ext_getElem? fun j => ?_
 by_cases hj : j < n * 4
 · obtain ⟨a, b, rfl, hb⟩ : ∃ a b, j = a * 4 + b ∧ b < 4 := ⟨j / 4, j % 4, by omega, by omega⟩
   have g := zAC (zBe (fun _ => some (0, 0)) (fun _ => none) (fun _ => 0)) (show a < n by omega)
   have e : (madeCells #[.bool false, .bool false, .slice none 0 0, .int .i64 0] (n * 4)).toList[a * 4 + b]? = some (#[Value.bool false, .bool false, .slice none 0 0, .int .i64 0][(a * 4 + b) % 4]!) := by
    unfold madeCells
    rw [Array.getElem?_toList, Array.getElem?_map, Array.getElem?_range, if_pos hj]; rfl
   rw [e, show (a * 4 + b) % 4 = b by omega]
   rcases b with _ | _ | _ | _ | b
   · exact g.1.symm
   · exact g.2.1.symm
   · exact g.2.2.1.symm
   · exact g.2.2.2.symm
   · omega
 · rw [List.getElem?_eq_none (by rw [Array.length_toList, size_madeCells]; omega), List.getElem?_eq_none (by rw [zAV]; omega)]
end Go.Proofs.YtablcbgeeeboeaaGreatDoor
namespace Go.Proofs.YtablcbgeeeboeaaGreatDoor
open Go.RowKit Sp
class BG (W : World) (n : Nat) : Prop where out : n ≤ W.heap.size
section
variable {W : World} {n : Nat}
instance BG.dr [h : BG W n] : BG W.drew n := ⟨h.out⟩
instance BG.dn (q : Nat) [h : BG W n] : BG (W.drewN q) n := ⟨h.out⟩
instance BG.al (o : Obj) [h : BG W n] : BG (W.alloc o) n := ⟨by rw [World.size_alloc]; exact Nat.le_succ_of_le h.out⟩
instance BG.fr (L : World) [f : From L W] [h : BG L n] : BG W n := ⟨Nat.le_trans h.out f.out.size⟩
instance BG.se (p : Addr) (v : Value) [h : BG W n] : BG (W.setCell p v) n := ⟨by rw [World.size_setCell]; exact h.out⟩
end
class BL (base : Nat) (wr W : World) : Prop where out : Below base wr W
section
variable {base : Nat} {wr W : World}
instance BL.rf : BL base wr wr := ⟨Below.refl _ _⟩
instance BL.dr [h : BL base wr W] : BL base wr W.drew := ⟨h.out.drew⟩
instance BL.dn (q : Nat) [h : BL base wr W] : BL base wr (W.drewN q) := ⟨below_drewN h.out _⟩
instance BL.al (o : Obj) [h : BL base wr W] [k : BG W base] : BL base wr (W.alloc o) := ⟨h.out.alloc k.out o⟩
instance BL.fr (L : World) [f : From L W] [h : BL base wr L] [k : BG L base] : BL base wr W := ⟨h.out.trans (f.out.mono k.out)⟩
end
theorem N3.lo {W W' : World} {b base : Nat} {x0 x1 x2 : Value} (h : N3 W b x0 x1 x2) (hb : Below base W W') (lt : b < base) : N3 W' b x0 x1 x2 := by
 obtain ⟨h1, h2⟩ := zA8 hb
 exact ⟨(h1 _ _ lt).trans h.c0, (h1 _ _ lt).trans h.c1, (h1 _ _ lt).trans h.c2, fun i => (h2 _ _ lt).trans (h.z i), Nat.lt_of_lt_of_le h.lt hb.size⟩
theorem CE.lo {W W' : World} {b i base : Nat} {v : Value} (h : CE W b i v) (hb : Below base W W') (lt : b < base) : CE W' b i v := ⟨((zA8 hb).1 _ _ lt).trans h.out, Nat.lt_of_lt_of_le h.lt hb.size⟩
theorem Beh.size {w w' : World} [h : Beh w w'] : w.heap.size ≤ w'.heap.size := h.out.size
section
variable {P : Program} {ops : Array Oper} {Q : Exit → Act → World → Prop} {md : Region.Mode} {T : World → Prop} {last : List Nat}
theorem zPg {fuel : Nat} {l : Array Bool} {a : Act} {w : World} (i j : Nat) {o o' : Oper} (ho : ops[i]? = some o := by rfl) (ho' : ops[j]? = some o' := by rfl) (hr : Region.ready md ops l = [i, j] := by kernel_rfl)
 (h : ∀ K : Act → World → Prop, Shut (∀ a' w', (i ∈ last ∨ T w') → zBQ P md ops Q T last fuel (l.setIfInBounds i true) a' w' → K a' w') →
  if Region.wanted o (yielded ops a.tmps) = true then Oper.wp P o a w K Q else K (a.put o.dst undef) w)
 (h' : ∀ K : Act → World → Prop, Shut (∀ a' w', (j ∈ last ∨ T w') → zBQ P md ops Q T last fuel (l.setIfInBounds j true) a' w' → K a' w') →
  if Region.wanted o' (yielded ops a.tmps) = true then Oper.wp P o' a w K Q else K (a.put o'.dst undef) w) : zBQ P md ops Q T last (fuel + 1) l a w := by
 refine ⟨fun h0 => (by rw [hr] at h0; cases h0), fun x hx => ?_⟩
 rw [hr] at hx
 have hx2 : x = i ∨ x = j := by simpa using hx
 rcases hx2 with rfl | rfl
 · exact wpOp_step ho fun K hK => h K fun a' w' h1 h2 => hK a' w' ⟨h1, h2⟩
 · exact wpOp_step ho' fun K hK => h' K fun a' w' h1 h2 => hK a' w' ⟨h1, h2⟩
end
end Go.Proofs.YtablcbgeeeboeaaGreatDoor

/-
  Walks: package sparseref05: plus, All, sign, rounded, outward, sum, product.
  Walks: package sparseref05: product, span.
  Walks: package sparseref05: Point, Neg, Add, Sub, Mid, Mag, Mig.
-/
import Derived.Test.YtakbappmkdaioaaGreatDoorZlJg
import Derived.Test.YtakbappmkdaioaaGreatDoorZlIW
import Derived.Test.YtakbappmkdaioaaGreatDoorZlS3
import Derived.Test.YtakbappmkdaioaaGreatDoorZlRY
import Derived.Test.YtakbappmkdaioaaGreatDoorZlRt
import Derived.Test.YtakbappmkdaioaaGreatDoorZlRx
import Derived.Deep.LoopGhost
import Derived.Test.YtakbappmkdaioaaGreatDoorZlCs
import Derived.Test.YtakbappmkdaioaaGreatDoorZlFP
import Derived.Test.YtakbappmkdaioaaGreatDoorZlRV
import Derived.Test.YtakbappmkdaioaaGreatDoorZlVN
import Derived.Test.YtakbappmkdaioaaGreatDoorZlJf
namespace Go.Proofs.YtakbappmkdaioaaGreatDoor
open Go.RowKit Sp

attribute [local irreducible] Calls
set_option maxRecDepth 100000 in
set_option maxHeartbeats 20000000 in
theorem nplus_any (w : World) (f : Nat) (_hf : f < 18446744073709551616) : Calls Tryz.prog 199 #[.int .u64 (f : Nat)] w fun o w' => o = .returned (.int .u64 (fclean f : Nat)) ∧ w = w' := by
  unfold fclean
  by_cases h : f = 9223372036854775808
  · rw [if_pos h]
    subst h
    go_enter Tryz.func199, Tryz.ntmps199
    go_wp2
    go_ret
    exact ⟨rfl, rfl⟩
  · rw [if_neg h]
    have hq : ¬ ((f : Nat) : Int) = 9223372036854775808 := by omega
    generalize ((f : Nat) : Int) = p at *
    go_enter Tryz.func199, Tryz.ntmps199
    go_wp2
    go_ret
    exact ⟨rfl, rfl⟩
set_option maxRecDepth 100000 in
set_option maxHeartbeats 20000000 in
theorem nsign_any (w : World) [Tb w] (i : Int) (v s : Bool) (A : Option Addr) (n c : Nat) (e : Int) (d : Option (Int × Int)) [hd : DS w v s A n c e d] :
    Calls Tryz.prog 201 #[.agg #[.int .i64 i, .bool v, .bool s, .slice A n c, .int .i64 e]] w fun o w' => o = .returned (.int .i64 (nsg i d)) ∧ Below w.heap.size w w' := by
  have HS := fun W [h1 : DS W v s A n c e d] [Tb W] => Lib.hid (frm (rdsign_any W v s A n c e d h1.out tb))
  unfold nsg
  generalize sg (dman d) = z at *
  by_cases h : i = 0
  · rw [if_neg (fun q => q h)]
    subst h
    go_enter Tryz.func201, Tryz.ntmps201
    go_wp2_with fail
    refine (HS _).out.mono ?_; rintro o w1 ⟨rfl, b1⟩; go_wp2_with fail
    go_ret
    exact ⟨rfl, zbh⟩
  · rw [if_pos h]
    go_enter Tryz.func201, Tryz.ntmps201
    go_wp2_with fail
    go_ret
    exact ⟨rfl, zbh⟩
set_option maxRecDepth 100000 in
set_option maxHeartbeats 20000000 in
theorem nround_any (w : World) [Tb w] (i : Int) (v s : Bool) (A : Option Addr) (n c : Nat) (e : Int) (d : Option (Int × Int)) [hd : DS w v s A n c e d] (m : Int) :
    Calls Tryz.prog 251 #[.agg #[.int .i64 i, .bool v, .bool s, .slice A n c, .int .i64 e], .int .i64 m] w fun o w' => o = .returned (.int .u64 (nrnd i d m : Nat)) ∧ Below w.heap.size w w' := by
  have HS := fun W [h1 : DS W v s A n c e d] [Tb W] => Lib.hid (frm (r3round_any W v s A n c e m d h1.out tb))
  have HP := fun W => Lib.hid (frw (nplus_any W (fround d m) (fround_lt' _ _)))
  unfold nrnd
  generalize fclean (fround d m) = z at *
  generalize fround d m = y at *
  by_cases h1 : i = 1
  · rw [if_pos h1]
    subst h1
    show Calls _ _ _ _ fun o w' => o = .returned (.int .u64 9218868437227405312) ∧ Below w.heap.size w w'
    go_enter Tryz.func251, Tryz.ntmps251
    go_wp2_with fail
    go_ret
    exact ⟨rfl, zbh⟩
  · rw [if_neg h1]
    by_cases h2 : i = -1
    · rw [if_pos h2]
      subst h2
      show Calls _ _ _ _ fun o w' => o = .returned (.int .u64 18442240474082181120) ∧ Below w.heap.size w w'
      go_enter Tryz.func251, Tryz.ntmps251
      go_wp2_with fail
      go_ret
      exact ⟨rfl, zbh⟩
    · rw [if_neg h2]
      generalize ((z : Nat) : Int) = z' at *
      generalize ((y : Nat) : Int) = y' at *
      go_enter Tryz.func251, Tryz.ntmps251
      go_wp2_with fail
      refine (HS _).out.mono ?_; rintro o w1 ⟨rfl, b1⟩; go_wp2_with fail
      refine (HP _).out.mono ?_; rintro o w2 ⟨rfl, b2⟩; go_wp2_with fail
      go_ret
      exact ⟨rfl, zbh⟩
set_option maxRecDepth 100000 in
set_option maxHeartbeats 20000000 in
theorem nout_any (w : World) [Tb w] (i : Int) (v s : Bool) (A : Option Addr) (n c : Nat) (e : Int) (d : Option (Int × Int)) (i' : Int) (v' s' : Bool) (A' : Option Addr) (n' c' : Nat) (e' : Int) (d' : Option (Int × Int)) [hd : DS w v s A n c e d] [hd' : DS w v' s' A' n' c' e' d'] :
    Calls Tryz.prog 195 #[.agg #[.int .i64 i, .bool v, .bool s, .slice A n c, .int .i64 e], .agg #[.int .i64 i', .bool v', .bool s', .slice A' n' c', .int .i64 e']] w fun o w' => o = .returned (.agg #[.int .u64 ((nout (i, d) (i', d')).1 : Nat), .int .u64 ((nout (i, d) (i', d')).2 : Nat)]) ∧ Below w.heap.size w w' := by
  have H1 := fun W [h1 : DS W v s A n c e d] [Tb W] => Lib.hid (frm (nround_any W i v s A n c e d 1))
  have H2 := fun W [h1 : DS W v' s' A' n' c' e' d'] [Tb W] => Lib.hid (frm (nround_any W i' v' s' A' n' c' e' d' 2))
  show Calls _ _ _ _ fun o w' => o = .returned (.agg #[.int .u64 (nrnd i d 1 : Nat), .int .u64 (nrnd i' d' 2 : Nat)]) ∧ Below w.heap.size w w'
  generalize ((nrnd i d 1 : Nat) : Int) = p at *
  generalize ((nrnd i' d' 2 : Nat) : Int) = q at *
  go_enter Tryz.func195, Tryz.ntmps195
  go_wp2_with fail
  first
  | go_region_held3 (fun w' => w'.cell? ⟨w.heap.size, 0, none⟩ = some (.int .i64 i) ∧ w'.cell? ⟨w.heap.size, 1, none⟩ = some (.bool v) ∧ w'.cell? ⟨w.heap.size, 2, none⟩ = some (.bool s) ∧ w'.cell? ⟨w.heap.size, 3, none⟩ = some (.slice A n c) ∧ w'.cell? ⟨w.heap.size, 4, none⟩ = some (.int .i64 e) ∧ w'.cell? ⟨w.heap.size + 1, 0, none⟩ = some (.int .i64 i') ∧ w'.cell? ⟨w.heap.size + 1, 1, none⟩ = some (.bool v') ∧ w'.cell? ⟨w.heap.size + 1, 2, none⟩ = some (.bool s') ∧ w'.cell? ⟨w.heap.size + 1, 3, none⟩ = some (.slice A' n' c') ∧ w'.cell? ⟨w.heap.size + 1, 4, none⟩ = some (.int .i64 e')) (first | (go_simp; done))
      (first
        | (go_at_call 251; refine (H1 _).out.mono ?_; rintro o w1 ⟨rfl, b1⟩)
        | (go_at_call 251; refine (H2 _).out.mono ?_; rintro o w2 ⟨rfl, b2⟩)
        | fail)
  | fail "region"
  all_goals (
    go_wp2_with fail
    refine bodyPost_ret (v := .agg #[.int .u64 p, .int .u64 q]) (by simp only [results, Tryz.results195]; go_simp) rfl ?_
    exact ⟨rfl, zbh⟩)
end Go.Proofs.YtakbappmkdaioaaGreatDoor

namespace Go.Proofs.YtakbappmkdaioaaGreatDoor
open Go.RowKit Sp
set_option linter.unusedSimpArgs false

attribute [local irreducible] Calls
abbrev NB5 (w : World) (b : Nat) (i : Int) (d : Option (Int × Int)) (a : Option Addr) (c : Nat) : Prop := N5 w b (.int .i64 i) (.bool (dbad d)) (.bool (decide (dman d < 0))) (.slice a (nl (dman d).natAbs) c) (.int .i64 (dexp d))
/-- the least and the greatest so far -/
structure SpS (I : Nat → Int) (d : Nat → Option (Int × Int)) (A : Nat → Option Addr) (C : Nat → Nat) (w : World) (z y j l : Nat) (wx : World) : Prop where
  beh : Below w.heap.size w wx
  b0 : NB5 wx (w.heap.size) (I 0) (d 0) (A 0) (C 0)
  b1 : NB5 wx (w.heap.size + 1) (I 1) (d 1) (A 1) (C 1)
  b2 : NB5 wx (w.heap.size + 1 + 1) (I 2) (d 2) (A 2) (C 2)
  b3 : NB5 wx (w.heap.size + 1 + 1 + 1) (I 3) (d 3) (A 3) (C 3)
  r4 : N5 wx (w.heap.size + 1 + 1 + 1 + 1) (.int .i64 0) (.bool false) (.bool false) (.slice none 0 0) (.int .i64 0)
  r5 : N5 wx (w.heap.size + 1 + 1 + 1 + 1 + 1) (.int .i64 0) (.bool false) (.bool false) (.slice none 0 0) (.int .i64 0)
  bz : NB5 wx z (I j) (d j) (A j) (C j)
  bl : NB5 wx y (I l) (d l) (A l) (C l)
  ne : z ≠ y
  hz : w.heap.size + 5 < z
  hy : w.heap.size + 5 < y
section
variable {I : Nat → Int} {d : Nat → Option (Int × Int)} {A : Nat → Option Addr} {C : Nat → Nat} {w wx : World} {z y j l : Nat}
theorem SpS.on (h : SpS I d A C w z y j l wx) {w' : World} (hb : From wx w') : SpS I d A C w z y j l w' :=
  ⟨h.beh.trans (hb.out.mono h.beh.size), h.b0.below hb.out, h.b1.below hb.out, h.b2.below hb.out, h.b3.below hb.out, h.r4.below hb.out, h.r5.below hb.out, h.bz.below hb.out, h.bl.below hb.out, h.ne, h.hz, h.hy⟩
def set5 (w : World) (g : Nat) (i : Int) (d : Option (Int × Int)) (a : Option Addr) (c : Nat) : World :=
  ((((w.setCell ⟨g, 0, none⟩ (.int .i64 i)).setCell ⟨g, 1, none⟩ (.bool (dbad d))).setCell ⟨g, 2, none⟩ (.bool (decide (dman d < 0)))).setCell ⟨g, 3, none⟩ (.slice a (nl (dman d).natAbs) c)).setCell ⟨g, 4, none⟩ (.int .i64 (dexp d))
end
end Go.Proofs.YtakbappmkdaioaaGreatDoor

namespace Go.Proofs.YtakbappmkdaioaaGreatDoor
open Go.RowKit Sp
set_option linter.unusedSimpArgs false

attribute [local irreducible] Calls
abbrev DSv (W : World) (d : Option (Int × Int)) (a : Option Addr) (c : Nat) : Prop := DS W (dbad d) (decide (dman d < 0)) a (nl (dman d).natAbs) c (dexp d) d
set_option maxRecDepth 100000 in
set_option maxHeartbeats 8000000 in
theorem nmid_fin (w : World) (hT : Tab w) (a : Nat) (b : Nat) (ha : a < 18446744073709551616) (hb : b < 18446744073709551616) (hk : iok (a, b) = true) (h1 : ¬ a = fNInf) (h2 : ¬ b = fInf) :
    Calls Tryz.prog 98 #[.agg #[.int .u64 (a : Nat), .int .u64 (b : Nat)]] w fun e w' => e = .returned (.int .u64 (fclean (fround (dscale (dadd (fof a) (fof b)) (-1)) 0) : Nat)) ∧ Below w.heap.size w w' := by
  have HT : Tb w := ⟨hT⟩
  have H1 := fun W => Lib.hid (frm (r5valid_any W a b ha hb))
  rw [hk] at H1
  have n1 : ¬ ((a : Nat) : Int) = 18442240474082181120 := fun h => h1 (by unfold fNInf; omega)
  have n2 : ¬ ((b : Nat) : Int) = 9218868437227405312 := fun h => h2 (by unfold fInf; omega)
  have HA := fun W [Tb W] => Lib.hid (frs (isN_fof a) (r3of_any W a ha tb))
  have HB := fun W [Tb W] => Lib.hid (frs (isN_fof b) (r3of_any W b hb tb))
  have HC := fun W a1 c1 a2 c2 [i1 : DSv W (fof a) a1 c1] [i2 : DSv W (fof b) a2 c2] [Tb W] => Lib.hid (frs (isN_add _ _) (rdadd_any W _ _ _ _ _ _ _ _ _ _ _ _ (fof a) (fof b) i1.out i2.out tb))
  have HD := fun W a1 c1 [i1 : DSv W (dadd (fof a) (fof b)) a1 c1] [Tb W] => Lib.hid (frs (isN_scale _ _) (rdscale_any W _ _ _ _ _ _ (-1) (dadd (fof a) (fof b)) i1.out tb (by decide) (by decide)))
  have HE := fun W a1 c1 [i1 : DSv W (dscale (dadd (fof a) (fof b)) (-1)) a1 c1] [Tb W] => Lib.hid (frm (r3round_any W _ _ _ _ _ _ 0 (dscale (dadd (fof a) (fof b)) (-1)) i1.out tb))
  have HF := fun W => Lib.hid (nplus_any W (fround (dscale (dadd (fof a) (fof b)) (-1)) 0) (fround_lt' _ _))
  generalize ((fclean (fround (dscale (dadd (fof a) (fof b)) (-1)) 0) : Nat) : Int) = u at *
  generalize ((fround (dscale (dadd (fof a) (fof b)) (-1)) 0 : Nat) : Int) = u1 at *
  generalize dscale (dadd (fof a) (fof b)) (-1) = d4 at *
  generalize dadd (fof a) (fof b) = d3 at *
  generalize fof a = d1 at *
  generalize fof b = d2 at *
  generalize ((a : Nat) : Int) = p at *
  generalize ((b : Nat) : Int) = q at *
  clear h1 h2
  go_enter Tryz.func98, Tryz.ntmps98
  go_wp2_with fail
  refine (H1 _).out.mono ?_
  rintro e w1 ⟨rfl, b1⟩
  go_wp2_with fail
  first
  | go_region_held3 (fun w' => w'.cell? ⟨w.heap.size, 0, none⟩ = some (.int .u64 p) ∧ w'.cell? ⟨w.heap.size, 1, none⟩ = some (.int .u64 q)) (first | (go_simp; done))
      (first
        | (go_at_call 61; refine (HA _).out.mono ?_; rintro e w2 ⟨a2, c2, rfl, i2, b2⟩)
        | (go_at_call 61; refine (HB _).out.mono ?_; rintro e w3 ⟨a3, c3, rfl, i3, b3⟩)
        | (go_at_call 149; refine (HC _ _ _ _ _).out.mono ?_; rintro e w4 ⟨a4, c4, rfl, i4, b4⟩)
        | (go_at_call 178; refine (HD _ _ _).out.mono ?_; rintro e w5 ⟨a5, c5, rfl, i5, b5⟩)
        | (go_at_call 43; refine (HE _ _ _).out.mono ?_; rintro e w6 ⟨rfl, b6⟩)
        | (go_at_call 199; refine (HF _).out.mono ?_; rintro e w7 ⟨rfl, rfl⟩)
        | fail)
  | fail "region"
  all_goals (
    go_wp2_with fail
    go_ret
    exact ⟨rfl, zbh⟩)

set_option maxRecDepth 100000 in
set_option maxHeartbeats 8000000 in
theorem nmid_any (w : World) (hT : Tab w) (a : Nat) (b : Nat) (ha : a < 18446744073709551616) (hb : b < 18446744073709551616) : Calls Tryz.prog 98 #[.agg #[.int .u64 (a : Nat), .int .u64 (b : Nat)]] w fun e w' => e = .returned (.int .u64 (imid (a, b) : Nat)) ∧ Below w.heap.size w w' := by
  have HT : Tb w := ⟨hT⟩
  have H1 := fun W => Lib.hid (frm (r5valid_any W a b ha hb))
  have HN := fun W => Lib.hid (show Calls Tryz.prog 57 #[.int .u64 9218868437227405311] W fun e w' => e = .returned (.int .u64 18442240474082181119) ∧ From W w' from by
    have := frw (r3neg_any W fMax (by decide))
    rw [show fneg fMax = 18442240474082181119 by decide] at this; exact this)
  by_cases hk : iok (a, b) = true
  · by_cases h1 : a = fNInf
    · by_cases h2 : b = fInf
      · have hv : imid (a, b) = 0 := by unfold imid; rw [hk]; simp [h1, h2]
        rw [hk] at H1
        rw [hv]
        subst h1 h2
        show Calls Tryz.prog 98 #[.agg #[.int .u64 18442240474082181120, .int .u64 9218868437227405312]] w fun e w' => e = .returned (.int .u64 0) ∧ Below w.heap.size w w'
        have H1 := fun W => Lib.hid (show Calls Tryz.prog 106 #[.agg #[.int .u64 18442240474082181120, .int .u64 9218868437227405312]] W fun e w' => e = .returned (.bool true) ∧ From W w' from (H1 W).out)
        go_enter Tryz.func98, Tryz.ntmps98
        go_wp2_with fail
        refine (H1 _).out.mono ?_
        rintro e w1 ⟨rfl, b1⟩
        go_wp2_with fail
        go_ret
        exact ⟨rfl, zbh⟩
      · have hv : imid (a, b) = 18442240474082181119 := by
          unfold imid; rw [hk, show fneg fMax = 18442240474082181119 by decide]; simp [h1, h2]
        rw [hk] at H1
        rw [hv]
        subst h1
        have n2 : ¬ ((b : Nat) : Int) = 9218868437227405312 := fun h => h2 (by unfold fInf; omega)
        have H1 := fun W => Lib.hid (show Calls Tryz.prog 106 #[.agg #[.int .u64 18442240474082181120, .int .u64 (b : Nat)]] W fun e w' => e = .returned (.bool true) ∧ From W w' from (H1 W).out)
        show Calls Tryz.prog 98 #[.agg #[.int .u64 18442240474082181120, .int .u64 (b : Nat)]] w fun e w' => e = .returned (.int .u64 18442240474082181119) ∧ Below w.heap.size w w'
        clear hv h2
        generalize ((b : Nat) : Int) = q at *
        go_enter Tryz.func98, Tryz.ntmps98
        go_wp2_with fail
        refine (H1 _).out.mono ?_
        rintro e w1 ⟨rfl, b1⟩
        go_wp2_with fail
        refine (HN _).out.mono ?_
        rintro e w2 ⟨rfl, b2⟩
        go_wp2_with fail
        go_ret
        exact ⟨rfl, zbh⟩
    · by_cases h2 : b = fInf
      · have hv : imid (a, b) = fMax := by unfold imid; rw [hk]; simp [h1, h2]
        rw [hk] at H1
        rw [hv]
        subst h2
        have n1 : ¬ ((a : Nat) : Int) = 18442240474082181120 := fun h => h1 (by unfold fNInf; omega)
        have H1 := fun W => Lib.hid (show Calls Tryz.prog 106 #[.agg #[.int .u64 (a : Nat), .int .u64 9218868437227405312]] W fun e w' => e = .returned (.bool true) ∧ From W w' from (H1 W).out)
        show Calls Tryz.prog 98 #[.agg #[.int .u64 (a : Nat), .int .u64 9218868437227405312]] w fun e w' => e = .returned (.int .u64 9218868437227405311) ∧ Below w.heap.size w w'
        clear hv h1
        generalize ((a : Nat) : Int) = p at *
        go_enter Tryz.func98, Tryz.ntmps98
        go_wp2_with fail
        refine (H1 _).out.mono ?_
        rintro e w1 ⟨rfl, b1⟩
        go_wp2_with fail
        go_ret
        exact ⟨rfl, zbh⟩
      · have hv : imid (a, b) = fclean (fround (dscale (dadd (fof a) (fof b)) (-1)) 0) := by unfold imid; rw [hk]; simp [h1, h2]
        rw [hv]
        exact nmid_fin w hT a b ha hb hk h1 h2
  · have hk : iok (a, b) = false := by simpa using hk
    have hv : imid (a, b) = fNaN := by unfold imid; rw [hk]; rfl
    rw [hk] at H1
    rw [hv]
    show Calls _ _ _ _ fun e w' => e = .returned (.int .u64 9221120237041090560) ∧ Below w.heap.size w w'
    clear hv
    generalize ((a : Nat) : Int) = p at *
    generalize ((b : Nat) : Int) = q at *
    go_enter Tryz.func98, Tryz.ntmps98
    go_wp2_with fail
    refine (H1 _).out.mono ?_
    rintro e w1 ⟨rfl, b1⟩
    go_wp2_with fail
    go_ret
    exact ⟨rfl, zbh⟩

set_option maxRecDepth 100000 in
set_option maxHeartbeats 20000000 in
theorem nmag_any (w : World) (a : Nat) (b : Nat) (ha : a < 18446744073709551616) (hb : b < 18446744073709551616) : Calls Tryz.prog 102 #[.agg #[.int .u64 (a : Nat), .int .u64 (b : Nat)]] w fun o w' => o = .returned (.int .u64 (imag (a, b) : Nat)) ∧ Below w.heap.size w w' := by
  have H1 := fun W => Lib.hid (frm (r5valid_any W a b ha hb))
  have HA := fun W => Lib.hid (frw (r3abs_any W a ha))
  have HB := fun W => Lib.hid (frw (r3abs_any W b hb))
  have HC := fun W => Lib.hid (frw (r3cmp_any W (fabs a) (fabs b) (fabs_lt64 _) (fabs_lt64 _)))
  cases hk : iok (a, b) with
  | false =>
    have hv : imag (a, b) = fNaN := by unfold imag; rw [hk]; rfl
    rw [hv]
    rw [hk] at H1
    show Calls _ _ _ _ fun o w' => o = .returned (.int .u64 9221120237041090560) ∧ Below w.heap.size w w'
    clear hv hk HA HB HC
    generalize ((a : Nat) : Int) = p at *
    generalize ((b : Nat) : Int) = q at *
    go_enter Tryz.func102, Tryz.ntmps102
    go_wp2_with fail
    refine (H1 _).out.mono ?_; rintro o w1 ⟨rfl, b1⟩; go_wp2_with fail
    go_ret
    exact ⟨rfl, zbh⟩
  | true =>
    have hv : imag (a, b) = if decide (fcmpv (fabs a) (fabs b) < 0) = true then fabs b else fabs a := by unfold imag; rw [hk]; rfl
    rw [hv]
    rw [hk] at H1
    clear hv hk
    generalize fcmpv (fabs a) (fabs b) = z at *
    generalize fcmpok (fabs a) (fabs b) = z1 at *
    generalize fabs a = u at *
    generalize fabs b = v at *
    by_cases hz : z < 0
    · rw [if_pos (by simpa using hz)]
      generalize ((a : Nat) : Int) = p at *
      generalize ((b : Nat) : Int) = q at *
      generalize ((u : Nat) : Int) = u1 at *
      generalize ((v : Nat) : Int) = v1 at *
      go_enter Tryz.func102, Tryz.ntmps102
      go_wp2_with fail
      refine (H1 _).out.mono ?_; rintro o w1 ⟨rfl, b1⟩; go_wp2_with fail
      first
      | go_region_held3 (fun w' => w'.cell? ⟨w.heap.size, 0, none⟩ = some (.int .u64 p) ∧ w'.cell? ⟨w.heap.size, 1, none⟩ = some (.int .u64 q)) (first | (go_simp; done))
          (first
            | (go_at_call 59; refine (HA _).out.mono ?_; rintro o w2 ⟨rfl, b2⟩)
            | (go_at_call 59; refine (HB _).out.mono ?_; rintro o w3 ⟨rfl, b3⟩)
            | fail)
      | fail "region"
      all_goals (
        go_wp2_with fail
        refine (HC _).out.mono ?_; rintro o w4 ⟨rfl, b4⟩; go_wp2_with fail
        go_ret
        exact ⟨rfl, zbh⟩)
    · rw [if_neg (by simpa using hz)]
      generalize ((a : Nat) : Int) = p at *
      generalize ((b : Nat) : Int) = q at *
      generalize ((u : Nat) : Int) = u1 at *
      generalize ((v : Nat) : Int) = v1 at *
      go_enter Tryz.func102, Tryz.ntmps102
      go_wp2_with fail
      refine (H1 _).out.mono ?_; rintro o w1 ⟨rfl, b1⟩; go_wp2_with fail
      first
      | go_region_held3 (fun w' => w'.cell? ⟨w.heap.size, 0, none⟩ = some (.int .u64 p) ∧ w'.cell? ⟨w.heap.size, 1, none⟩ = some (.int .u64 q)) (first | (go_simp; done))
          (first
            | (go_at_call 59; refine (HA _).out.mono ?_; rintro o w2 ⟨rfl, b2⟩)
            | (go_at_call 59; refine (HB _).out.mono ?_; rintro o w3 ⟨rfl, b3⟩)
            | fail)
      | fail "region"
      all_goals (
        go_wp2_with fail
        refine (HC _).out.mono ?_; rintro o w4 ⟨rfl, b4⟩; go_wp2_with fail
        go_ret
        exact ⟨rfl, zbh⟩)
set_option maxRecDepth 100000 in
set_option maxHeartbeats 20000000 in
theorem nmig_any (w : World) [Tb w] (a : Nat) (b : Nat) (ha : a < 18446744073709551616) (hb : b < 18446744073709551616) : Calls Tryz.prog 104 #[.agg #[.int .u64 (a : Nat), .int .u64 (b : Nat)]] w fun o w' => o = .returned (.int .u64 (imig (a, b) : Nat)) ∧ Below w.heap.size w w' := by
  have H1 := fun W => Lib.hid (frm (r5valid_any W a b ha hb))
  have HA := fun W => Lib.hid (frw (r3abs_any W a ha))
  have HB := fun W => Lib.hid (frw (r3abs_any W b hb))
  have HC := fun W => Lib.hid (frw (r3cmp_any W (fabs a) (fabs b) (fabs_lt64 _) (fabs_lt64 _)))
  have HOa := fun W [Tb W] => Lib.hid (rof_any W a ha)
  have HOb := fun W [Tb W] => Lib.hid (rof_any W b hb)
  have HSa := fun W A C [i1 : DS W (dbad (nof a)) (decide (dman (nof a) < 0)) A (nl (dman (nof a)).natAbs) C (dexp (nof a)) (nof a)] [Tb W] => Lib.hid (frm (nsign_any W (nin a) _ _ A _ C _ (nof a) (hd := i1)))
  have HSb := fun W A C [i1 : DS W (dbad (nof b)) (decide (dman (nof b) < 0)) A (nl (dman (nof b)).natAbs) C (dexp (nof b)) (nof b)] [Tb W] => Lib.hid (frm (nsign_any W (nin b) _ _ A _ C _ (nof b) (hd := i1)))
  cases hk : iok (a, b) with
  | false =>
    have hv : imig (a, b) = fNaN := by unfold imig; rw [hk]; rfl
    rw [hv]
    rw [hk] at H1
    show Calls _ _ _ _ fun o w' => o = .returned (.int .u64 9221120237041090560) ∧ Below w.heap.size w w'
    clear hv hk HA HB HC HOa HOb HSa HSb
    generalize ((a : Nat) : Int) = p at *
    generalize ((b : Nat) : Int) = q at *
    go_enter Tryz.func104, Tryz.ntmps104
    go_wp2_with fail
    refine (H1 _).out.mono ?_; rintro o w1 ⟨rfl, b1⟩; go_wp2_with fail
    go_ret
    exact ⟨rfl, zbh⟩
  | true =>
    rw [imig_ref (x := (a, b)) ⟨ha, hb⟩ hk]
    dsimp only
    rw [hk] at H1
    clear hk
    generalize fcmpv (fabs a) (fabs b) = z at *
    generalize fcmpok (fabs a) (fabs b) = z1 at *
    generalize fabs a = u at *
    generalize fabs b = v at *
    generalize nsg (nin a) (nof a) = ga at *
    generalize nsg (nin b) (nof b) = gb at *
    generalize nin a = ia at *
    generalize nof a = da at *
    generalize nin b = ib at *
    generalize nof b = db at *
    by_cases h1 : ga ≤ 0
    · have e1 : decide (ga ≤ 0) = true := decide_eq_true h1
      by_cases h2 : 0 ≤ gb
      · have e2 : decide (gb ≥ 0) = true := decide_eq_true h2
        rw [if_pos ⟨h1, h2⟩]
        show Calls _ _ _ _ fun o w' => o = .returned (.int .u64 0) ∧ Below w.heap.size w w'
        clear HA HB HC
        generalize ((a : Nat) : Int) = p at *
        generalize ((b : Nat) : Int) = q at *
        go_enter Tryz.func104, Tryz.ntmps104
        go_wp2_with fail
        refine (H1 _).out.mono ?_; rintro o w1 ⟨rfl, b1⟩; go_wp2_with fail
        refine (HOa _).out.mono ?_; rintro o w2 ⟨A2, C2, rfl, i2, b2⟩; go_wp2_with fail
        refine (HSa _ _ _).out.mono ?_; rintro o w3 ⟨rfl, b3⟩; go_wp2_with fail
        refine (HOb _).out.mono ?_; rintro o w4 ⟨A4, C4, rfl, i4, b4⟩; go_wp2_with fail
        refine (HSb _ _ _).out.mono ?_; rintro o w5 ⟨rfl, b5⟩; go_wp2_with fail
        go_ret
        exact ⟨rfl, zbh⟩
      · have e2 : decide (gb ≥ 0) = false := decide_eq_false h2
        rw [if_neg (fun h => h2 h.2)]
        by_cases hz : z < 0
        · rw [if_pos hz]
          generalize ((a : Nat) : Int) = p at *
          generalize ((b : Nat) : Int) = q at *
          generalize ((u : Nat) : Int) = u1 at *
          generalize ((v : Nat) : Int) = v1 at *
          go_enter Tryz.func104, Tryz.ntmps104
          go_wp2_with fail
          refine (H1 _).out.mono ?_; rintro o w1 ⟨rfl, b1⟩; go_wp2_with fail
          refine (HOa _).out.mono ?_; rintro o w2 ⟨A2, C2, rfl, i2, b2⟩; go_wp2_with fail
          refine (HSa _ _ _).out.mono ?_; rintro o w3 ⟨rfl, b3⟩; go_wp2_with fail
          refine (HOb _).out.mono ?_; rintro o w4 ⟨A4, C4, rfl, i4, b4⟩; go_wp2_with fail
          refine (HSb _ _ _).out.mono ?_; rintro o w5 ⟨rfl, b5⟩; go_wp2_with fail
          first
          | go_region_held3 (fun w' => w'.cell? ⟨w.heap.size, 0, none⟩ = some (.int .u64 p) ∧ w'.cell? ⟨w.heap.size, 1, none⟩ = some (.int .u64 q)) (first | (go_simp; done))
              (first
                | (go_at_call 59; refine (HA _).out.mono ?_; rintro o w6 ⟨rfl, b6⟩)
                | (go_at_call 59; refine (HB _).out.mono ?_; rintro o w7 ⟨rfl, b7⟩)
                | fail)
          | fail "region"
          all_goals (
            go_wp2_with fail
            refine (HC _).out.mono ?_; rintro o w8 ⟨rfl, b8⟩; go_wp2_with fail
            go_ret
            exact ⟨rfl, zbh⟩)
        · rw [if_neg hz]
          generalize ((a : Nat) : Int) = p at *
          generalize ((b : Nat) : Int) = q at *
          generalize ((u : Nat) : Int) = u1 at *
          generalize ((v : Nat) : Int) = v1 at *
          go_enter Tryz.func104, Tryz.ntmps104
          go_wp2_with fail
          refine (H1 _).out.mono ?_; rintro o w1 ⟨rfl, b1⟩; go_wp2_with fail
          refine (HOa _).out.mono ?_; rintro o w2 ⟨A2, C2, rfl, i2, b2⟩; go_wp2_with fail
          refine (HSa _ _ _).out.mono ?_; rintro o w3 ⟨rfl, b3⟩; go_wp2_with fail
          refine (HOb _).out.mono ?_; rintro o w4 ⟨A4, C4, rfl, i4, b4⟩; go_wp2_with fail
          refine (HSb _ _ _).out.mono ?_; rintro o w5 ⟨rfl, b5⟩; go_wp2_with fail
          first
          | go_region_held3 (fun w' => w'.cell? ⟨w.heap.size, 0, none⟩ = some (.int .u64 p) ∧ w'.cell? ⟨w.heap.size, 1, none⟩ = some (.int .u64 q)) (first | (go_simp; done))
              (first
                | (go_at_call 59; refine (HA _).out.mono ?_; rintro o w6 ⟨rfl, b6⟩)
                | (go_at_call 59; refine (HB _).out.mono ?_; rintro o w7 ⟨rfl, b7⟩)
                | fail)
          | fail "region"
          all_goals (
            go_wp2_with fail
            refine (HC _).out.mono ?_; rintro o w8 ⟨rfl, b8⟩; go_wp2_with fail
            go_ret
            exact ⟨rfl, zbh⟩)
    · have e1 : decide (ga ≤ 0) = false := decide_eq_false h1
      rw [if_neg (fun h => h1 h.1)]
      by_cases hz : z < 0
      · rw [if_pos hz]
        generalize ((a : Nat) : Int) = p at *
        generalize ((b : Nat) : Int) = q at *
        generalize ((u : Nat) : Int) = u1 at *
        generalize ((v : Nat) : Int) = v1 at *
        go_enter Tryz.func104, Tryz.ntmps104
        go_wp2_with fail
        refine (H1 _).out.mono ?_; rintro o w1 ⟨rfl, b1⟩; go_wp2_with fail
        refine (HOa _).out.mono ?_; rintro o w2 ⟨A2, C2, rfl, i2, b2⟩; go_wp2_with fail
        refine (HSa _ _ _).out.mono ?_; rintro o w3 ⟨rfl, b3⟩; go_wp2_with fail
        first
        | go_region_held3 (fun w' => w'.cell? ⟨w.heap.size, 0, none⟩ = some (.int .u64 p) ∧ w'.cell? ⟨w.heap.size, 1, none⟩ = some (.int .u64 q)) (first | (go_simp; done))
            (first
              | (go_at_call 59; refine (HA _).out.mono ?_; rintro o w6 ⟨rfl, b6⟩)
              | (go_at_call 59; refine (HB _).out.mono ?_; rintro o w7 ⟨rfl, b7⟩)
              | fail)
        | fail "region"
        all_goals (
          go_wp2_with fail
          refine (HC _).out.mono ?_; rintro o w8 ⟨rfl, b8⟩; go_wp2_with fail
          go_ret
          exact ⟨rfl, zbh⟩)
      · rw [if_neg hz]
        generalize ((a : Nat) : Int) = p at *
        generalize ((b : Nat) : Int) = q at *
        generalize ((u : Nat) : Int) = u1 at *
        generalize ((v : Nat) : Int) = v1 at *
        go_enter Tryz.func104, Tryz.ntmps104
        go_wp2_with fail
        refine (H1 _).out.mono ?_; rintro o w1 ⟨rfl, b1⟩; go_wp2_with fail
        refine (HOa _).out.mono ?_; rintro o w2 ⟨A2, C2, rfl, i2, b2⟩; go_wp2_with fail
        refine (HSa _ _ _).out.mono ?_; rintro o w3 ⟨rfl, b3⟩; go_wp2_with fail
        first
        | go_region_held3 (fun w' => w'.cell? ⟨w.heap.size, 0, none⟩ = some (.int .u64 p) ∧ w'.cell? ⟨w.heap.size, 1, none⟩ = some (.int .u64 q)) (first | (go_simp; done))
            (first
              | (go_at_call 59; refine (HA _).out.mono ?_; rintro o w6 ⟨rfl, b6⟩)
              | (go_at_call 59; refine (HB _).out.mono ?_; rintro o w7 ⟨rfl, b7⟩)
              | fail)
        | fail "region"
        all_goals (
          go_wp2_with fail
          refine (HC _).out.mono ?_; rintro o w8 ⟨rfl, b8⟩; go_wp2_with fail
          go_ret
          exact ⟨rfl, zbh⟩)
end Go.Proofs.YtakbappmkdaioaaGreatDoor


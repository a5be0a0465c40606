/-
  Walks: package sparseref05: plus, All, sign, rounded, outward, sum, product.
  Walks: package sparseref05: product, span.
  Walks: package sparseref05: Point, Neg, Add, Sub, Mid, Mag, Mig.
-/
import Derived.Test.YtgicceiimciafaaGreatDoorZeJg
import Derived.Test.YtgicceiimciafaaGreatDoorZeIW
import Derived.Test.YtgicceiimciafaaGreatDoorZeS3g
import Derived.Test.YtgicceiimciafaaGreatDoorZeRV
import Derived.Test.YtgicceiimciafaaGreatDoorZeVN
import Derived.Test.YtgicceiimciafaaGreatDoorZeJA
import Derived.Test.YtgicceiimciafaaGreatDoorZeGQ
import Derived.Test.YtgicceiimciafaaGreatDoorZeBg
import Derived.Laws.EntriesVeiled
set_option maxRecDepth 100000
set_option maxHeartbeats 20000000
namespace Go.Proofs.YtgicceiimciafaaGreatDoor
open Go.RowKit Sp
attribute [local irreducible] Calls
theorem nplus_any (w : World) (f : Nat) (_hf : f < 18446744073709551616) : Calls Tryz.prog 54 #[.int .u64 (f : Nat)] w fun o w' => o = .returned (.int .u64 (fclean f : Nat)) ∧ w = w' := by
 unfold fclean
 by_cases h : f = 9223372036854775808
 · rw [if_pos h]
   subst h
   go_enter Tryz.func54, Tryz.ntmps54
   go_wp2
   go_ret
   exact ⟨rfl, rfl⟩
 · rw [if_neg h]
   have hq : ¬ ((f : Nat) : Int) = 9223372036854775808 := by omega
   generalize ((f : Nat) : Int) = p at *
   go_enter Tryz.func54, Tryz.ntmps54
   go_wp2
   go_ret
   exact ⟨rfl, rfl⟩
theorem nall_any (w : World) : Calls Tryz.prog 53 #[] w fun o w' => o = .returned (.agg #[.int .u64 18442240474082181120, .int .u64 9218868437227405312]) ∧ Below w.heap.size w w' := by
 go_enter Tryz.func53, Tryz.ntmps53
 go_wp2_with fail
 refine bodyPost_ret (v := .agg #[.int .u64 18442240474082181120, .int .u64 9218868437227405312]) (by simp only [results, Tryz.results53]; go_simp) rfl ?_
 exact ⟨rfl, zbh⟩
theorem nsign_any (w : World) [Tb w] (i : Int) (v s : Bool) (A : Option Addr) (n c : Nat) (e : Int) (d : Option (Int × Int)) [hd : DS w v s A n c e d] :
 Calls Tryz.prog 68 #[.agg #[.int .i64 i, .bool v, .bool s, .slice A n c, .int .i64 e]] w fun o w' => o = .returned (.int .i64 (nsg i d)) ∧ Below w.heap.size w w' := by
 have HS := fun W [h1 : DS W v s A n c e d] [Tb W] => Lib.hid (frm (rdsign_any W v s A n c e d h1.out tb))
 unfold nsg
 generalize sg (dman d) = z at *
 by_cases h : i = 0
 · rw [if_neg (fun q => q h)]
   subst h
   go_enter Tryz.func68, Tryz.ntmps68
   go_wp2_with fail
   refine (HS _).out.mono ?_; rintro o w1 ⟨rfl, b1⟩; go_wp2_with fail
   go_ret
   exact ⟨rfl, zbh⟩
 · rw [if_pos h]
   go_enter Tryz.func68, Tryz.ntmps68
   go_wp2_with fail
   go_ret
   exact ⟨rfl, zbh⟩
theorem nround_any (w : World) [Tb w] (i : Int) (v s : Bool) (A : Option Addr) (n c : Nat) (e : Int) (d : Option (Int × Int)) [hd : DS w v s A n c e d] (m : Int) :
 Calls Tryz.prog 106 #[.agg #[.int .i64 i, .bool v, .bool s, .slice A n c, .int .i64 e], .int .i64 m] w fun o w' => o = .returned (.int .u64 (nrnd i d m : Nat)) ∧ Below w.heap.size w w' := by
 have HS := fun W [h1 : DS W v s A n c e d] [Tb W] => Lib.hid (frm (r3round_any W v s A n c e m d h1.out tb))
 have HP := fun W => Lib.hid (frw (nplus_any W (fround d m) (fround_lt' _ _)))
 unfold nrnd
 generalize fclean (fround d m) = z at *
 generalize fround d m = y at *
 by_cases h1 : i = 1
 · rw [if_pos h1]
   subst h1
   show Calls _ _ _ _ fun o w' => o = .returned (.int .u64 9218868437227405312) ∧ Below w.heap.size w w'
   go_enter Tryz.func106, Tryz.ntmps106
   go_wp2_with fail
   go_ret
   exact ⟨rfl, zbh⟩
 · rw [if_neg h1]
   by_cases h2 : i = -1
   · rw [if_pos h2]
     subst h2
     show Calls _ _ _ _ fun o w' => o = .returned (.int .u64 18442240474082181120) ∧ Below w.heap.size w w'
     go_enter Tryz.func106, Tryz.ntmps106
     go_wp2_with fail
     go_ret
     exact ⟨rfl, zbh⟩
   · rw [if_neg h2]
     generalize ((z : Nat) : Int) = z' at *
     generalize ((y : Nat) : Int) = y' at *
     go_enter Tryz.func106, Tryz.ntmps106
     go_wp2_with fail
     refine (HS _).out.mono ?_; rintro o w1 ⟨rfl, b1⟩; go_wp2_with fail
     refine (HP _).out.mono ?_; rintro o w2 ⟨rfl, b2⟩; go_wp2_with fail
     go_ret
     exact ⟨rfl, zbh⟩
theorem nsum_any (w : World) [Tb w] (i : Int) (v s : Bool) (A : Option Addr) (n c : Nat) (e : Int) (d : Option (Int × Int)) (i' : Int) (v' s' : Bool) (A' : Option Addr) (n' c' : Nat) (e' : Int) (d' : Option (Int × Int)) [hd : DS w v s A n c e d] [hd' : DS w v' s' A' n' c' e' d'] :
 Calls Tryz.prog 59 #[.agg #[.int .i64 i, .bool v, .bool s, .slice A n c, .int .i64 e], .agg #[.int .i64 i', .bool v', .bool s', .slice A' n' c', .int .i64 e']] w fun o w' => ∃ v s A n C e, o = .returned (.agg #[.int .i64 (nsum (i, d) (i', d')).1, .bool v, .bool s, .slice A n C, .int .i64 e]) ∧ DS w' v s A n C e (nsum (i, d) (i', d')).2 ∧ From w w' := by
 have HS := fun W [h1 : DS W v s A n c e d] [h2 : DS W v' s' A' n' c' e' d'] [Tb W] => Lib.hid (frsF (show IsN (dadd d d') from isN_add _ _) (rdadd_any W v s v' s' A A' n n' c c' e e' d d' h1.out h2.out tb))
 unfold nsum
 dsimp only
 by_cases h : i = 0
 · rw [if_neg (fun q => q h)]
   subst h
   by_cases h' : i' = 0
   · rw [if_neg (fun q => q h')]
     subst h'
     generalize dadd d d' = z at *
     go_enter Tryz.func59, Tryz.ntmps59
     go_wp2_with fail
     refine (HS _).out.mono ?_; rintro o w1 ⟨a1, c1, rfl, i1, b1, m1, f1⟩
     have nb : 0 < nl (dman z).natAbs → ab a1 ≠ w.heap.size + 1 + 1 := fun h => by have := f1 h; simp at this; omega
     go_wp2_with fail
     refine bodyPost_ret (v := .agg #[.int .i64 0, .bool (dbad z), .bool (decide (dman z < 0)), .slice a1 (nl (dman z).natAbs) c1, .int .i64 (dexp z)]) (by simp only [results, Tryz.results59]; go_simp) rfl ?_
     exact ⟨_, _, _, _, _, _, rfl, ⟨dys_of i1.out.1.isN (Mag.st5 m1.out nb _ _ _ _ _)⟩, ⟨zbh⟩⟩
   · rw [if_pos h']
     go_enter Tryz.func59, Tryz.ntmps59
     go_wp2_with fail
     refine bodyPost_ret (v := .agg #[.int .i64 i', .bool v', .bool s', .slice A' n' c', .int .i64 e']) (by simp only [results, Tryz.results59]; go_simp) rfl ?_
     exact ⟨_, _, _, _, _, _, rfl, ⟨DyIs.below hd'.out zbh⟩, ⟨zbh⟩⟩
 · rw [if_pos h]
   go_enter Tryz.func59, Tryz.ntmps59
   go_wp2_with fail
   refine bodyPost_ret (v := .agg #[.int .i64 i, .bool v, .bool s, .slice A n c, .int .i64 e]) (by simp only [results, Tryz.results59]; go_simp) rfl ?_
   exact ⟨_, _, _, _, _, _, rfl, ⟨DyIs.below hd.out zbh⟩, ⟨zbh⟩⟩
theorem nout_any (w : World) [Tb w] (i : Int) (v s : Bool) (A : Option Addr) (n c : Nat) (e : Int) (d : Option (Int × Int)) (i' : Int) (v' s' : Bool) (A' : Option Addr) (n' c' : Nat) (e' : Int) (d' : Option (Int × Int)) [hd : DS w v s A n c e d] [hd' : DS w v' s' A' n' c' e' d'] :
 Calls Tryz.prog 58 #[.agg #[.int .i64 i, .bool v, .bool s, .slice A n c, .int .i64 e], .agg #[.int .i64 i', .bool v', .bool s', .slice A' n' c', .int .i64 e']] w fun o w' => o = .returned (.agg #[.int .u64 ((nout (i, d) (i', d')).1 : Nat), .int .u64 ((nout (i, d) (i', d')).2 : Nat)]) ∧ Below w.heap.size w w' := by
 have H1 := fun W [h1 : DS W v s A n c e d] [Tb W] => Lib.hid (frm (nround_any W i v s A n c e d 1))
 have H2 := fun W [h1 : DS W v' s' A' n' c' e' d'] [Tb W] => Lib.hid (frm (nround_any W i' v' s' A' n' c' e' d' 2))
 show Calls _ _ _ _ fun o w' => o = .returned (.agg #[.int .u64 (nrnd i d 1 : Nat), .int .u64 (nrnd i' d' 2 : Nat)]) ∧ Below w.heap.size w w'
 generalize ((nrnd i d 1 : Nat) : Int) = p at *
 generalize ((nrnd i' d' 2 : Nat) : Int) = q at *
 go_enter Tryz.func58, Tryz.ntmps58
 go_wp2_with fail
 first
 | go_region_held3 (fun w' => w'.cell? ⟨w.heap.size, 0, none⟩ = some (.int .i64 i) ∧ w'.cell? ⟨w.heap.size, 1, none⟩ = some (.bool v) ∧ w'.cell? ⟨w.heap.size, 2, none⟩ = some (.bool s) ∧ w'.cell? ⟨w.heap.size, 3, none⟩ = some (.slice A n c) ∧ w'.cell? ⟨w.heap.size, 4, none⟩ = some (.int .i64 e) ∧ w'.cell? ⟨w.heap.size + 1, 0, none⟩ = some (.int .i64 i') ∧ w'.cell? ⟨w.heap.size + 1, 1, none⟩ = some (.bool v') ∧ w'.cell? ⟨w.heap.size + 1, 2, none⟩ = some (.bool s') ∧ w'.cell? ⟨w.heap.size + 1, 3, none⟩ = some (.slice A' n' c') ∧ w'.cell? ⟨w.heap.size + 1, 4, none⟩ = some (.int .i64 e')) (first | (go_simp; done))
  (first
   | (go_at_call 106; refine (H1 _).out.mono ?_; rintro o w1 ⟨rfl, b1⟩)
   | (go_at_call 106; refine (H2 _).out.mono ?_; rintro o w2 ⟨rfl, b2⟩)
   | fail)
 | fail "region"
 all_goals (
  go_wp2_with fail
  refine bodyPost_ret (v := .agg #[.int .u64 p, .int .u64 q]) (by simp only [results, Tryz.results58]; go_simp) rfl ?_
  exact ⟨rfl, zbh⟩)
end Go.Proofs.YtgicceiimciafaaGreatDoor
namespace Go.Proofs.YtgicceiimciafaaGreatDoor
open Go.RowKit Sp
set_option linter.unusedSimpArgs false
attribute [local irreducible] Calls
theorem nprod_any (w : World) [Tb w] (i : Int) (v s : Bool) (A : Option Addr) (n c : Nat) (e : Int) (d : Option (Int × Int)) (i' : Int) (v' s' : Bool) (A' : Option Addr) (n' c' : Nat) (e' : Int) (d' : Option (Int × Int)) [hd : DS w v s A n c e d] [hd' : DS w v' s' A' n' c' e' d'] (hw : IntKind.i64.wrap (nsg i d * nsg i' d') = nsg i d * nsg i' d') :
 Calls Tryz.prog 65 #[.agg #[.int .i64 i, .bool v, .bool s, .slice A n c, .int .i64 e], .agg #[.int .i64 i', .bool v', .bool s', .slice A' n' c', .int .i64 e']] w fun o w' => ∃ A C, o = .returned (.agg #[.int .i64 (nprod (i, d) (i', d')).1, .bool (dbad (nprod (i, d) (i', d')).2), .bool (decide (dman (nprod (i, d) (i', d')).2 < 0)), .slice A (nl (dman (nprod (i, d) (i', d')).2).natAbs) C, .int .i64 (dexp (nprod (i, d) (i', d')).2)]) ∧ DS w' (dbad (nprod (i, d) (i', d')).2) (decide (dman (nprod (i, d) (i', d')).2 < 0)) A (nl (dman (nprod (i, d) (i', d')).2).natAbs) C (dexp (nprod (i, d) (i', d')).2) (nprod (i, d) (i', d')).2 ∧ From w w' ∧ BI w' A (nl (dman (nprod (i, d) (i', d')).2).natAbs) C (dman (nprod (i, d) (i', d')).2).natAbs ∧ (0 < nl (dman (nprod (i, d) (i', d')).2).natAbs → w.heap.size ≤ ab A) := by
 have H1 := fun W [h1 : DS W v s A n c e d] [Tb W] => Lib.hid (frm (nsign_any W i v s A n c e d))
 have H2 := fun W [h1 : DS W v' s' A' n' c' e' d'] [Tb W] => Lib.hid (frm (nsign_any W i' v' s' A' n' c' e' d'))
 have HS := fun W [h1 : DS W v s A n c e d] [h2 : DS W v' s' A' n' c' e' d'] [Tb W] => Lib.hid (frsF (show IsN (dmul d d') from isN_mul _ _) (rdmul_any W v s v' s' A A' n n' c c' e e' d d' h1.out h2.out tb))
 unfold nprod n00
 dsimp only
 generalize nsg i d = p at *
 generalize nsg i' d' = q at *
 by_cases hz : p * q = 0
 · rw [if_neg (fun h => h.1 hz), if_pos hz]
   have hwz : IntKind.i64.wrap (p * q) = 0 := by rw [hw, hz]
   clear HS hz hw
   go_enter Tryz.func65, Tryz.ntmps65
   go_wp2_with fail
   first
   | go_region_held3 (fun w' => w'.cell? ⟨w.heap.size, 0, none⟩ = some (.int .i64 i) ∧ w'.cell? ⟨w.heap.size, 1, none⟩ = some (.bool v) ∧ w'.cell? ⟨w.heap.size, 2, none⟩ = some (.bool s) ∧ w'.cell? ⟨w.heap.size, 3, none⟩ = some (.slice A n c) ∧ w'.cell? ⟨w.heap.size, 4, none⟩ = some (.int .i64 e) ∧ w'.cell? ⟨w.heap.size + 1, 0, none⟩ = some (.int .i64 i') ∧ w'.cell? ⟨w.heap.size + 1, 1, none⟩ = some (.bool v') ∧ w'.cell? ⟨w.heap.size + 1, 2, none⟩ = some (.bool s') ∧ w'.cell? ⟨w.heap.size + 1, 3, none⟩ = some (.slice A' n' c') ∧ w'.cell? ⟨w.heap.size + 1, 4, none⟩ = some (.int .i64 e')) (first | (go_simp; done))
    (first
     | (go_at_call 68; refine (H1 _).out.mono ?_; rintro o w1 ⟨rfl, b1⟩)
     | (go_at_call 68; refine (H2 _).out.mono ?_; rintro o w2 ⟨rfl, b2⟩)
     | fail)
   | fail "region"
   all_goals (
    go_wp2_with fail
    refine bodyPost_ret (v := .agg #[.int .i64 0, .bool false, .bool false, .slice none 0 0, .int .i64 0]) (by simp only [results, Tryz.results65]; go_simp) rfl ?_
    exact ⟨none, 0, rfl, ⟨dys_of isN_00 (Mag.nil _)⟩, ⟨zbh⟩, ⟨Mag.nil _⟩, fun h => absurd h (by decide)⟩)
 · have hzb : (p * q != 0) = true := by simpa [bne] using hz
   by_cases hi : i = 0
   · subst hi
     by_cases hi' : i' = 0
     · subst hi'
       rw [if_neg (fun h => by rcases h.2 with k | k; exact k rfl; exact k rfl), if_neg hz]
       generalize dmul d d' = z at *
       go_enter Tryz.func65, Tryz.ntmps65
       go_wp2_with fail
       first
       | go_region_held3 (fun w' => w'.cell? ⟨w.heap.size, 0, none⟩ = some (.int .i64 0) ∧ w'.cell? ⟨w.heap.size, 1, none⟩ = some (.bool v) ∧ w'.cell? ⟨w.heap.size, 2, none⟩ = some (.bool s) ∧ w'.cell? ⟨w.heap.size, 3, none⟩ = some (.slice A n c) ∧ w'.cell? ⟨w.heap.size, 4, none⟩ = some (.int .i64 e) ∧ w'.cell? ⟨w.heap.size + 1, 0, none⟩ = some (.int .i64 0) ∧ w'.cell? ⟨w.heap.size + 1, 1, none⟩ = some (.bool v') ∧ w'.cell? ⟨w.heap.size + 1, 2, none⟩ = some (.bool s') ∧ w'.cell? ⟨w.heap.size + 1, 3, none⟩ = some (.slice A' n' c') ∧ w'.cell? ⟨w.heap.size + 1, 4, none⟩ = some (.int .i64 e')) (first | (go_simp; done))
        (first
         | (go_at_call 68; refine (H1 _).out.mono ?_; rintro o w1 ⟨rfl, b1⟩)
         | (go_at_call 68; refine (H2 _).out.mono ?_; rintro o w2 ⟨rfl, b2⟩)
         | fail)
       | fail "region"
       all_goals (
        go_wp2_with fail
        refine (HS _).out.mono ?_; rintro o w3 ⟨a1, c1, rfl, i1, b3, m1, f1⟩
        have nb : 0 < nl (dman z).natAbs → ab a1 ≠ w.heap.size + 1 + 1 := fun h => by
         have h0 := f1 h
         have := b1.out.size; have := b2.out.size
         simp at *; omega
        have fz : 0 < nl (dman z).natAbs → w.heap.size ≤ ab a1 := fun h => by
         have h0 := f1 h
         have := b1.out.size; have := b2.out.size
         simp at *; omega
        go_wp2_with fail
        refine bodyPost_ret (v := .agg #[.int .i64 0, .bool (dbad z), .bool (decide (dman z < 0)), .slice a1 (nl (dman z).natAbs) c1, .int .i64 (dexp z)]) (by simp only [results, Tryz.results65]; go_simp) rfl ?_
        exact ⟨_, _, rfl, ⟨dys_of i1.out.1.isN (Mag.st5 m1.out nb _ _ _ _ _)⟩, ⟨zbh⟩, ⟨Mag.st5 m1.out nb _ _ _ _ _⟩, fz⟩)
     · rw [if_pos ⟨hz, Or.inr hi'⟩]
       have hib : (i' != 0) = true := by simpa [bne] using hi'
       clear HS
       go_enter Tryz.func65, Tryz.ntmps65
       go_wp2_with fail
       first
       | go_region_held3 (fun w' => w'.cell? ⟨w.heap.size, 0, none⟩ = some (.int .i64 0) ∧ w'.cell? ⟨w.heap.size, 1, none⟩ = some (.bool v) ∧ w'.cell? ⟨w.heap.size, 2, none⟩ = some (.bool s) ∧ w'.cell? ⟨w.heap.size, 3, none⟩ = some (.slice A n c) ∧ w'.cell? ⟨w.heap.size, 4, none⟩ = some (.int .i64 e) ∧ w'.cell? ⟨w.heap.size + 1, 0, none⟩ = some (.int .i64 i') ∧ w'.cell? ⟨w.heap.size + 1, 1, none⟩ = some (.bool v') ∧ w'.cell? ⟨w.heap.size + 1, 2, none⟩ = some (.bool s') ∧ w'.cell? ⟨w.heap.size + 1, 3, none⟩ = some (.slice A' n' c') ∧ w'.cell? ⟨w.heap.size + 1, 4, none⟩ = some (.int .i64 e')) (first | (go_simp; done))
        (first
         | (go_at_call 68; refine (H1 _).out.mono ?_; rintro o w1 ⟨rfl, b1⟩)
         | (go_at_call 68; refine (H2 _).out.mono ?_; rintro o w2 ⟨rfl, b2⟩)
         | fail)
       | fail "region"
       all_goals (
        go_wp2_with fail
        refine bodyPost_ret (v := .agg #[.int .i64 (p * q), .bool false, .bool false, .slice none 0 0, .int .i64 0]) (by simp only [results, Tryz.results65]; go_simp) rfl ?_
        exact ⟨none, 0, rfl, ⟨dys_of isN_00 (Mag.nil _)⟩, ⟨zbh⟩, ⟨Mag.nil _⟩, fun h => absurd h (by decide)⟩)
   · rw [if_pos ⟨hz, Or.inl hi⟩]
     have hib : (i != 0) = true := by simpa [bne] using hi
     clear HS
     go_enter Tryz.func65, Tryz.ntmps65
     go_wp2_with fail
     first
     | go_region_held3 (fun w' => w'.cell? ⟨w.heap.size, 0, none⟩ = some (.int .i64 i) ∧ w'.cell? ⟨w.heap.size, 1, none⟩ = some (.bool v) ∧ w'.cell? ⟨w.heap.size, 2, none⟩ = some (.bool s) ∧ w'.cell? ⟨w.heap.size, 3, none⟩ = some (.slice A n c) ∧ w'.cell? ⟨w.heap.size, 4, none⟩ = some (.int .i64 e) ∧ w'.cell? ⟨w.heap.size + 1, 0, none⟩ = some (.int .i64 i') ∧ w'.cell? ⟨w.heap.size + 1, 1, none⟩ = some (.bool v') ∧ w'.cell? ⟨w.heap.size + 1, 2, none⟩ = some (.bool s') ∧ w'.cell? ⟨w.heap.size + 1, 3, none⟩ = some (.slice A' n' c') ∧ w'.cell? ⟨w.heap.size + 1, 4, none⟩ = some (.int .i64 e')) (first | (go_simp; done))
      (first
       | (go_at_call 68; refine (H1 _).out.mono ?_; rintro o w1 ⟨rfl, b1⟩)
       | (go_at_call 68; refine (H2 _).out.mono ?_; rintro o w2 ⟨rfl, b2⟩)
       | fail)
     | fail "region"
     all_goals (
      go_wp2_with fail
      refine bodyPost_ret (v := .agg #[.int .i64 (p * q), .bool false, .bool false, .slice none 0 0, .int .i64 0]) (by simp only [results, Tryz.results65]; go_simp) rfl ?_
      exact ⟨none, 0, rfl, ⟨dys_of isN_00 (Mag.nil _)⟩, ⟨zbh⟩, ⟨Mag.nil _⟩, fun h => absurd h (by decide)⟩)
abbrev NB5 (w : World) (b : Nat) (i : Int) (d : Option (Int × Int)) (a : Option Addr) (c : Nat) : Prop := N5 w b (.int .i64 i) (.bool (dbad d)) (.bool (decide (dman d < 0))) (.slice a (nl (dman d).natAbs) c) (.int .i64 (dexp d))
structure SpS (I : Nat → Int) (d : Nat → Option (Int × Int)) (A : Nat → Option Addr) (C : Nat → Nat) (w : World) (z y j l : Nat) (wx : World) : Prop where
 beh : Below w.heap.size w wx
 b0 : NB5 wx (w.heap.size) (I 0) (d 0) (A 0) (C 0)
 b1 : NB5 wx (w.heap.size + 1) (I 1) (d 1) (A 1) (C 1)
 b2 : NB5 wx (w.heap.size + 1 + 1) (I 2) (d 2) (A 2) (C 2)
 b3 : NB5 wx (w.heap.size + 1 + 1 + 1) (I 3) (d 3) (A 3) (C 3)
 r4 : N5 wx (w.heap.size + 1 + 1 + 1 + 1) (.int .i64 0) (.bool false) (.bool false) (.slice none 0 0) (.int .i64 0)
 r5 : N5 wx (w.heap.size + 1 + 1 + 1 + 1 + 1) (.int .i64 0) (.bool false) (.bool false) (.slice none 0 0) (.int .i64 0)
 bz : NB5 wx z (I j) (d j) (A j) (C j)
 bl : NB5 wx y (I l) (d l) (A l) (C l)
 ne : z ≠ y
 hz : w.heap.size + 5 < z
 hy : w.heap.size + 5 < y
section
variable {I : Nat → Int} {d : Nat → Option (Int × Int)} {A : Nat → Option Addr} {C : Nat → Nat} {w wx : World} {z y j l : Nat}
theorem SpS.on (h : SpS I d A C w z y j l wx) {w' : World} (hb : From wx w') : SpS I d A C w z y j l w' :=
 ⟨h.beh.trans (hb.out.mono h.beh.size), h.b0.below hb.out, h.b1.below hb.out, h.b2.below hb.out, h.b3.below hb.out, h.r4.below hb.out, h.r5.below hb.out, h.bz.below hb.out, h.bl.below hb.out, h.ne, h.hz, h.hy⟩
def set5 (w : World) (g : Nat) (i : Int) (d : Option (Int × Int)) (a : Option Addr) (c : Nat) : World :=
 ((((w.setCell ⟨g, 0, none⟩ (.int .i64 i)).setCell ⟨g, 1, none⟩ (.bool (dbad d))).setCell ⟨g, 2, none⟩ (.bool (decide (dman d < 0)))).setCell ⟨g, 3, none⟩ (.slice a (nl (dman d).natAbs) c)).setCell ⟨g, 4, none⟩ (.int .i64 (dexp d))
theorem SpS.setz (h : SpS I d A C w z y j l wx) (k : Nat) : SpS I d A C w z y k l (set5 wx z (I k) (d k) (A k) (C k)) := by
 have := h.hz
 have hs : w.heap.size ≤ z := by omega
 exact ⟨((((h.beh.setCell hs _).setCell hs _).setCell hs _).setCell hs _).setCell hs _, h.b0.st5 (by omega) _ _ _ _ _, h.b1.st5 (by omega) _ _ _ _ _, h.b2.st5 (by omega) _ _ _ _ _, h.b3.st5 (by omega) _ _ _ _ _, h.r4.st5 (by omega) _ _ _ _ _, h.r5.st5 (by omega) _ _ _ _ _, h.bz.set5 _ _ _ _ _, h.bl.st5 h.ne.symm _ _ _ _ _, h.ne, h.hz, h.hy⟩
theorem SpS.sety (h : SpS I d A C w z y j l wx) (k : Nat) : SpS I d A C w z y j k (set5 wx y (I k) (d k) (A k) (C k)) := by
 have := h.hy
 have hs : w.heap.size ≤ y := by omega
 exact ⟨((((h.beh.setCell hs _).setCell hs _).setCell hs _).setCell hs _).setCell hs _, h.b0.st5 (by omega) _ _ _ _ _, h.b1.st5 (by omega) _ _ _ _ _, h.b2.st5 (by omega) _ _ _ _ _, h.b3.st5 (by omega) _ _ _ _ _, h.r4.st5 (by omega) _ _ _ _ _, h.r5.st5 (by omega) _ _ _ _ _, h.bz.st5 h.ne _ _ _ _ _, h.bl.set5 _ _ _ _ _, h.ne, h.hz, h.hy⟩
end
theorem nspan_any (w : World) [ht : Tb w] (I : Nat → Int) (d : Nat → Option (Int × Int)) (A : Nat → Option Addr) (C : Nat → Nat) (hI : ∀ k, k < 4 → IsN (d k)) (hD : ∀ k, k < 4 → Mag w (A k) (nl (dman (d k)).natAbs) (C k) (dman (d k)).natAbs) :
 Calls Tryz.prog 64 #[.agg #[.int .i64 (I 0), .bool (dbad (d 0)), .bool (decide (dman (d 0) < 0)), .slice (A 0) (nl (dman (d 0)).natAbs) (C 0), .int .i64 (dexp (d 0))], .agg #[.int .i64 (I 1), .bool (dbad (d 1)), .bool (decide (dman (d 1) < 0)), .slice (A 1) (nl (dman (d 1)).natAbs) (C 1), .int .i64 (dexp (d 1))], .agg #[.int .i64 (I 2), .bool (dbad (d 2)), .bool (decide (dman (d 2) < 0)), .slice (A 2) (nl (dman (d 2)).natAbs) (C 2), .int .i64 (dexp (d 2))], .agg #[.int .i64 (I 3), .bool (dbad (d 3)), .bool (decide (dman (d 3) < 0)), .slice (A 3) (nl (dman (d 3)).natAbs) (C 3), .int .i64 (dexp (d 3))]] w fun o w' => ∃ j l, j < 4 ∧ l < 4 ∧ (I j, d j) = nlo4 (I 0, d 0) (I 1, d 1) (I 2, d 2) (I 3, d 3) ∧ (I l, d l) = nhi4 (I 0, d 0) (I 1, d 1) (I 2, d 2) (I 3, d 3) ∧
  o = .returned (.tuple #[.agg #[.int .i64 (I j), .bool (dbad (d j)), .bool (decide (dman (d j) < 0)), .slice (A j) (nl (dman (d j)).natAbs) (C j), .int .i64 (dexp (d j))], .agg #[.int .i64 (I l), .bool (dbad (d l)), .bool (decide (dman (d l) < 0)), .slice (A l) (nl (dman (d l)).natAbs) (C l), .int .i64 (dexp (d l))]]) ∧ From w w' := by
 have HL := fun (a b : Nat) W [i1 : DS W (dbad (d a)) (decide (dman (d a) < 0)) (A a) (nl (dman (d a)).natAbs) (C a) (dexp (d a)) (d a)] [i2 : DS W (dbad (d b)) (decide (dman (d b) < 0)) (A b) (nl (dman (d b)).natAbs) (C b) (dexp (d b)) (d b)] [Tb W] => Lib.hid (frm (rless_any W (I a) (I b) _ _ _ _ (A a) (A b) _ _ (C a) (C b) _ _ (d a) (d b) (h1 := i1) (h2 := i2)))
 have HD := Lib.hid hD
 have HI := Lib.hid hI
 clear hD hI
 go_enter Tryz.func64, Tryz.ntmps64
 go_wp2_with fail
 go_cut [10, 11] (fun p q wx => ∃ z y, p = .pointer (some ⟨z, 0, none⟩) ∧ q = .pointer (some ⟨y, 0, none⟩) ∧ SpS I d A C w z y 0 0 wx)
 case first =>
  refine wp_region_from (by kernel_rfl) (fun w0 b0 => ?_)
  have m0 : Mag w0 (A 0) (nl (dman (d 0)).natAbs) (C 0) (dman (d 0)).natAbs := (HD.out 0 (by omega)).below zbh
  refine tkz 0 12 (.agg #[.int .i64 (I 0), .bool (dbad (d 0)), .bool (decide (dman (d 0) < 0)), .slice (A 0) (nl (dman (d 0)).natAbs) (C 0), .int .i64 (dexp (d 0))]) (hy := fun w hSw => by haveI : From w0 w := ⟨hSw⟩; go_simp) (hS := Below.refl _ _) (h := ?_)
  refine tkz 1 13 (.agg #[.int .i64 (I 0), .bool (dbad (d 0)), .bool (decide (dman (d 0) < 0)), .slice (A 0) (nl (dman (d 0)).natAbs) (C 0), .int .i64 (dexp (d 0))]) (hy := fun w hSw => by haveI : From w0 w := ⟨hSw⟩; go_simp) (hS := Below.refl _ _) (h := ?_)
  have hN0 := ((NS.start w0 (fun _ => I 0) (fun _ => d 0) (fun _ => 0) (fun _ => A 0) (fun _ => C 0)).num 0 rfl (A 0) (C 0) m0 (fun _ h => absurd h Bool.false_ne_true)).num 1 rfl (A 0) (C 0) m0 (fun _ h => absurd h Bool.false_ne_true)
  refine wpAnyH_ns w0 (fun _ => I 0) (fun _ => d 0) (fun al ca st ex => #[true, true, al 0, al 1, st 0, st 1]) (fun al ca ex bf af cf => [(10, PT (al 0) (bf 0)), (11, PT (al 1) (bf 1))]) (fun al ca st ex af cf => ca 0 = true ∧ ca 1 = true ∧ af 0 = A 0 ∧ cf 0 = C 0 ∧ af 1 = A 0 ∧ cf 1 = C 0) rfl hN0 (ex := fun _ => false) ⟨rfl, rfl, rfl, rfl, rfl, rfl⟩ rfl (by simp only [fillA, List.setIfInBounds_toArray, List.set_cons_zero, List.set_cons_succ] <;> rfl) (by decide) (by kernel_rfl) (fun _ _ _ _ => rfl) ?_ ?_
  · intro al ca st ex bf af cf vw hN hX hw0
    repeat' (first | exact AllI.nil | refine AllI.cons ?_ ?_)
    · intro h; cases h
    · intro h; cases h
    · intro (hl : al 0 = false) _ K hK
      simp [go_sem]
      exact ns_al hK hN 0 hl hX
    · intro (hl : al 1 = false) _ K hK
      simp [go_sem]
      exact ns_al hK hN 1 hl hX
    · intro _ haf K hK
      have h1 : al 0 = true := haf ⟨2, .data⟩ (by simp) rfl
      have h2 : ca 0 = true := hX.1
      clear haf
      haveI hz := (hN.bx 0 h1).2.spec
      simp [fillA, h1, PT_true, go_sem]
      have hS := hN.store 0 h1 h2
      rw [hX.2.2.1, hX.2.2.2.1] at hS
      exact ns_st hK 0 hS hX (by simp only [fillA, h1, PT_true, List.setIfInBounds_toArray, List.set_cons_zero, List.set_cons_succ] <;> rfl)
    · intro _ haf K hK
      have h1 : al 1 = true := haf ⟨3, .data⟩ (by simp) rfl
      have h2 : ca 1 = true := hX.2.1
      clear haf
      haveI hz := (hN.bx 1 h1).2.spec
      simp [fillA, h1, PT_true, go_sem]
      have hS := hN.store 1 h1 h2
      rw [hX.2.2.2.2.1, hX.2.2.2.2.2] at hS
      exact ns_st hK 1 hS hX (by simp only [fillA, h1, PT_true, List.setIfInBounds_toArray, List.set_cons_zero, List.set_cons_succ] <;> rfl)
  · intro al ca st ex bf af cf vw hN hX hw0 hall
    have q2 : al 0 = true := hall 2 (by decide)
    have q3 : al 1 = true := hall 3 (by decide)
    have q4 : st 0 = true := hall 4 (by decide)
    have q5 : st 1 = true := hall 5 (by decide)
    clear hall
    simp only [fillA, q2, q3, PT_true, NT_true, VT_true, List.setIfInBounds_toArray, List.set_cons_zero, List.set_cons_succ]
    have n0 := hN.se 0 q4
    have n1 := hN.se 1 q5
    rw [hX.2.2.1, hX.2.2.2.1] at n0
    rw [hX.2.2.2.2.1, hX.2.2.2.2.2] at n1
    have ne := hN.ne 0 1 (by decide) q2 q3
    have z0 := (hN.bx 0 q2).1
    have z1 := (hN.bx 1 q3).1
    have hs := b0.out.size
    simp at hs
    go_wp2_with fail
    go_meet
    refine ⟨_, _, rfl, rfl, ⟨zbh, inferInstance, inferInstance, inferInstance, inferInstance, inferInstance, inferInstance, n0.2.2, n1.2.2, ne, by omega, by omega⟩⟩
 case rest =>
  obtain ⟨z, y, rfl, rfl, H⟩ := hcut
  generalize wc = v at *
  have PL := Lib.hid (show (I 0, d 0) = (I 0, d 0) from rfl)
  have PH := Lib.hid (show (I 0, d 0) = (I 0, d 0) from rfl)
  have jl : 0 < 4 := by omega
  have lh : 0 < 4 := by omega
  haveI e1 : NB5 v (w.heap.size + 1) (I 1) (d 1) (A 1) (C 1) := H.b1
  haveI e2 : NB5 v z (I 0) (d 0) (A 0) (C 0) := H.bz
  haveI e3 : DS v (dbad (d 1)) (decide (dman (d 1) < 0)) (A 1) (nl (dman (d 1)).natAbs) (C 1) (dexp (d 1)) (d 1) := ⟨dys_of (HI.out 1 (by omega)) ((HD.out 1 (by omega)).below H.beh)⟩
  haveI e4 : DS v (dbad (d 0)) (decide (dman (d 0) < 0)) (A 0) (nl (dman (d 0)).natAbs) (C 0) (dexp (d 0)) (d 0) := ⟨dys_of (HI.out 0 jl) ((HD.out 0 jl).below H.beh)⟩
  haveI e5 : Tb v := ⟨ht.out.below H.beh⟩
  go_wp2_with fail
  obtain ⟨q, hq⟩ : ∃ q, nless (I 1) (d 1) (I 0) (d 0) = q := ⟨_, rfl⟩
  have HQ := HL 1 0
  rw [hq] at HQ
  have hq := Lib.hid hq
  refine (HQ _).out.mono ?_
  rintro o w1 ⟨rfl, b1⟩
  go_upto_if 16 with fail
  go_cut [] (fun wx => ∃ i, i < 4 ∧ (I i, d i) = nmin (I 0, d 0) (I 1, d 1) ∧ SpS I d A C w z y i 0 wx)
  case first =>
   rcases two_ways q with rfl | rfl
   · go_wp2_with fail
     go_meet
     have H2 := (H.on b1).setz 1
     exact ⟨1, by omega, by unfold nmin; dsimp only; rw [if_pos hq.out], H2⟩
   · go_wp2_with fail
     go_meet
     exact ⟨0, jl, by unfold nmin; dsimp only; rw [if_neg (by rw [hq.out]; decide)], H.on b1⟩
  case rest =>
   clear e1 e2 e3 e4 e5 H PL b1
   (try clear jl)
   clear HQ hq
   obtain ⟨j1, jl, P', H⟩ := hcut
   have PL := Lib.hid P'
   clear P'
   clear w1 v
   generalize wc = v at *
   haveI e1 : NB5 v (w.heap.size + 1 + 1) (I 2) (d 2) (A 2) (C 2) := H.b2
   haveI e2 : NB5 v z (I j1) (d j1) (A j1) (C j1) := H.bz
   haveI e3 : DS v (dbad (d 2)) (decide (dman (d 2) < 0)) (A 2) (nl (dman (d 2)).natAbs) (C 2) (dexp (d 2)) (d 2) := ⟨dys_of (HI.out 2 (by omega)) ((HD.out 2 (by omega)).below H.beh)⟩
   haveI e4 : DS v (dbad (d j1)) (decide (dman (d j1) < 0)) (A j1) (nl (dman (d j1)).natAbs) (C j1) (dexp (d j1)) (d j1) := ⟨dys_of (HI.out j1 jl) ((HD.out j1 jl).below H.beh)⟩
   haveI e5 : Tb v := ⟨ht.out.below H.beh⟩
   go_wp2_with fail
   obtain ⟨q, hq⟩ : ∃ q, nless (I 2) (d 2) (I j1) (d j1) = q := ⟨_, rfl⟩
   have HQ := HL 2 j1
   rw [hq] at HQ
   have hq := Lib.hid hq
   refine (HQ _).out.mono ?_
   rintro o w1 ⟨rfl, b1⟩
   go_upto_if 20 with fail
   go_cut [] (fun wx => ∃ i, i < 4 ∧ (I i, d i) = nmin (nmin (I 0, d 0) (I 1, d 1)) (I 2, d 2) ∧ SpS I d A C w z y i 0 wx)
   case first =>
    rcases two_ways q with rfl | rfl
    · go_wp2_with fail
      go_meet
      have H2 := (H.on b1).setz 2
      exact ⟨2, by omega, by rw [← PL.out]; unfold nmin; dsimp only; rw [if_pos hq.out], H2⟩
    · go_wp2_with fail
      go_meet
      exact ⟨j1, jl, by rw [← PL.out]; unfold nmin; dsimp only; rw [if_neg (by rw [hq.out]; decide)], H.on b1⟩
   case rest =>
    clear e1 e2 e3 e4 e5 H PL b1
    (try clear jl)
    clear HQ hq
    obtain ⟨j2, jl, P', H⟩ := hcut
    have PL := Lib.hid P'
    clear P'
    clear w1 v
    generalize wc = v at *
    haveI e1 : NB5 v (w.heap.size + 1 + 1 + 1) (I 3) (d 3) (A 3) (C 3) := H.b3
    haveI e2 : NB5 v z (I j2) (d j2) (A j2) (C j2) := H.bz
    haveI e3 : DS v (dbad (d 3)) (decide (dman (d 3) < 0)) (A 3) (nl (dman (d 3)).natAbs) (C 3) (dexp (d 3)) (d 3) := ⟨dys_of (HI.out 3 (by omega)) ((HD.out 3 (by omega)).below H.beh)⟩
    haveI e4 : DS v (dbad (d j2)) (decide (dman (d j2) < 0)) (A j2) (nl (dman (d j2)).natAbs) (C j2) (dexp (d j2)) (d j2) := ⟨dys_of (HI.out j2 jl) ((HD.out j2 jl).below H.beh)⟩
    haveI e5 : Tb v := ⟨ht.out.below H.beh⟩
    go_wp2_with fail
    obtain ⟨q, hq⟩ : ∃ q, nless (I 3) (d 3) (I j2) (d j2) = q := ⟨_, rfl⟩
    have HQ := HL 3 j2
    rw [hq] at HQ
    have hq := Lib.hid hq
    refine (HQ _).out.mono ?_
    rintro o w1 ⟨rfl, b1⟩
    go_upto_if 24 with fail
    go_cut [] (fun wx => ∃ i, i < 4 ∧ (I i, d i) = nlo4 (I 0, d 0) (I 1, d 1) (I 2, d 2) (I 3, d 3) ∧ SpS I d A C w z y i 0 wx)
    case first =>
     rcases two_ways q with rfl | rfl
     · go_wp2_with fail
       go_meet
       have H2 := (H.on b1).setz 3
       exact ⟨3, by omega, by unfold nlo4; rw [← PL.out]; unfold nmin; dsimp only; rw [if_pos hq.out], H2⟩
     · go_wp2_with fail
       go_meet
       exact ⟨j2, jl, by unfold nlo4; rw [← PL.out]; unfold nmin; dsimp only; rw [if_neg (by rw [hq.out]; decide)], H.on b1⟩
    case rest =>
     clear e1 e2 e3 e4 e5 H PL b1
     (try clear jl)
     clear HQ hq
     obtain ⟨j3, jl, P', H⟩ := hcut
     have PL := Lib.hid P'
     clear P'
     clear w1 v
     generalize wc = v at *
     haveI e1 : NB5 v (w.heap.size + 1) (I 1) (d 1) (A 1) (C 1) := H.b1
     haveI e2 : NB5 v y (I 0) (d 0) (A 0) (C 0) := H.bl
     haveI e3 : DS v (dbad (d 1)) (decide (dman (d 1) < 0)) (A 1) (nl (dman (d 1)).natAbs) (C 1) (dexp (d 1)) (d 1) := ⟨dys_of (HI.out 1 (by omega)) ((HD.out 1 (by omega)).below H.beh)⟩
     haveI e4 : DS v (dbad (d 0)) (decide (dman (d 0) < 0)) (A 0) (nl (dman (d 0)).natAbs) (C 0) (dexp (d 0)) (d 0) := ⟨dys_of (HI.out 0 lh) ((HD.out 0 lh).below H.beh)⟩
     haveI e5 : Tb v := ⟨ht.out.below H.beh⟩
     go_wp2_with fail
     obtain ⟨q, hq⟩ : ∃ q, nless (I 0) (d 0) (I 1) (d 1) = q := ⟨_, rfl⟩
     have HQ := HL 0 1
     rw [hq] at HQ
     have hq := Lib.hid hq
     refine (HQ _).out.mono ?_
     rintro o w1 ⟨rfl, b1⟩
     go_upto_if 28 with fail
     go_cut [] (fun wx => ∃ i, i < 4 ∧ (I i, d i) = nmax (I 0, d 0) (I 1, d 1) ∧ SpS I d A C w z y j3 i wx)
     case first =>
      rcases two_ways q with rfl | rfl
      · go_wp2_with fail
        go_meet
        have H2 := (H.on b1).sety 1
        exact ⟨1, by omega, by unfold nmax; dsimp only; rw [if_pos hq.out], H2⟩
      · go_wp2_with fail
        go_meet
        exact ⟨0, lh, by unfold nmax; dsimp only; rw [if_neg (by rw [hq.out]; decide)], H.on b1⟩
     case rest =>
      clear e1 e2 e3 e4 e5 H PH b1
      (try clear lh)
      clear HQ hq
      obtain ⟨l1, lh, P', H⟩ := hcut
      have PH := Lib.hid P'
      clear P'
      clear w1 v
      generalize wc = v at *
      haveI e1 : NB5 v (w.heap.size + 1 + 1) (I 2) (d 2) (A 2) (C 2) := H.b2
      haveI e2 : NB5 v y (I l1) (d l1) (A l1) (C l1) := H.bl
      haveI e3 : DS v (dbad (d 2)) (decide (dman (d 2) < 0)) (A 2) (nl (dman (d 2)).natAbs) (C 2) (dexp (d 2)) (d 2) := ⟨dys_of (HI.out 2 (by omega)) ((HD.out 2 (by omega)).below H.beh)⟩
      haveI e4 : DS v (dbad (d l1)) (decide (dman (d l1) < 0)) (A l1) (nl (dman (d l1)).natAbs) (C l1) (dexp (d l1)) (d l1) := ⟨dys_of (HI.out l1 lh) ((HD.out l1 lh).below H.beh)⟩
      haveI e5 : Tb v := ⟨ht.out.below H.beh⟩
      go_wp2_with fail
      obtain ⟨q, hq⟩ : ∃ q, nless (I l1) (d l1) (I 2) (d 2) = q := ⟨_, rfl⟩
      have HQ := HL l1 2
      rw [hq] at HQ
      have hq := Lib.hid hq
      refine (HQ _).out.mono ?_
      rintro o w1 ⟨rfl, b1⟩
      go_upto_if 32 with fail
      go_cut [] (fun wx => ∃ i, i < 4 ∧ (I i, d i) = nmax (nmax (I 0, d 0) (I 1, d 1)) (I 2, d 2) ∧ SpS I d A C w z y j3 i wx)
      case first =>
       rcases two_ways q with rfl | rfl
       · go_wp2_with fail
         go_meet
         have H2 := (H.on b1).sety 2
         exact ⟨2, by omega, by rw [← PH.out]; unfold nmax; dsimp only; rw [if_pos hq.out], H2⟩
       · go_wp2_with fail
         go_meet
         exact ⟨l1, lh, by rw [← PH.out]; unfold nmax; dsimp only; rw [if_neg (by rw [hq.out]; decide)], H.on b1⟩
      case rest =>
       clear e1 e2 e3 e4 e5 H PH b1
       (try clear lh)
       clear HQ hq
       obtain ⟨l2, lh, P', H⟩ := hcut
       have PH := Lib.hid P'
       clear P'
       clear w1 v
       generalize wc = v at *
       haveI e1 : NB5 v (w.heap.size + 1 + 1 + 1) (I 3) (d 3) (A 3) (C 3) := H.b3
       haveI e2 : NB5 v y (I l2) (d l2) (A l2) (C l2) := H.bl
       haveI e3 : DS v (dbad (d 3)) (decide (dman (d 3) < 0)) (A 3) (nl (dman (d 3)).natAbs) (C 3) (dexp (d 3)) (d 3) := ⟨dys_of (HI.out 3 (by omega)) ((HD.out 3 (by omega)).below H.beh)⟩
       haveI e4 : DS v (dbad (d l2)) (decide (dman (d l2) < 0)) (A l2) (nl (dman (d l2)).natAbs) (C l2) (dexp (d l2)) (d l2) := ⟨dys_of (HI.out l2 lh) ((HD.out l2 lh).below H.beh)⟩
       haveI e5 : Tb v := ⟨ht.out.below H.beh⟩
       go_wp2_with fail
       obtain ⟨q, hq⟩ : ∃ q, nless (I l2) (d l2) (I 3) (d 3) = q := ⟨_, rfl⟩
       have HQ := HL l2 3
       rw [hq] at HQ
       have hq := Lib.hid hq
       refine (HQ _).out.mono ?_
       rintro o w1 ⟨rfl, b1⟩
       go_upto_if 36 with fail
       go_cut [] (fun wx => ∃ i, i < 4 ∧ (I i, d i) = nhi4 (I 0, d 0) (I 1, d 1) (I 2, d 2) (I 3, d 3) ∧ SpS I d A C w z y j3 i wx)
       case first =>
        rcases two_ways q with rfl | rfl
        · go_wp2_with fail
          go_meet
          have H2 := (H.on b1).sety 3
          exact ⟨3, by omega, by unfold nhi4; rw [← PH.out]; unfold nmax; dsimp only; rw [if_pos hq.out], H2⟩
        · go_wp2_with fail
          go_meet
          exact ⟨l2, lh, by unfold nhi4; rw [← PH.out]; unfold nmax; dsimp only; rw [if_neg (by rw [hq.out]; decide)], H.on b1⟩
       case rest =>
        clear e1 e2 e3 e4 e5 H PH b1
        (try clear lh)
        clear HQ hq
        obtain ⟨l3, lh, P', H⟩ := hcut
        have PH := Lib.hid P'
        clear P'
        clear w1 v
        generalize wc = v at *
        haveI e1 : NB5 v z (I j3) (d j3) (A j3) (C j3) := H.bz
        haveI e2 : NB5 v y (I l3) (d l3) (A l3) (C l3) := H.bl
        haveI e3 : N5 v (w.heap.size + 1 + 1 + 1 + 1) (.int .i64 0) (.bool false) (.bool false) (.slice none 0 0) (.int .i64 0) := H.r4
        haveI e4 : N5 v (w.heap.size + 1 + 1 + 1 + 1 + 1) (.int .i64 0) (.bool false) (.bool false) (.slice none 0 0) (.int .i64 0) := H.r5
        haveI e5 : Beh w v := ⟨H.beh⟩
        have k1 : ¬ z = w.heap.size + 1 + 1 + 1 + 1 := fun h => by have := H.hz; omega
        have k2 : ¬ z = w.heap.size + 1 + 1 + 1 + 1 + 1 := fun h => by have := H.hz; omega
        have k3 : ¬ y = w.heap.size + 1 + 1 + 1 + 1 := fun h => by have := H.hy; omega
        have k4 : ¬ y = w.heap.size + 1 + 1 + 1 + 1 + 1 := fun h => by have := H.hy; omega
        have k5 : ¬ w.heap.size + 1 + 1 + 1 + 1 = z := fun h => k1 h.symm
        have k6 : ¬ w.heap.size + 1 + 1 + 1 + 1 + 1 = z := fun h => k2 h.symm
        have k7 : ¬ w.heap.size + 1 + 1 + 1 + 1 = y := fun h => k3 h.symm
        have k8 : ¬ w.heap.size + 1 + 1 + 1 + 1 + 1 = y := fun h => k4 h.symm
        go_wp2_with fail
        go_region_with (fail)
        all_goals (
         go_wp2_with fail
         refine bodyPost_ret (v := .tuple #[.agg #[.int .i64 (I j3), .bool (dbad (d j3)), .bool (decide (dman (d j3) < 0)), .slice (A j3) (nl (dman (d j3)).natAbs) (C j3), .int .i64 (dexp (d j3))], .agg #[.int .i64 (I l3), .bool (dbad (d l3)), .bool (decide (dman (d l3) < 0)), .slice (A l3) (nl (dman (d l3)).natAbs) (C l3), .int .i64 (dexp (d l3))]]) (by simp only [results, Tryz.results64]; go_simp) rfl ?_
         exact ⟨j3, l3, jl, lh, PL.out, PH.out, rfl, ⟨zbh⟩⟩)
end Go.Proofs.YtgicceiimciafaaGreatDoor
namespace Go.Proofs.YtgicceiimciafaaGreatDoor
open Go.RowKit Sp
set_option linter.unusedSimpArgs false
attribute [local irreducible] Calls
theorem ineg_lt (x : Nat × Nat) : Lt64 (ineg x) := by unfold ineg; split; exact ires_lt (fneg_lt _) (fneg_lt _); exact iall_lt
theorem npoint_any (w : World) (a : Nat) (ha : a < 18446744073709551616) : Calls Tryz.prog 16 #[.int .u64 (a : Nat)] w fun o w' => o = .returned (.agg #[.int .u64 ((ipoint a).1 : Nat), .int .u64 ((ipoint a).2 : Nat)]) ∧ Below w.heap.size w w' := by
 have H1 := fun W => Lib.hid (frw (rfin_any W a))
 have H2 := fun W => Lib.hid (frw (nplus_any W a ha))
 have HW := fun W => Lib.hid (frm (nall_any W))
 unfold ipoint ires iall
 generalize ffin a = k1 at *
 cases k1
 · show Calls _ _ _ _ fun o w' => o = .returned (.agg #[.int .u64 18442240474082181120, .int .u64 9218868437227405312]) ∧ Below w.heap.size w w'
   clear H2
   generalize ((a : Nat) : Int) = p at *
   go_enter Tryz.func16, Tryz.ntmps16
   go_wp2_with fail
   refine (H1 _).out.mono ?_; rintro o w1 ⟨rfl, b1⟩; go_wp2_with fail
   refine (HW _).out.mono ?_; rintro o w2 ⟨rfl, b2⟩; go_wp2_with fail
   refine bodyPost_ret (v := .agg #[.int .u64 18442240474082181120, .int .u64 9218868437227405312]) (by simp only [results, Tryz.results16]; go_simp) rfl ?_
   exact ⟨rfl, zbh⟩
 · show Calls _ _ _ _ fun o w' => o = .returned (.agg #[.int .u64 (fclean a : Nat), .int .u64 (fclean a : Nat)]) ∧ Below w.heap.size w w'
   generalize ((fclean a : Nat) : Int) = q at *
   generalize ((a : Nat) : Int) = p at *
   go_enter Tryz.func16, Tryz.ntmps16
   go_wp2_with fail
   refine (H1 _).out.mono ?_; rintro o w1 ⟨rfl, b1⟩; go_wp2_with fail
   refine (H2 _).out.mono ?_; rintro o w2 ⟨rfl, b2⟩; go_wp2_with fail
   refine (H2 _).out.mono ?_; rintro o w3 ⟨rfl, b3⟩; go_wp2_with fail
   refine bodyPost_ret (v := .agg #[.int .u64 q, .int .u64 q]) (by simp only [results, Tryz.results16]; go_simp) rfl ?_
   exact ⟨rfl, zbh⟩
theorem nneg_any (w : World) (a : Nat) (b : Nat) (ha : a < 18446744073709551616) (hb : b < 18446744073709551616) : Calls Tryz.prog 18 #[.agg #[.int .u64 (a : Nat), .int .u64 (b : Nat)]] w fun o w' => o = .returned (.agg #[.int .u64 ((ineg (a, b)).1 : Nat), .int .u64 ((ineg (a, b)).2 : Nat)]) ∧ Below w.heap.size w w' := by
 have H1 := fun W => Lib.hid (frm (r5valid_any W a b ha hb))
 have HW := fun W => Lib.hid (frm (nall_any W))
 have HA := fun W => Lib.hid (frw (r3neg_any W b hb))
 have HB := fun W => Lib.hid (frw (r3neg_any W a ha))
 have HC := fun W => Lib.hid (frw (nplus_any W (fneg b) (fneg_lt _)))
 have HD := fun W => Lib.hid (frw (nplus_any W (fneg a) (fneg_lt _)))
 unfold ineg ires iall
 generalize iok (a, b) = k1 at *
 cases k1
 · show Calls _ _ _ _ fun o w' => o = .returned (.agg #[.int .u64 18442240474082181120, .int .u64 9218868437227405312]) ∧ Below w.heap.size w w'
   clear HA HB HC HD
   generalize ((a : Nat) : Int) = p at *
   generalize ((b : Nat) : Int) = q at *
   go_enter Tryz.func18, Tryz.ntmps18
   go_wp2_with fail
   refine (H1 _).out.mono ?_; rintro o w1 ⟨rfl, b1⟩; go_wp2_with fail
   refine (HW _).out.mono ?_; rintro o w2 ⟨rfl, b2⟩; go_wp2_with fail
   refine bodyPost_ret (v := .agg #[.int .u64 18442240474082181120, .int .u64 9218868437227405312]) (by simp only [results, Tryz.results18]; go_simp) rfl ?_
   exact ⟨rfl, zbh⟩
 · show Calls _ _ _ _ fun o w' => o = .returned (.agg #[.int .u64 (fclean (fneg b) : Nat), .int .u64 (fclean (fneg a) : Nat)]) ∧ Below w.heap.size w w'
   generalize ((fclean (fneg b) : Nat) : Int) = p2 at *
   generalize ((fclean (fneg a) : Nat) : Int) = q2 at *
   generalize ((fneg b : Nat) : Int) = p1 at *
   generalize ((fneg a : Nat) : Int) = q1 at *
   generalize ((a : Nat) : Int) = p at *
   generalize ((b : Nat) : Int) = q at *
   go_enter Tryz.func18, Tryz.ntmps18
   go_wp2_with fail
   refine (H1 _).out.mono ?_; rintro o w1 ⟨rfl, b1⟩; go_wp2_with fail
   first
   | go_region_held3 (fun w' => w'.cell? ⟨w.heap.size, 0, none⟩ = some (.int .u64 p) ∧ w'.cell? ⟨w.heap.size, 1, none⟩ = some (.int .u64 q)) (first | (go_simp; done))
    (first
     | (go_at_call 36; refine (HA _).out.mono ?_; rintro o w2 ⟨rfl, b2⟩)
     | (go_at_call 36; refine (HB _).out.mono ?_; rintro o w3 ⟨rfl, b3⟩)
     | (go_at_call 54; refine (HC _).out.mono ?_; rintro o w4 ⟨rfl, b4⟩)
     | (go_at_call 54; refine (HD _).out.mono ?_; rintro o w5 ⟨rfl, b5⟩)
     | fail)
   | fail "region"
   all_goals (
    go_wp2_with fail
    refine bodyPost_ret (v := .agg #[.int .u64 p2, .int .u64 q2]) (by simp only [results, Tryz.results18]; go_simp) rfl ?_
    exact ⟨rfl, zbh⟩)
theorem nadd_any (w : World) [Tb w] (a : Nat) (b : Nat) (c : Nat) (d : Nat) (ha : a < 18446744073709551616) (hb : b < 18446744073709551616) (hc : c < 18446744073709551616) (hd : d < 18446744073709551616) : Calls Tryz.prog 20 #[.agg #[.int .u64 (a : Nat), .int .u64 (b : Nat)], .agg #[.int .u64 (c : Nat), .int .u64 (d : Nat)]] w fun o w' => o = .returned (.agg #[.int .u64 ((raddI (a, b) (c, d)).1 : Nat), .int .u64 ((raddI (a, b) (c, d)).2 : Nat)]) ∧ Below w.heap.size w w' := by
 have H1 := fun W => Lib.hid (frm (r5valid_any W a b ha hb))
 have H2 := fun W => Lib.hid (frm (r5valid_any W c d hc hd))
 have HW := fun W => Lib.hid (frm (nall_any W))
 have HA := fun W [Tb W] => Lib.hid (rof_any W a ha)
 have HB := fun W [Tb W] => Lib.hid (rof_any W b hb)
 have HC := fun W [Tb W] => Lib.hid (rof_any W c hc)
 have HD := fun W [Tb W] => Lib.hid (rof_any W d hd)
 obtain ⟨s1, e1, h1⟩ : ∃ s e, nsum (nin a, nof a) (nin c, nof c) = (s, e) := ⟨_, _, rfl⟩
 have HS1 := fun W A C A' C' [i1 : DS W (dbad (nof a)) (decide (dman (nof a) < 0)) A (nl (dman (nof a)).natAbs) C (dexp (nof a)) (nof a)] [i2 : DS W (dbad (nof c)) (decide (dman (nof c) < 0)) A' (nl (dman (nof c)).natAbs) C' (dexp (nof c)) (nof c)] [Tb W] => Lib.hid (nsum_any W (nin a) _ _ A _ C _ (nof a) (nin c) _ _ A' _ C' _ (nof c) (hd := i1) (hd' := i2))
 rw [h1] at HS1
 dsimp only at HS1
 obtain ⟨s2, e2, h2⟩ : ∃ s e, nsum (nin b, nof b) (nin d, nof d) = (s, e) := ⟨_, _, rfl⟩
 have HS2 := fun W A C A' C' [i1 : DS W (dbad (nof b)) (decide (dman (nof b) < 0)) A (nl (dman (nof b)).natAbs) C (dexp (nof b)) (nof b)] [i2 : DS W (dbad (nof d)) (decide (dman (nof d) < 0)) A' (nl (dman (nof d)).natAbs) C' (dexp (nof d)) (nof d)] [Tb W] => Lib.hid (nsum_any W (nin b) _ _ A _ C _ (nof b) (nin d) _ _ A' _ C' _ (nof d) (hd := i1) (hd' := i2))
 rw [h2] at HS2
 dsimp only at HS2
 have HO := fun W v s A n C x v' s' A' n' C' x' [i1 : DS W v s A n C x e1] [i2 : DS W v' s' A' n' C' x' e2] [Tb W] => Lib.hid (frm (nout_any W s1 v s A n C x e1 s2 v' s' A' n' C' x' e2 (hd := i1) (hd' := i2)))
 unfold raddI nb
 have hv : (if (iok (a, b) && iok (c, d)) = true then nout (nsum (nin a, nof a) (nin c, nof c)) (nsum (nin b, nof b) (nin d, nof d)) else iall) = if (iok (a, b) && iok (c, d)) = true then nout (s1, e1) (s2, e2) else iall := by rw [h1, h2]
 rw [hv]
 clear hv h1 h2
 unfold iall
 generalize nout (s1, e1) (s2, e2) = V at *
 generalize nin a = ia at *
 generalize nof a = da at *
 generalize nin b = ib at *
 generalize nof b = db at *
 generalize nin c = ic at *
 generalize nof c = dc at *
 generalize nin d = id at *
 generalize nof d = dd at *
 generalize iok (a, b) = k1 at *
 generalize iok (c, d) = k2 at *
 generalize ((a : Nat) : Int) = p at *
 generalize ((b : Nat) : Int) = q at *
 generalize ((c : Nat) : Int) = r at *
 generalize ((d : Nat) : Int) = s at *
 cases k1
 · show Calls _ _ _ _ fun o w' => o = .returned (.agg #[.int .u64 18442240474082181120, .int .u64 9218868437227405312]) ∧ Below w.heap.size w w'
   clear H2
   go_enter Tryz.func20, Tryz.ntmps20
   go_wp2_with fail
   refine (H1 _).out.mono ?_; rintro o w1 ⟨rfl, b1⟩; go_wp2_with fail
   refine (HW _).out.mono ?_; rintro o w2 ⟨rfl, b2⟩; go_wp2_with fail
   refine bodyPost_ret (v := .agg #[.int .u64 18442240474082181120, .int .u64 9218868437227405312]) (by simp only [results, Tryz.results20]; go_simp) rfl ?_
   exact ⟨rfl, zbh⟩
 · cases k2
   · show Calls _ _ _ _ fun o w' => o = .returned (.agg #[.int .u64 18442240474082181120, .int .u64 9218868437227405312]) ∧ Below w.heap.size w w'
     go_enter Tryz.func20, Tryz.ntmps20
     go_wp2_with fail
     refine (H1 _).out.mono ?_; rintro o w1 ⟨rfl, b1⟩; go_wp2_with fail
     refine (H2 _).out.mono ?_; rintro o w2 ⟨rfl, b2⟩; go_wp2_with fail
     refine (HW _).out.mono ?_; rintro o w3 ⟨rfl, b3⟩; go_wp2_with fail
     refine bodyPost_ret (v := .agg #[.int .u64 18442240474082181120, .int .u64 9218868437227405312]) (by simp only [results, Tryz.results20]; go_simp) rfl ?_
     exact ⟨rfl, zbh⟩
   · skip
     go_enter Tryz.func20, Tryz.ntmps20
     go_wp2_with fail
     refine (H1 _).out.mono ?_; rintro o w1 ⟨rfl, b1⟩; go_wp2_with fail
     refine (H2 _).out.mono ?_; rintro o w2 ⟨rfl, b2⟩; go_wp2_with fail
     first
     | go_region_held3 (fun w' => w'.cell? ⟨w.heap.size, 0, none⟩ = some (.int .u64 p) ∧ w'.cell? ⟨w.heap.size, 1, none⟩ = some (.int .u64 q) ∧ w'.cell? ⟨w.heap.size + 1, 0, none⟩ = some (.int .u64 r) ∧ w'.cell? ⟨w.heap.size + 1, 1, none⟩ = some (.int .u64 s)) (first | (go_simp; done))
      (first
       | (go_at_call 60; refine (HA _).out.mono ?_; rintro o w3 ⟨A3, C3, rfl, i3, b3⟩)
       | (go_at_call 60; refine (HC _).out.mono ?_; rintro o w4 ⟨A4, C4, rfl, i4, b4⟩)
       | (go_at_call 59; refine (HS1 _ _ _ _ _).out.mono ?_; rintro o w5 ⟨v5, g5, A5, n5, C5, x5, rfl, i5, b5⟩)
       | (go_at_call 60; refine (HB _).out.mono ?_; rintro o w6 ⟨A6, C6, rfl, i6, b6⟩)
       | (go_at_call 60; refine (HD _).out.mono ?_; rintro o w7 ⟨A7, C7, rfl, i7, b7⟩)
       | (go_at_call 59; refine (HS2 _ _ _ _ _).out.mono ?_; rintro o w8 ⟨v8, g8, A8, n8, C8, x8, rfl, i8, b8⟩)
       | (go_at_call 58; refine (HO _ _ _ _ _ _ _ _ _ _ _ _ _).out.mono ?_; rintro o w9 ⟨rfl, b9⟩)
       | fail)
     | fail "region"
     all_goals (
      go_wp2_with fail
      refine bodyPost_ret (v := .agg #[.int .u64 (V.1 : Nat), .int .u64 (V.2 : Nat)]) (by simp only [results, Tryz.results20]; go_simp) rfl ?_
      exact ⟨rfl, zbh⟩)
theorem nsub_any (w : World) [Tb w] (a : Nat) (b : Nat) (c : Nat) (d : Nat) (ha : a < 18446744073709551616) (hb : b < 18446744073709551616) (hc : c < 18446744073709551616) (hd : d < 18446744073709551616) : Calls Tryz.prog 22 #[.agg #[.int .u64 (a : Nat), .int .u64 (b : Nat)], .agg #[.int .u64 (c : Nat), .int .u64 (d : Nat)]] w fun o w' => o = .returned (.agg #[.int .u64 ((rsubI (a, b) (c, d)).1 : Nat), .int .u64 ((rsubI (a, b) (c, d)).2 : Nat)]) ∧ Below w.heap.size w w' := by
 have H1 := fun W => Lib.hid (frm (r5valid_any W a b ha hb))
 have H2 := fun W => Lib.hid (frm (r5valid_any W c d hc hd))
 have HW := fun W => Lib.hid (frm (nall_any W))
 have HN := fun W => Lib.hid (frm (nneg_any W c d hc hd))
 have HA := fun W [Tb W] => Lib.hid (frm (nadd_any W a b (ineg (c, d)).1 (ineg (c, d)).2 ha hb (ineg_lt (c, d)).1 (ineg_lt (c, d)).2))
 unfold rsubI
 have hv : raddI (a, b) ((ineg (c, d)).1, (ineg (c, d)).2) = raddI (a, b) (ineg (c, d)) := rfl
 rw [hv] at HA
 clear hv
 unfold iall
 generalize raddI (a, b) (ineg (c, d)) = V at *
 generalize ineg (c, d) = N at *
 generalize iok (a, b) = k1 at *
 generalize iok (c, d) = k2 at *
 generalize ((a : Nat) : Int) = p at *
 generalize ((b : Nat) : Int) = q at *
 generalize ((c : Nat) : Int) = r at *
 generalize ((d : Nat) : Int) = s at *
 cases k1
 · show Calls _ _ _ _ fun o w' => o = .returned (.agg #[.int .u64 18442240474082181120, .int .u64 9218868437227405312]) ∧ Below w.heap.size w w'
   clear H2
   go_enter Tryz.func22, Tryz.ntmps22
   go_wp2_with fail
   refine (H1 _).out.mono ?_; rintro o w1 ⟨rfl, b1⟩; go_wp2_with fail
   refine (HW _).out.mono ?_; rintro o w2 ⟨rfl, b2⟩; go_wp2_with fail
   refine bodyPost_ret (v := .agg #[.int .u64 18442240474082181120, .int .u64 9218868437227405312]) (by simp only [results, Tryz.results22]; go_simp) rfl ?_
   exact ⟨rfl, zbh⟩
 · cases k2
   · show Calls _ _ _ _ fun o w' => o = .returned (.agg #[.int .u64 18442240474082181120, .int .u64 9218868437227405312]) ∧ Below w.heap.size w w'
     go_enter Tryz.func22, Tryz.ntmps22
     go_wp2_with fail
     refine (H1 _).out.mono ?_; rintro o w1 ⟨rfl, b1⟩; go_wp2_with fail
     refine (H2 _).out.mono ?_; rintro o w2 ⟨rfl, b2⟩; go_wp2_with fail
     refine (HW _).out.mono ?_; rintro o w3 ⟨rfl, b3⟩; go_wp2_with fail
     refine bodyPost_ret (v := .agg #[.int .u64 18442240474082181120, .int .u64 9218868437227405312]) (by simp only [results, Tryz.results22]; go_simp) rfl ?_
     exact ⟨rfl, zbh⟩
   · skip
     go_enter Tryz.func22, Tryz.ntmps22
     go_wp2_with fail
     refine (H1 _).out.mono ?_; rintro o w1 ⟨rfl, b1⟩; go_wp2_with fail
     refine (H2 _).out.mono ?_; rintro o w2 ⟨rfl, b2⟩; go_wp2_with fail
     first
     | go_region_held3 (fun w' => w'.cell? ⟨w.heap.size, 0, none⟩ = some (.int .u64 p) ∧ w'.cell? ⟨w.heap.size, 1, none⟩ = some (.int .u64 q) ∧ w'.cell? ⟨w.heap.size + 1, 0, none⟩ = some (.int .u64 r) ∧ w'.cell? ⟨w.heap.size + 1, 1, none⟩ = some (.int .u64 s)) (first | (go_simp; done))
      (first
       | (go_at_call 18; refine (HN _).out.mono ?_; rintro o w3 ⟨rfl, b3⟩)
       | (go_at_call 20; refine (HA _).out.mono ?_; rintro o w4 ⟨rfl, b4⟩)
       | fail)
     | fail "region"
     all_goals (
      go_wp2_with fail
      refine bodyPost_ret (v := .agg #[.int .u64 (V.1 : Nat), .int .u64 (V.2 : Nat)]) (by simp only [results, Tryz.results22]; go_simp) rfl ?_
      exact ⟨rfl, zbh⟩)
end Go.Proofs.YtgicceiimciafaaGreatDoor

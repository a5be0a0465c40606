/-
  Walks: package sparseref05: quotient, Sqrt.
  Walks: package sparseref05: Div.
-/
import Derived.Test.YtgicceiimciafaaGreatDoorZeVD
import Derived.Test.YtgicceiimciafaaGreatDoorZeS3f
import Derived.Test.YtgicceiimciafaaGreatDoorZeVN
set_option maxRecDepth 100000
set_option maxHeartbeats 20000000
namespace Go.Proofs.YtgicceiimciafaaGreatDoor
open Go.RowKit Sp
set_option linter.unusedSimpArgs false
attribute [local irreducible] Calls
theorem nquo_any (w : World) [Tb w] (i : Int) (v s : Bool) (A : Option Addr) (n c : Nat) (e : Int) (d : Option (Int × Int)) (i' : Int) (v' s' : Bool) (A' : Option Addr) (n' c' : Nat) (e' : Int) (d' : Option (Int × Int)) [hd : DS w v s A n c e d] [hd' : DS w v' s' A' n' c' e' d'] (m : Int) (hw : IntKind.i64.wrap (nsg i d * nsg i' d') = nsg i d * nsg i' d') :
 Calls Tryz.prog 69 #[.agg #[.int .i64 i, .bool v, .bool s, .slice A n c, .int .i64 e], .agg #[.int .i64 i', .bool v', .bool s', .slice A' n' c', .int .i64 e'], .int .i64 m] w fun o w' => o = .returned (.int .u64 (nquo (i, d) (i', d') m : Nat)) ∧ Below w.heap.size w w' := by
 have H1 := fun W [h1 : DS W v s A n c e d] [Tb W] => Lib.hid (frm (nsign_any W i v s A n c e d))
 have H2 := fun W [h1 : DS W v' s' A' n' c' e' d'] [Tb W] => Lib.hid (frm (nsign_any W i' v' s' A' n' c' e' d'))
 have HQ := fun W [h1 : DS W v s A n c e d] [h2 : DS W v' s' A' n' c' e' d'] [Tb W] => Lib.hid (frm (r3quo_any W v s A n c e d v' s' A' n' c' e' d' m h1.out h2.out tb))
 have HP := fun W => Lib.hid (frw (nplus_any W (fquo d d' m) (fquo_lt' _ _ _)))
 unfold nquo
 dsimp only
 generalize nsg i d = p at *
 generalize nsg i' d' = q at *
 obtain ⟨z, hz⟩ : ∃ z, p * q = z := ⟨_, rfl⟩
 have hw' : IntKind.i64.wrap (p * q) = z := hw.trans hz
 rw [hz]
 clear hz hw
 by_cases hi' : i' = 0
 · rw [if_neg (fun h => h hi')]
   subst hi'
   by_cases hi : i = 0
   · rw [if_neg (fun h => h.1 hi), if_neg (fun h => h hi)]
     subst hi
     generalize ((fclean (fquo d d' m) : Nat) : Int) = u1 at *
     generalize ((fquo d d' m : Nat) : Int) = u2 at *
     go_enter Tryz.func69, Tryz.ntmps69
     go_wp2_with fail
     first
     | go_region_held3 (fun w' => w'.cell? ⟨w.heap.size, 0, none⟩ = some (.int .i64 0) ∧ w'.cell? ⟨w.heap.size, 1, none⟩ = some (.bool v) ∧ w'.cell? ⟨w.heap.size, 2, none⟩ = some (.bool s) ∧ w'.cell? ⟨w.heap.size, 3, none⟩ = some (.slice A n c) ∧ w'.cell? ⟨w.heap.size, 4, none⟩ = some (.int .i64 e) ∧ w'.cell? ⟨w.heap.size + 1, 0, none⟩ = some (.int .i64 0) ∧ w'.cell? ⟨w.heap.size + 1, 1, none⟩ = some (.bool v') ∧ w'.cell? ⟨w.heap.size + 1, 2, none⟩ = some (.bool s') ∧ w'.cell? ⟨w.heap.size + 1, 3, none⟩ = some (.slice A' n' c') ∧ w'.cell? ⟨w.heap.size + 1, 4, none⟩ = some (.int .i64 e')) (first | (go_simp; done))
      (first
       | (go_at_call 68; refine (H1 _).out.mono ?_; rintro o w1 ⟨rfl, b1⟩)
       | (go_at_call 68; refine (H2 _).out.mono ?_; rintro o w2 ⟨rfl, b2⟩)
       | fail)
     | fail "region"
     all_goals (
      go_wp2_with fail
      refine (HQ _).out.mono ?_; rintro o w3 ⟨rfl, b3⟩; go_wp2_with fail
      refine (HP _).out.mono ?_; rintro o w4 ⟨rfl, b4⟩; go_wp2_with fail
      go_ret
      exact ⟨rfl, zbh⟩)
   · have hib : (i != 0) = true := by simpa [bne] using hi
     clear HQ HP
     by_cases hz : 0 < z
     · rw [if_pos ⟨hi, hz⟩]
       have hzb : decide (z > 0) = true := decide_eq_true hz
       show Calls _ _ _ _ fun o w' => o = .returned (.int .u64 9218868437227405312) ∧ Below w.heap.size w w'
       go_enter Tryz.func69, Tryz.ntmps69
       go_wp2_with fail
       first
       | go_region_held3 (fun w' => w'.cell? ⟨w.heap.size, 0, none⟩ = some (.int .i64 i) ∧ w'.cell? ⟨w.heap.size, 1, none⟩ = some (.bool v) ∧ w'.cell? ⟨w.heap.size, 2, none⟩ = some (.bool s) ∧ w'.cell? ⟨w.heap.size, 3, none⟩ = some (.slice A n c) ∧ w'.cell? ⟨w.heap.size, 4, none⟩ = some (.int .i64 e) ∧ w'.cell? ⟨w.heap.size + 1, 0, none⟩ = some (.int .i64 0) ∧ w'.cell? ⟨w.heap.size + 1, 1, none⟩ = some (.bool v') ∧ w'.cell? ⟨w.heap.size + 1, 2, none⟩ = some (.bool s') ∧ w'.cell? ⟨w.heap.size + 1, 3, none⟩ = some (.slice A' n' c') ∧ w'.cell? ⟨w.heap.size + 1, 4, none⟩ = some (.int .i64 e')) (first | (go_simp; done))
        (first
         | (go_at_call 68; refine (H1 _).out.mono ?_; rintro o w1 ⟨rfl, b1⟩)
         | (go_at_call 68; refine (H2 _).out.mono ?_; rintro o w2 ⟨rfl, b2⟩)
         | fail)
       | fail "region"
       all_goals (
        go_wp2_with fail
        go_ret
        exact ⟨rfl, zbh⟩)
     · rw [if_neg (fun h => hz h.2), if_pos hi]
       have hzb : decide (z > 0) = false := decide_eq_false hz
       show Calls _ _ _ _ fun o w' => o = .returned (.int .u64 18442240474082181120) ∧ Below w.heap.size w w'
       go_enter Tryz.func69, Tryz.ntmps69
       go_wp2_with fail
       first
       | go_region_held3 (fun w' => w'.cell? ⟨w.heap.size, 0, none⟩ = some (.int .i64 i) ∧ w'.cell? ⟨w.heap.size, 1, none⟩ = some (.bool v) ∧ w'.cell? ⟨w.heap.size, 2, none⟩ = some (.bool s) ∧ w'.cell? ⟨w.heap.size, 3, none⟩ = some (.slice A n c) ∧ w'.cell? ⟨w.heap.size, 4, none⟩ = some (.int .i64 e) ∧ w'.cell? ⟨w.heap.size + 1, 0, none⟩ = some (.int .i64 0) ∧ w'.cell? ⟨w.heap.size + 1, 1, none⟩ = some (.bool v') ∧ w'.cell? ⟨w.heap.size + 1, 2, none⟩ = some (.bool s') ∧ w'.cell? ⟨w.heap.size + 1, 3, none⟩ = some (.slice A' n' c') ∧ w'.cell? ⟨w.heap.size + 1, 4, none⟩ = some (.int .i64 e')) (first | (go_simp; done))
        (first
         | (go_at_call 68; refine (H1 _).out.mono ?_; rintro o w1 ⟨rfl, b1⟩)
         | (go_at_call 68; refine (H2 _).out.mono ?_; rintro o w2 ⟨rfl, b2⟩)
         | fail)
       | fail "region"
       all_goals (
        go_wp2_with fail
        go_ret
        exact ⟨rfl, zbh⟩)
 · rw [if_pos hi']
   have hib : (i' != 0) = true := by simpa [bne] using hi'
   clear HQ HP
   show Calls _ _ _ _ fun o w' => o = .returned (.int .u64 0) ∧ Below w.heap.size w w'
   by_cases hi : i = 0
   · subst hi
     go_enter Tryz.func69, Tryz.ntmps69
     go_wp2_with fail
     first
     | go_region_held3 (fun w' => w'.cell? ⟨w.heap.size, 0, none⟩ = some (.int .i64 0) ∧ w'.cell? ⟨w.heap.size, 1, none⟩ = some (.bool v) ∧ w'.cell? ⟨w.heap.size, 2, none⟩ = some (.bool s) ∧ w'.cell? ⟨w.heap.size, 3, none⟩ = some (.slice A n c) ∧ w'.cell? ⟨w.heap.size, 4, none⟩ = some (.int .i64 e) ∧ w'.cell? ⟨w.heap.size + 1, 0, none⟩ = some (.int .i64 i') ∧ w'.cell? ⟨w.heap.size + 1, 1, none⟩ = some (.bool v') ∧ w'.cell? ⟨w.heap.size + 1, 2, none⟩ = some (.bool s') ∧ w'.cell? ⟨w.heap.size + 1, 3, none⟩ = some (.slice A' n' c') ∧ w'.cell? ⟨w.heap.size + 1, 4, none⟩ = some (.int .i64 e')) (first | (go_simp; done))
      (first
       | (go_at_call 68; refine (H1 _).out.mono ?_; rintro o w1 ⟨rfl, b1⟩)
       | (go_at_call 68; refine (H2 _).out.mono ?_; rintro o w2 ⟨rfl, b2⟩)
       | fail)
     | fail "region"
     all_goals (
      go_wp2_with fail
      go_ret
      exact ⟨rfl, zbh⟩)
   · have hib2 : (i != 0) = true := by simpa [bne] using hi
     go_enter Tryz.func69, Tryz.ntmps69
     go_wp2_with fail
     first
     | go_region_held3 (fun w' => w'.cell? ⟨w.heap.size, 0, none⟩ = some (.int .i64 i) ∧ w'.cell? ⟨w.heap.size, 1, none⟩ = some (.bool v) ∧ w'.cell? ⟨w.heap.size, 2, none⟩ = some (.bool s) ∧ w'.cell? ⟨w.heap.size, 3, none⟩ = some (.slice A n c) ∧ w'.cell? ⟨w.heap.size, 4, none⟩ = some (.int .i64 e) ∧ w'.cell? ⟨w.heap.size + 1, 0, none⟩ = some (.int .i64 i') ∧ w'.cell? ⟨w.heap.size + 1, 1, none⟩ = some (.bool v') ∧ w'.cell? ⟨w.heap.size + 1, 2, none⟩ = some (.bool s') ∧ w'.cell? ⟨w.heap.size + 1, 3, none⟩ = some (.slice A' n' c') ∧ w'.cell? ⟨w.heap.size + 1, 4, none⟩ = some (.int .i64 e')) (first | (go_simp; done))
      (first
       | (go_at_call 68; refine (H1 _).out.mono ?_; rintro o w1 ⟨rfl, b1⟩)
       | (go_at_call 68; refine (H2 _).out.mono ?_; rintro o w2 ⟨rfl, b2⟩)
       | fail)
     | fail "region"
     all_goals (
      go_wp2_with fail
      go_ret
      exact ⟨rfl, zbh⟩)
instance FV.sf0 {W : World} {b : Nat} {x y v : Value} [h : FV W b x y] : FV (W.setCell ⟨b, 0, none⟩ v) b v y := by
 obtain ⟨c0, c1, c2, c3⟩ := h
 exact ⟨by go_simp, by go_simp, fun i => by go_simp, by simpa using c3⟩
instance FV.sf1 {W : World} {b : Nat} {x y v : Value} [h : FV W b x y] : FV (W.setCell ⟨b, 1, none⟩ v) b x v := by
 obtain ⟨c0, c1, c2, c3⟩ := h
 exact ⟨by go_simp, by go_simp, fun i => by go_simp, by simpa using c3⟩
theorem nsqrt_any (w : World) [ht : Tb w] (a : Nat) (b : Nat) (ha : a < 18446744073709551616) (hb : b < 18446744073709551616) : Calls Tryz.prog 30 #[.agg #[.int .u64 (a : Nat), .int .u64 (b : Nat)]] w fun o w' => o = .returned (.agg #[.int .u64 ((rsqrtI (a, b)).1 : Nat), .int .u64 ((rsqrtI (a, b)).2 : Nat)]) ∧ Below w.heap.size w w' := by
 have H1 := fun W => Lib.hid (frm (r5valid_any W a b ha hb))
 have HW := fun W => Lib.hid (frm (nall_any W))
 have HOa := fun W [Tb W] => Lib.hid (rof_any W a ha)
 have HOb := fun W [Tb W] => Lib.hid (rof_any W b hb)
 have HSa := fun W A C [j1 : DS W (dbad (nof a)) (decide (dman (nof a) < 0)) A (nl (dman (nof a)).natAbs) C (dexp (nof a)) (nof a)] [Tb W] => Lib.hid (frm (nsign_any W (nin a) _ _ A _ C _ (nof a) (hd := j1)))
 have HSb := fun W A C [j1 : DS W (dbad (nof b)) (decide (dman (nof b) < 0)) A (nl (dman (nof b)).natAbs) C (dexp (nof b)) (nof b)] [Tb W] => Lib.hid (frm (nsign_any W (nin b) _ _ A _ C _ (nof b) (hd := j1)))
 have HQ1 := fun W [Tb W] => Lib.hid (frm (r3sqrt_any W a ha 1 tb))
 have HQ2 := fun W [Tb W] => Lib.hid (frm (r3sqrt_any W b hb 2 tb))
 have HP := fun W => Lib.hid (frw (nplus_any W (fsqrt b 2) (fsqrt_lt' hb _)))
 have eb : b = fInf ↔ ((b : Nat) : Int) = 9218868437227405312 := by unfold fInf; omega
 unfold rsqrtI iall
 dsimp only
 generalize nsg (nin a) (nof a) = ga at *
 generalize nsg (nin b) (nof b) = gb at *
 generalize nin a = ia at *
 generalize nof a = da at *
 generalize nin b = ib at *
 generalize nof b = db at *
 cases k1 : iok (a, b)
 · show Calls _ _ _ _ fun o w' => o = .returned (.agg #[.int .u64 18442240474082181120, .int .u64 9218868437227405312]) ∧ Below w.heap.size w w'
   rw [k1] at H1
   clear HOa HOb HSa HSb HQ1 HQ2 HP eb
   generalize ((a : Nat) : Int) = p at *
   generalize ((b : Nat) : Int) = q at *
   go_enter Tryz.func30, Tryz.ntmps30
   go_wp2_with fail
   refine (H1 _).out.mono ?_; rintro o w1 ⟨rfl, b1⟩; go_wp2_with fail
   refine (HW _).out.mono ?_; rintro o w2 ⟨rfl, b2⟩; go_wp2_with fail
   refine bodyPost_ret (v := .agg #[.int .u64 18442240474082181120, .int .u64 9218868437227405312]) (by simp only [results, Tryz.results30]; go_simp) rfl ?_
   exact ⟨rfl, zbh⟩
 · rw [k1] at H1
   clear k1
   by_cases hg : gb < 0
   · have eg : decide (gb < 0) = true := decide_eq_true hg
     rw [eg]
     show Calls _ _ _ _ fun o w' => o = .returned (.agg #[.int .u64 18442240474082181120, .int .u64 9218868437227405312]) ∧ Below w.heap.size w w'
     clear HOa HSa HQ1 HQ2 HP eb
     generalize ((a : Nat) : Int) = p at *
     generalize ((b : Nat) : Int) = q at *
     go_enter Tryz.func30, Tryz.ntmps30
     go_wp2_with fail
     refine (H1 _).out.mono ?_; rintro o w1 ⟨rfl, b1⟩; go_wp2_with fail
     refine (HOb _).out.mono ?_; rintro o w2 ⟨A2, C2, rfl, i2, b2⟩; go_wp2_with fail
     refine (HSb _ _ _).out.mono ?_; rintro o w3 ⟨rfl, b3⟩; go_wp2_with fail
     refine (HW _).out.mono ?_; rintro o w4 ⟨rfl, b4⟩; go_wp2_with fail
     refine bodyPost_ret (v := .agg #[.int .u64 18442240474082181120, .int .u64 9218868437227405312]) (by simp only [results, Tryz.results30]; go_simp) rfl ?_
     exact ⟨rfl, zbh⟩
   · have eg : decide (gb < 0) = false := decide_eq_false hg
     rw [eg, Bool.not_true, Bool.or_false, if_neg Bool.false_ne_true]
     by_cases hl : 0 < ga
     · have el : decide (ga > 0) = true := decide_eq_true hl
       rw [if_pos hl]
       by_cases hh : b = fInf
       · rw [if_pos hh]
         subst hh
         show Calls _ _ #[.agg #[.int .u64 (a : Nat), .int .u64 9218868437227405312]] _ fun o w' => o = .returned (.agg #[.int .u64 (fsqrt a 1 : Nat), .int .u64 9218868437227405312]) ∧ Below w.heap.size w w'
         have H1 := fun W => Lib.hid (show Calls Tryz.prog 14 #[.agg #[.int .u64 (a : Nat), .int .u64 9218868437227405312]] W fun e w' => e = .returned (.bool true) ∧ From W w' from (H1 W).out)
         have HOb := fun W [Tb W] => Lib.hid (show Calls Tryz.prog 60 #[.int .u64 9218868437227405312] W fun e w' => ∃ A C, e = .returned (.agg #[.int .i64 ib, .bool (dbad db), .bool (decide (dman db < 0)), .slice A (nl (dman db).natAbs) C, .int .i64 (dexp db)]) ∧ DS w' (dbad db) (decide (dman db < 0)) A (nl (dman db).natAbs) C (dexp db) db ∧ From W w' from (HOb W).out)
         clear HQ2 HP eb
         generalize ((fsqrt a 1 : Nat) : Int) = u1 at *
         generalize ((a : Nat) : Int) = p at *
         go_enter Tryz.func30, Tryz.ntmps30
         go_wp2_with fail
         refine (H1 _).out.mono ?_; rintro o w1 ⟨rfl, b1⟩; go_wp2_with fail
         refine (HOb _).out.mono ?_; rintro o w2 ⟨A2, C2, rfl, i2, b2⟩; go_wp2_with fail
         refine (HSb _ _ _).out.mono ?_; rintro o w3 ⟨rfl, b3⟩; go_wp2_with fail
         refine (HOa _).out.mono ?_; rintro o w4 ⟨A4, C4, rfl, i4, b4⟩; go_wp2_with fail
         refine (HSa _ _ _).out.mono ?_; rintro o w5 ⟨rfl, b5⟩; go_wp2_with fail
         refine (HQ1 _).out.mono ?_; rintro o w6 ⟨rfl, b6⟩; go_wp2_with fail
         refine bodyPost_ret (v := .agg #[.int .u64 u1, .int .u64 9218868437227405312]) (by simp only [results, Tryz.results30]; go_simp) rfl ?_
         exact ⟨rfl, zbh⟩
       · rw [if_neg hh]
         have hq : ¬ ((b : Nat) : Int) = 9218868437227405312 := fun h => hh (eb.2 h)
         clear eb hh
         generalize ((fclean (fsqrt b 2) : Nat) : Int) = u3 at *
         generalize ((fsqrt b 2 : Nat) : Int) = u2 at *
         generalize ((fsqrt a 1 : Nat) : Int) = u1 at *
         generalize ((a : Nat) : Int) = p at *
         generalize ((b : Nat) : Int) = q at *
         go_enter Tryz.func30, Tryz.ntmps30
         go_wp2_with fail
         refine (H1 _).out.mono ?_; rintro o w1 ⟨rfl, b1⟩; go_wp2_with fail
         refine (HOb _).out.mono ?_; rintro o w2 ⟨A2, C2, rfl, i2, b2⟩; go_wp2_with fail
         refine (HSb _ _ _).out.mono ?_; rintro o w3 ⟨rfl, b3⟩; go_wp2_with fail
         refine (HOa _).out.mono ?_; rintro o w4 ⟨A4, C4, rfl, i4, b4⟩; go_wp2_with fail
         refine (HSa _ _ _).out.mono ?_; rintro o w5 ⟨rfl, b5⟩; go_wp2_with fail
         refine (HQ1 _).out.mono ?_; rintro o w6 ⟨rfl, b6⟩; go_wp2_with fail
         haveI tz : Tb (w6.setCell ⟨w3.heap.size, 0, none⟩ (.int .u64 u1)) := ⟨ht.out.below ((show Below w.heap.size w w6 from zbh).setCell (show Below w.heap.size w w3 from zbh).size _)⟩
         refine (HQ2 _).out.mono ?_; rintro o w7 ⟨rfl, b7⟩; go_wp2_with fail
         refine (HP _).out.mono ?_; rintro o w8 ⟨rfl, b8⟩; go_wp2_with fail
         refine bodyPost_ret (v := .agg #[.int .u64 u1, .int .u64 u3]) (by simp only [results, Tryz.results30]; go_simp) rfl ?_
         exact ⟨rfl, zbh⟩
     · have el : decide (ga > 0) = false := decide_eq_false hl
       rw [if_neg hl]
       by_cases hh : b = fInf
       · rw [if_pos hh]
         subst hh
         show Calls _ _ #[.agg #[.int .u64 (a : Nat), .int .u64 9218868437227405312]] _ fun o w' => o = .returned (.agg #[.int .u64 0, .int .u64 9218868437227405312]) ∧ Below w.heap.size w w'
         have H1 := fun W => Lib.hid (show Calls Tryz.prog 14 #[.agg #[.int .u64 (a : Nat), .int .u64 9218868437227405312]] W fun e w' => e = .returned (.bool true) ∧ From W w' from (H1 W).out)
         have HOb := fun W [Tb W] => Lib.hid (show Calls Tryz.prog 60 #[.int .u64 9218868437227405312] W fun e w' => ∃ A C, e = .returned (.agg #[.int .i64 ib, .bool (dbad db), .bool (decide (dman db < 0)), .slice A (nl (dman db).natAbs) C, .int .i64 (dexp db)]) ∧ DS w' (dbad db) (decide (dman db < 0)) A (nl (dman db).natAbs) C (dexp db) db ∧ From W w' from (HOb W).out)
         clear HQ1 HQ2 HP eb
         generalize ((a : Nat) : Int) = p at *
         go_enter Tryz.func30, Tryz.ntmps30
         go_wp2_with fail
         refine (H1 _).out.mono ?_; rintro o w1 ⟨rfl, b1⟩; go_wp2_with fail
         refine (HOb _).out.mono ?_; rintro o w2 ⟨A2, C2, rfl, i2, b2⟩; go_wp2_with fail
         refine (HSb _ _ _).out.mono ?_; rintro o w3 ⟨rfl, b3⟩; go_wp2_with fail
         refine (HOa _).out.mono ?_; rintro o w4 ⟨A4, C4, rfl, i4, b4⟩; go_wp2_with fail
         refine (HSa _ _ _).out.mono ?_; rintro o w5 ⟨rfl, b5⟩; go_wp2_with fail
         refine bodyPost_ret (v := .agg #[.int .u64 0, .int .u64 9218868437227405312]) (by simp only [results, Tryz.results30]; go_simp) rfl ?_
         exact ⟨rfl, zbh⟩
       · rw [if_neg hh]
         have hq : ¬ ((b : Nat) : Int) = 9218868437227405312 := fun h => hh (eb.2 h)
         clear eb hh HQ1
         generalize ((fclean (fsqrt b 2) : Nat) : Int) = u3 at *
         generalize ((fsqrt b 2 : Nat) : Int) = u2 at *
         generalize ((a : Nat) : Int) = p at *
         generalize ((b : Nat) : Int) = q at *
         go_enter Tryz.func30, Tryz.ntmps30
         go_wp2_with fail
         refine (H1 _).out.mono ?_; rintro o w1 ⟨rfl, b1⟩; go_wp2_with fail
         refine (HOb _).out.mono ?_; rintro o w2 ⟨A2, C2, rfl, i2, b2⟩; go_wp2_with fail
         refine (HSb _ _ _).out.mono ?_; rintro o w3 ⟨rfl, b3⟩; go_wp2_with fail
         refine (HOa _).out.mono ?_; rintro o w4 ⟨A4, C4, rfl, i4, b4⟩; go_wp2_with fail
         refine (HSa _ _ _).out.mono ?_; rintro o w5 ⟨rfl, b5⟩; go_wp2_with fail
         refine (HQ2 _).out.mono ?_; rintro o w7 ⟨rfl, b7⟩; go_wp2_with fail
         refine (HP _).out.mono ?_; rintro o w8 ⟨rfl, b8⟩; go_wp2_with fail
         refine bodyPost_ret (v := .agg #[.int .u64 0, .int .u64 u3]) (by simp only [results, Tryz.results30]; go_simp) rfl ?_
         exact ⟨rfl, zbh⟩
end Go.Proofs.YtgicceiimciafaaGreatDoor
namespace Go.Proofs.YtgicceiimciafaaGreatDoor
open Go.RowKit Sp
set_option linter.unusedSimpArgs false
attribute [local irreducible] Calls
instance NB.v00 (W : World) (b : Nat) {x y : Value} [h : FV W b x y] : NB b W.heap.size := ⟨fun e => by have := h.lt; omega⟩
instance NB.v01 (W : World) (b : Nat) {x y : Value} [h : FV W b x y] : NB W.heap.size b := ⟨fun e => by have := h.lt; omega⟩
theorem ndiv_any (w : World) [Tb w] (a : Nat) (b : Nat) (c : Nat) (d : Nat) (ha : a < 18446744073709551616) (hb : b < 18446744073709551616) (hc : c < 18446744073709551616) (hd : d < 18446744073709551616) : Calls Tryz.prog 26 #[.agg #[.int .u64 (a : Nat), .int .u64 (b : Nat)], .agg #[.int .u64 (c : Nat), .int .u64 (d : Nat)]] w fun o w' => o = .returned (.agg #[.int .u64 ((rdivI (a, b) (c, d)).1 : Nat), .int .u64 ((rdivI (a, b) (c, d)).2 : Nat)]) ∧ Below w.heap.size w w' := by
 have H1 := fun W => Lib.hid (frm (r5valid_any W a b ha hb))
 have H2 := fun W => Lib.hid (frm (r5valid_any W c d hc hd))
 have HW := fun W => Lib.hid (frm (nall_any W))
 have Na := isN_nof a
 have Nb := isN_nof b
 have Nc := isN_nof c
 have Nd := isN_nof d
 obtain ⟨N1, N2, hn⟩ : ∃ p q, ineg (a, b) = (p, q) := ⟨_, _, rfl⟩
 obtain ⟨M1, M2, hm⟩ : ∃ p q, ineg (c, d) = (p, q) := ⟨_, _, rfl⟩
 have hN1 : N1 < 18446744073709551616 := by have := (ineg_lt (a, b)).1; rw [hn] at this; exact this
 have hN2 : N2 < 18446744073709551616 := by have := (ineg_lt (a, b)).2; rw [hn] at this; exact this
 have hM1 : M1 < 18446744073709551616 := by have := (ineg_lt (c, d)).1; rw [hm] at this; exact this
 have hM2 : M2 < 18446744073709551616 := by have := (ineg_lt (c, d)).2; rw [hm] at this; exact this
 have HNx := fun W => Lib.hid (frm (nneg_any W a b ha hb))
 have HNy := fun W => Lib.hid (frm (nneg_any W c d hc hd))
 rw [hn] at HNx
 rw [hm] at HNy
 have Nz0 := isN_nof N1
 have Nz1 := isN_nof N2
 have Nz2 := isN_nof M1
 have Nz3 := isN_nof M2
 have HA := fun W [Tb W] => Lib.hid (show Calls Tryz.prog 60 #[.int .u64 (a : Nat)] W fun e w' => ∃ A C, e = .returned (.agg #[.int .i64 (nin a), .bool (dbad (nof a)), .bool (decide (dman (nof a) < 0)), .slice A (nl (dman (nof a)).natAbs) C, .int .i64 (dexp (nof a))]) ∧ DS w' (dbad (nof a)) (decide (dman (nof a) < 0)) A (nl (dman (nof a)).natAbs) C (dexp (nof a)) (nof a) ∧ From W w' ∧ BI w' A (nl (dman (nof a)).natAbs) C (dman (nof a)).natAbs ∧ (0 < nl (dman (nof a)).natAbs → W.heap.size ≤ ab A) from rofF_any W a ha)
 have HB := fun W [Tb W] => Lib.hid (show Calls Tryz.prog 60 #[.int .u64 (b : Nat)] W fun e w' => ∃ A C, e = .returned (.agg #[.int .i64 (nin b), .bool (dbad (nof b)), .bool (decide (dman (nof b) < 0)), .slice A (nl (dman (nof b)).natAbs) C, .int .i64 (dexp (nof b))]) ∧ DS w' (dbad (nof b)) (decide (dman (nof b) < 0)) A (nl (dman (nof b)).natAbs) C (dexp (nof b)) (nof b) ∧ From W w' ∧ BI w' A (nl (dman (nof b)).natAbs) C (dman (nof b)).natAbs ∧ (0 < nl (dman (nof b)).natAbs → W.heap.size ≤ ab A) from rofF_any W b hb)
 have HC := fun W [Tb W] => Lib.hid (show Calls Tryz.prog 60 #[.int .u64 (c : Nat)] W fun e w' => ∃ A C, e = .returned (.agg #[.int .i64 (nin c), .bool (dbad (nof c)), .bool (decide (dman (nof c) < 0)), .slice A (nl (dman (nof c)).natAbs) C, .int .i64 (dexp (nof c))]) ∧ DS w' (dbad (nof c)) (decide (dman (nof c) < 0)) A (nl (dman (nof c)).natAbs) C (dexp (nof c)) (nof c) ∧ From W w' ∧ BI w' A (nl (dman (nof c)).natAbs) C (dman (nof c)).natAbs ∧ (0 < nl (dman (nof c)).natAbs → W.heap.size ≤ ab A) from rofF_any W c hc)
 have HD := fun W [Tb W] => Lib.hid (show Calls Tryz.prog 60 #[.int .u64 (d : Nat)] W fun e w' => ∃ A C, e = .returned (.agg #[.int .i64 (nin d), .bool (dbad (nof d)), .bool (decide (dman (nof d) < 0)), .slice A (nl (dman (nof d)).natAbs) C, .int .i64 (dexp (nof d))]) ∧ DS w' (dbad (nof d)) (decide (dman (nof d) < 0)) A (nl (dman (nof d)).natAbs) C (dexp (nof d)) (nof d) ∧ From W w' ∧ BI w' A (nl (dman (nof d)).natAbs) C (dman (nof d)).natAbs ∧ (0 < nl (dman (nof d)).natAbs → W.heap.size ≤ ab A) from rofF_any W d hd)
 have HO0 := fun W [Tb W] => Lib.hid (show Calls Tryz.prog 60 #[.int .u64 (N1 : Nat)] W fun e w' => ∃ A C, e = .returned (.agg #[.int .i64 (nin N1), .bool (dbad (nof N1)), .bool (decide (dman (nof N1) < 0)), .slice A (nl (dman (nof N1)).natAbs) C, .int .i64 (dexp (nof N1))]) ∧ DS w' (dbad (nof N1)) (decide (dman (nof N1) < 0)) A (nl (dman (nof N1)).natAbs) C (dexp (nof N1)) (nof N1) ∧ From W w' ∧ BI w' A (nl (dman (nof N1)).natAbs) C (dman (nof N1)).natAbs ∧ (0 < nl (dman (nof N1)).natAbs → W.heap.size ≤ ab A) from rofF_any W N1 hN1)
 have HO1 := fun W [Tb W] => Lib.hid (show Calls Tryz.prog 60 #[.int .u64 (N2 : Nat)] W fun e w' => ∃ A C, e = .returned (.agg #[.int .i64 (nin N2), .bool (dbad (nof N2)), .bool (decide (dman (nof N2) < 0)), .slice A (nl (dman (nof N2)).natAbs) C, .int .i64 (dexp (nof N2))]) ∧ DS w' (dbad (nof N2)) (decide (dman (nof N2) < 0)) A (nl (dman (nof N2)).natAbs) C (dexp (nof N2)) (nof N2) ∧ From W w' ∧ BI w' A (nl (dman (nof N2)).natAbs) C (dman (nof N2)).natAbs ∧ (0 < nl (dman (nof N2)).natAbs → W.heap.size ≤ ab A) from rofF_any W N2 hN2)
 have HO2 := fun W [Tb W] => Lib.hid (show Calls Tryz.prog 60 #[.int .u64 (M1 : Nat)] W fun e w' => ∃ A C, e = .returned (.agg #[.int .i64 (nin M1), .bool (dbad (nof M1)), .bool (decide (dman (nof M1) < 0)), .slice A (nl (dman (nof M1)).natAbs) C, .int .i64 (dexp (nof M1))]) ∧ DS w' (dbad (nof M1)) (decide (dman (nof M1) < 0)) A (nl (dman (nof M1)).natAbs) C (dexp (nof M1)) (nof M1) ∧ From W w' ∧ BI w' A (nl (dman (nof M1)).natAbs) C (dman (nof M1)).natAbs ∧ (0 < nl (dman (nof M1)).natAbs → W.heap.size ≤ ab A) from rofF_any W M1 hM1)
 have HO3 := fun W [Tb W] => Lib.hid (show Calls Tryz.prog 60 #[.int .u64 (M2 : Nat)] W fun e w' => ∃ A C, e = .returned (.agg #[.int .i64 (nin M2), .bool (dbad (nof M2)), .bool (decide (dman (nof M2) < 0)), .slice A (nl (dman (nof M2)).natAbs) C, .int .i64 (dexp (nof M2))]) ∧ DS w' (dbad (nof M2)) (decide (dman (nof M2) < 0)) A (nl (dman (nof M2)).natAbs) C (dexp (nof M2)) (nof M2) ∧ From W w' ∧ BI w' A (nl (dman (nof M2)).natAbs) C (dman (nof M2)).natAbs ∧ (0 < nl (dman (nof M2)).natAbs → W.heap.size ≤ ab A) from rofF_any W M2 hM2)
 have HSa := fun W A C [j1 : DS W (dbad (nof a)) (decide (dman (nof a) < 0)) A (nl (dman (nof a)).natAbs) C (dexp (nof a)) (nof a)] [Tb W] => Lib.hid (frm (nsign_any W (nin a) _ _ A _ C _ (nof a) (hd := j1)))
 have HSb := fun W A C [j1 : DS W (dbad (nof b)) (decide (dman (nof b) < 0)) A (nl (dman (nof b)).natAbs) C (dexp (nof b)) (nof b)] [Tb W] => Lib.hid (frm (nsign_any W (nin b) _ _ A _ C _ (nof b) (hd := j1)))
 have HSc := fun W A C [j1 : DS W (dbad (nof c)) (decide (dman (nof c) < 0)) A (nl (dman (nof c)).natAbs) C (dexp (nof c)) (nof c)] [Tb W] => Lib.hid (frm (nsign_any W (nin c) _ _ A _ C _ (nof c) (hd := j1)))
 have HSd := fun W A C [j1 : DS W (dbad (nof d)) (decide (dman (nof d) < 0)) A (nl (dman (nof d)).natAbs) C (dexp (nof d)) (nof d)] [Tb W] => Lib.hid (frm (nsign_any W (nin d) _ _ A _ C _ (nof d) (hd := j1)))
 have HSaN := fun W A C [j1 : DS W (dbad (nof N1)) (decide (dman (nof N1) < 0)) A (nl (dman (nof N1)).natAbs) C (dexp (nof N1)) (nof N1)] [Tb W] => Lib.hid (frm (nsign_any W (nin N1) _ _ A _ C _ (nof N1) (hd := j1)))
 have HSbN := fun W A C [j1 : DS W (dbad (nof N2)) (decide (dman (nof N2) < 0)) A (nl (dman (nof N2)).natAbs) C (dexp (nof N2)) (nof N2)] [Tb W] => Lib.hid (frm (nsign_any W (nin N2) _ _ A _ C _ (nof N2) (hd := j1)))
 have HQad := fun W A C A' C' [j1 : DS W (dbad (nof a)) (decide (dman (nof a) < 0)) A (nl (dman (nof a)).natAbs) C (dexp (nof a)) (nof a)] [j2 : DS W (dbad (nof d)) (decide (dman (nof d) < 0)) A' (nl (dman (nof d)).natAbs) C' (dexp (nof d)) (nof d)] [Tb W] => Lib.hid (frm (nquo_any W (nin a) _ _ A _ C _ (nof a) (nin d) _ _ A' _ C' _ (nof d) (hd := j1) (hd' := j2) 1 (nsgw a d)))
 have HQadN := fun W A C A' C' [j1 : DS W (dbad (nof N1)) (decide (dman (nof N1) < 0)) A (nl (dman (nof N1)).natAbs) C (dexp (nof N1)) (nof N1)] [j2 : DS W (dbad (nof M2)) (decide (dman (nof M2) < 0)) A' (nl (dman (nof M2)).natAbs) C' (dexp (nof M2)) (nof M2)] [Tb W] => Lib.hid (frm (nquo_any W (nin N1) _ _ A _ C _ (nof N1) (nin M2) _ _ A' _ C' _ (nof M2) (hd := j1) (hd' := j2) 1 (nsgw N1 M2)))
 have HQac := fun W A C A' C' [j1 : DS W (dbad (nof a)) (decide (dman (nof a) < 0)) A (nl (dman (nof a)).natAbs) C (dexp (nof a)) (nof a)] [j2 : DS W (dbad (nof c)) (decide (dman (nof c) < 0)) A' (nl (dman (nof c)).natAbs) C' (dexp (nof c)) (nof c)] [Tb W] => Lib.hid (frm (nquo_any W (nin a) _ _ A _ C _ (nof a) (nin c) _ _ A' _ C' _ (nof c) (hd := j1) (hd' := j2) 1 (nsgw a c)))
 have HQacN := fun W A C A' C' [j1 : DS W (dbad (nof N1)) (decide (dman (nof N1) < 0)) A (nl (dman (nof N1)).natAbs) C (dexp (nof N1)) (nof N1)] [j2 : DS W (dbad (nof M1)) (decide (dman (nof M1) < 0)) A' (nl (dman (nof M1)).natAbs) C' (dexp (nof M1)) (nof M1)] [Tb W] => Lib.hid (frm (nquo_any W (nin N1) _ _ A _ C _ (nof N1) (nin M1) _ _ A' _ C' _ (nof M1) (hd := j1) (hd' := j2) 1 (nsgw N1 M1)))
 have HQbc := fun W A C A' C' [j1 : DS W (dbad (nof b)) (decide (dman (nof b) < 0)) A (nl (dman (nof b)).natAbs) C (dexp (nof b)) (nof b)] [j2 : DS W (dbad (nof c)) (decide (dman (nof c) < 0)) A' (nl (dman (nof c)).natAbs) C' (dexp (nof c)) (nof c)] [Tb W] => Lib.hid (frm (nquo_any W (nin b) _ _ A _ C _ (nof b) (nin c) _ _ A' _ C' _ (nof c) (hd := j1) (hd' := j2) 2 (nsgw b c)))
 have HQbcN := fun W A C A' C' [j1 : DS W (dbad (nof N2)) (decide (dman (nof N2) < 0)) A (nl (dman (nof N2)).natAbs) C (dexp (nof N2)) (nof N2)] [j2 : DS W (dbad (nof M1)) (decide (dman (nof M1) < 0)) A' (nl (dman (nof M1)).natAbs) C' (dexp (nof M1)) (nof M1)] [Tb W] => Lib.hid (frm (nquo_any W (nin N2) _ _ A _ C _ (nof N2) (nin M1) _ _ A' _ C' _ (nof M1) (hd := j1) (hd' := j2) 2 (nsgw N2 M1)))
 have HQbd := fun W A C A' C' [j1 : DS W (dbad (nof b)) (decide (dman (nof b) < 0)) A (nl (dman (nof b)).natAbs) C (dexp (nof b)) (nof b)] [j2 : DS W (dbad (nof d)) (decide (dman (nof d) < 0)) A' (nl (dman (nof d)).natAbs) C' (dexp (nof d)) (nof d)] [Tb W] => Lib.hid (frm (nquo_any W (nin b) _ _ A _ C _ (nof b) (nin d) _ _ A' _ C' _ (nof d) (hd := j1) (hd' := j2) 2 (nsgw b d)))
 have HQbdN := fun W A C A' C' [j1 : DS W (dbad (nof N2)) (decide (dman (nof N2) < 0)) A (nl (dman (nof N2)).natAbs) C (dexp (nof N2)) (nof N2)] [j2 : DS W (dbad (nof M2)) (decide (dman (nof M2) < 0)) A' (nl (dman (nof M2)).natAbs) C' (dexp (nof M2)) (nof M2)] [Tb W] => Lib.hid (frm (nquo_any W (nin N2) _ _ A _ C _ (nof N2) (nin M2) _ _ A' _ C' _ (nof M2) (hd := j1) (hd' := j2) 2 (nsgw N2 M2)))
 have hv : rdivI (a, b) (c, d) = if (iok (a, b) && iok (c, d)) = true then (if nsg (nin c) (nof c) ≤ 0 ∧ 0 ≤ nsg (nin d) (nof d) then iall else if nsg (nin d) (nof d) < 0 then (if 0 ≤ nsg (nin N1) (nof N1) then nquo (nin N1, nof N1) (nin M2, nof M2) 1 else nquo (nin N1, nof N1) (nin M1, nof M1) 1, if 0 ≤ nsg (nin N2) (nof N2) then nquo (nin N2, nof N2) (nin M1, nof M1) 2 else nquo (nin N2, nof N2) (nin M2, nof M2) 2) else (if 0 ≤ nsg (nin a) (nof a) then nquo (nin a, nof a) (nin d, nof d) 1 else nquo (nin a, nof a) (nin c, nof c) 1, if 0 ≤ nsg (nin b) (nof b) then nquo (nin b, nof b) (nin c, nof c) 2 else nquo (nin b, nof b) (nin d, nof d) 2)) else iall := by unfold rdivI rdivP nb; rw [hn, hm]
 rw [hv]
 clear hv hn hm
 obtain ⟨V, hV⟩ : ∃ V, (if nsg (nin c) (nof c) ≤ 0 ∧ 0 ≤ nsg (nin d) (nof d) then iall else if nsg (nin d) (nof d) < 0 then (if 0 ≤ nsg (nin N1) (nof N1) then nquo (nin N1, nof N1) (nin M2, nof M2) 1 else nquo (nin N1, nof N1) (nin M1, nof M1) 1, if 0 ≤ nsg (nin N2) (nof N2) then nquo (nin N2, nof N2) (nin M1, nof M1) 2 else nquo (nin N2, nof N2) (nin M2, nof M2) 2) else (if 0 ≤ nsg (nin a) (nof a) then nquo (nin a, nof a) (nin d, nof d) 1 else nquo (nin a, nof a) (nin c, nof c) 1, if 0 ≤ nsg (nin b) (nof b) then nquo (nin b, nof b) (nin c, nof c) 2 else nquo (nin b, nof b) (nin d, nof d) 2)) = V := ⟨_, rfl⟩
 rw [hV]
 have HV := Lib.hid hV
 clear hV
 generalize nquo (nin a, nof a) (nin d, nof d) 1 = qad at *
 generalize nquo (nin N1, nof N1) (nin M2, nof M2) 1 = qadN at *
 generalize nquo (nin a, nof a) (nin c, nof c) 1 = qac at *
 generalize nquo (nin N1, nof N1) (nin M1, nof M1) 1 = qacN at *
 generalize nquo (nin b, nof b) (nin c, nof c) 2 = qbc at *
 generalize nquo (nin N2, nof N2) (nin M1, nof M1) 2 = qbcN at *
 generalize nquo (nin b, nof b) (nin d, nof d) 2 = qbd at *
 generalize nquo (nin N2, nof N2) (nin M2, nof M2) 2 = qbdN at *
 generalize nsg (nin a) (nof a) = ga at *
 generalize nsg (nin b) (nof b) = gb at *
 generalize nsg (nin c) (nof c) = gc at *
 generalize nsg (nin d) (nof d) = gd at *
 generalize nsg (nin N1) (nof N1) = gaN at *
 generalize nsg (nin N2) (nof N2) = gbN at *
 generalize nin a = ia at *
 generalize nof a = da at *
 generalize nin b = ib at *
 generalize nof b = db at *
 generalize nin c = ic at *
 generalize nof c = dc at *
 generalize nin d = id at *
 generalize nof d = dd at *
 generalize nin N1 = i0 at *
 generalize nof N1 = d0 at *
 generalize nin N2 = i1 at *
 generalize nof N2 = d1 at *
 generalize nin M1 = i2 at *
 generalize nof M1 = d2 at *
 generalize nin M2 = i3 at *
 generalize nof M2 = d3 at *
 generalize iok (a, b) = k1 at *
 generalize iok (c, d) = k2 at *
 generalize ((a : Nat) : Int) = p at *
 generalize ((b : Nat) : Int) = q at *
 generalize ((c : Nat) : Int) = r at *
 generalize ((d : Nat) : Int) = s at *
 cases k1
 · show Calls _ _ _ _ fun o w' => o = .returned (.agg #[.int .u64 18442240474082181120, .int .u64 9218868437227405312]) ∧ Below w.heap.size w w'
   clear H2
   go_enter Tryz.func26, Tryz.ntmps26
   go_wp2_with fail
   refine (H1 _).out.mono ?_; rintro o w1 ⟨rfl, b1⟩; go_wp2_with fail
   refine (HW _).out.mono ?_; rintro o w2 ⟨rfl, b2⟩; go_wp2_with fail
   refine bodyPost_ret (v := .agg #[.int .u64 18442240474082181120, .int .u64 9218868437227405312]) (by simp only [results, Tryz.results26]; go_simp) rfl ?_
   exact ⟨rfl, zbh⟩
 · cases k2
   · show Calls _ _ _ _ fun o w' => o = .returned (.agg #[.int .u64 18442240474082181120, .int .u64 9218868437227405312]) ∧ Below w.heap.size w w'
     go_enter Tryz.func26, Tryz.ntmps26
     go_wp2_with fail
     refine (H1 _).out.mono ?_; rintro o w1 ⟨rfl, b1⟩; go_wp2_with fail
     refine (H2 _).out.mono ?_; rintro o w2 ⟨rfl, b2⟩; go_wp2_with fail
     refine (HW _).out.mono ?_; rintro o w3 ⟨rfl, b3⟩; go_wp2_with fail
     refine bodyPost_ret (v := .agg #[.int .u64 18442240474082181120, .int .u64 9218868437227405312]) (by simp only [results, Tryz.results26]; go_simp) rfl ?_
     exact ⟨rfl, zbh⟩
   · skip
     go_enter Tryz.func26, Tryz.ntmps26
     go_wp2_with fail
     refine (H1 _).out.mono ?_; rintro o w1 ⟨rfl, b1⟩; go_wp2_with fail
     refine (H2 _).out.mono ?_; rintro o w2 ⟨rfl, b2⟩; go_wp2_with fail
     refine wp_region_from (by kernel_rfl) (fun w0 b0 => ?_)
     refine tkz 0 21 (.pointer (some ⟨w.heap.size, 0, none⟩)) (hy := fun w hSw => by haveI : From w0 w := ⟨hSw⟩; go_simp) (hS := Below.refl _ _) (h := ?_)
     refine tkz 1 22 (.int .u64 p) (hy := fun w hSw => by haveI : From w0 w := ⟨hSw⟩; go_simp) (hS := Below.refl _ _) (h := ?_)
     refine tkz 3 24 (.pointer (some ⟨w.heap.size, 1, none⟩)) (hy := fun w hSw => by haveI : From w0 w := ⟨hSw⟩; go_simp) (hS := Below.refl _ _) (h := ?_)
     refine tkz 4 25 (.int .u64 q) (hy := fun w hSw => by haveI : From w0 w := ⟨hSw⟩; go_simp) (hS := Below.refl _ _) (h := ?_)
     refine tkz 6 27 (.pointer (some ⟨w.heap.size + 1, 0, none⟩)) (hy := fun w hSw => by haveI : From w0 w := ⟨hSw⟩; go_simp) (hS := Below.refl _ _) (h := ?_)
     refine tkz 7 28 (.int .u64 r) (hy := fun w hSw => by haveI : From w0 w := ⟨hSw⟩; go_simp) (hS := Below.refl _ _) (h := ?_)
     refine tkz 9 30 (.pointer (some ⟨w.heap.size + 1, 1, none⟩)) (hy := fun w hSw => by haveI : From w0 w := ⟨hSw⟩; go_simp) (hS := Below.refl _ _) (h := ?_)
     refine tkz 10 31 (.int .u64 s) (hy := fun w hSw => by haveI : From w0 w := ⟨hSw⟩; go_simp) (hS := Below.refl _ _) (h := ?_)
     have hN0 := NS.start w0 (pick4 ia ib ic id) (pick4 da db dc dd) (fun _ => 0) (fun _ => none) (fun _ => 0)
     refine wpAnyH_ns w0 (pick4 ia ib ic id) (pick4 da db dc dd) (fun al ca st ex => #[true, true, ca 0, true, true, ca 1, true, true, ca 2, true, true, ca 3, al 0, al 1, al 2, al 3, st 0, st 1, st 2, st 3]) (fun al ca ex bf af cf => [(23, NT (ca 0) ((pick4 ia ib ic id) 0) ((pick4 da db dc dd) 0) (af 0) (cf 0)), (26, NT (ca 1) ((pick4 ia ib ic id) 1) ((pick4 da db dc dd) 1) (af 1) (cf 1)), (29, NT (ca 2) ((pick4 ia ib ic id) 2) ((pick4 da db dc dd) 2) (af 2) (cf 2)), (32, NT (ca 3) ((pick4 ia ib ic id) 3) ((pick4 da db dc dd) 3) (af 3) (cf 3)), (5, PT (al 0) (bf 0)), (6, PT (al 1) (bf 1)), (7, PT (al 2) (bf 2)), (8, PT (al 3) (bf 3))]) (fun al ca st ex af cf => True) rfl hN0 (ex := fun _ => false) trivial rfl (by simp only [fillA, List.setIfInBounds_toArray, List.set_cons_zero, List.set_cons_succ] <;> rfl) (by decide) (by kernel_rfl) (fun _ _ _ _ => rfl) ?_ ?_
     · intro al ca st ex bf af cf vw hN hX hw0
       repeat' (first | exact AllI.nil | refine AllI.cons ?_ ?_)
       · intro h; cases h
       · intro h; cases h
       · intro (hl : ca 0 = false) _ K hK
         simp only [fillA, List.setIfInBounds_toArray, List.set_cons_zero, List.set_cons_succ]
         go_simp
         refine (HA _).out.mono ?_; rintro o w1 ⟨a1, c1, rfl, i1, b1, m1, f1⟩
         go_simp
         exact ns_ca hK hN 0 hl hX b1 m1 f1
       · intro h; cases h
       · intro h; cases h
       · intro (hl : ca 1 = false) _ K hK
         simp only [fillA, List.setIfInBounds_toArray, List.set_cons_zero, List.set_cons_succ]
         go_simp
         refine (HB _).out.mono ?_; rintro o w1 ⟨a1, c1, rfl, i1, b1, m1, f1⟩
         go_simp
         exact ns_ca hK hN 1 hl hX b1 m1 f1
       · intro h; cases h
       · intro h; cases h
       · intro (hl : ca 2 = false) _ K hK
         simp only [fillA, List.setIfInBounds_toArray, List.set_cons_zero, List.set_cons_succ]
         go_simp
         refine (HC _).out.mono ?_; rintro o w1 ⟨a1, c1, rfl, i1, b1, m1, f1⟩
         go_simp
         exact ns_ca hK hN 2 hl hX b1 m1 f1
       · intro h; cases h
       · intro h; cases h
       · intro (hl : ca 3 = false) _ K hK
         simp only [fillA, List.setIfInBounds_toArray, List.set_cons_zero, List.set_cons_succ]
         go_simp
         refine (HD _).out.mono ?_; rintro o w1 ⟨a1, c1, rfl, i1, b1, m1, f1⟩
         go_simp
         exact ns_ca hK hN 3 hl hX b1 m1 f1
       · intro (hl : al 0 = false) _ K hK
         simp [go_sem]
         exact ns_al hK hN 0 hl hX
       · intro (hl : al 1 = false) _ K hK
         simp [go_sem]
         exact ns_al hK hN 1 hl hX
       · intro (hl : al 2 = false) _ K hK
         simp [go_sem]
         exact ns_al hK hN 2 hl hX
       · intro (hl : al 3 = false) _ K hK
         simp [go_sem]
         exact ns_al hK hN 3 hl hX
       · intro _ haf K hK
         have h1 : al 0 = true := haf ⟨12, .data⟩ (by simp) rfl
         have h2 : ca 0 = true := haf ⟨2, .data⟩ (by simp) rfl
         clear haf
         haveI hz := (hN.bx 0 h1).2.spec
         simp [fillA, h1, h2, PT_true, NT_true, go_sem]
         have hS := hN.store 0 h1 h2
         exact ns_st hK 0 hS hX (by simp only [fillA, h1, h2, PT_true, NT_true, List.setIfInBounds_toArray, List.set_cons_zero, List.set_cons_succ] <;> rfl)
       · intro _ haf K hK
         have h1 : al 1 = true := haf ⟨13, .data⟩ (by simp) rfl
         have h2 : ca 1 = true := haf ⟨5, .data⟩ (by simp) rfl
         clear haf
         haveI hz := (hN.bx 1 h1).2.spec
         simp [fillA, h1, h2, PT_true, NT_true, go_sem]
         have hS := hN.store 1 h1 h2
         exact ns_st hK 1 hS hX (by simp only [fillA, h1, h2, PT_true, NT_true, List.setIfInBounds_toArray, List.set_cons_zero, List.set_cons_succ] <;> rfl)
       · intro _ haf K hK
         have h1 : al 2 = true := haf ⟨14, .data⟩ (by simp) rfl
         have h2 : ca 2 = true := haf ⟨8, .data⟩ (by simp) rfl
         clear haf
         haveI hz := (hN.bx 2 h1).2.spec
         simp [fillA, h1, h2, PT_true, NT_true, go_sem]
         have hS := hN.store 2 h1 h2
         exact ns_st hK 2 hS hX (by simp only [fillA, h1, h2, PT_true, NT_true, List.setIfInBounds_toArray, List.set_cons_zero, List.set_cons_succ] <;> rfl)
       · intro _ haf K hK
         have h1 : al 3 = true := haf ⟨15, .data⟩ (by simp) rfl
         have h2 : ca 3 = true := haf ⟨11, .data⟩ (by simp) rfl
         clear haf
         haveI hz := (hN.bx 3 h1).2.spec
         simp [fillA, h1, h2, PT_true, NT_true, go_sem]
         have hS := hN.store 3 h1 h2
         exact ns_st hK 3 hS hX (by simp only [fillA, h1, h2, PT_true, NT_true, List.setIfInBounds_toArray, List.set_cons_zero, List.set_cons_succ] <;> rfl)
     · intro al ca st ex bf af cf vw hN hX hw0 hall
       have q2 : ca 0 = true := hall 2 (by decide)
       have q5 : ca 1 = true := hall 5 (by decide)
       have q8 : ca 2 = true := hall 8 (by decide)
       have q11 : ca 3 = true := hall 11 (by decide)
       have q12 : al 0 = true := hall 12 (by decide)
       have q13 : al 1 = true := hall 13 (by decide)
       have q14 : al 2 = true := hall 14 (by decide)
       have q15 : al 3 = true := hall 15 (by decide)
       have q16 : st 0 = true := hall 16 (by decide)
       have q17 : st 1 = true := hall 17 (by decide)
       have q18 : st 2 = true := hall 18 (by decide)
       have q19 : st 3 = true := hall 19 (by decide)
       clear hall
       simp only [fillA, q2, q5, q8, q11, q12, q13, q14, q15, PT_true, NT_true, VT_true, List.setIfInBounds_toArray, List.set_cons_zero, List.set_cons_succ]
       have fv2 := (show FV w0 (w.heap.size + 1 + 1) (.int .u64 0) (.int .u64 0) from inferInstance).lt
       haveI n0 : NB5 vw (bf 0) ia da (af 0) (cf 0) := (hN.se 0 q16).2.2
       haveI D0 : DS vw (dbad da) (decide (dman da < 0)) (af 0) (nl (dman da).natAbs) (cf 0) (dexp da) da := ⟨dys_of Na (hN.nu 0 q2)⟩
       haveI n1 : NB5 vw (bf 1) ib db (af 1) (cf 1) := (hN.se 1 q17).2.2
       haveI D1 : DS vw (dbad db) (decide (dman db < 0)) (af 1) (nl (dman db).natAbs) (cf 1) (dexp db) db := ⟨dys_of Nb (hN.nu 1 q5)⟩
       haveI n2 : NB5 vw (bf 2) ic dc (af 2) (cf 2) := (hN.se 2 q18).2.2
       haveI D2 : DS vw (dbad dc) (decide (dman dc < 0)) (af 2) (nl (dman dc).natAbs) (cf 2) (dexp dc) dc := ⟨dys_of Nc (hN.nu 2 q8)⟩
       haveI n3 : NB5 vw (bf 3) id dd (af 3) (cf 3) := (hN.se 3 q19).2.2
       haveI D3 : DS vw (dbad dd) (decide (dman dd < 0)) (af 3) (nl (dman dd).natAbs) (cf 3) (dexp dd) dd := ⟨dys_of Nd (hN.nu 3 q11)⟩
       have e01 := hN.ne 0 1 (by decide) q12 q13
       have e02 := hN.ne 0 2 (by decide) q12 q14
       have e03 := hN.ne 0 3 (by decide) q12 q15
       have e12 := hN.ne 1 2 (by decide) q13 q14
       have e13 := hN.ne 1 3 (by decide) q13 q15
       have e23 := hN.ne 2 3 (by decide) q14 q15
       have x0 := (hN.bx 0 q12).1
       have mm0 := hN.nu 0 q2
       have x1 := (hN.bx 1 q13).1
       have mm1 := hN.nu 1 q5
       have x2 := (hN.bx 2 q14).1
       have mm2 := hN.nu 2 q8
       have x3 := (hN.bx 3 q15).1
       have mm3 := hN.nu 3 q11
       clear hN hX
       generalize bf 0 = z0 at *
       generalize af 0 = A0 at *
       generalize cf 0 = C0 at *
       generalize bf 1 = z1 at *
       generalize af 1 = A1 at *
       generalize cf 1 = C1 at *
       generalize bf 2 = z2 at *
       generalize af 2 = A2 at *
       generalize cf 2 = C2 at *
       generalize bf 3 = z3 at *
       generalize af 3 = A3 at *
       generalize cf 3 = C3 at *
       by_cases hg : gd < 0
       · go_upto_region 4 with fail
         go_cut [40] (fun v wx => v = .bool false ∧ From vw wx)
         case first =>
          by_cases hc : gc ≤ 0
          · go_wp2_with fail
            refine (HSc _ _ _).out.mono ?_; rintro o w5 ⟨rfl, b5⟩; go_wp2_with fail
            refine (HSd _ _ _).out.mono ?_; rintro o w6 ⟨rfl, b6⟩; go_wp2_with fail
            go_meet
            exact ⟨by rw [decide_eq_false (show ¬ 0 ≤ gd by omega)], ⟨zbh⟩⟩
          · go_wp2_with fail
            refine (HSc _ _ _).out.mono ?_; rintro o w5 ⟨rfl, b5⟩; go_wp2_with fail
            go_meet
            exact ⟨rfl, ⟨zbh⟩⟩
         case rest =>
          obtain ⟨rfl, f4⟩ := hcut
          generalize wc = w6 at *
          go_wp2_with fail
          refine (HSd _ _ _).out.mono ?_; rintro o w7 ⟨rfl, b7⟩; go_wp2_with fail
          haveI nb0 : NB (w.heap.size + 1 + 1) z0 := ⟨by omega⟩
          haveI av0 : Abv w z0 := ⟨by omega⟩
          haveI nb1 : NB (w.heap.size + 1 + 1) z1 := ⟨by omega⟩
          haveI av1 : Abv w z1 := ⟨by omega⟩
          haveI nb2 : NB (w.heap.size + 1 + 1) z2 := ⟨by omega⟩
          haveI av2 : Abv w z2 := ⟨by omega⟩
          haveI nb3 : NB (w.heap.size + 1 + 1) z3 := ⟨by omega⟩
          haveI av3 : Abv w z3 := ⟨by omega⟩
          have s7 := (show Below vw.heap.size vw w7 from zbh).size
          have lt0 := n0.lt
          have lt1 := n1.lt
          have lt2 := n2.lt
          have lt3 := n3.lt
          go_upto_region 7 with fail
          go_cut [9, 10] (fun v9 v10 wx => ∃ g h, v9 = .pointer (some ⟨g, 0, none⟩) ∧ v10 = .pointer (some ⟨h, 0, none⟩) ∧ FV wx g (.int .u64 (N1 : Nat)) (.int .u64 (N2 : Nat)) ∧ FV wx h (.int .u64 (M1 : Nat)) (.int .u64 (M2 : Nat)) ∧ w7.heap.size ≤ g ∧ w7.heap.size ≤ h ∧ From w7 wx)
          case first =>
           refine wp_region_from (by kernel_rfl) (fun w0 b0 => ?_)
           refine tkz 0 45 (.agg #[.int .u64 p, .int .u64 q]) (hy := fun w hSw => by haveI : From w0 w := ⟨hSw⟩; go_simp) (hS := Below.refl _ _) (h := ?_)
           refine tkz 2 47 (.agg #[.int .u64 r, .int .u64 s]) (hy := fun w hSw => by haveI : From w0 w := ⟨hSw⟩; go_simp) (hS := Below.refl _ _) (h := ?_)
           have hN0 := NF.start w0 (fun i => .int .u64 ((pick4 N1 M1 N1 M1 i : Nat) : Int)) (fun i => .int .u64 ((pick4 N2 M2 N2 M2 i : Nat) : Int)) (fun _ => 0)
           refine wpAnyH_nf w0 (fun i => .int .u64 ((pick4 N1 M1 N1 M1 i : Nat) : Int)) (fun i => .int .u64 ((pick4 N2 M2 N2 M2 i : Nat) : Int)) (fun al ca st => #[true, ca 0, true, ca 1, al 0, al 1, st 0, st 1]) (fun al ca bf => [(46, VO (ca 0) (.agg #[(fun i => .int .u64 ((pick4 N1 M1 N1 M1 i : Nat) : Int)) 0, (fun i => .int .u64 ((pick4 N2 M2 N2 M2 i : Nat) : Int)) 0]) u46), (48, VO (ca 1) (.agg #[(fun i => .int .u64 ((pick4 N1 M1 N1 M1 i : Nat) : Int)) 1, (fun i => .int .u64 ((pick4 N2 M2 N2 M2 i : Nat) : Int)) 1]) u48), (9, PT (al 0) (bf 0)), (10, PT (al 1) (bf 1))]) rfl hN0 rfl (by simp only [fillA, List.setIfInBounds_toArray, List.set_cons_zero, List.set_cons_succ] <;> rfl) (by decide) (by kernel_rfl) (fun _ _ _ => rfl) ?_ ?_
           · intro al ca st bf vw hN hw0
             repeat' (first | exact AllI.nil | refine AllI.cons ?_ ?_)
             · intro h; cases h
             · intro _ _ K hK
               simp only [fillA, List.setIfInBounds_toArray, List.set_cons_zero, List.set_cons_succ]
               go_simp
               refine (HNx _).out.mono ?_; rintro o w1 ⟨rfl, b1⟩
               go_simp
               exact hK.out al (up1 ca 0 true) st bf _ _ rfl (by simp only [fillA, List.setIfInBounds_toArray, List.set_cons_zero, List.set_cons_succ] <;> rfl) (hN.call 0 b1)
             · intro h; cases h
             · intro _ _ K hK
               simp only [fillA, List.setIfInBounds_toArray, List.set_cons_zero, List.set_cons_succ]
               go_simp
               refine (HNy _).out.mono ?_; rintro o w1 ⟨rfl, b1⟩
               go_simp
               exact hK.out al (up1 ca 1 true) st bf _ _ rfl (by simp only [fillA, List.setIfInBounds_toArray, List.set_cons_zero, List.set_cons_succ] <;> rfl) (hN.call 1 b1)
             · intro (hl : al 0 = false) _ K hK
               simp [go_sem]
               exact hK.out (up1 al 0 true) ca st (up1 bf 0 vw.heap.size) _ _ rfl (by simp only [fillA, List.setIfInBounds_toArray, List.set_cons_zero, List.set_cons_succ] <;> rfl) (hN.alloc 0 hl _ _ _)
             · intro (hl : al 1 = false) _ K hK
               simp [go_sem]
               exact hK.out (up1 al 1 true) ca st (up1 bf 1 vw.heap.size) _ _ rfl (by simp only [fillA, List.setIfInBounds_toArray, List.set_cons_zero, List.set_cons_succ] <;> rfl) (hN.alloc 1 hl _ _ _)
             · intro _ haf K hK
               have h1 : al 0 = true := haf ⟨4, .data⟩ (by simp) rfl
               have h2 : ca 0 = true := haf ⟨1, .data⟩ (by simp) rfl
               clear haf
               haveI hz := (hN.bx 0 h1).2.spec
               simp [fillA, h1, h2, PT_true, VO_true, go_sem]
               have hS := hN.store 0 h1
               exact hK.out al ca (up1 st 0 true) bf _ _ rfl (by simp only [fillA, h1, h2, PT_true, VO_true, List.setIfInBounds_toArray, List.set_cons_zero, List.set_cons_succ] <;> rfl) hS
             · intro _ haf K hK
               have h1 : al 1 = true := haf ⟨5, .data⟩ (by simp) rfl
               have h2 : ca 1 = true := haf ⟨3, .data⟩ (by simp) rfl
               clear haf
               haveI hz := (hN.bx 1 h1).2.spec
               simp [fillA, h1, h2, PT_true, VO_true, go_sem]
               have hS := hN.store 1 h1
               exact hK.out al ca (up1 st 1 true) bf _ _ rfl (by simp only [fillA, h1, h2, PT_true, VO_true, List.setIfInBounds_toArray, List.set_cons_zero, List.set_cons_succ] <;> rfl) hS
           · intro al ca st bf vw hN hw0 hall
             have q1 : ca 0 = true := hall 1 (by decide)
             have q3 : ca 1 = true := hall 3 (by decide)
             have q4 : al 0 = true := hall 4 (by decide)
             have q5 : al 1 = true := hall 5 (by decide)
             have q6 : st 0 = true := hall 6 (by decide)
             have q7 : st 1 = true := hall 7 (by decide)
             clear hall
             simp only [fillA, q1, q3, q4, q5, PT_true, VO_true, List.setIfInBounds_toArray, List.set_cons_zero, List.set_cons_succ]
             go_wp2_with fail
             go_meet
             have z9 := b0.out.size
             exact ⟨_, _, rfl, rfl, (hN.se 0 q6).2, (hN.se 1 q7).2, Nat.le_trans z9 (hN.bx 0 q4).1, Nat.le_trans z9 (hN.bx 1 q5).1, ⟨b0.out.trans (hN.beh.mono b0.out.size)⟩⟩
          case rest =>
           obtain ⟨g, h, rfl, rfl, fg, fh, lg, lh, f7⟩ := hcut
           generalize wc = w33 at *
           have ng0 : ¬ z0 = g := by omega
           have nh0 : ¬ z0 = h := by omega
           have ng1 : ¬ z1 = g := by omega
           have nh1 : ¬ z1 = h := by omega
           have ng2 : ¬ z2 = g := by omega
           have nh2 : ¬ z2 = h := by omega
           have ng3 : ¬ z3 = g := by omega
           have nh3 : ¬ z3 = h := by omega
           go_upto_region 8 with fail
           go_cut [] (fun wx => ∃ A0 C0 A1 C1 A2 C2 A3 C3, NB5 wx z0 i0 d0 A0 C0 ∧ NB5 wx z1 i1 d1 A1 C1 ∧ NB5 wx z2 i2 d2 A2 C2 ∧ NB5 wx z3 i3 d3 A3 C3 ∧ BI wx A0 (nl (dman d0).natAbs) C0 (dman d0).natAbs ∧ BI wx A1 (nl (dman d1).natAbs) C1 (dman d1).natAbs ∧ BI wx A2 (nl (dman d2).natAbs) C2 (dman d2).natAbs ∧ BI wx A3 (nl (dman d3).natAbs) C3 (dman d3).natAbs ∧ FV wx (w.heap.size + 1 + 1) (.int .u64 0) (.int .u64 0) ∧ Below w.heap.size w wx)
           case first =>
            haveI Ng0 : NB g z0 := ⟨by omega⟩
            haveI Nh0 : NB h z0 := ⟨by omega⟩
            haveI Ng1 : NB g z1 := ⟨by omega⟩
            haveI Nh1 : NB h z1 := ⟨by omega⟩
            haveI Ng2 : NB g z2 := ⟨by omega⟩
            haveI Nh2 : NB h z2 := ⟨by omega⟩
            haveI Ng3 : NB g z3 := ⟨by omega⟩
            haveI Nh3 : NB h z3 := ⟨by omega⟩
            refine wp_region_held_drew (S := fun w' => FV w' g (.int .u64 (N1 : Nat)) (.int .u64 (N2 : Nat)) ∧ FV w' h (.int .u64 (M1 : Nat)) (.int .u64 (M2 : Nat))) (by kernel_rfl) (⟨inferInstance, inferInstance⟩) (fun hHeld => ?_)
            simp only [List.size_toArray, List.length_cons, List.length_nil, Nat.reduceAdd, Array.replicate_succ, Array.replicate_zero, List.push_toArray, List.append_toArray, List.nil_append, List.cons_append]
            refine tkz 0 49 (.pointer (some ⟨g, 0, none⟩)) (hy := fun w hSw => by obtain ⟨k1, k2⟩ := hSw; haveI := k1; haveI := k2; simp [go_sem]) (hS := hHeld) (h := ?_)
            refine tkz 1 50 (.int .u64 (N1 : Nat)) (hy := fun w hSw => by obtain ⟨k1, k2⟩ := hSw; haveI := k1; haveI := k2; simp [go_sem]) (hS := hHeld) (h := ?_)
            refine tkz 3 52 (.pointer (some ⟨g, 1, none⟩)) (hy := fun w hSw => by obtain ⟨k1, k2⟩ := hSw; haveI := k1; haveI := k2; simp [go_sem]) (hS := hHeld) (h := ?_)
            refine tkz 4 53 (.int .u64 (N2 : Nat)) (hy := fun w hSw => by obtain ⟨k1, k2⟩ := hSw; haveI := k1; haveI := k2; simp [go_sem]) (hS := hHeld) (h := ?_)
            refine tkz 6 55 (.pointer (some ⟨h, 0, none⟩)) (hy := fun w hSw => by obtain ⟨k1, k2⟩ := hSw; haveI := k1; haveI := k2; simp [go_sem]) (hS := hHeld) (h := ?_)
            refine tkz 7 56 (.int .u64 (M1 : Nat)) (hy := fun w hSw => by obtain ⟨k1, k2⟩ := hSw; haveI := k1; haveI := k2; simp [go_sem]) (hS := hHeld) (h := ?_)
            refine tkz 9 58 (.pointer (some ⟨h, 1, none⟩)) (hy := fun w hSw => by obtain ⟨k1, k2⟩ := hSw; haveI := k1; haveI := k2; simp [go_sem]) (hS := hHeld) (h := ?_)
            refine tkz 10 59 (.int .u64 (M2 : Nat)) (hy := fun w hSw => by obtain ⟨k1, k2⟩ := hSw; haveI := k1; haveI := k2; simp [go_sem]) (hS := hHeld) (h := ?_)
            refine wpAnyH_ready (rs := [2]) (by kernel_rfl) (by simp) ?_
            refine AllReadyH.cons rfl (fun K hK => ?_) AllReadyH.nil
            simp [go_sem]
            refine (HO0 _).out.mono ?_; rintro o w40 ⟨a0, c0, rfl, y0, b0, m0, f0⟩
            simp [go_sem]
            refine hK.out _ _ (⟨inferInstance, inferInstance⟩) (fun hHeld => ?_)
            clear hK K
            simp only [Act.put, List.setIfInBounds_toArray, List.set_cons_zero, List.set_cons_succ]
            refine wpAnyH_ready (rs := [5]) (by kernel_rfl) (by simp) ?_
            refine AllReadyH.cons rfl (fun K hK => ?_) AllReadyH.nil
            simp [go_sem]
            refine (HO1 _).out.mono ?_; rintro o w41 ⟨a1, c1, rfl, y1, b1, m1, f1⟩
            simp [go_sem]
            refine hK.out _ _ (⟨inferInstance, inferInstance⟩) (fun hHeld => ?_)
            clear hK K
            simp only [Act.put, List.setIfInBounds_toArray, List.set_cons_zero, List.set_cons_succ]
            refine wpAnyH_ready (rs := [8]) (by kernel_rfl) (by simp) ?_
            refine AllReadyH.cons rfl (fun K hK => ?_) AllReadyH.nil
            simp [go_sem]
            refine (HO2 _).out.mono ?_; rintro o w42 ⟨a2, c2, rfl, y2, b2, m2, f2⟩
            simp [go_sem]
            refine hK.out _ _ (⟨inferInstance, inferInstance⟩) (fun hHeld => ?_)
            clear hK K
            simp only [Act.put, List.setIfInBounds_toArray, List.set_cons_zero, List.set_cons_succ]
            refine wpAnyH_ready (rs := [11]) (by kernel_rfl) (by simp) ?_
            refine AllReadyH.cons rfl (fun K hK => ?_) AllReadyH.nil
            simp [go_sem]
            refine (HO3 _).out.mono ?_; rintro o w43 ⟨a3, c3, rfl, y3, b3, m3, f3⟩
            simp [go_sem]
            refine hK.out _ _ (⟨inferInstance, inferInstance⟩) (fun hHeld => ?_)
            clear hK K
            simp only [Act.put, List.setIfInBounds_toArray, List.set_cons_zero, List.set_cons_succ]
            refine wpAnyH_ready (rs := [12]) (by kernel_rfl) (by simp) ?_
            refine AllReadyH.cons rfl (fun K hK => ?_) AllReadyH.nil
            simp [go_sem]
            refine hK.out _ _ (⟨inferInstance, inferInstance⟩) (fun hHeld => ?_)
            clear hK K
            simp only [Act.put, List.setIfInBounds_toArray, List.set_cons_zero, List.set_cons_succ]
            refine wpAnyH_ready (rs := [13]) (by kernel_rfl) (by simp) ?_
            refine AllReadyH.cons rfl (fun K hK => ?_) AllReadyH.nil
            simp [go_sem]
            refine hK.out _ _ (⟨inferInstance, inferInstance⟩) (fun hHeld => ?_)
            clear hK K
            simp only [Act.put, List.setIfInBounds_toArray, List.set_cons_zero, List.set_cons_succ]
            refine wpAnyH_ready (rs := [14]) (by kernel_rfl) (by simp) ?_
            refine AllReadyH.cons rfl (fun K hK => ?_) AllReadyH.nil
            simp [go_sem]
            refine hK.out _ _ (⟨inferInstance, inferInstance⟩) (fun hHeld => ?_)
            clear hK K
            simp only [Act.put, List.setIfInBounds_toArray, List.set_cons_zero, List.set_cons_succ]
            refine wpAnyH_ready (rs := [15]) (by kernel_rfl) (by simp) ?_
            refine AllReadyH.cons rfl (fun K hK => ?_) AllReadyH.nil
            simp [go_sem]
            refine hK.out _ _ (⟨inferInstance, inferInstance⟩) (fun hHeld => ?_)
            clear hK K
            simp only [Act.put, List.setIfInBounds_toArray, List.set_cons_zero, List.set_cons_succ]
            refine wpAnyH_done (by kernel_rfl) ?_ _
            · go_wp2_with fail
              go_meet
              have s33 := (show Below vw.heap.size vw w33 from zbh).size
              have s40 := b0.out.size
              have s41 := b1.out.size
              have s42 := b2.out.size
              have s43 := b3.out.size
              have n01 : z0 ≠ z1 := by omega
              have n02 : z0 ≠ z2 := by omega
              have n03 : z0 ≠ z3 := by omega
              have n10 : z1 ≠ z0 := by omega
              have n12 : z1 ≠ z2 := by omega
              have n13 : z1 ≠ z3 := by omega
              have n20 : z2 ≠ z0 := by omega
              have n21 : z2 ≠ z1 := by omega
              have n23 : z2 ≠ z3 := by omega
              have n30 : z3 ≠ z0 := by omega
              have n31 : z3 ≠ z1 := by omega
              have n32 : z3 ≠ z2 := by omega
              simp at s40
              exact ⟨a0, c0, a1, c1, a2, c2, a3, c3, (((((show NB5 w43 z0 ia da A0 C0 from inferInstance).set5 _ _ _ _ _).st5 n01 _ _ _ _ _).st5 n02 _ _ _ _ _).st5 n03 _ _ _ _ _), (((((show NB5 w43 z1 ib db A1 C1 from inferInstance).st5 n10 _ _ _ _ _).set5 _ _ _ _ _).st5 n12 _ _ _ _ _).st5 n13 _ _ _ _ _), (((((show NB5 w43 z2 ic dc A2 C2 from inferInstance).st5 n20 _ _ _ _ _).st5 n21 _ _ _ _ _).set5 _ _ _ _ _).st5 n23 _ _ _ _ _), (((((show NB5 w43 z3 id dd A3 C3 from inferInstance).st5 n30 _ _ _ _ _).st5 n31 _ _ _ _ _).st5 n32 _ _ _ _ _).set5 _ _ _ _ _), ⟨(Mag.st5 (Mag.st5 (Mag.st5 (Mag.st5 (show BI w43 a0 (nl (dman d0).natAbs) c0 (dman d0).natAbs from inferInstance).out (fun h => by have h0 := f0 h; (try simp at h0); omega) _ _ _ _ _) (fun h => by have h0 := f0 h; (try simp at h0); omega) _ _ _ _ _) (fun h => by have h0 := f0 h; (try simp at h0); omega) _ _ _ _ _) (fun h => by have h0 := f0 h; (try simp at h0); omega) _ _ _ _ _)⟩, ⟨(Mag.st5 (Mag.st5 (Mag.st5 (Mag.st5 (show BI w43 a1 (nl (dman d1).natAbs) c1 (dman d1).natAbs from inferInstance).out (fun h => by have h0 := f1 h; (try simp at h0); omega) _ _ _ _ _) (fun h => by have h0 := f1 h; (try simp at h0); omega) _ _ _ _ _) (fun h => by have h0 := f1 h; (try simp at h0); omega) _ _ _ _ _) (fun h => by have h0 := f1 h; (try simp at h0); omega) _ _ _ _ _)⟩, ⟨(Mag.st5 (Mag.st5 (Mag.st5 (Mag.st5 (show BI w43 a2 (nl (dman d2).natAbs) c2 (dman d2).natAbs from inferInstance).out (fun h => by have h0 := f2 h; (try simp at h0); omega) _ _ _ _ _) (fun h => by have h0 := f2 h; (try simp at h0); omega) _ _ _ _ _) (fun h => by have h0 := f2 h; (try simp at h0); omega) _ _ _ _ _) (fun h => by have h0 := f2 h; (try simp at h0); omega) _ _ _ _ _)⟩, ⟨(Mag.st5 (Mag.st5 (Mag.st5 (Mag.st5 (show BI w43 a3 (nl (dman d3).natAbs) c3 (dman d3).natAbs from inferInstance).out (fun h => by have h0 := f3 h; (try simp at h0); omega) _ _ _ _ _) (fun h => by have h0 := f3 h; (try simp at h0); omega) _ _ _ _ _) (fun h => by have h0 := f3 h; (try simp at h0); omega) _ _ _ _ _) (fun h => by have h0 := f3 h; (try simp at h0); omega) _ _ _ _ _)⟩, inferInstance, zbh⟩
           case rest =>
            obtain ⟨E0, F0, E1, F1, E2, F2, E3, F3, u0, u1, u2, u3, v0, v1, v2, v3, fv, hb⟩ := hcut
            generalize wc = w50 at *
            haveI behw : Beh w w50 := ⟨hb⟩
            haveI tcc : Tb w50 := ⟨(show Tb w from inferInstance).out.below hb⟩
            haveI U0 : DS w50 (dbad d0) (decide (dman d0 < 0)) E0 (nl (dman d0).natAbs) F0 (dexp d0) d0 := ⟨dys_of Nz0 v0.out⟩
            haveI na0 : NA E0 (nl (dman d0).natAbs) w50.heap.size := ⟨fun h e => by have h0 := v0.out.old h; omega⟩
            haveI U1 : DS w50 (dbad d1) (decide (dman d1 < 0)) E1 (nl (dman d1).natAbs) F1 (dexp d1) d1 := ⟨dys_of Nz1 v1.out⟩
            haveI na1 : NA E1 (nl (dman d1).natAbs) w50.heap.size := ⟨fun h e => by have h0 := v1.out.old h; omega⟩
            haveI U2 : DS w50 (dbad d2) (decide (dman d2 < 0)) E2 (nl (dman d2).natAbs) F2 (dexp d2) d2 := ⟨dys_of Nz2 v2.out⟩
            haveI na2 : NA E2 (nl (dman d2).natAbs) w50.heap.size := ⟨fun h e => by have h0 := v2.out.old h; omega⟩
            haveI U3 : DS w50 (dbad d3) (decide (dman d3 < 0)) E3 (nl (dman d3).natAbs) F3 (dexp d3) d3 := ⟨dys_of Nz3 v3.out⟩
            haveI na3 : NA E3 (nl (dman d3).natAbs) w50.heap.size := ⟨fun h e => by have h0 := v3.out.old h; omega⟩
            by_cases ha : 0 ≤ gaN
            · by_cases hb : 0 ≤ gbN
              · go_wp2_with fail
                refine (HSaN _ _ _).out.mono ?_; rintro o w21 ⟨rfl, b21⟩; go_wp2_with fail
                haveI t21 : Tb w21 := inferInstance
                refine (HQadN _ _ _ _ _).out.mono ?_; rintro o w22 ⟨rfl, b22⟩; go_wp2_with fail
                haveI tz : Tb (w22.setCell ⟨w50.heap.size, 0, none⟩ (.int .u64 (qadN : Nat))) := ⟨tcc.out.below ((show Below w50.heap.size w50 w22 from zbh).setCell (Nat.le_refl _) _)⟩
                refine (HSbN _ _ _).out.mono ?_; rintro o w23 ⟨rfl, b23⟩; go_wp2_with fail
                refine (HQbcN _ _ _ _ _).out.mono ?_; rintro o w24 ⟨rfl, b24⟩; go_wp2_with fail
                obtain rfl : V = (qadN, qbcN) := by have e := HV.out; rw [if_neg (show ¬ (gc ≤ 0 ∧ 0 ≤ gd) by omega), if_pos (show gd < 0 by omega), if_pos (show 0 ≤ gaN by omega), if_pos (show 0 ≤ gbN by omega)] at e; exact e.symm
                refine bodyPost_ret (v := .agg #[.int .u64 (qadN : Nat), .int .u64 (qbcN : Nat)]) (by simp only [results, Tryz.results26]; go_simp) rfl ?_
                exact ⟨rfl, zbh⟩
              · go_wp2_with fail
                refine (HSaN _ _ _).out.mono ?_; rintro o w21 ⟨rfl, b21⟩; go_wp2_with fail
                haveI t21 : Tb w21 := inferInstance
                refine (HQadN _ _ _ _ _).out.mono ?_; rintro o w22 ⟨rfl, b22⟩; go_wp2_with fail
                haveI tz : Tb (w22.setCell ⟨w50.heap.size, 0, none⟩ (.int .u64 (qadN : Nat))) := ⟨tcc.out.below ((show Below w50.heap.size w50 w22 from zbh).setCell (Nat.le_refl _) _)⟩
                refine (HSbN _ _ _).out.mono ?_; rintro o w23 ⟨rfl, b23⟩; go_wp2_with fail
                refine (HQbdN _ _ _ _ _).out.mono ?_; rintro o w24 ⟨rfl, b24⟩; go_wp2_with fail
                obtain rfl : V = (qadN, qbdN) := by have e := HV.out; rw [if_neg (show ¬ (gc ≤ 0 ∧ 0 ≤ gd) by omega), if_pos (show gd < 0 by omega), if_pos (show 0 ≤ gaN by omega), if_neg (show ¬ 0 ≤ gbN by omega)] at e; exact e.symm
                refine bodyPost_ret (v := .agg #[.int .u64 (qadN : Nat), .int .u64 (qbdN : Nat)]) (by simp only [results, Tryz.results26]; go_simp) rfl ?_
                exact ⟨rfl, zbh⟩
            · by_cases hb : 0 ≤ gbN
              · go_wp2_with fail
                refine (HSaN _ _ _).out.mono ?_; rintro o w21 ⟨rfl, b21⟩; go_wp2_with fail
                haveI t21 : Tb w21 := inferInstance
                refine (HQacN _ _ _ _ _).out.mono ?_; rintro o w22 ⟨rfl, b22⟩; go_wp2_with fail
                haveI tz : Tb (w22.setCell ⟨w50.heap.size, 0, none⟩ (.int .u64 (qacN : Nat))) := ⟨tcc.out.below ((show Below w50.heap.size w50 w22 from zbh).setCell (Nat.le_refl _) _)⟩
                refine (HSbN _ _ _).out.mono ?_; rintro o w23 ⟨rfl, b23⟩; go_wp2_with fail
                refine (HQbcN _ _ _ _ _).out.mono ?_; rintro o w24 ⟨rfl, b24⟩; go_wp2_with fail
                obtain rfl : V = (qacN, qbcN) := by have e := HV.out; rw [if_neg (show ¬ (gc ≤ 0 ∧ 0 ≤ gd) by omega), if_pos (show gd < 0 by omega), if_neg (show ¬ 0 ≤ gaN by omega), if_pos (show 0 ≤ gbN by omega)] at e; exact e.symm
                refine bodyPost_ret (v := .agg #[.int .u64 (qacN : Nat), .int .u64 (qbcN : Nat)]) (by simp only [results, Tryz.results26]; go_simp) rfl ?_
                exact ⟨rfl, zbh⟩
              · go_wp2_with fail
                refine (HSaN _ _ _).out.mono ?_; rintro o w21 ⟨rfl, b21⟩; go_wp2_with fail
                haveI t21 : Tb w21 := inferInstance
                refine (HQacN _ _ _ _ _).out.mono ?_; rintro o w22 ⟨rfl, b22⟩; go_wp2_with fail
                haveI tz : Tb (w22.setCell ⟨w50.heap.size, 0, none⟩ (.int .u64 (qacN : Nat))) := ⟨tcc.out.below ((show Below w50.heap.size w50 w22 from zbh).setCell (Nat.le_refl _) _)⟩
                refine (HSbN _ _ _).out.mono ?_; rintro o w23 ⟨rfl, b23⟩; go_wp2_with fail
                refine (HQbdN _ _ _ _ _).out.mono ?_; rintro o w24 ⟨rfl, b24⟩; go_wp2_with fail
                obtain rfl : V = (qacN, qbdN) := by have e := HV.out; rw [if_neg (show ¬ (gc ≤ 0 ∧ 0 ≤ gd) by omega), if_pos (show gd < 0 by omega), if_neg (show ¬ 0 ≤ gaN by omega), if_neg (show ¬ 0 ≤ gbN by omega)] at e; exact e.symm
                refine bodyPost_ret (v := .agg #[.int .u64 (qacN : Nat), .int .u64 (qbdN : Nat)]) (by simp only [results, Tryz.results26]; go_simp) rfl ?_
                exact ⟨rfl, zbh⟩
       · by_cases hc : gc ≤ 0
         · go_wp2_with fail
           refine (HSc _ _ _).out.mono ?_; rintro o w5 ⟨rfl, b5⟩; go_wp2_with fail
           refine (HSd _ _ _).out.mono ?_; rintro o w6 ⟨rfl, b6⟩; go_wp2_with fail
           refine (HW _).out.mono ?_; rintro o w8 ⟨rfl, b8⟩; go_wp2_with fail
           obtain rfl : V = iall := by have e := HV.out; rw [if_pos ⟨hc, by omega⟩] at e; exact e.symm
           refine bodyPost_ret (v := .agg #[.int .u64 18442240474082181120, .int .u64 9218868437227405312]) (by simp only [results, Tryz.results26]; go_simp) rfl ?_
           exact ⟨rfl, zbh⟩
         · go_wp2_with fail
           refine (HSc _ _ _).out.mono ?_; rintro o w5 ⟨rfl, b5⟩; go_wp2_with fail
           refine (HSd _ _ _).out.mono ?_; rintro o w7 ⟨rfl, b7⟩; go_wp2_with fail
           haveI na0 : NA A0 (nl (dman da).natAbs) w7.heap.size := ⟨fun h e => by have h0 := mm0.old h; have h9 := (show Below vw.heap.size vw w7 from zbh).size; omega⟩
           haveI na1 : NA A1 (nl (dman db).natAbs) w7.heap.size := ⟨fun h e => by have h0 := mm1.old h; have h9 := (show Below vw.heap.size vw w7 from zbh).size; omega⟩
           haveI na2 : NA A2 (nl (dman dc).natAbs) w7.heap.size := ⟨fun h e => by have h0 := mm2.old h; have h9 := (show Below vw.heap.size vw w7 from zbh).size; omega⟩
           haveI na3 : NA A3 (nl (dman dd).natAbs) w7.heap.size := ⟨fun h e => by have h0 := mm3.old h; have h9 := (show Below vw.heap.size vw w7 from zbh).size; omega⟩
           by_cases ha : 0 ≤ ga
           · by_cases hb : 0 ≤ gb
             · go_wp2_with fail
               refine (HSa _ _ _).out.mono ?_; rintro o w21 ⟨rfl, b21⟩; go_wp2_with fail
               haveI t21 : Tb w21 := inferInstance
               refine (HQad _ _ _ _ _).out.mono ?_; rintro o w22 ⟨rfl, b22⟩; go_wp2_with fail
               haveI tz : Tb (w22.setCell ⟨w7.heap.size, 0, none⟩ (.int .u64 (qad : Nat))) := ⟨(show Tb w7 from inferInstance).out.below ((show Below w7.heap.size w7 w22 from zbh).setCell (Nat.le_refl _) _)⟩
               refine (HSb _ _ _).out.mono ?_; rintro o w23 ⟨rfl, b23⟩; go_wp2_with fail
               refine (HQbc _ _ _ _ _).out.mono ?_; rintro o w24 ⟨rfl, b24⟩; go_wp2_with fail
               obtain rfl : V = (qad, qbc) := by have e := HV.out; rw [if_neg (show ¬ (gc ≤ 0 ∧ 0 ≤ gd) by omega), if_neg (show ¬ gd < 0 by omega), if_pos (show 0 ≤ ga by omega), if_pos (show 0 ≤ gb by omega)] at e; exact e.symm
               refine bodyPost_ret (v := .agg #[.int .u64 (qad : Nat), .int .u64 (qbc : Nat)]) (by simp only [results, Tryz.results26]; go_simp) rfl ?_
               exact ⟨rfl, zbh⟩
             · go_wp2_with fail
               refine (HSa _ _ _).out.mono ?_; rintro o w21 ⟨rfl, b21⟩; go_wp2_with fail
               haveI t21 : Tb w21 := inferInstance
               refine (HQad _ _ _ _ _).out.mono ?_; rintro o w22 ⟨rfl, b22⟩; go_wp2_with fail
               haveI tz : Tb (w22.setCell ⟨w7.heap.size, 0, none⟩ (.int .u64 (qad : Nat))) := ⟨(show Tb w7 from inferInstance).out.below ((show Below w7.heap.size w7 w22 from zbh).setCell (Nat.le_refl _) _)⟩
               refine (HSb _ _ _).out.mono ?_; rintro o w23 ⟨rfl, b23⟩; go_wp2_with fail
               refine (HQbd _ _ _ _ _).out.mono ?_; rintro o w24 ⟨rfl, b24⟩; go_wp2_with fail
               obtain rfl : V = (qad, qbd) := by have e := HV.out; rw [if_neg (show ¬ (gc ≤ 0 ∧ 0 ≤ gd) by omega), if_neg (show ¬ gd < 0 by omega), if_pos (show 0 ≤ ga by omega), if_neg (show ¬ 0 ≤ gb by omega)] at e; exact e.symm
               refine bodyPost_ret (v := .agg #[.int .u64 (qad : Nat), .int .u64 (qbd : Nat)]) (by simp only [results, Tryz.results26]; go_simp) rfl ?_
               exact ⟨rfl, zbh⟩
           · by_cases hb : 0 ≤ gb
             · go_wp2_with fail
               refine (HSa _ _ _).out.mono ?_; rintro o w21 ⟨rfl, b21⟩; go_wp2_with fail
               haveI t21 : Tb w21 := inferInstance
               refine (HQac _ _ _ _ _).out.mono ?_; rintro o w22 ⟨rfl, b22⟩; go_wp2_with fail
               haveI tz : Tb (w22.setCell ⟨w7.heap.size, 0, none⟩ (.int .u64 (qac : Nat))) := ⟨(show Tb w7 from inferInstance).out.below ((show Below w7.heap.size w7 w22 from zbh).setCell (Nat.le_refl _) _)⟩
               refine (HSb _ _ _).out.mono ?_; rintro o w23 ⟨rfl, b23⟩; go_wp2_with fail
               refine (HQbc _ _ _ _ _).out.mono ?_; rintro o w24 ⟨rfl, b24⟩; go_wp2_with fail
               obtain rfl : V = (qac, qbc) := by have e := HV.out; rw [if_neg (show ¬ (gc ≤ 0 ∧ 0 ≤ gd) by omega), if_neg (show ¬ gd < 0 by omega), if_neg (show ¬ 0 ≤ ga by omega), if_pos (show 0 ≤ gb by omega)] at e; exact e.symm
               refine bodyPost_ret (v := .agg #[.int .u64 (qac : Nat), .int .u64 (qbc : Nat)]) (by simp only [results, Tryz.results26]; go_simp) rfl ?_
               exact ⟨rfl, zbh⟩
             · go_wp2_with fail
               refine (HSa _ _ _).out.mono ?_; rintro o w21 ⟨rfl, b21⟩; go_wp2_with fail
               haveI t21 : Tb w21 := inferInstance
               refine (HQac _ _ _ _ _).out.mono ?_; rintro o w22 ⟨rfl, b22⟩; go_wp2_with fail
               haveI tz : Tb (w22.setCell ⟨w7.heap.size, 0, none⟩ (.int .u64 (qac : Nat))) := ⟨(show Tb w7 from inferInstance).out.below ((show Below w7.heap.size w7 w22 from zbh).setCell (Nat.le_refl _) _)⟩
               refine (HSb _ _ _).out.mono ?_; rintro o w23 ⟨rfl, b23⟩; go_wp2_with fail
               refine (HQbd _ _ _ _ _).out.mono ?_; rintro o w24 ⟨rfl, b24⟩; go_wp2_with fail
               obtain rfl : V = (qac, qbd) := by have e := HV.out; rw [if_neg (show ¬ (gc ≤ 0 ∧ 0 ≤ gd) by omega), if_neg (show ¬ gd < 0 by omega), if_neg (show ¬ 0 ≤ ga by omega), if_neg (show ¬ 0 ≤ gb by omega)] at e; exact e.symm
               refine bodyPost_ret (v := .agg #[.int .u64 (qac : Nat), .int .u64 (qbd : Nat)]) (by simp only [results, Tryz.results26]; go_simp) rfl ?_
               exact ⟨rfl, zbh⟩
end Go.Proofs.YtgicceiimciafaaGreatDoor

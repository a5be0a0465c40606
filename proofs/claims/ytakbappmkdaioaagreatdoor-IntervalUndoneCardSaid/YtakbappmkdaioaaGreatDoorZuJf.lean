/-
  Walks: package interval: Mid, Rad, Contains.
-/
import Derived.Test.YtakbappmkdaioaaGreatDoorZuJc
import Derived.Test.YtakbappmkdaioaaGreatDoorZuGq
import Derived.Test.YtakbappmkdaioaaGreatDoorZuBg
import Derived.Laws.EntriesVeiled
namespace Go.Proofs.YtakbappmkdaioaaGreatDoor
open Go.RowKit Sp
set_option linter.unusedSimpArgs false

attribute [local irreducible] Calls
abbrev DIv (W : World) (d : Option (Int × Int)) (a : Option Addr) (c : Nat) : Prop := DI W (dbad d) (decide (dman d < 0)) a (nl (dman d).natAbs) c (dexp d) d
theorem dvalid_in (w : World) (v s : Bool) (A : Option Addr) (n c : Nat) (e : Int) (d : Option (Int × Int)) (hx : DyIn w v s A n c e d) (hT : Tab w) : Calls Tryz.prog 128 #[.agg #[.bool v, .bool s, .slice A n c, .int .i64 e]] w fun e w' => e = .returned (.bool (!dbad d)) ∧ Below w.heap.size w w' := by
  obtain ⟨x, h1, h2, h3, h4, h5, h6⟩ := hx
  have := dvalid_any w v s A n c x e h1 h2 hT h3 (tz_lim h3) h4 h5
  rwa [h6] at this

set_option maxRecDepth 100000 in
set_option maxHeartbeats 8000000 in
theorem iabove_any (w : World) (g : Nat) (a : Nat) (ha : a < 18446744073709551616) (v s : Bool) (A : Option Addr) (n c : Nat) (e : Int) (d : Option (Int × Int)) [ht : Tb w] [hg : DB w g v s (.slice A n c) e] [hd : DI w v s A n c e d] :
    Calls Tryz.prog 196 #[.int .u64 (a : Nat), .pointer (some ⟨g, 0, none⟩)] w fun e w' => e = .returned (.int .i64 (dcmp (fof a) d)) ∧ Below w.heap.size w w' := by
  have HA := fun W [Tb W] => Lib.hid (frd (isN_fof a) (fof_any W a ha tb))
  have HC := fun W a1 c1 [i1 : DIv W (fof a) a1 c1] [i2 : DI W v s A n c e d] [Tb W] => Lib.hid (frm (dcmp_any W _ _ _ _ _ _ _ _ _ _ _ _ (fof a) d i1.out i2.out tb))
  generalize fof a = d1 at *
  generalize dcmp d1 d = u at *
  generalize (!dbad d1 && !dbad d) = u' at *
  generalize ((a : Nat) : Int) = p at *
  go_enter Tryz.func196, Tryz.ntmps196
  go_wp2_with fail
  first
  | go_region_held3 (fun w' => w'.cell? ⟨g, 0, none⟩ = some (.bool v) ∧ w'.cell? ⟨g, 1, none⟩ = some (.bool s) ∧ w'.cell? ⟨g, 2, none⟩ = some (.slice A n c) ∧ w'.cell? ⟨g, 3, none⟩ = some (.int .i64 e)) (first | (go_simp; done))
      (first
        | (go_at_call 60; refine (HA _).out.mono ?_; rintro e w1 ⟨a1, c1, rfl, i1, b1⟩)
        | (go_at_call 127; refine (HC _ _ _).out.mono ?_; rintro e w2 ⟨rfl, b2⟩)
        | fail)
  | fail "region"
  all_goals (
    go_wp2_with fail
    go_ret
    exact ⟨rfl, zbh⟩)

set_option maxRecDepth 100000 in
set_option maxHeartbeats 8000000 in
theorem icont_any (w : World) (hT : Tab w) (a : Nat) (b : Nat) (ha : a < 18446744073709551616) (hb : b < 18446744073709551616) (v s : Bool) (A : Option Addr) (n c : Nat) (e : Int) (d : Option (Int × Int)) (hx : DyIn w v s A n c e d) :
    Calls Tryz.prog 91 #[.agg #[.int .u64 (a : Nat), .int .u64 (b : Nat)], .agg #[.bool v, .bool s, .slice A n c, .int .i64 e]] w fun e w' => e = .returned (.bool (icont (a, b) d)) ∧ Below w.heap.size w w' := by
  have hmf : ∀ (fn : Fn) (first cap : Array Value) (w : World), (Instr.makeFunc fn first cap).run Tryz.prog w = .ok (.func fn first cap) w := fun _ _ _ _ => rfl
  have HT : Tb w := ⟨hT⟩
  have HX : DI w v s A n c e d := ⟨hx⟩
  clear hx
  have H1 := fun W => Lib.hid (frm (ivalid_any W a b ha hb))
  have H2 := fun W [i1 : DI W v s A n c e d] [Tb W] => Lib.hid (frm (dvalid_in W v s A n c e d i1.out tb))
  have H3 := fun W g [Tb W] [DB W g v s (.slice A n c) e] [DI W v s A n c e d] => Lib.hid (frm (iabove_any W g a ha v s A n c e d))
  have H4 := fun W g [Tb W] [DB W g v s (.slice A n c) e] [DI W v s A n c e d] => Lib.hid (frm (iabove_any W g b hb v s A n c e d))
  have e1 := beq_nat a fNInf 18442240474082181120 (by decide)
  have e2 := beq_nat b fInf 9218868437227405312 (by decide)
  show Calls _ _ _ _ fun e w' => e = .returned (.bool (iok (a, b) && !dbad d && (decide (a = fNInf) || decide (dcmp (fof a) d ≤ 0)) && (decide (b = fInf) || decide (0 ≤ dcmp (fof b) d)))) ∧ Below w.heap.size w w'
  rw [← e1, ← e2]
  clear e1 e2
  generalize iok (a, b) = k1 at *
  generalize (!dbad d) = k2 at *
  generalize dcmp (fof a) d = u1 at *
  generalize dcmp (fof b) d = u2 at *
  generalize ((a : Nat) : Int) = p at *
  generalize ((b : Nat) : Int) = q at *
  cases k1
  · skip
    go_enter Tryz.func91, Tryz.ntmps91
    go_wp2_with fail
    refine (H1 _).out.mono ?_
    rintro e w1 ⟨rfl, b1⟩
    go_wp2_with fail
    go_ret
    exact ⟨rfl, zbh⟩
  · cases k2
    · skip
      go_enter Tryz.func91, Tryz.ntmps91
      go_wp2_with fail
      refine (H1 _).out.mono ?_
      rintro e w1 ⟨rfl, b1⟩
      go_wp2_with fail
      refine (H2 _).out.mono ?_
      rintro e w2 ⟨rfl, b2⟩
      go_wp2_with fail
      go_ret
      exact ⟨rfl, zbh⟩
    · rcases two_ways (p == 18442240474082181120) with hp | hp <;> rcases two_ways (q == 9218868437227405312) with hq | hq <;> rcases two_ways (decide (u1 ≤ 0)) with hu | hu
      all_goals (
        rw [hp, hq, hu]
        simp only [decide_eq_true_eq, decide_eq_false_iff_not, beq_iff_eq, beq_eq_false_iff_ne, ne_eq] at hp hq hu
        (try subst hp)
        (try subst hq)
        go_enter Tryz.func91, Tryz.ntmps91
        go_wp2_with fail
        refine (H1 _).out.mono ?_
        rintro e' w1 ⟨rfl, b1⟩
        go_wp2_with fail
        refine (H2 _).out.mono ?_
        rintro e' w2 ⟨rfl, b2⟩
        go_wp2_with fail
        (try (refine (H3 _ _).out.mono ?_; rintro e' w3 ⟨rfl, b3⟩; go_wp2_with fail))
        (try (refine (H4 _ _).out.mono ?_; rintro e' w4 ⟨rfl, b4⟩; go_wp2_with fail))
        go_ret
        first | exact ⟨rfl, zbh⟩ | (refine ⟨?_, zbh⟩; simp; done) | (refine ⟨?_, zbh⟩; simp [hp]; done) | (refine ⟨?_, zbh⟩; simp [hq]; done) | (refine ⟨?_, zbh⟩; simp [hp, hq]; done) | (refine ⟨?_, zbh⟩; simp [hu]; done) | (refine ⟨?_, zbh⟩; simp [hp, hu]; done) | (refine ⟨?_, zbh⟩; simp [hq, hu]; done) | (refine ⟨?_, zbh⟩; simp [hp, hq, hu]; done))

end Go.Proofs.YtakbappmkdaioaaGreatDoor


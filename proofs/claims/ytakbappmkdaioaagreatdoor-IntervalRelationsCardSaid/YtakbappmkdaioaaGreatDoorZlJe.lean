/-
  Walks: package interval: Meet, Sqr, Sqrt.
-/
import Derived.Test.YtakbappmkdaioaaGreatDoorZlJA
import Derived.Test.YtakbappmkdaioaaGreatDoorZlGS
import Derived.Test.YtakbappmkdaioaaGreatDoorZlGq
import Derived.Test.YtakbappmkdaioaaGreatDoorZlSqt
import Derived.Test.YtakbappmkdaioaaGreatDoorZlCL
import Derived.Test.YtakbappmkdaioaaGreatDoorZlIP
namespace Go.Proofs.YtakbappmkdaioaaGreatDoor
open Go.RowKit Sp

attribute [local irreducible] Calls
set_option maxRecDepth 100000 in
set_option maxHeartbeats 8000000 in
theorem imeet_any (w : World) (a : Nat) (b : Nat) (c : Nat) (d : Nat) (ha : a < 18446744073709551616) (hb : b < 18446744073709551616) (hc : c < 18446744073709551616) (hd : d < 18446744073709551616) : Calls Tryz.prog 89 #[.agg #[.int .u64 (a : Nat), .int .u64 (b : Nat)], .agg #[.int .u64 (c : Nat), .int .u64 (d : Nat)]] w fun e w' => e = .returned (.tuple #[.agg #[.int .u64 ((imeet (a, b) (c, d)).1 : Nat), .int .u64 ((imeet (a, b) (c, d)).2 : Nat)], .bool (imeetok (a, b) (c, d))]) ∧ Below w.heap.size w w' := by
  have H1 := fun W => Lib.hid (frm (iboth_any W a b c d ha hb hc hd))
  have HA := fun W g [FV W g (.int .u64 (a : Nat)) (.int .u64 (c : Nat))] => Lib.hid (frm (imost2 W g a c ha hc))
  have HB := fun W g [FV W g (.int .u64 (b : Nat)) (.int .u64 (d : Nat))] => Lib.hid (frm (ileast2 W g b d hb hd))
  have HC := fun W => Lib.hid (frm (iless_any W (fmin2 b d) (fmax2 a c) (fmin2_lt hb hd) (fmax2_lt ha hc)))
  have HR := fun W => Lib.hid (frm (iresult_any W (fmax2 a c) (fmin2 b d) (fmax2_lt ha hc) (fmin2_lt hb hd)))
  unfold imeet imeetok ires
  generalize (iok (a, b) && iok (c, d)) = k1 at *
  generalize fless (fmin2 b d) (fmax2 a c) = k2 at *
  cases k1
  · show Calls _ _ _ _ fun e w' => e = .returned (.tuple #[.agg #[.int .u64 0, .int .u64 0], .bool false]) ∧ Below w.heap.size w w'
    generalize ((a : Nat) : Int) = p at *
    generalize ((b : Nat) : Int) = q at *
    generalize ((c : Nat) : Int) = r at *
    generalize ((d : Nat) : Int) = s at *
    go_enter Tryz.func89, Tryz.ntmps89
    go_wp2_with fail
    refine (H1 _).out.mono ?_
    rintro e w1 ⟨rfl, b1⟩
    go_wp2_with fail
    refine bodyPost_ret (v := .tuple #[.agg #[.int .u64 0, .int .u64 0], .bool false]) (by simp only [results, Tryz.results89]; go_simp) rfl ?_
    exact ⟨rfl, zbh⟩
  · cases k2
    · show Calls _ _ _ _ fun e w' => e = .returned (.tuple #[.agg #[.int .u64 (fclean (fmax2 a c) : Nat), .int .u64 (fclean (fmin2 b d) : Nat)], .bool true]) ∧ Below w.heap.size w w'
      generalize ((fclean (fmax2 a c) : Nat) : Int) = u at *
      generalize ((fclean (fmin2 b d) : Nat) : Int) = v at *
      generalize ((fmax2 a c : Nat) : Int) = u1 at *
      generalize ((fmin2 b d : Nat) : Int) = v1 at *
      generalize ((a : Nat) : Int) = p at *
      generalize ((b : Nat) : Int) = q at *
      generalize ((c : Nat) : Int) = r at *
      generalize ((d : Nat) : Int) = s at *
      go_enter Tryz.func89, Tryz.ntmps89
      go_wp2_with fail
      refine (H1 _).out.mono ?_
      rintro e w1 ⟨rfl, b1⟩
      go_wp2_with fail
      first
      | go_region_held3 (fun w' => w'.cell? ⟨w.heap.size, 0, none⟩ = some (.int .u64 p) ∧ w'.cell? ⟨w.heap.size, 1, none⟩ = some (.int .u64 q) ∧ w'.cell? ⟨w.heap.size + 1, 0, none⟩ = some (.int .u64 r) ∧ w'.cell? ⟨w.heap.size + 1, 1, none⟩ = some (.int .u64 s)) (first | (go_simp; done))
          (first
            | (go_at_call 189; refine (HA _ _).out.mono ?_; rintro e w2 ⟨rfl, b2⟩)
            | (go_at_call 190; refine (HB _ _).out.mono ?_; rintro e w3 ⟨rfl, b3⟩)
            | fail)
      | fail "region"
      all_goals (
        go_wp2_with fail
        refine (HC _).out.mono ?_
        rintro e w4 ⟨rfl, b4⟩
        go_wp2_with fail
        refine (HR _).out.mono ?_
        rintro e w5 ⟨rfl, b5⟩
        go_wp2_with fail
        refine bodyPost_ret (v := .tuple #[.agg #[.int .u64 u, .int .u64 v], .bool true]) (by simp only [results, Tryz.results89]; go_simp) rfl ?_
        exact ⟨rfl, zbh⟩)
    · show Calls _ _ _ _ fun e w' => e = .returned (.tuple #[.agg #[.int .u64 0, .int .u64 0], .bool false]) ∧ Below w.heap.size w w'
      generalize ((fmax2 a c : Nat) : Int) = u1 at *
      generalize ((fmin2 b d : Nat) : Int) = v1 at *
      generalize ((a : Nat) : Int) = p at *
      generalize ((b : Nat) : Int) = q at *
      generalize ((c : Nat) : Int) = r at *
      generalize ((d : Nat) : Int) = s at *
      go_enter Tryz.func89, Tryz.ntmps89
      go_wp2_with fail
      refine (H1 _).out.mono ?_
      rintro e w1 ⟨rfl, b1⟩
      go_wp2_with fail
      first
      | go_region_held3 (fun w' => w'.cell? ⟨w.heap.size, 0, none⟩ = some (.int .u64 p) ∧ w'.cell? ⟨w.heap.size, 1, none⟩ = some (.int .u64 q) ∧ w'.cell? ⟨w.heap.size + 1, 0, none⟩ = some (.int .u64 r) ∧ w'.cell? ⟨w.heap.size + 1, 1, none⟩ = some (.int .u64 s)) (first | (go_simp; done))
          (first
            | (go_at_call 189; refine (HA _ _).out.mono ?_; rintro e w2 ⟨rfl, b2⟩)
            | (go_at_call 190; refine (HB _ _).out.mono ?_; rintro e w3 ⟨rfl, b3⟩)
            | fail)
      | fail "region"
      all_goals (
        go_wp2_with fail
        refine (HC _).out.mono ?_
        rintro e w4 ⟨rfl, b4⟩
        go_wp2_with fail
        refine bodyPost_ret (v := .tuple #[.agg #[.int .u64 0, .int .u64 0], .bool false]) (by simp only [results, Tryz.results89]; go_simp) rfl ?_
        exact ⟨rfl, zbh⟩)

end Go.Proofs.YtakbappmkdaioaaGreatDoor


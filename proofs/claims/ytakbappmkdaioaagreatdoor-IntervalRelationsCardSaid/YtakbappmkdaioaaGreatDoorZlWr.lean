/-
  Walks: the law IntervalRelations.
-/
import Derived.Test.YtakbappmkdaioaaGreatDoorZlVd
import Derived.Test.YtakbappmkdaioaaGreatDoorZlVe
import Derived.Test.YtakbappmkdaioaaGreatDoorZlJD
import Derived.Test.YtakbappmkdaioaaGreatDoorZlJe
import Derived.Test.YtakbappmkdaioaaGreatDoorZlJf
import Derived.Test.YtakbappmkdaioaaGreatDoorZlSL
namespace Go.Proofs.YtakbappmkdaioaaGreatDoor
open Go.RowKit Sp
set_option linter.unusedSimpArgs false

attribute [local irreducible] Calls
set_option maxRecDepth 100000 in
set_option maxHeartbeats 20000000 in
theorem relations_main (w : World) (hT : Tab w) (a : Nat) (b : Nat) (c : Nat) (d : Nat) (ha : a < 18446744073709551616) (hb : b < 18446744073709551616) (hc : c < 18446744073709551616) (hd : d < 18446744073709551616) (bd sg' : Bool) (A : Option Addr) (n C : Nat) (e : Int) (D : Option (Int × Int)) (hD : DyIs w bd sg' A n C e D) (hn : n ≤ 9223372036854775807) (hs : slim3B n e = true) : Calls Tryz.prog 11 #[.agg #[.int .u64 (a : Nat), .int .u64 (b : Nat)], .agg #[.int .u64 (c : Nat), .int .u64 (d : Nat)], .agg #[.bool bd, .bool sg', .slice A n C, .int .i64 e]] w fun o w' => o = .returned (.bool true) ∧ Below w.heap.size w w' := by
  have HT : Tb w := ⟨hT⟩
  haveI d1 : DS w bd sg' A n C e D := ⟨hD⟩
  haveI d2 : DI w bd sg' A n C e D := ⟨hD.1⟩
  have HS := fun W => Lib.hid (frm (slimDyad3_any W bd sg' A n C e hn true hs))
  have HA := fun W [Tb W] => Lib.hid (frm (imeet_any W a b c d ha hb hc hd))
  have HB := fun W [Tb W] => Lib.hid (frm (nmeet_any W a b c d ha hb hc hd))
  have HC := fun W [i : DI W bd sg' A n C e D] [Tb W] => Lib.hid (frm (icont_any W tb a b ha hb bd sg' A n C e D i.out))
  have HD := fun W [i : DS W bd sg' A n C e D] [Tb W] => Lib.hid (frm (rcontains_any W a b ha hb bd sg' A n C e D (hx := i)))
  rw [rcont_eq (x := (a, b)) ⟨ha, hb⟩ D] at HD
  have HE := fun W [Tb W] => Lib.hid (frm (isubset_any W a b c d ha hb hc hd))
  have HF := fun W [Tb W] => Lib.hid (frm (rsubset_any W a b c d ha hb hc hd))
  rw [rsub_eq (x := (a, b)) (y := (c, d)) ⟨ha, hb⟩ ⟨hc, hd⟩] at HF
  have HG := fun W [Tb W] => Lib.hid (frm (iinside_any W a b c d ha hb hc hd))
  have HH := fun W [Tb W] => Lib.hid (frm (ninside_any W a b c d ha hb hc hd))
  rw [rins_eq (x := (a, b)) (y := (c, d)) ⟨ha, hb⟩ ⟨hc, hd⟩] at HH
  have HI := fun W [Tb W] => Lib.hid (frm (imid_any W tb a b ha hb))
  have HJ := fun W [Tb W] => Lib.hid (frm (nmid_any W tb a b ha hb))
  have HK := fun W [Tb W] => Lib.hid (frm (irad_any W tb a b ha hb))
  have HL := fun W [Tb W] => Lib.hid (frm (nrad_any W tb a b ha hb))
  have HM := fun W [Tb W] => Lib.hid (frm (imag_any W a b ha hb))
  have HN := fun W [Tb W] => Lib.hid (frm (nmag_any W a b ha hb))
  have HO := fun W [Tb W] => Lib.hid (frm (imig_any W a b ha hb))
  have HP := fun W [Tb W] => Lib.hid (frm (nmig_any W a b ha hb))
  have HW := fun W [Tb W] => Lib.hid (frm (awakeI_any W))
  generalize imeet (a, b) (c, d) = M at *
  generalize imeetok (a, b) (c, d) = k0 at *
  generalize icont (a, b) D = k1 at *
  generalize isubset (a, b) (c, d) = k2 at *
  generalize iinside (a, b) (c, d) = k3 at *
  generalize ((imid (a, b) : Nat) : Int) = u1 at *
  generalize ((irad (a, b) : Nat) : Int) = u2 at *
  generalize ((imag (a, b) : Nat) : Int) = u3 at *
  generalize ((imig (a, b) : Nat) : Int) = u4 at *
  generalize ((M.1 : Nat) : Int) = m0 at *
  generalize ((M.2 : Nat) : Int) = m1 at *
  generalize ((a : Nat) : Int) = p at *
  generalize ((b : Nat) : Int) = q at *
  generalize ((c : Nat) : Int) = r at *
  generalize ((d : Nat) : Int) = s at *
  clear hs hn hD
  go_enter Tryz.func11, Tryz.ntmps11
  go_wp2_with fail
  refine (HS _).out.mono ?_; rintro o w1 ⟨rfl, b1⟩; go_wp2_with fail
  refine (HA _).out.mono ?_; rintro o w2 ⟨rfl, b2⟩; go_wp2_with fail
  refine (HB _).out.mono ?_; rintro o w3 ⟨rfl, b3⟩; go_wp2_with fail
  first
  | go_region_held3 (fun w' => w'.cell? ⟨w.heap.size, 0, none⟩ = some (.int .u64 p) ∧ w'.cell? ⟨w.heap.size, 1, none⟩ = some (.int .u64 q) ∧ w'.cell? ⟨w.heap.size + 1, 0, none⟩ = some (.int .u64 r) ∧ w'.cell? ⟨w.heap.size + 1, 1, none⟩ = some (.int .u64 s) ∧ w'.cell? ⟨w.heap.size + 1 + 1, 0, none⟩ = some (.bool bd) ∧ w'.cell? ⟨w.heap.size + 1 + 1, 1, none⟩ = some (.bool sg') ∧ w'.cell? ⟨w.heap.size + 1 + 1, 2, none⟩ = some (.slice A n C) ∧ w'.cell? ⟨w.heap.size + 1 + 1, 3, none⟩ = some (.int .i64 e) ∧ w'.cell? ⟨w2.heap.size, 0, none⟩ = some (.int .u64 m0) ∧ w'.cell? ⟨w2.heap.size, 1, none⟩ = some (.int .u64 m1) ∧ w'.cell? ⟨w3.heap.size, 0, none⟩ = some (.int .u64 m0) ∧ w'.cell? ⟨w3.heap.size, 1, none⟩ = some (.int .u64 m1)) (first | (go_simp; done))
      (first
        | (go_at_call 91; refine (HC _).out.mono ?_; rintro o w4 ⟨rfl, b4⟩)
        | (go_at_call 92; refine (HD _).out.mono ?_; rintro o w5 ⟨rfl, b5⟩)
        | (go_at_call 93; refine (HE _).out.mono ?_; rintro o w6 ⟨rfl, b6⟩)
        | (go_at_call 94; refine (HF _).out.mono ?_; rintro o w7 ⟨rfl, b7⟩)
        | (go_at_call 95; refine (HG _).out.mono ?_; rintro o w8 ⟨rfl, b8⟩)
        | (go_at_call 96; refine (HH _).out.mono ?_; rintro o w9 ⟨rfl, b9⟩)
        | fail)
  | fail "region"
  all_goals (
    go_wp2_with fail
    first
    | go_region_held3 (fun w' => w'.cell? ⟨w.heap.size, 0, none⟩ = some (.int .u64 p) ∧ w'.cell? ⟨w.heap.size, 1, none⟩ = some (.int .u64 q)) (first | (go_simp; done))
        (first
          | (go_at_call 97; refine (HI _).out.mono ?_; rintro o w10 ⟨rfl, b10⟩)
          | (go_at_call 98; refine (HJ _).out.mono ?_; rintro o w11 ⟨rfl, b11⟩)
          | (go_at_call 99; refine (HK _).out.mono ?_; rintro o w12 ⟨rfl, b12⟩)
          | (go_at_call 100; refine (HL _).out.mono ?_; rintro o w13 ⟨rfl, b13⟩)
          | (go_at_call 101; refine (HM _).out.mono ?_; rintro o w14 ⟨rfl, b14⟩)
          | (go_at_call 102; refine (HN _).out.mono ?_; rintro o w15 ⟨rfl, b15⟩)
          | (go_at_call 103; refine (HO _).out.mono ?_; rintro o w16 ⟨rfl, b16⟩)
          | (go_at_call 104; refine (HP _).out.mono ?_; rintro o w17 ⟨rfl, b17⟩)
          | (go_at_call 88; refine (HW _).out.mono ?_; rintro o w18 ⟨rfl, b18⟩)
          | fail)
    | fail "region"
    all_goals (
      go_wp2_with fail
      go_ret
      exact ⟨rfl, zbh⟩))
set_option maxRecDepth 100000 in
set_option maxHeartbeats 20000000 in
theorem relations_skip (w : World) (hT : Tab w) (a : Nat) (b : Nat) (c : Nat) (d : Nat) (_ha : a < 18446744073709551616) (_hb : b < 18446744073709551616) (_hc : c < 18446744073709551616) (_hd : d < 18446744073709551616) (bd sg' : Bool) (A : Option Addr) (n C : Nat) (e : Int) (hn : n ≤ 9223372036854775807) (hs : slim3B n e = false) : Calls Tryz.prog 11 #[.agg #[.int .u64 (a : Nat), .int .u64 (b : Nat)], .agg #[.int .u64 (c : Nat), .int .u64 (d : Nat)], .agg #[.bool bd, .bool sg', .slice A n C, .int .i64 e]] w fun o w' => o = .returned (.bool true) ∧ Below w.heap.size w w' := by
  have HT : Tb w := ⟨hT⟩
  have HS := fun W => Lib.hid (frm (slimDyad3_any W bd sg' A n C e hn false hs))
  have HW := fun W [Tb W] => Lib.hid (frm (awakeI_any W))
  generalize ((a : Nat) : Int) = p at *
  generalize ((b : Nat) : Int) = q at *
  generalize ((c : Nat) : Int) = r at *
  generalize ((d : Nat) : Int) = s at *
  clear hs hn
  go_enter Tryz.func11, Tryz.ntmps11
  go_wp2_with fail
  refine (HS _).out.mono ?_; rintro o w1 ⟨rfl, b1⟩; go_wp2_with fail
  refine (HW _).out.mono ?_; rintro o w2 ⟨rfl, b2⟩; go_wp2_with fail
  go_ret
  exact ⟨rfl, zbh⟩
theorem relations_any (w : World) (hT : Tab w) (a : Nat) (b : Nat) (c : Nat) (d : Nat) (ha : a < 18446744073709551616) (hb : b < 18446744073709551616) (hc : c < 18446744073709551616) (hd : d < 18446744073709551616) (bd sg' : Bool) (A : Option Addr) (n C x : Nat) (e : Int) (hM : Mag w A n C x) (he : -9223372036854775808 ≤ e ∧ e ≤ 9223372036854775807) : Calls Tryz.prog 11 #[.agg #[.int .u64 (a : Nat), .int .u64 (b : Nat)], .agg #[.int .u64 (c : Nat), .int .u64 (d : Nat)], .agg #[.bool bd, .bool sg', .slice A n C, .int .i64 e]] w fun o w' => o = .returned (.bool true) ∧ Below w.heap.size w w' := by
  have hn := Nat.le_trans hM.fits hM.lim
  cases hs : slim3B n e with
  | true => exact relations_main w hT a b c d ha hb hc hd bd sg' A n C e _ (dyis_of3 hM hs he.1 he.2) hn hs
  | false => exact relations_skip w hT a b c d ha hb hc hd bd sg' A n C e hn hs
end Go.Proofs.YtakbappmkdaioaaGreatDoor


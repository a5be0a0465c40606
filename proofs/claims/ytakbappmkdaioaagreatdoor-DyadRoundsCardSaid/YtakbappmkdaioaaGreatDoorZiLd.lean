/-
  Walks: the law DyadRounds.
-/
import Derived.Test.YtakbappmkdaioaaGreatDoorZiSl
import Derived.Test.YtakbappmkdaioaaGreatDoorZiAw
import Derived.Test.YtakbappmkdaioaaGreatDoorZiRxb
import Derived.Test.YtakbappmkdaioaaGreatDoorZiRze
import Derived.Test.YtakbappmkdaioaaGreatDoorZiRw
import Derived.Test.YtakbappmkdaioaaGreatDoorZiRnd
import Derived.Test.YtakbappmkdaioaaGreatDoorZiQuo
import Derived.Test.YtakbappmkdaioaaGreatDoorZiSqt
namespace Go.Proofs.YtakbappmkdaioaaGreatDoor
open Go.RowKit Sp

attribute [local irreducible] Calls
set_option maxRecDepth 100000 in
set_option maxHeartbeats 40000000 in
theorem rounds_main (w : World) (hT : Tab w) (bda sa : Bool) (aa : Option Addr) (na pa : Nat) (ea : Int) (bdb sb : Bool) (ab' : Option Addr) (nb pb : Nat) (eb q mode : Int) (d d' : Option (Int × Int)) (hx : DyIs w bda sa aa na pa ea d) (hy : DyIs w bdb sb ab' nb pb eb d') (ma : na ≤ 9223372036854775807) (mb : nb ≤ 9223372036854775807) (hsa : slimB na ea = true) (hsb : slimB nb eb = true) (hq : ¬ 300 < q ∨ 300 < q ∧ ¬ q ≤ 4096) :
    Calls Tryz.prog 3 #[.agg #[.bool bda, .bool sa, .slice aa na pa, .int .i64 ea], .agg #[.bool bdb, .bool sb, .slice ab' nb pb, .int .i64 eb], .int .i64 q, .int .i64 mode] w fun o w' => o = .returned (.bool true) ∧ Below w.heap.size w w' := by
  have HT : Tb w := ⟨hT⟩
  have HX : DS w bda sa aa na pa ea d := ⟨hx⟩
  have HY : DS w bdb sb ab' nb pb eb d' := ⟨hy⟩
  have H1 := fun W => Lib.hid (frm (slim_any W bda sa aa na pa ea ma true hsa))
  have H2 := fun W => Lib.hid (frm (slim_any W bdb sb ab' nb pb eb mb true hsb))
  have HA := fun W [i : DS W bda sa aa na pa ea d] [j : DS W bdb sb ab' nb pb eb d'] [Tb W] => Lib.hid (frI (dround_any W bda sa aa na pa ea q mode d i.out.1 tb))
  have HB := fun W [i : DS W bda sa aa na pa ea d] [j : DS W bdb sb ab' nb pb eb d'] [Tb W] => Lib.hid (frI (rdround_any W bda sa aa na pa ea d q mode i.out tb))
  have HC := fun W [i : DS W bda sa aa na pa ea d] [j : DS W bdb sb ab' nb pb eb d'] [Tb W] => Lib.hid (frI (quo_any W bda sa bdb sb aa ab' na nb pa pb ea eb q mode d d' i.out.1 j.out.1 tb))
  have HD := fun W [i : DS W bda sa aa na pa ea d] [j : DS W bdb sb ab' nb pb eb d'] [Tb W] => Lib.hid (frI (rdquo_any W bda sa aa na pa ea d bdb sb ab' nb pb eb d' q mode i.out j.out tb))
  have HE := fun W [i : DS W bda sa aa na pa ea d] [j : DS W bdb sb ab' nb pb eb d'] [Tb W] => Lib.hid (frI (dsqrt_any W bda sa aa na pa ea q mode d i.out.1 tb))
  have HF := fun W [i : DS W bda sa aa na pa ea d] [j : DS W bdb sb ab' nb pb eb d'] [Tb W] => Lib.hid (frI (rdsqrt_any W bda sa aa na pa ea d q mode i.out tb))
  have HW := fun W [Tb W] => Lib.hid (frm (awake_any W tb))
  generalize dround d q mode = u1 at *
  generalize dquo d d' q mode = u2 at *
  generalize dsqrt d q mode = u3 at *
  have HK1 := fun W a1 c1 a2 c2 [i : BI W a1 (nl (dman u1).natAbs) c1 (dman u1).natAbs] [j : BI W a2 (nl (dman u1).natAbs) c2 (dman u1).natAbs] => Lib.hid (frm (kdyad_same W (dbad u1) (decide (dman u1 < 0)) a1 a2 _ c1 c2 _ (dexp u1) i.out j.out))
  have HK2 := fun W a1 c1 a2 c2 [i : BI W a1 (nl (dman u2).natAbs) c1 (dman u2).natAbs] [j : BI W a2 (nl (dman u2).natAbs) c2 (dman u2).natAbs] => Lib.hid (frm (kdyad_same W (dbad u2) (decide (dman u2 < 0)) a1 a2 _ c1 c2 _ (dexp u2) i.out j.out))
  have HK3 := fun W a1 c1 a2 c2 [i : BI W a1 (nl (dman u3).natAbs) c1 (dman u3).natAbs] [j : BI W a2 (nl (dman u3).natAbs) c2 (dman u3).natAbs] => Lib.hid (frm (kdyad_same W (dbad u3) (decide (dman u3 < 0)) a1 a2 _ c1 c2 _ (dexp u3) i.out j.out))
  clear hx hy hsa hsb ma mb
  go_enter Tryz.func3, Tryz.ntmps3
  go_wp2_with fail
  refine (H1 _).out.mono ?_
  rintro o w1 ⟨rfl, b1⟩
  go_wp2_with fail
  refine (H2 _).out.mono ?_
  rintro o w2 ⟨rfl, b2⟩
  rcases hq with hq | ⟨hq, hq'⟩
  all_goals (
    go_wp2_with fail
    first
    | go_region_held3 (fun w' => w'.cell? ⟨w.heap.size, 0, none⟩ = some (.bool bda) ∧ w'.cell? ⟨w.heap.size, 1, none⟩ = some (.bool sa) ∧ w'.cell? ⟨w.heap.size, 2, none⟩ = some (.slice aa na pa) ∧ w'.cell? ⟨w.heap.size, 3, none⟩ = some (.int .i64 ea) ∧ w'.cell? ⟨w.heap.size + 1, 0, none⟩ = some (.bool bdb) ∧ w'.cell? ⟨w.heap.size + 1, 1, none⟩ = some (.bool sb) ∧ w'.cell? ⟨w.heap.size + 1, 2, none⟩ = some (.slice ab' nb pb) ∧ w'.cell? ⟨w.heap.size + 1, 3, none⟩ = some (.int .i64 eb)) (first | (go_simp; done))
      (first
        | (go_at_call 17; refine (HA _).out.mono ?_; rintro o w3 ⟨a3, c3, rfl, i3, b3⟩)
        | (go_at_call 18; refine (HB _).out.mono ?_; rintro o w4 ⟨a4, c4, rfl, i4, b4⟩)
        | (go_at_call 19; refine (HC _).out.mono ?_; rintro o w5 ⟨a5, c5, rfl, i5, b5⟩)
        | (go_at_call 20; refine (HD _).out.mono ?_; rintro o w6 ⟨a6, c6, rfl, i6, b6⟩)
        | (go_at_call 21; refine (HE _).out.mono ?_; rintro o w7 ⟨a7, c7, rfl, i7, b7⟩)
        | (go_at_call 22; refine (HF _).out.mono ?_; rintro o w8 ⟨a8, c8, rfl, i8, b8⟩)
        | (go_at_call 16; (first | refine (HK1 _ _ _ _ _).out.mono ?_ | refine (HK2 _ _ _ _ _).out.mono ?_ | refine (HK3 _ _ _ _ _).out.mono ?_); rintro o w9 ⟨rfl, b9⟩)
        | (go_at_call 15; refine (HW _).out.mono ?_; rintro o wa ⟨rfl, ba⟩)
        | fail)
    | fail "region"
    all_goals (
      go_wp2_with fail
      go_ret
      exact ⟨rfl, zbh⟩))

set_option maxRecDepth 100000 in
set_option maxHeartbeats 40000000 in
theorem rounds_n1 (w : World) (hT : Tab w) (bda sa : Bool) (aa : Option Addr) (na pa : Nat) (ea : Int) (bdb sb : Bool) (ab' : Option Addr) (nb pb : Nat) (eb q mode : Int) (ma : na ≤ 9223372036854775807) (hsa : slimB na ea = false) :
    Calls Tryz.prog 3 #[.agg #[.bool bda, .bool sa, .slice aa na pa, .int .i64 ea], .agg #[.bool bdb, .bool sb, .slice ab' nb pb, .int .i64 eb], .int .i64 q, .int .i64 mode] w fun o w' => o = .returned (.bool true) ∧ Below w.heap.size w w' := by
  have HT : Tb w := ⟨hT⟩
  have H1 := fun W => Lib.hid (frm (slim_any W bda sa aa na pa ea ma false hsa))
  have HW := fun W [Tb W] => Lib.hid (frm (awake_any W tb))
  go_enter Tryz.func3, Tryz.ntmps3
  go_wp2_with fail
  refine (H1 _).out.mono ?_
  rintro o w1 ⟨rfl, b1⟩
  go_wp2_with fail
  refine (HW _).out.mono ?_
  rintro o w3 ⟨rfl, b3⟩
  go_wp2_with fail
  go_ret
  exact ⟨rfl, zbh⟩

set_option maxRecDepth 100000 in
set_option maxHeartbeats 40000000 in
theorem rounds_n2 (w : World) (hT : Tab w) (bda sa : Bool) (aa : Option Addr) (na pa : Nat) (ea : Int) (bdb sb : Bool) (ab' : Option Addr) (nb pb : Nat) (eb q mode : Int) (ma : na ≤ 9223372036854775807) (mb : nb ≤ 9223372036854775807) (hsa : slimB na ea = true) (hsb : slimB nb eb = false) :
    Calls Tryz.prog 3 #[.agg #[.bool bda, .bool sa, .slice aa na pa, .int .i64 ea], .agg #[.bool bdb, .bool sb, .slice ab' nb pb, .int .i64 eb], .int .i64 q, .int .i64 mode] w fun o w' => o = .returned (.bool true) ∧ Below w.heap.size w w' := by
  have HT : Tb w := ⟨hT⟩
  have H1 := fun W => Lib.hid (frm (slim_any W bda sa aa na pa ea ma true hsa))
  have H2 := fun W => Lib.hid (frm (slim_any W bdb sb ab' nb pb eb mb false hsb))
  have HW := fun W [Tb W] => Lib.hid (frm (awake_any W tb))
  go_enter Tryz.func3, Tryz.ntmps3
  go_wp2_with fail
  refine (H1 _).out.mono ?_
  rintro o w1 ⟨rfl, b1⟩
  go_wp2_with fail
  refine (H2 _).out.mono ?_
  rintro o w2 ⟨rfl, b2⟩
  go_wp2_with fail
  refine (HW _).out.mono ?_
  rintro o w3 ⟨rfl, b3⟩
  go_wp2_with fail
  go_ret
  exact ⟨rfl, zbh⟩

set_option maxRecDepth 100000 in
set_option maxHeartbeats 40000000 in
theorem rounds_va (w : World) (hT : Tab w) (bda sa : Bool) (aa : Option Addr) (na pa : Nat) (ea : Int) (bdb sb : Bool) (ab' : Option Addr) (nb pb : Nat) (eb q mode : Int) (ma : na ≤ 9223372036854775807) (mb : nb ≤ 9223372036854775807) (hsa : slimB na ea = true) (hsb : slimB nb eb = true) (hq : 300 < q) (hq' : q ≤ 4096) :
    Calls Tryz.prog 3 #[.agg #[.bool bda, .bool sa, .slice aa na pa, .int .i64 ea], .agg #[.bool bdb, .bool sb, .slice ab' nb pb, .int .i64 eb], .int .i64 q, .int .i64 mode] w fun o w' => o = .returned (.bool true) ∧ Below w.heap.size w w' := by
  have HT : Tb w := ⟨hT⟩
  have H1 := fun W => Lib.hid (frm (slim_any W bda sa aa na pa ea ma true hsa))
  have H2 := fun W => Lib.hid (frm (slim_any W bdb sb ab' nb pb eb mb true hsb))
  have HW := fun W [Tb W] => Lib.hid (frm (awake_any W tb))
  go_enter Tryz.func3, Tryz.ntmps3
  go_wp2_with fail
  refine (H1 _).out.mono ?_
  rintro o w1 ⟨rfl, b1⟩
  go_wp2_with fail
  refine (H2 _).out.mono ?_
  rintro o w2 ⟨rfl, b2⟩
  go_wp2_with fail
  refine (HW _).out.mono ?_
  rintro o w3 ⟨rfl, b3⟩
  go_wp2_with fail
  go_ret
  exact ⟨rfl, zbh⟩

theorem dyis_of {w : World} {bd s : Bool} {a : Option Addr} {n p x : Nat} {e : Int} (hm : Mag w a n p x) (hs : slimB n e = true) (h0 : -9223372036854775808 ≤ e) (h1 : e ≤ 9223372036854775807) : DyIs w bd s a n p e (nrmB bd (sgn s x) e) := by
  have hn : n ≤ 20 := by simp only [slimB, Bool.and_eq_true, decide_eq_true_eq] at hs; exact hs.1
  have hb := slim_pow x n hm.lt
  exact ⟨⟨x, hm, by omega, by omega, h0, h1, rfl⟩, by omega⟩
theorem rounds_any (w : World) (hT : Tab w) (bda sa : Bool) (aa : Option Addr) (na pa xa : Nat) (ea : Int) (bdb sb : Bool) (ab' : Option Addr) (nb pb xb : Nat) (eb q mode : Int) (Ma : Mag w aa na pa xa) (Mb : Mag w ab' nb pb xb) (ua : -9223372036854775808 ≤ ea ∧ ea ≤ 9223372036854775807) (ub : -9223372036854775808 ≤ eb ∧ eb ≤ 9223372036854775807) :
    Calls Tryz.prog 3 #[.agg #[.bool bda, .bool sa, .slice aa na pa, .int .i64 ea], .agg #[.bool bdb, .bool sb, .slice ab' nb pb, .int .i64 eb], .int .i64 q, .int .i64 mode] w fun o w' => o = .returned (.bool true) ∧ Below w.heap.size w w' := by
  have ma := Nat.le_trans Ma.fits Ma.lim
  have mb := Nat.le_trans Mb.fits Mb.lim
  cases hsa : slimB na ea with
  | false => exact rounds_n1 w hT bda sa aa na pa ea bdb sb ab' nb pb eb q mode ma hsa
  | true =>
    cases hsb : slimB nb eb with
    | false => exact rounds_n2 w hT bda sa aa na pa ea bdb sb ab' nb pb eb q mode ma mb hsa hsb
    | true =>
      have mn := rounds_main w hT bda sa aa na pa ea bdb sb ab' nb pb eb q mode _ _ (dyis_of Ma hsa ua.1 ua.2) (dyis_of Mb hsb ub.1 ub.2) ma mb hsa hsb
      by_cases h1 : 300 < q
      · by_cases h2 : q ≤ 4096
        · exact rounds_va w hT bda sa aa na pa ea bdb sb ab' nb pb eb q mode ma mb hsa hsb h1 h2
        · exact mn (Or.inr ⟨h1, h2⟩)
      · exact mn (Or.inl h1)

end Go.Proofs.YtakbappmkdaioaaGreatDoor


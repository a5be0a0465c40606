/-
  Walks: the law DyadQuotient.
-/
import Derived.Test.YtjhngehajahbnaaDoorSl
import Derived.Test.YtjhngehajahbnaaDoorAw
namespace Go.Proofs.YtjhngehajahbnaaDoor
open Go.RowKit Sp

set_option maxRecDepth 100000 in
set_option maxHeartbeats 2000000 in
theorem qlaw_na (w : World) (hT : Tab w) (bda sa : Bool) (aa : Option Addr) (na pa : Nat) (ea : Int) (bdb sb : Bool) (ab : Option Addr) (nb pb : Nat) (eb : Int) (q : Int) (ma : na ≤ 9223372036854775807) (_mb : nb ≤ 9223372036854775807) (hsa : slimB na ea = false) :
    Calls Tryd.prog 5 #[.agg #[.bool bda, .bool sa, .slice aa na pa, .int .i64 ea], .agg #[.bool bdb, .bool sb, .slice ab nb pb, .int .i64 eb], .int .i64 q] w fun o w' => o = .returned (.bool true) ∧ Below w.heap.size w w' := by
  have HSa := fun W => Lib.hid (slim_any W bda sa aa na pa ea ma false hsa)
  have HW := fun W ht => Lib.hid (awake_any W ht)
  have e1 : ¬ w.heap.size + 1 = w.heap.size := by omega
  go_enter Tryd.func5, Tryd.ntmps5
  go_wp2_with fail
  have I0 := (DyV.made w 27 bda sa (.slice aa na pa) ea).alloc (.cells #[.bool bdb, .bool sb, .slice ab nb pb, .int .i64 eb] 27)
  have I1 := DyV.made' (w.alloc (.cells #[.bool bda, .bool sa, .slice aa na pa, .int .i64 ea] 27)) 27 bdb sb (.slice ab nb pb) eb (n := w.heap.size + 1) (by rw [World.size_alloc])
  have B0 : Below w.heap.size w ((w.alloc (.cells #[.bool bda, .bool sa, .slice aa na pa, .int .i64 ea] 27)).alloc (.cells #[.bool bdb, .bool sb, .slice ab nb pb, .int .i64 eb] 27)) := (by repeat (with_reducible first | refine Below.setCell ?_ (by simp <;> omega) _ | refine Below.alloc ?_ (by simp <;> omega) _ | refine Below.drew ?_ | refine below_drewN ?_ _ | exact Below.refl _ _))
  generalize ((w.alloc (.cells #[.bool bda, .bool sa, .slice aa na pa, .int .i64 ea] 27)).alloc (.cells #[.bool bdb, .bool sb, .slice ab nb pb, .int .i64 eb] 27)) = w0 at I0 I1 B0 ⊢
  generalize w.heap.size + 1 = b1 at I1 ⊢
  generalize hb0 : w.heap.size = b0 at I0 ⊢
  obtain ⟨ac0, ac1, ac2, ac3, ac4, ac5⟩ := I0
  have Va0 := Lib.hid (DyV.mk ac0 ac1 ac2 ac3 ac4 ac5)
  obtain ⟨bc0, bc1, bc2, bc3, bc4, bc5⟩ := I1
  have Vb0 := Lib.hid (DyV.mk bc0 bc1 bc2 bc3 bc4 bc5)
  refine (HSa _).out.mono ?_
  rintro e w1 ⟨rfl, hb1⟩
  have Va1 : DyV w1 b0 bda sa (.slice aa na pa) ea := (by refine DyV.below ?_ hb1; (repeat (with_reducible first | refine DyV.drew ?_ | refine DyV.drewN ?_ _ | refine DyV.alloc ?_ _)); exact Va0.out)
  obtain ⟨ac0, ac1, ac2, ac3, ac4, ac5⟩ := Va1
  have Va1 := Lib.hid (DyV.mk ac0 ac1 ac2 ac3 ac4 ac5)
  have Vb1 : DyV w1 b1 bdb sb (.slice ab nb pb) eb := (by refine DyV.below ?_ hb1; (repeat (with_reducible first | refine DyV.drew ?_ | refine DyV.drewN ?_ _ | refine DyV.alloc ?_ _)); exact Vb0.out)
  obtain ⟨bc0, bc1, bc2, bc3, bc4, bc5⟩ := Vb1
  have Vb1 := Lib.hid (DyV.mk bc0 bc1 bc2 bc3 bc4 bc5)
  have B1 := below_box (w := w) (by have hszw := (B0).size; repeat (with_reducible first | refine Below.setCell ?_ (by first | omega | (simp <;> omega)) _ | refine Below.alloc ?_ (by first | omega | (simp <;> omega)) _ | refine Below.drew ?_ | refine below_drewN ?_ _ | exact B0)) hb1
  clear hb1
  go_wp2_with fail
  refine (HW _ (hT.below (by have hszw := (B1).size; repeat (with_reducible first | refine Below.setCell ?_ (by first | omega | (simp <;> omega)) _ | refine Below.alloc ?_ (by first | omega | (simp <;> omega)) _ | refine Below.drew ?_ | refine below_drewN ?_ _ | exact B1)))).out.mono ?_
  rintro e w2 ⟨rfl, hb2⟩
  have Va2 : DyV w2 b0 bda sa (.slice aa na pa) ea := (by refine DyV.below ?_ hb2; (repeat (with_reducible first | refine DyV.drew ?_ | refine DyV.drewN ?_ _ | refine DyV.alloc ?_ _)); exact Va1.out)
  obtain ⟨ac0, ac1, ac2, ac3, ac4, ac5⟩ := Va2
  have Va2 := Lib.hid (DyV.mk ac0 ac1 ac2 ac3 ac4 ac5)
  have Vb2 : DyV w2 b1 bdb sb (.slice ab nb pb) eb := (by refine DyV.below ?_ hb2; (repeat (with_reducible first | refine DyV.drew ?_ | refine DyV.drewN ?_ _ | refine DyV.alloc ?_ _)); exact Vb1.out)
  obtain ⟨bc0, bc1, bc2, bc3, bc4, bc5⟩ := Vb2
  have Vb2 := Lib.hid (DyV.mk bc0 bc1 bc2 bc3 bc4 bc5)
  have B2 := below_box (w := w) (by have hszw := (B1).size; repeat (with_reducible first | refine Below.setCell ?_ (by first | omega | (simp <;> omega)) _ | refine Below.alloc ?_ (by first | omega | (simp <;> omega)) _ | refine Below.drew ?_ | refine below_drewN ?_ _ | exact B1)) hb2
  clear hb2
  go_wp2_with fail
  go_ret
  exact ⟨rfl, (by have hszw := (B2).size; repeat (with_reducible first | refine Below.setCell ?_ (by first | omega | (simp <;> omega)) _ | refine Below.alloc ?_ (by first | omega | (simp <;> omega)) _ | refine Below.drew ?_ | refine below_drewN ?_ _ | exact B2))⟩

set_option maxRecDepth 100000 in
set_option maxHeartbeats 2000000 in
theorem qlaw_nb (w : World) (hT : Tab w) (bda sa : Bool) (aa : Option Addr) (na pa : Nat) (ea : Int) (bdb sb : Bool) (ab : Option Addr) (nb pb : Nat) (eb : Int) (q : Int) (ma : na ≤ 9223372036854775807) (mb : nb ≤ 9223372036854775807) (hsa : slimB na ea = true) (hsb : slimB nb eb = false) :
    Calls Tryd.prog 5 #[.agg #[.bool bda, .bool sa, .slice aa na pa, .int .i64 ea], .agg #[.bool bdb, .bool sb, .slice ab nb pb, .int .i64 eb], .int .i64 q] w fun o w' => o = .returned (.bool true) ∧ Below w.heap.size w w' := by
  have HSa := fun W => Lib.hid (slim_any W bda sa aa na pa ea ma true hsa)
  have HSb := fun W => Lib.hid (slim_any W bdb sb ab nb pb eb mb false hsb)
  have HW := fun W ht => Lib.hid (awake_any W ht)
  have e1 : ¬ w.heap.size + 1 = w.heap.size := by omega
  go_enter Tryd.func5, Tryd.ntmps5
  go_wp2_with fail
  have I0 := (DyV.made w 27 bda sa (.slice aa na pa) ea).alloc (.cells #[.bool bdb, .bool sb, .slice ab nb pb, .int .i64 eb] 27)
  have I1 := DyV.made' (w.alloc (.cells #[.bool bda, .bool sa, .slice aa na pa, .int .i64 ea] 27)) 27 bdb sb (.slice ab nb pb) eb (n := w.heap.size + 1) (by rw [World.size_alloc])
  have B0 : Below w.heap.size w ((w.alloc (.cells #[.bool bda, .bool sa, .slice aa na pa, .int .i64 ea] 27)).alloc (.cells #[.bool bdb, .bool sb, .slice ab nb pb, .int .i64 eb] 27)) := (by repeat (with_reducible first | refine Below.setCell ?_ (by simp <;> omega) _ | refine Below.alloc ?_ (by simp <;> omega) _ | refine Below.drew ?_ | refine below_drewN ?_ _ | exact Below.refl _ _))
  generalize ((w.alloc (.cells #[.bool bda, .bool sa, .slice aa na pa, .int .i64 ea] 27)).alloc (.cells #[.bool bdb, .bool sb, .slice ab nb pb, .int .i64 eb] 27)) = w0 at I0 I1 B0 ⊢
  generalize w.heap.size + 1 = b1 at I1 ⊢
  generalize hb0 : w.heap.size = b0 at I0 ⊢
  obtain ⟨ac0, ac1, ac2, ac3, ac4, ac5⟩ := I0
  have Va0 := Lib.hid (DyV.mk ac0 ac1 ac2 ac3 ac4 ac5)
  obtain ⟨bc0, bc1, bc2, bc3, bc4, bc5⟩ := I1
  have Vb0 := Lib.hid (DyV.mk bc0 bc1 bc2 bc3 bc4 bc5)
  refine (HSa _).out.mono ?_
  rintro e w1 ⟨rfl, hb1⟩
  have Va1 : DyV w1 b0 bda sa (.slice aa na pa) ea := (by refine DyV.below ?_ hb1; (repeat (with_reducible first | refine DyV.drew ?_ | refine DyV.drewN ?_ _ | refine DyV.alloc ?_ _)); exact Va0.out)
  obtain ⟨ac0, ac1, ac2, ac3, ac4, ac5⟩ := Va1
  have Va1 := Lib.hid (DyV.mk ac0 ac1 ac2 ac3 ac4 ac5)
  have Vb1 : DyV w1 b1 bdb sb (.slice ab nb pb) eb := (by refine DyV.below ?_ hb1; (repeat (with_reducible first | refine DyV.drew ?_ | refine DyV.drewN ?_ _ | refine DyV.alloc ?_ _)); exact Vb0.out)
  obtain ⟨bc0, bc1, bc2, bc3, bc4, bc5⟩ := Vb1
  have Vb1 := Lib.hid (DyV.mk bc0 bc1 bc2 bc3 bc4 bc5)
  have B1 := below_box (w := w) (by have hszw := (B0).size; repeat (with_reducible first | refine Below.setCell ?_ (by first | omega | (simp <;> omega)) _ | refine Below.alloc ?_ (by first | omega | (simp <;> omega)) _ | refine Below.drew ?_ | refine below_drewN ?_ _ | exact B0)) hb1
  clear hb1
  go_wp2_with fail
  refine (HSb _).out.mono ?_
  rintro e w2 ⟨rfl, hb2⟩
  have Va2 : DyV w2 b0 bda sa (.slice aa na pa) ea := (by refine DyV.below ?_ hb2; (repeat (with_reducible first | refine DyV.drew ?_ | refine DyV.drewN ?_ _ | refine DyV.alloc ?_ _)); exact Va1.out)
  obtain ⟨ac0, ac1, ac2, ac3, ac4, ac5⟩ := Va2
  have Va2 := Lib.hid (DyV.mk ac0 ac1 ac2 ac3 ac4 ac5)
  have Vb2 : DyV w2 b1 bdb sb (.slice ab nb pb) eb := (by refine DyV.below ?_ hb2; (repeat (with_reducible first | refine DyV.drew ?_ | refine DyV.drewN ?_ _ | refine DyV.alloc ?_ _)); exact Vb1.out)
  obtain ⟨bc0, bc1, bc2, bc3, bc4, bc5⟩ := Vb2
  have Vb2 := Lib.hid (DyV.mk bc0 bc1 bc2 bc3 bc4 bc5)
  have B2 := below_box (w := w) (by have hszw := (B1).size; repeat (with_reducible first | refine Below.setCell ?_ (by first | omega | (simp <;> omega)) _ | refine Below.alloc ?_ (by first | omega | (simp <;> omega)) _ | refine Below.drew ?_ | refine below_drewN ?_ _ | exact B1)) hb2
  clear hb2
  go_wp2_with fail
  refine (HW _ (hT.below (by have hszw := (B2).size; repeat (with_reducible first | refine Below.setCell ?_ (by first | omega | (simp <;> omega)) _ | refine Below.alloc ?_ (by first | omega | (simp <;> omega)) _ | refine Below.drew ?_ | refine below_drewN ?_ _ | exact B2)))).out.mono ?_
  rintro e w3 ⟨rfl, hb3⟩
  have Va3 : DyV w3 b0 bda sa (.slice aa na pa) ea := (by refine DyV.below ?_ hb3; (repeat (with_reducible first | refine DyV.drew ?_ | refine DyV.drewN ?_ _ | refine DyV.alloc ?_ _)); exact Va2.out)
  obtain ⟨ac0, ac1, ac2, ac3, ac4, ac5⟩ := Va3
  have Va3 := Lib.hid (DyV.mk ac0 ac1 ac2 ac3 ac4 ac5)
  have Vb3 : DyV w3 b1 bdb sb (.slice ab nb pb) eb := (by refine DyV.below ?_ hb3; (repeat (with_reducible first | refine DyV.drew ?_ | refine DyV.drewN ?_ _ | refine DyV.alloc ?_ _)); exact Vb2.out)
  obtain ⟨bc0, bc1, bc2, bc3, bc4, bc5⟩ := Vb3
  have Vb3 := Lib.hid (DyV.mk bc0 bc1 bc2 bc3 bc4 bc5)
  have B3 := below_box (w := w) (by have hszw := (B2).size; repeat (with_reducible first | refine Below.setCell ?_ (by first | omega | (simp <;> omega)) _ | refine Below.alloc ?_ (by first | omega | (simp <;> omega)) _ | refine Below.drew ?_ | refine below_drewN ?_ _ | exact B2)) hb3
  clear hb3
  go_wp2_with fail
  go_ret
  exact ⟨rfl, (by have hszw := (B3).size; repeat (with_reducible first | refine Below.setCell ?_ (by first | omega | (simp <;> omega)) _ | refine Below.alloc ?_ (by first | omega | (simp <;> omega)) _ | refine Below.drew ?_ | refine below_drewN ?_ _ | exact B3))⟩

set_option maxRecDepth 100000 in
set_option maxHeartbeats 2000000 in
theorem qlaw_va (w : World) (hT : Tab w) (bda sa : Bool) (aa : Option Addr) (na pa : Nat) (ea : Int) (da : Option (Int × Int)) (Ha : DyIs w bda sa aa na pa ea da) (bdb sb : Bool) (ab : Option Addr) (nb pb : Nat) (eb : Int) (q : Int) (ma : na ≤ 9223372036854775807) (mb : nb ≤ 9223372036854775807) (hsa : slimB na ea = true) (hsb : slimB nb eb = true) (va : dbad da = true) :
    Calls Tryd.prog 5 #[.agg #[.bool bda, .bool sa, .slice aa na pa, .int .i64 ea], .agg #[.bool bdb, .bool sb, .slice ab nb pb, .int .i64 eb], .int .i64 q] w fun o w' => o = .returned (.bool true) ∧ Below w.heap.size w w' := by
  have HSa := fun W => Lib.hid (slim_any W bda sa aa na pa ea ma true hsa)
  have HSb := fun W => Lib.hid (slim_any W bdb sb ab nb pb eb mb true hsb)
  have HW := fun W ht => Lib.hid (awake_any W ht)
  have Ga := Lib.hid Ha
  have HVa := fun W h ht => Lib.hid (rvalid_any W bda sa aa na pa ea da h ht)
  rw [va] at HVa
  have nva : (!true) = false := rfl
  rw [nva] at HVa
  have e1 : ¬ w.heap.size + 1 = w.heap.size := by omega
  clear hsa hsb va Ha
  go_enter Tryd.func5, Tryd.ntmps5
  go_wp2_with fail
  have I0 := (DyV.made w 27 bda sa (.slice aa na pa) ea).alloc (.cells #[.bool bdb, .bool sb, .slice ab nb pb, .int .i64 eb] 27)
  have I1 := DyV.made' (w.alloc (.cells #[.bool bda, .bool sa, .slice aa na pa, .int .i64 ea] 27)) 27 bdb sb (.slice ab nb pb) eb (n := w.heap.size + 1) (by rw [World.size_alloc])
  have B0 : Below w.heap.size w ((w.alloc (.cells #[.bool bda, .bool sa, .slice aa na pa, .int .i64 ea] 27)).alloc (.cells #[.bool bdb, .bool sb, .slice ab nb pb, .int .i64 eb] 27)) := (by repeat (with_reducible first | refine Below.setCell ?_ (by simp <;> omega) _ | refine Below.alloc ?_ (by simp <;> omega) _ | refine Below.drew ?_ | refine below_drewN ?_ _ | exact Below.refl _ _))
  generalize ((w.alloc (.cells #[.bool bda, .bool sa, .slice aa na pa, .int .i64 ea] 27)).alloc (.cells #[.bool bdb, .bool sb, .slice ab nb pb, .int .i64 eb] 27)) = w0 at I0 I1 B0 ⊢
  generalize w.heap.size + 1 = b1 at I1 ⊢
  generalize hb0 : w.heap.size = b0 at I0 ⊢
  obtain ⟨ac0, ac1, ac2, ac3, ac4, ac5⟩ := I0
  have Va0 := Lib.hid (DyV.mk ac0 ac1 ac2 ac3 ac4 ac5)
  obtain ⟨bc0, bc1, bc2, bc3, bc4, bc5⟩ := I1
  have Vb0 := Lib.hid (DyV.mk bc0 bc1 bc2 bc3 bc4 bc5)
  refine (HSa _).out.mono ?_
  rintro e w1 ⟨rfl, hb1⟩
  have Va1 : DyV w1 b0 bda sa (.slice aa na pa) ea := (by refine DyV.below ?_ hb1; (repeat (with_reducible first | refine DyV.drew ?_ | refine DyV.drewN ?_ _ | refine DyV.alloc ?_ _)); exact Va0.out)
  obtain ⟨ac0, ac1, ac2, ac3, ac4, ac5⟩ := Va1
  have Va1 := Lib.hid (DyV.mk ac0 ac1 ac2 ac3 ac4 ac5)
  have Vb1 : DyV w1 b1 bdb sb (.slice ab nb pb) eb := (by refine DyV.below ?_ hb1; (repeat (with_reducible first | refine DyV.drew ?_ | refine DyV.drewN ?_ _ | refine DyV.alloc ?_ _)); exact Vb0.out)
  obtain ⟨bc0, bc1, bc2, bc3, bc4, bc5⟩ := Vb1
  have Vb1 := Lib.hid (DyV.mk bc0 bc1 bc2 bc3 bc4 bc5)
  have B1 := below_box (w := w) (by have hszw := (B0).size; repeat (with_reducible first | refine Below.setCell ?_ (by first | omega | (simp <;> omega)) _ | refine Below.alloc ?_ (by first | omega | (simp <;> omega)) _ | refine Below.drew ?_ | refine below_drewN ?_ _ | exact B0)) hb1
  clear hb1
  go_wp2_with fail
  refine (HSb _).out.mono ?_
  rintro e w2 ⟨rfl, hb2⟩
  have Va2 : DyV w2 b0 bda sa (.slice aa na pa) ea := (by refine DyV.below ?_ hb2; (repeat (with_reducible first | refine DyV.drew ?_ | refine DyV.drewN ?_ _ | refine DyV.alloc ?_ _)); exact Va1.out)
  obtain ⟨ac0, ac1, ac2, ac3, ac4, ac5⟩ := Va2
  have Va2 := Lib.hid (DyV.mk ac0 ac1 ac2 ac3 ac4 ac5)
  have Vb2 : DyV w2 b1 bdb sb (.slice ab nb pb) eb := (by refine DyV.below ?_ hb2; (repeat (with_reducible first | refine DyV.drew ?_ | refine DyV.drewN ?_ _ | refine DyV.alloc ?_ _)); exact Vb1.out)
  obtain ⟨bc0, bc1, bc2, bc3, bc4, bc5⟩ := Vb2
  have Vb2 := Lib.hid (DyV.mk bc0 bc1 bc2 bc3 bc4 bc5)
  have B2 := below_box (w := w) (by have hszw := (B1).size; repeat (with_reducible first | refine Below.setCell ?_ (by first | omega | (simp <;> omega)) _ | refine Below.alloc ?_ (by first | omega | (simp <;> omega)) _ | refine Below.drew ?_ | refine below_drewN ?_ _ | exact B1)) hb2
  clear hb2
  go_wp2_with fail
  refine (HVa _ (Ga.out.below (by have hszw := (B2).size; repeat (with_reducible first | refine Below.setCell ?_ (by first | omega | (simp <;> omega)) _ | refine Below.alloc ?_ (by first | omega | (simp <;> omega)) _ | refine Below.drew ?_ | refine below_drewN ?_ _ | exact B2))) (hT.below (by have hszw := (B2).size; repeat (with_reducible first | refine Below.setCell ?_ (by first | omega | (simp <;> omega)) _ | refine Below.alloc ?_ (by first | omega | (simp <;> omega)) _ | refine Below.drew ?_ | refine below_drewN ?_ _ | exact B2)))).out.mono ?_
  rintro e w3 ⟨rfl, hb3⟩
  have Va3 : DyV w3 b0 bda sa (.slice aa na pa) ea := (by refine DyV.below ?_ hb3; (repeat (with_reducible first | refine DyV.drew ?_ | refine DyV.drewN ?_ _ | refine DyV.alloc ?_ _)); exact Va2.out)
  obtain ⟨ac0, ac1, ac2, ac3, ac4, ac5⟩ := Va3
  have Va3 := Lib.hid (DyV.mk ac0 ac1 ac2 ac3 ac4 ac5)
  have Vb3 : DyV w3 b1 bdb sb (.slice ab nb pb) eb := (by refine DyV.below ?_ hb3; (repeat (with_reducible first | refine DyV.drew ?_ | refine DyV.drewN ?_ _ | refine DyV.alloc ?_ _)); exact Vb2.out)
  obtain ⟨bc0, bc1, bc2, bc3, bc4, bc5⟩ := Vb3
  have Vb3 := Lib.hid (DyV.mk bc0 bc1 bc2 bc3 bc4 bc5)
  have B3 := below_box (w := w) (by have hszw := (B2).size; repeat (with_reducible first | refine Below.setCell ?_ (by first | omega | (simp <;> omega)) _ | refine Below.alloc ?_ (by first | omega | (simp <;> omega)) _ | refine Below.drew ?_ | refine below_drewN ?_ _ | exact B2)) hb3
  clear hb3
  go_wp2_with fail
  refine (HW _ (hT.below (by have hszw := (B3).size; repeat (with_reducible first | refine Below.setCell ?_ (by first | omega | (simp <;> omega)) _ | refine Below.alloc ?_ (by first | omega | (simp <;> omega)) _ | refine Below.drew ?_ | refine below_drewN ?_ _ | exact B3)))).out.mono ?_
  rintro e w4 ⟨rfl, hb4⟩
  have Va4 : DyV w4 b0 bda sa (.slice aa na pa) ea := (by refine DyV.below ?_ hb4; (repeat (with_reducible first | refine DyV.drew ?_ | refine DyV.drewN ?_ _ | refine DyV.alloc ?_ _)); exact Va3.out)
  obtain ⟨ac0, ac1, ac2, ac3, ac4, ac5⟩ := Va4
  have Va4 := Lib.hid (DyV.mk ac0 ac1 ac2 ac3 ac4 ac5)
  have Vb4 : DyV w4 b1 bdb sb (.slice ab nb pb) eb := (by refine DyV.below ?_ hb4; (repeat (with_reducible first | refine DyV.drew ?_ | refine DyV.drewN ?_ _ | refine DyV.alloc ?_ _)); exact Vb3.out)
  obtain ⟨bc0, bc1, bc2, bc3, bc4, bc5⟩ := Vb4
  have Vb4 := Lib.hid (DyV.mk bc0 bc1 bc2 bc3 bc4 bc5)
  have B4 := below_box (w := w) (by have hszw := (B3).size; repeat (with_reducible first | refine Below.setCell ?_ (by first | omega | (simp <;> omega)) _ | refine Below.alloc ?_ (by first | omega | (simp <;> omega)) _ | refine Below.drew ?_ | refine below_drewN ?_ _ | exact B3)) hb4
  clear hb4
  go_wp2_with fail
  go_ret
  exact ⟨rfl, (by have hszw := (B4).size; repeat (with_reducible first | refine Below.setCell ?_ (by first | omega | (simp <;> omega)) _ | refine Below.alloc ?_ (by first | omega | (simp <;> omega)) _ | refine Below.drew ?_ | refine below_drewN ?_ _ | exact B4))⟩

set_option maxRecDepth 100000 in
set_option maxHeartbeats 2000000 in
theorem qlaw_sb (w : World) (hT : Tab w) (bda sa : Bool) (aa : Option Addr) (na pa : Nat) (ea : Int) (da : Option (Int × Int)) (Ha : DyIs w bda sa aa na pa ea da) (bdb sb : Bool) (ab : Option Addr) (nb pb : Nat) (eb : Int) (db : Option (Int × Int)) (Hb : DyIs w bdb sb ab nb pb eb db) (q : Int) (ma : na ≤ 9223372036854775807) (mb : nb ≤ 9223372036854775807) (hsa : slimB na ea = true) (hsb : slimB nb eb = true) (va : dbad da = false) (g : Int) (gb : sg (dman db) = g) (hg : g ≤ 0) :
    Calls Tryd.prog 5 #[.agg #[.bool bda, .bool sa, .slice aa na pa, .int .i64 ea], .agg #[.bool bdb, .bool sb, .slice ab nb pb, .int .i64 eb], .int .i64 q] w fun o w' => o = .returned (.bool true) ∧ Below w.heap.size w w' := by
  have HSa := fun W => Lib.hid (slim_any W bda sa aa na pa ea ma true hsa)
  have HSb := fun W => Lib.hid (slim_any W bdb sb ab nb pb eb mb true hsb)
  have HW := fun W ht => Lib.hid (awake_any W ht)
  have Ga := Lib.hid Ha
  have Gb := Lib.hid Hb
  have HVa := fun W h ht => Lib.hid (rvalid_any W bda sa aa na pa ea da h ht)
  rw [va] at HVa
  have nva : (!false) = true := rfl
  rw [nva] at HVa
  have HGb := fun W h ht => Lib.hid (rdsign_any W bdb sb ab nb pb eb db h ht)
  rw [gb] at HGb
  have hg1 : decide (g ≤ 0) = true := by simpa using hg
  have e1 : ¬ w.heap.size + 1 = w.heap.size := by omega
  clear hsa hsb va gb Ha Hb hg
  go_enter Tryd.func5, Tryd.ntmps5
  go_wp2_with fail
  have I0 := (DyV.made w 27 bda sa (.slice aa na pa) ea).alloc (.cells #[.bool bdb, .bool sb, .slice ab nb pb, .int .i64 eb] 27)
  have I1 := DyV.made' (w.alloc (.cells #[.bool bda, .bool sa, .slice aa na pa, .int .i64 ea] 27)) 27 bdb sb (.slice ab nb pb) eb (n := w.heap.size + 1) (by rw [World.size_alloc])
  have B0 : Below w.heap.size w ((w.alloc (.cells #[.bool bda, .bool sa, .slice aa na pa, .int .i64 ea] 27)).alloc (.cells #[.bool bdb, .bool sb, .slice ab nb pb, .int .i64 eb] 27)) := (by repeat (with_reducible first | refine Below.setCell ?_ (by simp <;> omega) _ | refine Below.alloc ?_ (by simp <;> omega) _ | refine Below.drew ?_ | refine below_drewN ?_ _ | exact Below.refl _ _))
  generalize ((w.alloc (.cells #[.bool bda, .bool sa, .slice aa na pa, .int .i64 ea] 27)).alloc (.cells #[.bool bdb, .bool sb, .slice ab nb pb, .int .i64 eb] 27)) = w0 at I0 I1 B0 ⊢
  generalize w.heap.size + 1 = b1 at I1 ⊢
  generalize hb0 : w.heap.size = b0 at I0 ⊢
  obtain ⟨ac0, ac1, ac2, ac3, ac4, ac5⟩ := I0
  have Va0 := Lib.hid (DyV.mk ac0 ac1 ac2 ac3 ac4 ac5)
  obtain ⟨bc0, bc1, bc2, bc3, bc4, bc5⟩ := I1
  have Vb0 := Lib.hid (DyV.mk bc0 bc1 bc2 bc3 bc4 bc5)
  refine (HSa _).out.mono ?_
  rintro e w1 ⟨rfl, hb1⟩
  have Va1 : DyV w1 b0 bda sa (.slice aa na pa) ea := (by refine DyV.below ?_ hb1; (repeat (with_reducible first | refine DyV.drew ?_ | refine DyV.drewN ?_ _ | refine DyV.alloc ?_ _)); exact Va0.out)
  obtain ⟨ac0, ac1, ac2, ac3, ac4, ac5⟩ := Va1
  have Va1 := Lib.hid (DyV.mk ac0 ac1 ac2 ac3 ac4 ac5)
  have Vb1 : DyV w1 b1 bdb sb (.slice ab nb pb) eb := (by refine DyV.below ?_ hb1; (repeat (with_reducible first | refine DyV.drew ?_ | refine DyV.drewN ?_ _ | refine DyV.alloc ?_ _)); exact Vb0.out)
  obtain ⟨bc0, bc1, bc2, bc3, bc4, bc5⟩ := Vb1
  have Vb1 := Lib.hid (DyV.mk bc0 bc1 bc2 bc3 bc4 bc5)
  have B1 := below_box (w := w) (by have hszw := (B0).size; repeat (with_reducible first | refine Below.setCell ?_ (by first | omega | (simp <;> omega)) _ | refine Below.alloc ?_ (by first | omega | (simp <;> omega)) _ | refine Below.drew ?_ | refine below_drewN ?_ _ | exact B0)) hb1
  clear hb1
  go_wp2_with fail
  refine (HSb _).out.mono ?_
  rintro e w2 ⟨rfl, hb2⟩
  have Va2 : DyV w2 b0 bda sa (.slice aa na pa) ea := (by refine DyV.below ?_ hb2; (repeat (with_reducible first | refine DyV.drew ?_ | refine DyV.drewN ?_ _ | refine DyV.alloc ?_ _)); exact Va1.out)
  obtain ⟨ac0, ac1, ac2, ac3, ac4, ac5⟩ := Va2
  have Va2 := Lib.hid (DyV.mk ac0 ac1 ac2 ac3 ac4 ac5)
  have Vb2 : DyV w2 b1 bdb sb (.slice ab nb pb) eb := (by refine DyV.below ?_ hb2; (repeat (with_reducible first | refine DyV.drew ?_ | refine DyV.drewN ?_ _ | refine DyV.alloc ?_ _)); exact Vb1.out)
  obtain ⟨bc0, bc1, bc2, bc3, bc4, bc5⟩ := Vb2
  have Vb2 := Lib.hid (DyV.mk bc0 bc1 bc2 bc3 bc4 bc5)
  have B2 := below_box (w := w) (by have hszw := (B1).size; repeat (with_reducible first | refine Below.setCell ?_ (by first | omega | (simp <;> omega)) _ | refine Below.alloc ?_ (by first | omega | (simp <;> omega)) _ | refine Below.drew ?_ | refine below_drewN ?_ _ | exact B1)) hb2
  clear hb2
  go_wp2_with fail
  refine (HVa _ (Ga.out.below (by have hszw := (B2).size; repeat (with_reducible first | refine Below.setCell ?_ (by first | omega | (simp <;> omega)) _ | refine Below.alloc ?_ (by first | omega | (simp <;> omega)) _ | refine Below.drew ?_ | refine below_drewN ?_ _ | exact B2))) (hT.below (by have hszw := (B2).size; repeat (with_reducible first | refine Below.setCell ?_ (by first | omega | (simp <;> omega)) _ | refine Below.alloc ?_ (by first | omega | (simp <;> omega)) _ | refine Below.drew ?_ | refine below_drewN ?_ _ | exact B2)))).out.mono ?_
  rintro e w3 ⟨rfl, hb3⟩
  have Va3 : DyV w3 b0 bda sa (.slice aa na pa) ea := (by refine DyV.below ?_ hb3; (repeat (with_reducible first | refine DyV.drew ?_ | refine DyV.drewN ?_ _ | refine DyV.alloc ?_ _)); exact Va2.out)
  obtain ⟨ac0, ac1, ac2, ac3, ac4, ac5⟩ := Va3
  have Va3 := Lib.hid (DyV.mk ac0 ac1 ac2 ac3 ac4 ac5)
  have Vb3 : DyV w3 b1 bdb sb (.slice ab nb pb) eb := (by refine DyV.below ?_ hb3; (repeat (with_reducible first | refine DyV.drew ?_ | refine DyV.drewN ?_ _ | refine DyV.alloc ?_ _)); exact Vb2.out)
  obtain ⟨bc0, bc1, bc2, bc3, bc4, bc5⟩ := Vb3
  have Vb3 := Lib.hid (DyV.mk bc0 bc1 bc2 bc3 bc4 bc5)
  have B3 := below_box (w := w) (by have hszw := (B2).size; repeat (with_reducible first | refine Below.setCell ?_ (by first | omega | (simp <;> omega)) _ | refine Below.alloc ?_ (by first | omega | (simp <;> omega)) _ | refine Below.drew ?_ | refine below_drewN ?_ _ | exact B2)) hb3
  clear hb3
  go_wp2_with fail
  refine (HGb _ (Gb.out.below (by have hszw := (B3).size; repeat (with_reducible first | refine Below.setCell ?_ (by first | omega | (simp <;> omega)) _ | refine Below.alloc ?_ (by first | omega | (simp <;> omega)) _ | refine Below.drew ?_ | refine below_drewN ?_ _ | exact B3))) (hT.below (by have hszw := (B3).size; repeat (with_reducible first | refine Below.setCell ?_ (by first | omega | (simp <;> omega)) _ | refine Below.alloc ?_ (by first | omega | (simp <;> omega)) _ | refine Below.drew ?_ | refine below_drewN ?_ _ | exact B3)))).out.mono ?_
  rintro e w4 ⟨rfl, hb4⟩
  have Va4 : DyV w4 b0 bda sa (.slice aa na pa) ea := (by refine DyV.below ?_ hb4; (repeat (with_reducible first | refine DyV.drew ?_ | refine DyV.drewN ?_ _ | refine DyV.alloc ?_ _)); exact Va3.out)
  obtain ⟨ac0, ac1, ac2, ac3, ac4, ac5⟩ := Va4
  have Va4 := Lib.hid (DyV.mk ac0 ac1 ac2 ac3 ac4 ac5)
  have Vb4 : DyV w4 b1 bdb sb (.slice ab nb pb) eb := (by refine DyV.below ?_ hb4; (repeat (with_reducible first | refine DyV.drew ?_ | refine DyV.drewN ?_ _ | refine DyV.alloc ?_ _)); exact Vb3.out)
  obtain ⟨bc0, bc1, bc2, bc3, bc4, bc5⟩ := Vb4
  have Vb4 := Lib.hid (DyV.mk bc0 bc1 bc2 bc3 bc4 bc5)
  have B4 := below_box (w := w) (by have hszw := (B3).size; repeat (with_reducible first | refine Below.setCell ?_ (by first | omega | (simp <;> omega)) _ | refine Below.alloc ?_ (by first | omega | (simp <;> omega)) _ | refine Below.drew ?_ | refine below_drewN ?_ _ | exact B3)) hb4
  clear hb4
  go_wp2_with fail
  refine (HW _ (hT.below (by have hszw := (B4).size; repeat (with_reducible first | refine Below.setCell ?_ (by first | omega | (simp <;> omega)) _ | refine Below.alloc ?_ (by first | omega | (simp <;> omega)) _ | refine Below.drew ?_ | refine below_drewN ?_ _ | exact B4)))).out.mono ?_
  rintro e w5 ⟨rfl, hb5⟩
  have Va5 : DyV w5 b0 bda sa (.slice aa na pa) ea := (by refine DyV.below ?_ hb5; (repeat (with_reducible first | refine DyV.drew ?_ | refine DyV.drewN ?_ _ | refine DyV.alloc ?_ _)); exact Va4.out)
  obtain ⟨ac0, ac1, ac2, ac3, ac4, ac5⟩ := Va5
  have Va5 := Lib.hid (DyV.mk ac0 ac1 ac2 ac3 ac4 ac5)
  have Vb5 : DyV w5 b1 bdb sb (.slice ab nb pb) eb := (by refine DyV.below ?_ hb5; (repeat (with_reducible first | refine DyV.drew ?_ | refine DyV.drewN ?_ _ | refine DyV.alloc ?_ _)); exact Vb4.out)
  obtain ⟨bc0, bc1, bc2, bc3, bc4, bc5⟩ := Vb5
  have Vb5 := Lib.hid (DyV.mk bc0 bc1 bc2 bc3 bc4 bc5)
  have B5 := below_box (w := w) (by have hszw := (B4).size; repeat (with_reducible first | refine Below.setCell ?_ (by first | omega | (simp <;> omega)) _ | refine Below.alloc ?_ (by first | omega | (simp <;> omega)) _ | refine Below.drew ?_ | refine below_drewN ?_ _ | exact B4)) hb5
  clear hb5
  go_wp2_with fail
  go_ret
  exact ⟨rfl, (by have hszw := (B5).size; repeat (with_reducible first | refine Below.setCell ?_ (by first | omega | (simp <;> omega)) _ | refine Below.alloc ?_ (by first | omega | (simp <;> omega)) _ | refine Below.drew ?_ | refine below_drewN ?_ _ | exact B5))⟩

set_option maxRecDepth 100000 in
set_option maxHeartbeats 2000000 in
theorem qlaw_main (w : World) (hT : Tab w) (bda sa : Bool) (aa : Option Addr) (na pa : Nat) (ea : Int) (da : Option (Int × Int)) (Ha : DyIs w bda sa aa na pa ea da) (bdb sb : Bool) (ab : Option Addr) (nb pb : Nat) (eb : Int) (db : Option (Int × Int)) (Hb : DyIs w bdb sb ab nb pb eb db) (q : Int) (ma : na ≤ 9223372036854775807) (mb : nb ≤ 9223372036854775807) (hsa : slimB na ea = true) (hsb : slimB nb eb = true) (va : dbad da = false) (g : Int) (gb : sg (dman db) = g) (hg : 0 < g) (r : Int) (hr : r = 1 + placeI q 80) (hr0 : 1 ≤ r) (hr1 : r ≤ 80) (dl dh m1 m2 : Option (Int × Int)) (vx vy : Int) (cx : Bool) (f1 : dquo da db r 1 = dl) (f2 : dquo da db r 2 = dh) (f3 : dmul dl db = m1) (f4 : dcmp m1 da = vx) (f5 : (!dbad m1 && !dbad da) = true) (f6 : dmul dh db = m2) (f7 : dcmp da m2 = vy) (f8 : (!dbad da && !dbad m2) = true) (f9 : cx = decide (dl = dh)) (f10 : vx ≤ 0) (f11 : vy ≤ 0) (f12 : blen (dman dl).natAbs ≤ r) (f13 : blen (dman dh).natAbs ≤ r) (f14 : (vx == 0) = cx) (f15 : (vy == 0) = cx) (nl1 : IsN dl) (nh1 : IsN dh) :
    Calls Tryd.prog 5 #[.agg #[.bool bda, .bool sa, .slice aa na pa, .int .i64 ea], .agg #[.bool bdb, .bool sb, .slice ab nb pb, .int .i64 eb], .int .i64 q] w fun o w' => o = .returned (.bool true) ∧ Below w.heap.size w w' := by
  have HSa := fun W => Lib.hid (slim_any W bda sa aa na pa ea ma true hsa)
  have HSb := fun W => Lib.hid (slim_any W bdb sb ab nb pb eb mb true hsb)
  have HW := fun W ht => Lib.hid (awake_any W ht)
  have Ga := Lib.hid Ha
  have Gb := Lib.hid Hb
  have Ndl := Lib.hid (nl1)
  have Ndh := Lib.hid (nh1)
  have Nm1 := Lib.hid (show IsN m1 from f3 ▸ isN_mul _ _)
  have Nm2 := Lib.hid (show IsN m2 from f6 ▸ isN_mul _ _)
  have HVa := fun W h ht => Lib.hid (rvalid_any W bda sa aa na pa ea da h ht)
  rw [va] at HVa
  have nva : (!false) = true := rfl
  rw [nva] at HVa
  have HGb := fun W h ht => Lib.hid (rdsign_any W bdb sb ab nb pb eb db h ht)
  rw [gb] at HGb
  have H1 := fun W (h0 : DyIn W bda sa aa na pa ea da) (h1 : DyIn W bdb sb ab nb pb eb db) ht => Lib.hid (quo_any W _ _ _ _ _ _ _ _ _ _ _ _ r 1 _ _ h0 h1 ht )
  rw [f1] at H1
  have H2 := fun W (h0 : DyIn W bda sa aa na pa ea da) (h1 : DyIn W bdb sb ab nb pb eb db) ht => Lib.hid (quo_any W _ _ _ _ _ _ _ _ _ _ _ _ r 2 _ _ h0 h1 ht )
  rw [f2] at H2
  have H3 := fun W b0 q0 (h0 : Mag W b0 (nl (dman dl).natAbs) q0 (dman dl).natAbs) (h1 : DyIn W bdb sb ab nb pb eb db) ht => Lib.hid (dmul_any W _ _ _ _ _ _ _ _ _ _ _ _ _ _ (dyin_of Ndl.out h0) h1 ht )
  rw [f3] at H3
  have H4 := fun W b0 q0 (h0 : Mag W b0 (nl (dman m1).natAbs) q0 (dman m1).natAbs) (h1 : DyIn W bda sa aa na pa ea da) ht => Lib.hid (dcmp_any W _ _ _ _ _ _ _ _ _ _ _ _ _ _ (dyin_of Nm1.out h0) h1 ht )
  rw [f4, f5] at H4
  have H5 := fun W b0 q0 (h0 : Mag W b0 (nl (dman dh).natAbs) q0 (dman dh).natAbs) (h1 : DyIn W bdb sb ab nb pb eb db) ht => Lib.hid (dmul_any W _ _ _ _ _ _ _ _ _ _ _ _ _ _ (dyin_of Ndh.out h0) h1 ht )
  rw [f6] at H5
  have H6 := fun W (h0 : DyIn W bda sa aa na pa ea da) b1 q1 (h1 : Mag W b1 (nl (dman m2).natAbs) q1 (dman m2).natAbs) ht => Lib.hid (dcmp_any W _ _ _ _ _ _ _ _ _ _ _ _ _ _ h0 (dyin_of Nm2.out h1) ht )
  rw [f7, f8] at H6
  have H7 := fun W b0 q0 (h0 : Mag W b0 (nl (dman dl).natAbs) q0 (dman dl).natAbs) b1 q1 (h1 : Mag W b1 (nl (dman dh).natAbs) q1 (dman dh).natAbs) ht => Lib.hid (same_any W _ _ _ _ _ _ _ _ _ _ _ _ _ _ (dyin_of Ndl.out h0) (dyin_of Ndh.out h1) ht cx f9)
  have HBl := fun W b q' (h : Mag W b (nl (dman dl).natAbs) q' (dman dl).natAbs) => Lib.hid (bits_any W (dbad dl) (decide (dman dl < 0)) b _ q' _ (dexp dl) h (by have := nl_le_blen (dman dl).natAbs; omega))
  have HBh := fun W b q' (h : Mag W b (nl (dman dh).natAbs) q' (dman dh).natAbs) => Lib.hid (bits_any W (dbad dh) (decide (dman dh < 0)) b _ q' _ (dexp dh) h (by have := nl_le_blen (dman dh).natAbs; omega))
  have HP := fun W => Lib.hid (place_any W q 80 (by omega) (by omega))
  have hp0 : IntKind.i64.wrap (1 + placeI q 80) = r := by rw [← hr, IntKind.wrap_i64]; omega
  generalize placeI q 80 = pq at HP hp0
  have hg1 : decide (g ≤ 0) = false := by simp; omega
  have hx1 : decide (0 < vx) = false := by simp; omega
  have hy1 : decide (0 < vy) = false := by simp; omega
  have hz1 : decide (r < ((blen (dman dl).natAbs : Nat) : Int)) = false := by simp; omega
  have hz2 : decide (r < ((blen (dman dh).natAbs : Nat) : Int)) = false := by simp; omega
  have e1 : ¬ w.heap.size + 1 = w.heap.size := by omega
  clear hsa hsb va gb Ha Hb hg hr hr0 hr1 f1 f2 f3 f4 f5 f6 f7 f8 f9 f10 f11 f12 f13 nl1 nh1
  go_enter Tryd.func5, Tryd.ntmps5
  go_wp2_with fail
  have I0 := (DyV.made w 27 bda sa (.slice aa na pa) ea).alloc (.cells #[.bool bdb, .bool sb, .slice ab nb pb, .int .i64 eb] 27)
  have I1 := DyV.made' (w.alloc (.cells #[.bool bda, .bool sa, .slice aa na pa, .int .i64 ea] 27)) 27 bdb sb (.slice ab nb pb) eb (n := w.heap.size + 1) (by rw [World.size_alloc])
  have B0 : Below w.heap.size w ((w.alloc (.cells #[.bool bda, .bool sa, .slice aa na pa, .int .i64 ea] 27)).alloc (.cells #[.bool bdb, .bool sb, .slice ab nb pb, .int .i64 eb] 27)) := (by repeat (with_reducible first | refine Below.setCell ?_ (by simp <;> omega) _ | refine Below.alloc ?_ (by simp <;> omega) _ | refine Below.drew ?_ | refine below_drewN ?_ _ | exact Below.refl _ _))
  generalize ((w.alloc (.cells #[.bool bda, .bool sa, .slice aa na pa, .int .i64 ea] 27)).alloc (.cells #[.bool bdb, .bool sb, .slice ab nb pb, .int .i64 eb] 27)) = w0 at I0 I1 B0 ⊢
  generalize w.heap.size + 1 = b1 at I1 ⊢
  generalize hb0 : w.heap.size = b0 at I0 ⊢
  obtain ⟨ac0, ac1, ac2, ac3, ac4, ac5⟩ := I0
  have Va0 := Lib.hid (DyV.mk ac0 ac1 ac2 ac3 ac4 ac5)
  obtain ⟨bc0, bc1, bc2, bc3, bc4, bc5⟩ := I1
  have Vb0 := Lib.hid (DyV.mk bc0 bc1 bc2 bc3 bc4 bc5)
  refine (HSa _).out.mono ?_
  rintro e w1 ⟨rfl, hb1⟩
  have Va1 : DyV w1 b0 bda sa (.slice aa na pa) ea := (by refine DyV.below ?_ hb1; (repeat (with_reducible first | refine DyV.drew ?_ | refine DyV.drewN ?_ _ | refine DyV.alloc ?_ _)); exact Va0.out)
  obtain ⟨ac0, ac1, ac2, ac3, ac4, ac5⟩ := Va1
  have Va1 := Lib.hid (DyV.mk ac0 ac1 ac2 ac3 ac4 ac5)
  have Vb1 : DyV w1 b1 bdb sb (.slice ab nb pb) eb := (by refine DyV.below ?_ hb1; (repeat (with_reducible first | refine DyV.drew ?_ | refine DyV.drewN ?_ _ | refine DyV.alloc ?_ _)); exact Vb0.out)
  obtain ⟨bc0, bc1, bc2, bc3, bc4, bc5⟩ := Vb1
  have Vb1 := Lib.hid (DyV.mk bc0 bc1 bc2 bc3 bc4 bc5)
  have B1 := below_box (w := w) (by have hszw := (B0).size; repeat (with_reducible first | refine Below.setCell ?_ (by first | omega | (simp <;> omega)) _ | refine Below.alloc ?_ (by first | omega | (simp <;> omega)) _ | refine Below.drew ?_ | refine below_drewN ?_ _ | exact B0)) hb1
  clear hb1
  go_wp2_with fail
  refine (HSb _).out.mono ?_
  rintro e w2 ⟨rfl, hb2⟩
  have Va2 : DyV w2 b0 bda sa (.slice aa na pa) ea := (by refine DyV.below ?_ hb2; (repeat (with_reducible first | refine DyV.drew ?_ | refine DyV.drewN ?_ _ | refine DyV.alloc ?_ _)); exact Va1.out)
  obtain ⟨ac0, ac1, ac2, ac3, ac4, ac5⟩ := Va2
  have Va2 := Lib.hid (DyV.mk ac0 ac1 ac2 ac3 ac4 ac5)
  have Vb2 : DyV w2 b1 bdb sb (.slice ab nb pb) eb := (by refine DyV.below ?_ hb2; (repeat (with_reducible first | refine DyV.drew ?_ | refine DyV.drewN ?_ _ | refine DyV.alloc ?_ _)); exact Vb1.out)
  obtain ⟨bc0, bc1, bc2, bc3, bc4, bc5⟩ := Vb2
  have Vb2 := Lib.hid (DyV.mk bc0 bc1 bc2 bc3 bc4 bc5)
  have B2 := below_box (w := w) (by have hszw := (B1).size; repeat (with_reducible first | refine Below.setCell ?_ (by first | omega | (simp <;> omega)) _ | refine Below.alloc ?_ (by first | omega | (simp <;> omega)) _ | refine Below.drew ?_ | refine below_drewN ?_ _ | exact B1)) hb2
  clear hb2
  go_wp2_with fail
  refine (HVa _ (Ga.out.below (by have hszw := (B2).size; repeat (with_reducible first | refine Below.setCell ?_ (by first | omega | (simp <;> omega)) _ | refine Below.alloc ?_ (by first | omega | (simp <;> omega)) _ | refine Below.drew ?_ | refine below_drewN ?_ _ | exact B2))) (hT.below (by have hszw := (B2).size; repeat (with_reducible first | refine Below.setCell ?_ (by first | omega | (simp <;> omega)) _ | refine Below.alloc ?_ (by first | omega | (simp <;> omega)) _ | refine Below.drew ?_ | refine below_drewN ?_ _ | exact B2)))).out.mono ?_
  rintro e w3 ⟨rfl, hb3⟩
  have Va3 : DyV w3 b0 bda sa (.slice aa na pa) ea := (by refine DyV.below ?_ hb3; (repeat (with_reducible first | refine DyV.drew ?_ | refine DyV.drewN ?_ _ | refine DyV.alloc ?_ _)); exact Va2.out)
  obtain ⟨ac0, ac1, ac2, ac3, ac4, ac5⟩ := Va3
  have Va3 := Lib.hid (DyV.mk ac0 ac1 ac2 ac3 ac4 ac5)
  have Vb3 : DyV w3 b1 bdb sb (.slice ab nb pb) eb := (by refine DyV.below ?_ hb3; (repeat (with_reducible first | refine DyV.drew ?_ | refine DyV.drewN ?_ _ | refine DyV.alloc ?_ _)); exact Vb2.out)
  obtain ⟨bc0, bc1, bc2, bc3, bc4, bc5⟩ := Vb3
  have Vb3 := Lib.hid (DyV.mk bc0 bc1 bc2 bc3 bc4 bc5)
  have B3 := below_box (w := w) (by have hszw := (B2).size; repeat (with_reducible first | refine Below.setCell ?_ (by first | omega | (simp <;> omega)) _ | refine Below.alloc ?_ (by first | omega | (simp <;> omega)) _ | refine Below.drew ?_ | refine below_drewN ?_ _ | exact B2)) hb3
  clear hb3
  go_wp2_with fail
  refine (HGb _ (Gb.out.below (by have hszw := (B3).size; repeat (with_reducible first | refine Below.setCell ?_ (by first | omega | (simp <;> omega)) _ | refine Below.alloc ?_ (by first | omega | (simp <;> omega)) _ | refine Below.drew ?_ | refine below_drewN ?_ _ | exact B3))) (hT.below (by have hszw := (B3).size; repeat (with_reducible first | refine Below.setCell ?_ (by first | omega | (simp <;> omega)) _ | refine Below.alloc ?_ (by first | omega | (simp <;> omega)) _ | refine Below.drew ?_ | refine below_drewN ?_ _ | exact B3)))).out.mono ?_
  rintro e w4 ⟨rfl, hb4⟩
  have Va4 : DyV w4 b0 bda sa (.slice aa na pa) ea := (by refine DyV.below ?_ hb4; (repeat (with_reducible first | refine DyV.drew ?_ | refine DyV.drewN ?_ _ | refine DyV.alloc ?_ _)); exact Va3.out)
  obtain ⟨ac0, ac1, ac2, ac3, ac4, ac5⟩ := Va4
  have Va4 := Lib.hid (DyV.mk ac0 ac1 ac2 ac3 ac4 ac5)
  have Vb4 : DyV w4 b1 bdb sb (.slice ab nb pb) eb := (by refine DyV.below ?_ hb4; (repeat (with_reducible first | refine DyV.drew ?_ | refine DyV.drewN ?_ _ | refine DyV.alloc ?_ _)); exact Vb3.out)
  obtain ⟨bc0, bc1, bc2, bc3, bc4, bc5⟩ := Vb4
  have Vb4 := Lib.hid (DyV.mk bc0 bc1 bc2 bc3 bc4 bc5)
  have B4 := below_box (w := w) (by have hszw := (B3).size; repeat (with_reducible first | refine Below.setCell ?_ (by first | omega | (simp <;> omega)) _ | refine Below.alloc ?_ (by first | omega | (simp <;> omega)) _ | refine Below.drew ?_ | refine below_drewN ?_ _ | exact B3)) hb4
  clear hb4
  go_wp2_with fail
  refine (HP _).out.mono ?_
  rintro e w' ⟨rfl, rfl⟩
  go_wp2_with fail
  go_cut [7, 8] (fun ptl pth wx => ∃ zl al cl zh ah ch, ptl = .pointer (some ⟨zl, 0, none⟩) ∧ pth = .pointer (some ⟨zh, 0, none⟩) ∧ Below w4.heap.size w4 wx ∧ DyV wx zl (dbad dl) (decide (dman dl < 0)) (.slice al (nl (dman dl).natAbs) cl) (dexp dl) ∧ Mag wx al (nl (dman dl).natAbs) cl (dman dl).natAbs ∧ DyV wx zh (dbad dh) (decide (dman dh < 0)) (.slice ah (nl (dman dh).natAbs) ch) (dexp dh) ∧ Mag wx ah (nl (dman dh).natAbs) ch (dman dh).natAbs)
  case first =>
    have hBz4 : Below w4.heap.size w4 w4 := Below.refl _ _
    go_region_held3 (fun w' => w'.cell? ⟨b0, 0, none⟩ = some (.bool bda) ∧ w'.cell? ⟨b0, 1, none⟩ = some (.bool sa) ∧ w'.cell? ⟨b0, 2, none⟩ = some ((.slice aa na pa)) ∧ w'.cell? ⟨b0, 3, none⟩ = some (.int .i64 ea) ∧ w'.cell? ⟨b1, 0, none⟩ = some (.bool bdb) ∧ w'.cell? ⟨b1, 1, none⟩ = some (.bool sb) ∧ w'.cell? ⟨b1, 2, none⟩ = some ((.slice ab nb pb)) ∧ w'.cell? ⟨b1, 3, none⟩ = some (.int .i64 eb)) (first | (go_keep; done) | (go_simp; done))
      (first
        | (go_at_call 23; have xx := B5; refine (H2 _ (Ga.out.1.below (by have hszw := (B5).size; repeat (with_reducible first | refine Below.setCell ?_ (by first | omega | (simp <;> omega)) _ | refine Below.alloc ?_ (by first | omega | (simp <;> omega)) _ | refine Below.drew ?_ | refine below_drewN ?_ _ | exact B5))) (Gb.out.1.below (by have hszw := (B5).size; repeat (with_reducible first | refine Below.setCell ?_ (by first | omega | (simp <;> omega)) _ | refine Below.alloc ?_ (by first | omega | (simp <;> omega)) _ | refine Below.drew ?_ | refine below_drewN ?_ _ | exact B5))) (hT.below (by have hszw := (B5).size; repeat (with_reducible first | refine Below.setCell ?_ (by first | omega | (simp <;> omega)) _ | refine Below.alloc ?_ (by first | omega | (simp <;> omega)) _ | refine Below.drew ?_ | refine below_drewN ?_ _ | exact B5)))).out.mono ?_; rintro e w6 ⟨ah, ch, rfl, Mh6, hb6, hf6⟩; have hs6 := hb6.size; (try simp at hs6 hf6); have o6 := Mh6.old; have Va6 : DyV w6 b0 bda sa (.slice aa na pa) ea := (by refine DyV.below ?_ hb6; (repeat (with_reducible first | refine DyV.drew ?_ | refine DyV.drewN ?_ _ | refine DyV.alloc ?_ _)); exact Va5.out); obtain ⟨ac0, ac1, ac2, ac3, ac4, ac5⟩ := Va6; have Va6 := Lib.hid (DyV.mk ac0 ac1 ac2 ac3 ac4 ac5); have Vb6 : DyV w6 b1 bdb sb (.slice ab nb pb) eb := (by refine DyV.below ?_ hb6; (repeat (with_reducible first | refine DyV.drew ?_ | refine DyV.drewN ?_ _ | refine DyV.alloc ?_ _)); exact Vb5.out); obtain ⟨bc0, bc1, bc2, bc3, bc4, bc5⟩ := Vb6; have Vb6 := Lib.hid (DyV.mk bc0 bc1 bc2 bc3 bc4 bc5); have Ml6 : Mag w6 al (nl (dman dl).natAbs) cl (dman dl).natAbs := Mag.below (by repeat (with_reducible first | refine Mag.set ?_ (fun h => by have := Ml5 h; omega) _ _ | refine Mag.drew ?_ | refine Mag.alloc ?_ _ | refine Mag.drewN ?_ _ | refine Mag.below ?_ (Below.drew (Below.refl _ _)) | refine Mag.below ?_ ((Below.refl _ _).alloc (Nat.le_refl _) _) | exact Ml5)) hb6; have B6 := below_box (w := w) (by have hszw := (B5).size; repeat (with_reducible first | refine Below.setCell ?_ (by first | omega | (simp <;> omega)) _ | refine Below.alloc ?_ (by first | omega | (simp <;> omega)) _ | refine Below.drew ?_ | refine below_drewN ?_ _ | exact B5)) hb6; have hBz6 : Below w4.heap.size w4 w6 := Below.trans (by have hszw := (hBz5).size; repeat (with_reducible first | refine Below.setCell ?_ (by first | omega | (simp <;> omega)) _ | refine Below.alloc ?_ (by first | omega | (simp <;> omega)) _ | refine Below.drew ?_ | refine below_drewN ?_ _ | exact hBz5)) (hb6.mono (by first | exact Nat.le_refl _ | (simp; done) | omega | (simp <;> omega))); (try (have F0x0 : DyV w6 (w4.heap.size) false false (.slice none 0 0) 0 := (by first | (refine DyV.below ?_ hb6; (repeat (first | exact F0x0.out | (refine DyV.made' _ _ _ _ _ _ ?_; first | rfl | (simp; done)) | with_reducible refine DyV.drew ?_ | with_reducible refine DyV.alloc ?_ _)); done) | fail); obtain ⟨F0x0c0, F0x0c1, F0x0c2, F0x0c3, F0x0c4, F0x0c5⟩ := F0x0; have F0x0 := Lib.hid (DyV.mk F0x0c0 F0x0c1 F0x0c2 F0x0c3 F0x0c4 F0x0c5))); (try (have F0x1 : DyV w6 (w4.heap.size + 1) false false (.slice none 0 0) 0 := (by first | (refine DyV.below ?_ hb6; (repeat (first | exact F0x1.out | (refine DyV.made' _ _ _ _ _ _ ?_; first | rfl | (simp; done)) | with_reducible refine DyV.drew ?_ | with_reducible refine DyV.alloc ?_ _)); done) | fail); obtain ⟨F0x1c0, F0x1c1, F0x1c2, F0x1c3, F0x1c4, F0x1c5⟩ := F0x1; have F0x1 := Lib.hid (DyV.mk F0x1c0 F0x1c1 F0x1c2 F0x1c3 F0x1c4 F0x1c5))); (try (have F1x0 : DyV w6 (w5.heap.size) false false (.slice none 0 0) 0 := (by first | (refine DyV.below ?_ hb6; (repeat (first | exact F1x0.out | (refine DyV.made' _ _ _ _ _ _ ?_; first | rfl | (simp; done)) | with_reducible refine DyV.drew ?_ | with_reducible refine DyV.alloc ?_ _)); done) | fail); obtain ⟨F1x0c0, F1x0c1, F1x0c2, F1x0c3, F1x0c4, F1x0c5⟩ := F1x0; have F1x0 := Lib.hid (DyV.mk F1x0c0 F1x0c1 F1x0c2 F1x0c3 F1x0c4 F1x0c5))); (try (have F1x1 : DyV w6 (w5.heap.size + 1) false false (.slice none 0 0) 0 := (by first | (refine DyV.below ?_ hb6; (repeat (first | exact F1x1.out | (refine DyV.made' _ _ _ _ _ _ ?_; first | rfl | (simp; done)) | with_reducible refine DyV.drew ?_ | with_reducible refine DyV.alloc ?_ _)); done) | fail); obtain ⟨F1x1c0, F1x1c1, F1x1c2, F1x1c3, F1x1c4, F1x1c5⟩ := F1x1; have F1x1 := Lib.hid (DyV.mk F1x1c0 F1x1c1 F1x1c2 F1x1c3 F1x1c4 F1x1c5))))
        | (go_at_call 23; refine (H1 _ (Ga.out.1.below (by have hszw := (B4).size; repeat (with_reducible first | refine Below.setCell ?_ (by first | omega | (simp <;> omega)) _ | refine Below.alloc ?_ (by first | omega | (simp <;> omega)) _ | refine Below.drew ?_ | refine below_drewN ?_ _ | exact B4))) (Gb.out.1.below (by have hszw := (B4).size; repeat (with_reducible first | refine Below.setCell ?_ (by first | omega | (simp <;> omega)) _ | refine Below.alloc ?_ (by first | omega | (simp <;> omega)) _ | refine Below.drew ?_ | refine below_drewN ?_ _ | exact B4))) (hT.below (by have hszw := (B4).size; repeat (with_reducible first | refine Below.setCell ?_ (by first | omega | (simp <;> omega)) _ | refine Below.alloc ?_ (by first | omega | (simp <;> omega)) _ | refine Below.drew ?_ | refine below_drewN ?_ _ | exact B4)))).out.mono ?_; rintro e w5 ⟨al, cl, rfl, Ml5, hb5, hf5⟩; have hs5 := hb5.size; (try simp at hs5 hf5); have o5 := Ml5.old; have Va5 : DyV w5 b0 bda sa (.slice aa na pa) ea := (by refine DyV.below ?_ hb5; (repeat (with_reducible first | refine DyV.drew ?_ | refine DyV.drewN ?_ _ | refine DyV.alloc ?_ _)); exact Va4.out); obtain ⟨ac0, ac1, ac2, ac3, ac4, ac5⟩ := Va5; have Va5 := Lib.hid (DyV.mk ac0 ac1 ac2 ac3 ac4 ac5); have Vb5 : DyV w5 b1 bdb sb (.slice ab nb pb) eb := (by refine DyV.below ?_ hb5; (repeat (with_reducible first | refine DyV.drew ?_ | refine DyV.drewN ?_ _ | refine DyV.alloc ?_ _)); exact Vb4.out); obtain ⟨bc0, bc1, bc2, bc3, bc4, bc5⟩ := Vb5; have Vb5 := Lib.hid (DyV.mk bc0 bc1 bc2 bc3 bc4 bc5); have B5 := below_box (w := w) (by have hszw := (B4).size; repeat (with_reducible first | refine Below.setCell ?_ (by first | omega | (simp <;> omega)) _ | refine Below.alloc ?_ (by first | omega | (simp <;> omega)) _ | refine Below.drew ?_ | refine below_drewN ?_ _ | exact B4)) hb5; have hBz5 : Below w4.heap.size w4 w5 := Below.trans (by have hszw := (hBz4).size; repeat (with_reducible first | refine Below.setCell ?_ (by first | omega | (simp <;> omega)) _ | refine Below.alloc ?_ (by first | omega | (simp <;> omega)) _ | refine Below.drew ?_ | refine below_drewN ?_ _ | exact hBz4)) (hb5.mono (by first | exact Nat.le_refl _ | (simp; done) | omega | (simp <;> omega))); (try (have F0x0 : DyV w5 (w4.heap.size) false false (.slice none 0 0) 0 := (by first | (refine DyV.below ?_ hb5; (repeat (first | exact F0x0.out | (refine DyV.made' _ _ _ _ _ _ ?_; first | rfl | (simp; done)) | with_reducible refine DyV.drew ?_ | with_reducible refine DyV.alloc ?_ _)); done) | fail); obtain ⟨F0x0c0, F0x0c1, F0x0c2, F0x0c3, F0x0c4, F0x0c5⟩ := F0x0; have F0x0 := Lib.hid (DyV.mk F0x0c0 F0x0c1 F0x0c2 F0x0c3 F0x0c4 F0x0c5))); (try (have F0x1 : DyV w5 (w4.heap.size + 1) false false (.slice none 0 0) 0 := (by first | (refine DyV.below ?_ hb5; (repeat (first | exact F0x1.out | (refine DyV.made' _ _ _ _ _ _ ?_; first | rfl | (simp; done)) | with_reducible refine DyV.drew ?_ | with_reducible refine DyV.alloc ?_ _)); done) | fail); obtain ⟨F0x1c0, F0x1c1, F0x1c2, F0x1c3, F0x1c4, F0x1c5⟩ := F0x1; have F0x1 := Lib.hid (DyV.mk F0x1c0 F0x1c1 F0x1c2 F0x1c3 F0x1c4 F0x1c5))))
        | fail)
    all_goals (
      have ne0x1 : ¬ w4.heap.size = w4.heap.size + 1 := by omega
      have me0x1 : ¬ w4.heap.size + 1 = w4.heap.size := by omega
      (try have ne0x2 : ¬ w4.heap.size = w5.heap.size := by omega)
      (try have me0x2 : ¬ w5.heap.size = w4.heap.size := by omega)
      (try have ne0x3 : ¬ w4.heap.size = w5.heap.size + 1 := by omega)
      (try have me0x3 : ¬ w5.heap.size + 1 = w4.heap.size := by omega)
      (try have ne0x4 : ¬ w4.heap.size = w6.heap.size := by omega)
      (try have me0x4 : ¬ w6.heap.size = w4.heap.size := by omega)
      (try have ne0x5 : ¬ w4.heap.size = w6.heap.size + 1 := by omega)
      (try have me0x5 : ¬ w6.heap.size + 1 = w4.heap.size := by omega)
      (try have ne1x2 : ¬ w4.heap.size + 1 = w5.heap.size := by omega)
      (try have me1x2 : ¬ w5.heap.size = w4.heap.size + 1 := by omega)
      (try have ne1x3 : ¬ w4.heap.size + 1 = w5.heap.size + 1 := by omega)
      (try have me1x3 : ¬ w5.heap.size + 1 = w4.heap.size + 1 := by omega)
      (try have ne1x4 : ¬ w4.heap.size + 1 = w6.heap.size := by omega)
      (try have me1x4 : ¬ w6.heap.size = w4.heap.size + 1 := by omega)
      (try have ne1x5 : ¬ w4.heap.size + 1 = w6.heap.size + 1 := by omega)
      (try have me1x5 : ¬ w6.heap.size + 1 = w4.heap.size + 1 := by omega)
      have ne2x3 : ¬ w5.heap.size = w5.heap.size + 1 := by omega
      have me2x3 : ¬ w5.heap.size + 1 = w5.heap.size := by omega
      (try have ne2x4 : ¬ w5.heap.size = w6.heap.size := by omega)
      (try have me2x4 : ¬ w6.heap.size = w5.heap.size := by omega)
      (try have ne2x5 : ¬ w5.heap.size = w6.heap.size + 1 := by omega)
      (try have me2x5 : ¬ w6.heap.size + 1 = w5.heap.size := by omega)
      (try have ne3x4 : ¬ w5.heap.size + 1 = w6.heap.size := by omega)
      (try have me3x4 : ¬ w6.heap.size = w5.heap.size + 1 := by omega)
      (try have ne3x5 : ¬ w5.heap.size + 1 = w6.heap.size + 1 := by omega)
      (try have me3x5 : ¬ w6.heap.size + 1 = w5.heap.size + 1 := by omega)
      have ne4x5 : ¬ w6.heap.size = w6.heap.size + 1 := by omega
      have me4x5 : ¬ w6.heap.size + 1 = w6.heap.size := by omega
      go_wp2_with fail
      go_meet
      refine ⟨_, al, cl, _, ah, ch, rfl, rfl, ?_, ⟨?_, ?_, ?_, ?_, ?_, ?_⟩, ?_, ⟨?_, ?_, ?_, ?_, ?_, ?_⟩, ?_⟩
      · exact (by have hszw := (hBz6).size; repeat (with_reducible first | refine Below.setCell ?_ (by first | omega | (simp <;> omega)) _ | refine Below.alloc ?_ (by first | omega | (simp <;> omega)) _ | refine Below.drew ?_ | refine below_drewN ?_ _ | exact hBz6))
      · go_simp
      · go_simp
      · go_simp
      · go_simp
      · intro i; go_simp
      · first | (simp; done) | omega | (simp <;> omega)
      · repeat (with_reducible first | refine Mag.set ?_ (fun h => by have := hf5 h; have := o5 h; first | omega | (simp; omega)) _ _ | refine Mag.drew ?_ | refine Mag.alloc ?_ _ | exact Ml6)
      · go_simp
      · go_simp
      · go_simp
      · go_simp
      · intro i; go_simp
      · first | (simp; done) | omega | (simp <;> omega)
      · repeat (with_reducible first | refine Mag.set ?_ (fun h => by have := hf6 h; have := o6 h; first | omega | (simp; omega)) _ _ | refine Mag.drew ?_ | refine Mag.alloc ?_ _ | exact Mh6))
  case rest =>
  obtain ⟨zl, al, cl, zh, ah, ch, rfl, rfl, hbz, Vl5, Ml5, Vh5, Mh5⟩ := hcut
  have Va5 : DyV wc b0 bda sa (.slice aa na pa) ea := DyV.below Va4.out hbz
  obtain ⟨ac0, ac1, ac2, ac3, ac4, ac5⟩ := Va5
  have Va5 := Lib.hid (DyV.mk ac0 ac1 ac2 ac3 ac4 ac5)
  have Vb5 : DyV wc b1 bdb sb (.slice ab nb pb) eb := DyV.below Vb4.out hbz
  obtain ⟨bc0, bc1, bc2, bc3, bc4, bc5⟩ := Vb5
  have Vb5 := Lib.hid (DyV.mk bc0 bc1 bc2 bc3 bc4 bc5)
  obtain ⟨lc0, lc1, lc2, lc3, lc4, lc5⟩ := Vl5
  have Vl5 := Lib.hid (DyV.mk lc0 lc1 lc2 lc3 lc4 lc5)
  obtain ⟨hc0, hc1, hc2, hc3, hc4, hc5⟩ := Vh5
  have Vh5 := Lib.hid (DyV.mk hc0 hc1 hc2 hc3 hc4 hc5)
  have B5 := below_box (w := w) B4 hbz
  clear hbz
  go_wp2_with fail
  first
  | go_region_held3 (fun w' => w'.cell? ⟨b0, 0, none⟩ = some (.bool bda) ∧ w'.cell? ⟨b0, 1, none⟩ = some (.bool sa) ∧ w'.cell? ⟨b0, 2, none⟩ = some ((.slice aa na pa)) ∧ w'.cell? ⟨b0, 3, none⟩ = some (.int .i64 ea) ∧ w'.cell? ⟨b1, 0, none⟩ = some (.bool bdb) ∧ w'.cell? ⟨b1, 1, none⟩ = some (.bool sb) ∧ w'.cell? ⟨b1, 2, none⟩ = some ((.slice ab nb pb)) ∧ w'.cell? ⟨b1, 3, none⟩ = some (.int .i64 eb) ∧ w'.cell? ⟨zl, 0, none⟩ = some (.bool (dbad dl)) ∧ w'.cell? ⟨zl, 1, none⟩ = some (.bool (decide (dman dl < 0))) ∧ w'.cell? ⟨zl, 2, none⟩ = some ((.slice al (nl (dman dl).natAbs) cl)) ∧ w'.cell? ⟨zl, 3, none⟩ = some (.int .i64 (dexp dl)) ∧ w'.cell? ⟨zh, 0, none⟩ = some (.bool (dbad dh)) ∧ w'.cell? ⟨zh, 1, none⟩ = some (.bool (decide (dman dh < 0))) ∧ w'.cell? ⟨zh, 2, none⟩ = some ((.slice ah (nl (dman dh).natAbs) ch)) ∧ w'.cell? ⟨zh, 3, none⟩ = some (.int .i64 (dexp dh))) (first | (go_keep; done) | (go_simp; done))
      (first
        | (go_at_call 24; have xx := B6; refine (H4 _ a1 c1 (by repeat (with_reducible first | refine Mag.set ?_ (fun h => by have := M16 h; omega) _ _ | refine Mag.drew ?_ | refine Mag.alloc ?_ _ | refine Mag.drewN ?_ _ | refine Mag.below ?_ (Below.drew (Below.refl _ _)) | refine Mag.below ?_ ((Below.refl _ _).alloc (Nat.le_refl _) _) | exact M16)) (Ga.out.1.below (by have hszw := (B6).size; repeat (with_reducible first | refine Below.setCell ?_ (by first | omega | (simp <;> omega)) _ | refine Below.alloc ?_ (by first | omega | (simp <;> omega)) _ | refine Below.drew ?_ | refine below_drewN ?_ _ | exact B6))) (hT.below (by have hszw := (B6).size; repeat (with_reducible first | refine Below.setCell ?_ (by first | omega | (simp <;> omega)) _ | refine Below.alloc ?_ (by first | omega | (simp <;> omega)) _ | refine Below.drew ?_ | refine below_drewN ?_ _ | exact B6)))).out.mono ?_; rintro e w7 ⟨rfl, hb7⟩; have Va7 : DyV w7 b0 bda sa (.slice aa na pa) ea := (by refine DyV.below ?_ hb7; (repeat (with_reducible first | refine DyV.drew ?_ | refine DyV.drewN ?_ _ | refine DyV.alloc ?_ _)); exact Va6.out); obtain ⟨ac0, ac1, ac2, ac3, ac4, ac5⟩ := Va7; have Va7 := Lib.hid (DyV.mk ac0 ac1 ac2 ac3 ac4 ac5); have Vb7 : DyV w7 b1 bdb sb (.slice ab nb pb) eb := (by refine DyV.below ?_ hb7; (repeat (with_reducible first | refine DyV.drew ?_ | refine DyV.drewN ?_ _ | refine DyV.alloc ?_ _)); exact Vb6.out); obtain ⟨bc0, bc1, bc2, bc3, bc4, bc5⟩ := Vb7; have Vb7 := Lib.hid (DyV.mk bc0 bc1 bc2 bc3 bc4 bc5); have Vl7 : DyV w7 zl (dbad dl) (decide (dman dl < 0)) (.slice al (nl (dman dl).natAbs) cl) (dexp dl) := (by refine DyV.below ?_ hb7; (repeat (with_reducible first | refine DyV.drew ?_ | refine DyV.drewN ?_ _ | refine DyV.alloc ?_ _)); exact Vl6.out); obtain ⟨lc0, lc1, lc2, lc3, lc4, lc5⟩ := Vl7; have Vl7 := Lib.hid (DyV.mk lc0 lc1 lc2 lc3 lc4 lc5); have Vh7 : DyV w7 zh (dbad dh) (decide (dman dh < 0)) (.slice ah (nl (dman dh).natAbs) ch) (dexp dh) := (by refine DyV.below ?_ hb7; (repeat (with_reducible first | refine DyV.drew ?_ | refine DyV.drewN ?_ _ | refine DyV.alloc ?_ _)); exact Vh6.out); obtain ⟨hc0, hc1, hc2, hc3, hc4, hc5⟩ := Vh7; have Vh7 := Lib.hid (DyV.mk hc0 hc1 hc2 hc3 hc4 hc5); have Ml7 : Mag w7 al (nl (dman dl).natAbs) cl (dman dl).natAbs := Mag.below (by repeat (with_reducible first | refine Mag.set ?_ (fun h => by have := Ml6 h; omega) _ _ | refine Mag.drew ?_ | refine Mag.alloc ?_ _ | refine Mag.drewN ?_ _ | refine Mag.below ?_ (Below.drew (Below.refl _ _)) | refine Mag.below ?_ ((Below.refl _ _).alloc (Nat.le_refl _) _) | exact Ml6)) hb7; have Mh7 : Mag w7 ah (nl (dman dh).natAbs) ch (dman dh).natAbs := Mag.below (by repeat (with_reducible first | refine Mag.set ?_ (fun h => by have := Mh6 h; omega) _ _ | refine Mag.drew ?_ | refine Mag.alloc ?_ _ | refine Mag.drewN ?_ _ | refine Mag.below ?_ (Below.drew (Below.refl _ _)) | refine Mag.below ?_ ((Below.refl _ _).alloc (Nat.le_refl _) _) | exact Mh6)) hb7; have M17 : Mag w7 a1 (nl (dman m1).natAbs) c1 (dman m1).natAbs := Mag.below (by repeat (with_reducible first | refine Mag.set ?_ (fun h => by have := M16 h; omega) _ _ | refine Mag.drew ?_ | refine Mag.alloc ?_ _ | refine Mag.drewN ?_ _ | refine Mag.below ?_ (Below.drew (Below.refl _ _)) | refine Mag.below ?_ ((Below.refl _ _).alloc (Nat.le_refl _) _) | exact M16)) hb7; have B7 := below_box (w := w) (by have hszw := (B6).size; repeat (with_reducible first | refine Below.setCell ?_ (by first | omega | (simp <;> omega)) _ | refine Below.alloc ?_ (by first | omega | (simp <;> omega)) _ | refine Below.drew ?_ | refine below_drewN ?_ _ | exact B6)) hb7; clear hb7)
        | (go_at_call 25; have xx := B5; refine (H3 _ al cl (by repeat (with_reducible first | refine Mag.set ?_ (fun h => by have := Ml5 h; omega) _ _ | refine Mag.drew ?_ | refine Mag.alloc ?_ _ | refine Mag.drewN ?_ _ | refine Mag.below ?_ (Below.drew (Below.refl _ _)) | refine Mag.below ?_ ((Below.refl _ _).alloc (Nat.le_refl _) _) | exact Ml5)) (Gb.out.1.below (by have hszw := (B5).size; repeat (with_reducible first | refine Below.setCell ?_ (by first | omega | (simp <;> omega)) _ | refine Below.alloc ?_ (by first | omega | (simp <;> omega)) _ | refine Below.drew ?_ | refine below_drewN ?_ _ | exact B5))) (hT.below (by have hszw := (B5).size; repeat (with_reducible first | refine Below.setCell ?_ (by first | omega | (simp <;> omega)) _ | refine Below.alloc ?_ (by first | omega | (simp <;> omega)) _ | refine Below.drew ?_ | refine below_drewN ?_ _ | exact B5)))).out.mono ?_; rintro e w6 ⟨a1, c1, rfl, M16, hb6, hf6⟩; have Va6 : DyV w6 b0 bda sa (.slice aa na pa) ea := (by refine DyV.below ?_ hb6; (repeat (with_reducible first | refine DyV.drew ?_ | refine DyV.drewN ?_ _ | refine DyV.alloc ?_ _)); exact Va5.out); obtain ⟨ac0, ac1, ac2, ac3, ac4, ac5⟩ := Va6; have Va6 := Lib.hid (DyV.mk ac0 ac1 ac2 ac3 ac4 ac5); have Vb6 : DyV w6 b1 bdb sb (.slice ab nb pb) eb := (by refine DyV.below ?_ hb6; (repeat (with_reducible first | refine DyV.drew ?_ | refine DyV.drewN ?_ _ | refine DyV.alloc ?_ _)); exact Vb5.out); obtain ⟨bc0, bc1, bc2, bc3, bc4, bc5⟩ := Vb6; have Vb6 := Lib.hid (DyV.mk bc0 bc1 bc2 bc3 bc4 bc5); have Vl6 : DyV w6 zl (dbad dl) (decide (dman dl < 0)) (.slice al (nl (dman dl).natAbs) cl) (dexp dl) := (by refine DyV.below ?_ hb6; (repeat (with_reducible first | refine DyV.drew ?_ | refine DyV.drewN ?_ _ | refine DyV.alloc ?_ _)); exact Vl5.out); obtain ⟨lc0, lc1, lc2, lc3, lc4, lc5⟩ := Vl6; have Vl6 := Lib.hid (DyV.mk lc0 lc1 lc2 lc3 lc4 lc5); have Vh6 : DyV w6 zh (dbad dh) (decide (dman dh < 0)) (.slice ah (nl (dman dh).natAbs) ch) (dexp dh) := (by refine DyV.below ?_ hb6; (repeat (with_reducible first | refine DyV.drew ?_ | refine DyV.drewN ?_ _ | refine DyV.alloc ?_ _)); exact Vh5.out); obtain ⟨hc0, hc1, hc2, hc3, hc4, hc5⟩ := Vh6; have Vh6 := Lib.hid (DyV.mk hc0 hc1 hc2 hc3 hc4 hc5); have Ml6 : Mag w6 al (nl (dman dl).natAbs) cl (dman dl).natAbs := Mag.below (by repeat (with_reducible first | refine Mag.set ?_ (fun h => by have := Ml5 h; omega) _ _ | refine Mag.drew ?_ | refine Mag.alloc ?_ _ | refine Mag.drewN ?_ _ | refine Mag.below ?_ (Below.drew (Below.refl _ _)) | refine Mag.below ?_ ((Below.refl _ _).alloc (Nat.le_refl _) _) | exact Ml5)) hb6; have Mh6 : Mag w6 ah (nl (dman dh).natAbs) ch (dman dh).natAbs := Mag.below (by repeat (with_reducible first | refine Mag.set ?_ (fun h => by have := Mh5 h; omega) _ _ | refine Mag.drew ?_ | refine Mag.alloc ?_ _ | refine Mag.drewN ?_ _ | refine Mag.below ?_ (Below.drew (Below.refl _ _)) | refine Mag.below ?_ ((Below.refl _ _).alloc (Nat.le_refl _) _) | exact Mh5)) hb6; have B6 := below_box (w := w) (by have hszw := (B5).size; repeat (with_reducible first | refine Below.setCell ?_ (by first | omega | (simp <;> omega)) _ | refine Below.alloc ?_ (by first | omega | (simp <;> omega)) _ | refine Below.drew ?_ | refine below_drewN ?_ _ | exact B5)) hb6; clear hb6; clear hf6)
        | fail)
  | fail "region"
  go_wp2_with fail
  first
  | go_region_held3 (fun w' => w'.cell? ⟨b0, 0, none⟩ = some (.bool bda) ∧ w'.cell? ⟨b0, 1, none⟩ = some (.bool sa) ∧ w'.cell? ⟨b0, 2, none⟩ = some ((.slice aa na pa)) ∧ w'.cell? ⟨b0, 3, none⟩ = some (.int .i64 ea) ∧ w'.cell? ⟨b1, 0, none⟩ = some (.bool bdb) ∧ w'.cell? ⟨b1, 1, none⟩ = some (.bool sb) ∧ w'.cell? ⟨b1, 2, none⟩ = some ((.slice ab nb pb)) ∧ w'.cell? ⟨b1, 3, none⟩ = some (.int .i64 eb) ∧ w'.cell? ⟨zl, 0, none⟩ = some (.bool (dbad dl)) ∧ w'.cell? ⟨zl, 1, none⟩ = some (.bool (decide (dman dl < 0))) ∧ w'.cell? ⟨zl, 2, none⟩ = some ((.slice al (nl (dman dl).natAbs) cl)) ∧ w'.cell? ⟨zl, 3, none⟩ = some (.int .i64 (dexp dl)) ∧ w'.cell? ⟨zh, 0, none⟩ = some (.bool (dbad dh)) ∧ w'.cell? ⟨zh, 1, none⟩ = some (.bool (decide (dman dh < 0))) ∧ w'.cell? ⟨zh, 2, none⟩ = some ((.slice ah (nl (dman dh).natAbs) ch)) ∧ w'.cell? ⟨zh, 3, none⟩ = some (.int .i64 (dexp dh))) (first | (go_keep; done) | (go_simp; done))
      (first
        | (go_at_call 24; have xx := B8; refine (H6 _ (Ga.out.1.below (by have hszw := (B8).size; repeat (with_reducible first | refine Below.setCell ?_ (by first | omega | (simp <;> omega)) _ | refine Below.alloc ?_ (by first | omega | (simp <;> omega)) _ | refine Below.drew ?_ | refine below_drewN ?_ _ | exact B8))) a2 c2 (by repeat (with_reducible first | refine Mag.set ?_ (fun h => by have := M28 h; omega) _ _ | refine Mag.drew ?_ | refine Mag.alloc ?_ _ | refine Mag.drewN ?_ _ | refine Mag.below ?_ (Below.drew (Below.refl _ _)) | refine Mag.below ?_ ((Below.refl _ _).alloc (Nat.le_refl _) _) | exact M28)) (hT.below (by have hszw := (B8).size; repeat (with_reducible first | refine Below.setCell ?_ (by first | omega | (simp <;> omega)) _ | refine Below.alloc ?_ (by first | omega | (simp <;> omega)) _ | refine Below.drew ?_ | refine below_drewN ?_ _ | exact B8)))).out.mono ?_; rintro e w9 ⟨rfl, hb9⟩; have Va9 : DyV w9 b0 bda sa (.slice aa na pa) ea := (by refine DyV.below ?_ hb9; (repeat (with_reducible first | refine DyV.drew ?_ | refine DyV.drewN ?_ _ | refine DyV.alloc ?_ _)); exact Va8.out); obtain ⟨ac0, ac1, ac2, ac3, ac4, ac5⟩ := Va9; have Va9 := Lib.hid (DyV.mk ac0 ac1 ac2 ac3 ac4 ac5); have Vb9 : DyV w9 b1 bdb sb (.slice ab nb pb) eb := (by refine DyV.below ?_ hb9; (repeat (with_reducible first | refine DyV.drew ?_ | refine DyV.drewN ?_ _ | refine DyV.alloc ?_ _)); exact Vb8.out); obtain ⟨bc0, bc1, bc2, bc3, bc4, bc5⟩ := Vb9; have Vb9 := Lib.hid (DyV.mk bc0 bc1 bc2 bc3 bc4 bc5); have Vl9 : DyV w9 zl (dbad dl) (decide (dman dl < 0)) (.slice al (nl (dman dl).natAbs) cl) (dexp dl) := (by refine DyV.below ?_ hb9; (repeat (with_reducible first | refine DyV.drew ?_ | refine DyV.drewN ?_ _ | refine DyV.alloc ?_ _)); exact Vl8.out); obtain ⟨lc0, lc1, lc2, lc3, lc4, lc5⟩ := Vl9; have Vl9 := Lib.hid (DyV.mk lc0 lc1 lc2 lc3 lc4 lc5); have Vh9 : DyV w9 zh (dbad dh) (decide (dman dh < 0)) (.slice ah (nl (dman dh).natAbs) ch) (dexp dh) := (by refine DyV.below ?_ hb9; (repeat (with_reducible first | refine DyV.drew ?_ | refine DyV.drewN ?_ _ | refine DyV.alloc ?_ _)); exact Vh8.out); obtain ⟨hc0, hc1, hc2, hc3, hc4, hc5⟩ := Vh9; have Vh9 := Lib.hid (DyV.mk hc0 hc1 hc2 hc3 hc4 hc5); have Ml9 : Mag w9 al (nl (dman dl).natAbs) cl (dman dl).natAbs := Mag.below (by repeat (with_reducible first | refine Mag.set ?_ (fun h => by have := Ml8 h; omega) _ _ | refine Mag.drew ?_ | refine Mag.alloc ?_ _ | refine Mag.drewN ?_ _ | refine Mag.below ?_ (Below.drew (Below.refl _ _)) | refine Mag.below ?_ ((Below.refl _ _).alloc (Nat.le_refl _) _) | exact Ml8)) hb9; have Mh9 : Mag w9 ah (nl (dman dh).natAbs) ch (dman dh).natAbs := Mag.below (by repeat (with_reducible first | refine Mag.set ?_ (fun h => by have := Mh8 h; omega) _ _ | refine Mag.drew ?_ | refine Mag.alloc ?_ _ | refine Mag.drewN ?_ _ | refine Mag.below ?_ (Below.drew (Below.refl _ _)) | refine Mag.below ?_ ((Below.refl _ _).alloc (Nat.le_refl _) _) | exact Mh8)) hb9; have M29 : Mag w9 a2 (nl (dman m2).natAbs) c2 (dman m2).natAbs := Mag.below (by repeat (with_reducible first | refine Mag.set ?_ (fun h => by have := M28 h; omega) _ _ | refine Mag.drew ?_ | refine Mag.alloc ?_ _ | refine Mag.drewN ?_ _ | refine Mag.below ?_ (Below.drew (Below.refl _ _)) | refine Mag.below ?_ ((Below.refl _ _).alloc (Nat.le_refl _) _) | exact M28)) hb9; have B9 := below_box (w := w) (by have hszw := (B8).size; repeat (with_reducible first | refine Below.setCell ?_ (by first | omega | (simp <;> omega)) _ | refine Below.alloc ?_ (by first | omega | (simp <;> omega)) _ | refine Below.drew ?_ | refine below_drewN ?_ _ | exact B8)) hb9; clear hb9)
        | (go_at_call 25; have xx := B7; refine (H5 _ ah ch (by repeat (with_reducible first | refine Mag.set ?_ (fun h => by have := Mh7 h; omega) _ _ | refine Mag.drew ?_ | refine Mag.alloc ?_ _ | refine Mag.drewN ?_ _ | refine Mag.below ?_ (Below.drew (Below.refl _ _)) | refine Mag.below ?_ ((Below.refl _ _).alloc (Nat.le_refl _) _) | exact Mh7)) (Gb.out.1.below (by have hszw := (B7).size; repeat (with_reducible first | refine Below.setCell ?_ (by first | omega | (simp <;> omega)) _ | refine Below.alloc ?_ (by first | omega | (simp <;> omega)) _ | refine Below.drew ?_ | refine below_drewN ?_ _ | exact B7))) (hT.below (by have hszw := (B7).size; repeat (with_reducible first | refine Below.setCell ?_ (by first | omega | (simp <;> omega)) _ | refine Below.alloc ?_ (by first | omega | (simp <;> omega)) _ | refine Below.drew ?_ | refine below_drewN ?_ _ | exact B7)))).out.mono ?_; rintro e w8 ⟨a2, c2, rfl, M28, hb8, hf8⟩; have Va8 : DyV w8 b0 bda sa (.slice aa na pa) ea := (by refine DyV.below ?_ hb8; (repeat (with_reducible first | refine DyV.drew ?_ | refine DyV.drewN ?_ _ | refine DyV.alloc ?_ _)); exact Va7.out); obtain ⟨ac0, ac1, ac2, ac3, ac4, ac5⟩ := Va8; have Va8 := Lib.hid (DyV.mk ac0 ac1 ac2 ac3 ac4 ac5); have Vb8 : DyV w8 b1 bdb sb (.slice ab nb pb) eb := (by refine DyV.below ?_ hb8; (repeat (with_reducible first | refine DyV.drew ?_ | refine DyV.drewN ?_ _ | refine DyV.alloc ?_ _)); exact Vb7.out); obtain ⟨bc0, bc1, bc2, bc3, bc4, bc5⟩ := Vb8; have Vb8 := Lib.hid (DyV.mk bc0 bc1 bc2 bc3 bc4 bc5); have Vl8 : DyV w8 zl (dbad dl) (decide (dman dl < 0)) (.slice al (nl (dman dl).natAbs) cl) (dexp dl) := (by refine DyV.below ?_ hb8; (repeat (with_reducible first | refine DyV.drew ?_ | refine DyV.drewN ?_ _ | refine DyV.alloc ?_ _)); exact Vl7.out); obtain ⟨lc0, lc1, lc2, lc3, lc4, lc5⟩ := Vl8; have Vl8 := Lib.hid (DyV.mk lc0 lc1 lc2 lc3 lc4 lc5); have Vh8 : DyV w8 zh (dbad dh) (decide (dman dh < 0)) (.slice ah (nl (dman dh).natAbs) ch) (dexp dh) := (by refine DyV.below ?_ hb8; (repeat (with_reducible first | refine DyV.drew ?_ | refine DyV.drewN ?_ _ | refine DyV.alloc ?_ _)); exact Vh7.out); obtain ⟨hc0, hc1, hc2, hc3, hc4, hc5⟩ := Vh8; have Vh8 := Lib.hid (DyV.mk hc0 hc1 hc2 hc3 hc4 hc5); have Ml8 : Mag w8 al (nl (dman dl).natAbs) cl (dman dl).natAbs := Mag.below (by repeat (with_reducible first | refine Mag.set ?_ (fun h => by have := Ml7 h; omega) _ _ | refine Mag.drew ?_ | refine Mag.alloc ?_ _ | refine Mag.drewN ?_ _ | refine Mag.below ?_ (Below.drew (Below.refl _ _)) | refine Mag.below ?_ ((Below.refl _ _).alloc (Nat.le_refl _) _) | exact Ml7)) hb8; have Mh8 : Mag w8 ah (nl (dman dh).natAbs) ch (dman dh).natAbs := Mag.below (by repeat (with_reducible first | refine Mag.set ?_ (fun h => by have := Mh7 h; omega) _ _ | refine Mag.drew ?_ | refine Mag.alloc ?_ _ | refine Mag.drewN ?_ _ | refine Mag.below ?_ (Below.drew (Below.refl _ _)) | refine Mag.below ?_ ((Below.refl _ _).alloc (Nat.le_refl _) _) | exact Mh7)) hb8; have B8 := below_box (w := w) (by have hszw := (B7).size; repeat (with_reducible first | refine Below.setCell ?_ (by first | omega | (simp <;> omega)) _ | refine Below.alloc ?_ (by first | omega | (simp <;> omega)) _ | refine Below.drew ?_ | refine below_drewN ?_ _ | exact B7)) hb8; clear hb8; clear hf8)
        | fail)
  | fail "region"
  go_wp2_with fail
  refine (HBl _ al cl (by repeat (with_reducible first | refine Mag.set ?_ (fun h => by have := Ml9 h; omega) _ _ | refine Mag.drew ?_ | refine Mag.alloc ?_ _ | refine Mag.drewN ?_ _ | refine Mag.below ?_ (Below.drew (Below.refl _ _)) | refine Mag.below ?_ ((Below.refl _ _).alloc (Nat.le_refl _) _) | exact Ml9))).out.mono ?_
  rintro e w10 ⟨rfl, hb10⟩
  have Va10 : DyV w10 b0 bda sa (.slice aa na pa) ea := (by refine DyV.below ?_ hb10; (repeat (with_reducible first | refine DyV.drew ?_ | refine DyV.drewN ?_ _ | refine DyV.alloc ?_ _)); exact Va9.out)
  obtain ⟨ac0, ac1, ac2, ac3, ac4, ac5⟩ := Va10
  have Va10 := Lib.hid (DyV.mk ac0 ac1 ac2 ac3 ac4 ac5)
  have Vb10 : DyV w10 b1 bdb sb (.slice ab nb pb) eb := (by refine DyV.below ?_ hb10; (repeat (with_reducible first | refine DyV.drew ?_ | refine DyV.drewN ?_ _ | refine DyV.alloc ?_ _)); exact Vb9.out)
  obtain ⟨bc0, bc1, bc2, bc3, bc4, bc5⟩ := Vb10
  have Vb10 := Lib.hid (DyV.mk bc0 bc1 bc2 bc3 bc4 bc5)
  have Vl10 : DyV w10 zl (dbad dl) (decide (dman dl < 0)) (.slice al (nl (dman dl).natAbs) cl) (dexp dl) := (by refine DyV.below ?_ hb10; (repeat (with_reducible first | refine DyV.drew ?_ | refine DyV.drewN ?_ _ | refine DyV.alloc ?_ _)); exact Vl9.out)
  obtain ⟨lc0, lc1, lc2, lc3, lc4, lc5⟩ := Vl10
  have Vl10 := Lib.hid (DyV.mk lc0 lc1 lc2 lc3 lc4 lc5)
  have Vh10 : DyV w10 zh (dbad dh) (decide (dman dh < 0)) (.slice ah (nl (dman dh).natAbs) ch) (dexp dh) := (by refine DyV.below ?_ hb10; (repeat (with_reducible first | refine DyV.drew ?_ | refine DyV.drewN ?_ _ | refine DyV.alloc ?_ _)); exact Vh9.out)
  obtain ⟨hc0, hc1, hc2, hc3, hc4, hc5⟩ := Vh10
  have Vh10 := Lib.hid (DyV.mk hc0 hc1 hc2 hc3 hc4 hc5)
  have Ml10 : Mag w10 al (nl (dman dl).natAbs) cl (dman dl).natAbs := Mag.below (by repeat (with_reducible first | refine Mag.set ?_ (fun h => by have := Ml9 h; omega) _ _ | refine Mag.drew ?_ | refine Mag.alloc ?_ _ | refine Mag.drewN ?_ _ | refine Mag.below ?_ (Below.drew (Below.refl _ _)) | refine Mag.below ?_ ((Below.refl _ _).alloc (Nat.le_refl _) _) | exact Ml9)) hb10
  have Mh10 : Mag w10 ah (nl (dman dh).natAbs) ch (dman dh).natAbs := Mag.below (by repeat (with_reducible first | refine Mag.set ?_ (fun h => by have := Mh9 h; omega) _ _ | refine Mag.drew ?_ | refine Mag.alloc ?_ _ | refine Mag.drewN ?_ _ | refine Mag.below ?_ (Below.drew (Below.refl _ _)) | refine Mag.below ?_ ((Below.refl _ _).alloc (Nat.le_refl _) _) | exact Mh9)) hb10
  have B10 := below_box (w := w) (by have hszw := (B9).size; repeat (with_reducible first | refine Below.setCell ?_ (by first | omega | (simp <;> omega)) _ | refine Below.alloc ?_ (by first | omega | (simp <;> omega)) _ | refine Below.drew ?_ | refine below_drewN ?_ _ | exact B9)) hb10
  clear hb10
  go_wp2_with fail
  refine (HBh _ ah ch (by repeat (with_reducible first | refine Mag.set ?_ (fun h => by have := Mh10 h; omega) _ _ | refine Mag.drew ?_ | refine Mag.alloc ?_ _ | refine Mag.drewN ?_ _ | refine Mag.below ?_ (Below.drew (Below.refl _ _)) | refine Mag.below ?_ ((Below.refl _ _).alloc (Nat.le_refl _) _) | exact Mh10))).out.mono ?_
  rintro e w11 ⟨rfl, hb11⟩
  have Va11 : DyV w11 b0 bda sa (.slice aa na pa) ea := (by refine DyV.below ?_ hb11; (repeat (with_reducible first | refine DyV.drew ?_ | refine DyV.drewN ?_ _ | refine DyV.alloc ?_ _)); exact Va10.out)
  obtain ⟨ac0, ac1, ac2, ac3, ac4, ac5⟩ := Va11
  have Va11 := Lib.hid (DyV.mk ac0 ac1 ac2 ac3 ac4 ac5)
  have Vb11 : DyV w11 b1 bdb sb (.slice ab nb pb) eb := (by refine DyV.below ?_ hb11; (repeat (with_reducible first | refine DyV.drew ?_ | refine DyV.drewN ?_ _ | refine DyV.alloc ?_ _)); exact Vb10.out)
  obtain ⟨bc0, bc1, bc2, bc3, bc4, bc5⟩ := Vb11
  have Vb11 := Lib.hid (DyV.mk bc0 bc1 bc2 bc3 bc4 bc5)
  have Vl11 : DyV w11 zl (dbad dl) (decide (dman dl < 0)) (.slice al (nl (dman dl).natAbs) cl) (dexp dl) := (by refine DyV.below ?_ hb11; (repeat (with_reducible first | refine DyV.drew ?_ | refine DyV.drewN ?_ _ | refine DyV.alloc ?_ _)); exact Vl10.out)
  obtain ⟨lc0, lc1, lc2, lc3, lc4, lc5⟩ := Vl11
  have Vl11 := Lib.hid (DyV.mk lc0 lc1 lc2 lc3 lc4 lc5)
  have Vh11 : DyV w11 zh (dbad dh) (decide (dman dh < 0)) (.slice ah (nl (dman dh).natAbs) ch) (dexp dh) := (by refine DyV.below ?_ hb11; (repeat (with_reducible first | refine DyV.drew ?_ | refine DyV.drewN ?_ _ | refine DyV.alloc ?_ _)); exact Vh10.out)
  obtain ⟨hc0, hc1, hc2, hc3, hc4, hc5⟩ := Vh11
  have Vh11 := Lib.hid (DyV.mk hc0 hc1 hc2 hc3 hc4 hc5)
  have Ml11 : Mag w11 al (nl (dman dl).natAbs) cl (dman dl).natAbs := Mag.below (by repeat (with_reducible first | refine Mag.set ?_ (fun h => by have := Ml10 h; omega) _ _ | refine Mag.drew ?_ | refine Mag.alloc ?_ _ | refine Mag.drewN ?_ _ | refine Mag.below ?_ (Below.drew (Below.refl _ _)) | refine Mag.below ?_ ((Below.refl _ _).alloc (Nat.le_refl _) _) | exact Ml10)) hb11
  have Mh11 : Mag w11 ah (nl (dman dh).natAbs) ch (dman dh).natAbs := Mag.below (by repeat (with_reducible first | refine Mag.set ?_ (fun h => by have := Mh10 h; omega) _ _ | refine Mag.drew ?_ | refine Mag.alloc ?_ _ | refine Mag.drewN ?_ _ | refine Mag.below ?_ (Below.drew (Below.refl _ _)) | refine Mag.below ?_ ((Below.refl _ _).alloc (Nat.le_refl _) _) | exact Mh10)) hb11
  have B11 := below_box (w := w) (by have hszw := (B10).size; repeat (with_reducible first | refine Below.setCell ?_ (by first | omega | (simp <;> omega)) _ | refine Below.alloc ?_ (by first | omega | (simp <;> omega)) _ | refine Below.drew ?_ | refine below_drewN ?_ _ | exact B10)) hb11
  clear hb11
  go_wp2_with fail
  refine (H7 _ al cl (by repeat (with_reducible first | refine Mag.set ?_ (fun h => by have := Ml11 h; omega) _ _ | refine Mag.drew ?_ | refine Mag.alloc ?_ _ | refine Mag.drewN ?_ _ | refine Mag.below ?_ (Below.drew (Below.refl _ _)) | refine Mag.below ?_ ((Below.refl _ _).alloc (Nat.le_refl _) _) | exact Ml11)) ah ch (by repeat (with_reducible first | refine Mag.set ?_ (fun h => by have := Mh11 h; omega) _ _ | refine Mag.drew ?_ | refine Mag.alloc ?_ _ | refine Mag.drewN ?_ _ | refine Mag.below ?_ (Below.drew (Below.refl _ _)) | refine Mag.below ?_ ((Below.refl _ _).alloc (Nat.le_refl _) _) | exact Mh11)) (hT.below (by have hszw := (B11).size; repeat (with_reducible first | refine Below.setCell ?_ (by first | omega | (simp <;> omega)) _ | refine Below.alloc ?_ (by first | omega | (simp <;> omega)) _ | refine Below.drew ?_ | refine below_drewN ?_ _ | exact B11)))).out.mono ?_
  rintro e w12 ⟨rfl, hb12⟩
  have Va12 : DyV w12 b0 bda sa (.slice aa na pa) ea := (by refine DyV.below ?_ hb12; (repeat (with_reducible first | refine DyV.drew ?_ | refine DyV.drewN ?_ _ | refine DyV.alloc ?_ _)); exact Va11.out)
  obtain ⟨ac0, ac1, ac2, ac3, ac4, ac5⟩ := Va12
  have Va12 := Lib.hid (DyV.mk ac0 ac1 ac2 ac3 ac4 ac5)
  have Vb12 : DyV w12 b1 bdb sb (.slice ab nb pb) eb := (by refine DyV.below ?_ hb12; (repeat (with_reducible first | refine DyV.drew ?_ | refine DyV.drewN ?_ _ | refine DyV.alloc ?_ _)); exact Vb11.out)
  obtain ⟨bc0, bc1, bc2, bc3, bc4, bc5⟩ := Vb12
  have Vb12 := Lib.hid (DyV.mk bc0 bc1 bc2 bc3 bc4 bc5)
  have Vl12 : DyV w12 zl (dbad dl) (decide (dman dl < 0)) (.slice al (nl (dman dl).natAbs) cl) (dexp dl) := (by refine DyV.below ?_ hb12; (repeat (with_reducible first | refine DyV.drew ?_ | refine DyV.drewN ?_ _ | refine DyV.alloc ?_ _)); exact Vl11.out)
  obtain ⟨lc0, lc1, lc2, lc3, lc4, lc5⟩ := Vl12
  have Vl12 := Lib.hid (DyV.mk lc0 lc1 lc2 lc3 lc4 lc5)
  have Vh12 : DyV w12 zh (dbad dh) (decide (dman dh < 0)) (.slice ah (nl (dman dh).natAbs) ch) (dexp dh) := (by refine DyV.below ?_ hb12; (repeat (with_reducible first | refine DyV.drew ?_ | refine DyV.drewN ?_ _ | refine DyV.alloc ?_ _)); exact Vh11.out)
  obtain ⟨hc0, hc1, hc2, hc3, hc4, hc5⟩ := Vh12
  have Vh12 := Lib.hid (DyV.mk hc0 hc1 hc2 hc3 hc4 hc5)
  have Ml12 : Mag w12 al (nl (dman dl).natAbs) cl (dman dl).natAbs := Mag.below (by repeat (with_reducible first | refine Mag.set ?_ (fun h => by have := Ml11 h; omega) _ _ | refine Mag.drew ?_ | refine Mag.alloc ?_ _ | refine Mag.drewN ?_ _ | refine Mag.below ?_ (Below.drew (Below.refl _ _)) | refine Mag.below ?_ ((Below.refl _ _).alloc (Nat.le_refl _) _) | exact Ml11)) hb12
  have Mh12 : Mag w12 ah (nl (dman dh).natAbs) ch (dman dh).natAbs := Mag.below (by repeat (with_reducible first | refine Mag.set ?_ (fun h => by have := Mh11 h; omega) _ _ | refine Mag.drew ?_ | refine Mag.alloc ?_ _ | refine Mag.drewN ?_ _ | refine Mag.below ?_ (Below.drew (Below.refl _ _)) | refine Mag.below ?_ ((Below.refl _ _).alloc (Nat.le_refl _) _) | exact Mh11)) hb12
  have B12 := below_box (w := w) (by have hszw := (B11).size; repeat (with_reducible first | refine Below.setCell ?_ (by first | omega | (simp <;> omega)) _ | refine Below.alloc ?_ (by first | omega | (simp <;> omega)) _ | refine Below.drew ?_ | refine below_drewN ?_ _ | exact B11)) hb12
  clear hb12
  go_wp2_with fail
  refine (HW _ (hT.below (by have hszw := (B12).size; repeat (with_reducible first | refine Below.setCell ?_ (by first | omega | (simp <;> omega)) _ | refine Below.alloc ?_ (by first | omega | (simp <;> omega)) _ | refine Below.drew ?_ | refine below_drewN ?_ _ | exact B12)))).out.mono ?_
  rintro e w13 ⟨rfl, hb13⟩
  have Va13 : DyV w13 b0 bda sa (.slice aa na pa) ea := (by refine DyV.below ?_ hb13; (repeat (with_reducible first | refine DyV.drew ?_ | refine DyV.drewN ?_ _ | refine DyV.alloc ?_ _)); exact Va12.out)
  obtain ⟨ac0, ac1, ac2, ac3, ac4, ac5⟩ := Va13
  have Va13 := Lib.hid (DyV.mk ac0 ac1 ac2 ac3 ac4 ac5)
  have Vb13 : DyV w13 b1 bdb sb (.slice ab nb pb) eb := (by refine DyV.below ?_ hb13; (repeat (with_reducible first | refine DyV.drew ?_ | refine DyV.drewN ?_ _ | refine DyV.alloc ?_ _)); exact Vb12.out)
  obtain ⟨bc0, bc1, bc2, bc3, bc4, bc5⟩ := Vb13
  have Vb13 := Lib.hid (DyV.mk bc0 bc1 bc2 bc3 bc4 bc5)
  have Vl13 : DyV w13 zl (dbad dl) (decide (dman dl < 0)) (.slice al (nl (dman dl).natAbs) cl) (dexp dl) := (by refine DyV.below ?_ hb13; (repeat (with_reducible first | refine DyV.drew ?_ | refine DyV.drewN ?_ _ | refine DyV.alloc ?_ _)); exact Vl12.out)
  obtain ⟨lc0, lc1, lc2, lc3, lc4, lc5⟩ := Vl13
  have Vl13 := Lib.hid (DyV.mk lc0 lc1 lc2 lc3 lc4 lc5)
  have Vh13 : DyV w13 zh (dbad dh) (decide (dman dh < 0)) (.slice ah (nl (dman dh).natAbs) ch) (dexp dh) := (by refine DyV.below ?_ hb13; (repeat (with_reducible first | refine DyV.drew ?_ | refine DyV.drewN ?_ _ | refine DyV.alloc ?_ _)); exact Vh12.out)
  obtain ⟨hc0, hc1, hc2, hc3, hc4, hc5⟩ := Vh13
  have Vh13 := Lib.hid (DyV.mk hc0 hc1 hc2 hc3 hc4 hc5)
  have Ml13 : Mag w13 al (nl (dman dl).natAbs) cl (dman dl).natAbs := Mag.below (by repeat (with_reducible first | refine Mag.set ?_ (fun h => by have := Ml12 h; omega) _ _ | refine Mag.drew ?_ | refine Mag.alloc ?_ _ | refine Mag.drewN ?_ _ | refine Mag.below ?_ (Below.drew (Below.refl _ _)) | refine Mag.below ?_ ((Below.refl _ _).alloc (Nat.le_refl _) _) | exact Ml12)) hb13
  have Mh13 : Mag w13 ah (nl (dman dh).natAbs) ch (dman dh).natAbs := Mag.below (by repeat (with_reducible first | refine Mag.set ?_ (fun h => by have := Mh12 h; omega) _ _ | refine Mag.drew ?_ | refine Mag.alloc ?_ _ | refine Mag.drewN ?_ _ | refine Mag.below ?_ (Below.drew (Below.refl _ _)) | refine Mag.below ?_ ((Below.refl _ _).alloc (Nat.le_refl _) _) | exact Mh12)) hb13
  have B13 := below_box (w := w) (by have hszw := (B12).size; repeat (with_reducible first | refine Below.setCell ?_ (by first | omega | (simp <;> omega)) _ | refine Below.alloc ?_ (by first | omega | (simp <;> omega)) _ | refine Below.drew ?_ | refine below_drewN ?_ _ | exact B12)) hb13
  clear hb13
  go_wp2_with fail
  go_ret
  exact ⟨rfl, (by have hszw := (B13).size; repeat (with_reducible first | refine Below.setCell ?_ (by first | omega | (simp <;> omega)) _ | refine Below.alloc ?_ (by first | omega | (simp <;> omega)) _ | refine Below.drew ?_ | refine below_drewN ?_ _ | exact B13))⟩

theorem slim_ni {n : Nat} {e : Int} (h : slimB n e = true) : n ≤ 20 := by
  simp only [slimB, Bool.and_eq_true, decide_eq_true_eq] at h; exact h.1
theorem dyis_of {w : World} {bd s : Bool} {a : Option Addr} {n p x : Nat} {e : Int} (hm : Mag w a n p x) (hs : slimB n e = true) (h0 : -9223372036854775808 ≤ e) (h1 : e ≤ 9223372036854775807) : DyIs w bd s a n p e (nrmB bd (sgn s x) e) := by
  have hn := slim_ni hs
  have hb := slim_pow x n hm.lt
  exact ⟨⟨x, hm, by omega, by omega, h0, h1, rfl⟩, by omega⟩

theorem isN_fix (s : Bool) (x : Nat) (E : Int) (more : Bool) (p mode : Int) : IsN (dfix s x E more p mode) := isN_nrm _ _
theorem isN_quo (a b : Option (Int × Int)) (p mode : Int) : IsN (dquo a b p mode) := by
  unfold dquo
  split
  · split
    · exact isN_none
    · split
      · exact isN_none
      · split
        · exact isN_some (Or.inl ⟨rfl, rfl⟩)
        · exact isN_fix _ _ _ _ _ _
  · exact isN_none

theorem qlaw_any (w : World) (hT : Tab w) (bda sa : Bool) (aa : Option Addr) (na pa xa : Nat) (ea : Int) (bdb sb : Bool) (ab : Option Addr) (nb pb xb : Nat) (eb : Int) (q : Int)
    (Ma : Mag w aa na pa xa) (Mb : Mag w ab nb pb xb) (ua : -9223372036854775808 ≤ ea ∧ ea ≤ 9223372036854775807) (ub : -9223372036854775808 ≤ eb ∧ eb ≤ 9223372036854775807) (_uq : -9223372036854775808 ≤ q ∧ q ≤ 9223372036854775807) :
    Calls Tryd.prog 5 #[.agg #[.bool bda, .bool sa, .slice aa na pa, .int .i64 ea], .agg #[.bool bdb, .bool sb, .slice ab nb pb, .int .i64 eb], .int .i64 q] w fun o w' => o = .returned (.bool true) ∧ Below w.heap.size w w' := by
  have ma := Nat.le_trans Ma.fits Ma.lim
  have mb := Nat.le_trans Mb.fits Mb.lim
  cases hsa : slimB na ea with
  | false => exact qlaw_na w hT _ _ _ _ _ _ _ _ _ _ _ _ _ ma mb hsa
  | true =>
    cases hsb : slimB nb eb with
    | false => exact qlaw_nb w hT _ _ _ _ _ _ _ _ _ _ _ _ _ ma mb hsa hsb
    | true =>
      have Ha := dyis_of (bd := bda) (s := sa) Ma hsa ua.1 ua.2
      have Hb := dyis_of (bd := bdb) (s := sb) Mb hsb ub.1 ub.2
      cases va : nrmB bda (sgn sa xa) ea with
      | none =>
        rw [va] at Ha
        exact qlaw_va w hT _ _ _ _ _ _ _ Ha _ _ _ _ _ _ _ ma mb hsa hsb rfl
      | some p =>
        obtain ⟨m, e⟩ := p
        rw [va] at Ha
        have Sa := slim_nrm hsa Ma.lt va
        by_cases hg : sg (dman (nrmB bdb (sgn sb xb) eb)) ≤ 0
        · exact qlaw_sb w hT _ _ _ _ _ _ _ Ha _ _ _ _ _ _ _ Hb _ ma mb hsa hsb rfl _ rfl hg
        · cases vb : nrmB bdb (sgn sb xb) eb with
          | none => rw [vb] at hg; exact absurd (by decide) hg
          | some r =>
            obtain ⟨n, f⟩ := r
            rw [vb] at Hb hg
            have Sb := slim_nrm hsb Mb.lt vb
            have hn0 : 0 < n := by
              have h1 : ¬ sg n ≤ 0 := hg
              unfold sg cmpI at h1
              rcases Int.lt_trichotomy n 0 with h | h | h
              · rw [if_pos h] at h1; exact absurd (by decide) h1
              · rw [if_neg (by omega), if_neg (by omega)] at h1; exact absurd (by decide) h1
              · exact h
            obtain ⟨k, hk⟩ : ∃ k : Nat, placeI q 80 = k := Int.eq_ofNat_of_zero_le (by unfold placeI; exact Int.emod_nonneg _ (by omega))
            have hk1 : k < 80 := by
              have := Int.emod_lt_of_pos (q % 18446744073709551616) (show (0 : Int) < 80 by omega)
              have h2 : placeI q 80 < 80 := this
              omega
            obtain ⟨l, kk, h, j, h1, h2, h3, h4, h5, h6, h7, h8, h9, h10⟩ := quo_law m e n f (k + 1) Sa Sb hn0 (by omega) (by omega)
            have hr : ((k + 1 : Nat) : Int) = 1 + placeI q 80 := by rw [hk]; omega
            have eb1 : (!dbad (dmul (some (l, kk)) (some (n, f))) && !dbad (some (m, e))) = true := by
              cases hd : dmul (some (l, kk)) (some (n, f)) with
              | none => exact absurd hd h9
              | some _ => rfl
            have eb2 : (!dbad (some (m, e)) && !dbad (dmul (some (h, j)) (some (n, f)))) = true := by
              cases hd : dmul (some (h, j)) (some (n, f)) with
              | none => exact absurd hd h10
              | some _ => rfl
            refine qlaw_main w hT _ _ _ _ _ _ _ Ha _ _ _ _ _ _ _ Hb _ ma mb hsa hsb rfl _ rfl (by omega) ((k + 1 : Nat) : Int) hr (by omega) (by omega) (some (l, kk)) (some (h, j)) _ _ _ _ (decide ((some (l, kk) : Option (Int × Int)) = some (h, j))) h1 h2 rfl rfl eb1 rfl rfl eb2 rfl h5 h6 ?_ ?_ ?_ ?_ ?_ ?_
            · exact Int.ofNat_le.2 h3
            · exact Int.ofNat_le.2 h4
            · rw [Bool.eq_iff_iff, beq_iff_eq, decide_eq_true_eq, ← h7]; simp
            · rw [Bool.eq_iff_iff, beq_iff_eq, decide_eq_true_eq, ← h8, ← h7]; simp
            · rw [← h1]; exact isN_quo _ _ _ _
            · rw [← h2]; exact isN_quo _ _ _ _

end Go.Proofs.YtjhngehajahbnaaDoor

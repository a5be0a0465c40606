/-
  Walks: the law DyadRing.
-/
import Derived.Test.YtjhngehajahbnaaDoorSl
import Derived.Test.YtjhngehajahbnaaDoorAw
import Derived.Test.YtjhngehajahbnaaDoorRingLaw
namespace Go.Proofs.YtjhngehajahbnaaDoor
open Go.RowKit Sp

set_option maxRecDepth 100000 in
set_option maxHeartbeats 2000000 in
theorem ring_na (w : World) (hT : Tab w) (bda sa : Bool) (aa : Option Addr) (na pa : Nat) (ea : Int) (bdb sb : Bool) (ab : Option Addr) (nb pb : Nat) (eb : Int) (bdc sc : Bool) (ac : Option Addr) (nc pc : Nat) (ec : Int) (ma : na ≤ 9223372036854775807) (_mb : nb ≤ 9223372036854775807) (_mc : nc ≤ 9223372036854775807) (hsa : slimB na ea = false) :
    Calls Tryd.prog 7 #[.agg #[.bool bda, .bool sa, .slice aa na pa, .int .i64 ea], .agg #[.bool bdb, .bool sb, .slice ab nb pb, .int .i64 eb], .agg #[.bool bdc, .bool sc, .slice ac nc pc, .int .i64 ec]] w fun o w' => o = .returned (.bool true) ∧ Below w.heap.size w w' := by
  have HSa := fun W => Lib.hid (slim_any W bda sa aa na pa ea ma false hsa)
  have HW := fun W ht => Lib.hid (awake_any W ht)
  have e1 : ¬ w.heap.size + 1 = w.heap.size := by omega
  have e2 : ¬ w.heap.size + 1 + 1 = w.heap.size := by omega
  have e3 : ¬ w.heap.size + 1 + 1 = w.heap.size + 1 := by omega
  go_enter Tryd.func7, Tryd.ntmps7
  go_wp2_with fail
  have I0 := ((DyV.made w 27 bda sa (.slice aa na pa) ea).alloc (.cells #[.bool bdb, .bool sb, .slice ab nb pb, .int .i64 eb] 27)).alloc (.cells #[.bool bdc, .bool sc, .slice ac nc pc, .int .i64 ec] 27)
  have I1 := (DyV.made' (w.alloc (.cells #[.bool bda, .bool sa, .slice aa na pa, .int .i64 ea] 27)) 27 bdb sb (.slice ab nb pb) eb (n := w.heap.size + 1) (by rw [World.size_alloc])).alloc (.cells #[.bool bdc, .bool sc, .slice ac nc pc, .int .i64 ec] 27)
  have I2 := DyV.made' ((w.alloc (.cells #[.bool bda, .bool sa, .slice aa na pa, .int .i64 ea] 27)).alloc (.cells #[.bool bdb, .bool sb, .slice ab nb pb, .int .i64 eb] 27)) 27 bdc sc (.slice ac nc pc) ec (n := w.heap.size + 1 + 1) (by rw [World.size_alloc, World.size_alloc])
  have B0 : Below w.heap.size w (((w.alloc (.cells #[.bool bda, .bool sa, .slice aa na pa, .int .i64 ea] 27)).alloc (.cells #[.bool bdb, .bool sb, .slice ab nb pb, .int .i64 eb] 27)).alloc (.cells #[.bool bdc, .bool sc, .slice ac nc pc, .int .i64 ec] 27)) := (by repeat (with_reducible first | refine Below.setCell ?_ (by simp <;> omega) _ | refine Below.alloc ?_ (by simp <;> omega) _ | refine Below.drew ?_ | refine below_drewN ?_ _ | exact Below.refl _ _))
  generalize (((w.alloc (.cells #[.bool bda, .bool sa, .slice aa na pa, .int .i64 ea] 27)).alloc (.cells #[.bool bdb, .bool sb, .slice ab nb pb, .int .i64 eb] 27)).alloc (.cells #[.bool bdc, .bool sc, .slice ac nc pc, .int .i64 ec] 27)) = w0 at I0 I1 I2 B0 ⊢
  generalize w.heap.size + 1 + 1 = b2 at I2 ⊢
  generalize w.heap.size + 1 = b1 at I1 ⊢
  generalize hb0 : w.heap.size = b0 at I0 ⊢
  obtain ⟨ac0, ac1, ac2, ac3, ac4, ac5⟩ := I0
  have Va0 := Lib.hid (DyV.mk ac0 ac1 ac2 ac3 ac4 ac5)
  obtain ⟨bc0, bc1, bc2, bc3, bc4, bc5⟩ := I1
  have Vb0 := Lib.hid (DyV.mk bc0 bc1 bc2 bc3 bc4 bc5)
  obtain ⟨cc0, cc1, cc2, cc3, cc4, cc5⟩ := I2
  have Vc0 := Lib.hid (DyV.mk cc0 cc1 cc2 cc3 cc4 cc5)
  refine (HSa _).out.mono ?_
  rintro e w1 ⟨rfl, hb1⟩
  have Va1 : DyV w1 b0 bda sa (.slice aa na pa) ea := (by refine DyV.below ?_ hb1; (repeat (with_reducible first | refine DyV.drew ?_ | refine DyV.drewN ?_ _ | refine DyV.alloc ?_ _)); exact Va0.out)
  obtain ⟨ac0, ac1, ac2, ac3, ac4, ac5⟩ := Va1
  have Va1 := Lib.hid (DyV.mk ac0 ac1 ac2 ac3 ac4 ac5)
  have Vb1 : DyV w1 b1 bdb sb (.slice ab nb pb) eb := (by refine DyV.below ?_ hb1; (repeat (with_reducible first | refine DyV.drew ?_ | refine DyV.drewN ?_ _ | refine DyV.alloc ?_ _)); exact Vb0.out)
  obtain ⟨bc0, bc1, bc2, bc3, bc4, bc5⟩ := Vb1
  have Vb1 := Lib.hid (DyV.mk bc0 bc1 bc2 bc3 bc4 bc5)
  have Vc1 : DyV w1 b2 bdc sc (.slice ac nc pc) ec := (by refine DyV.below ?_ hb1; (repeat (with_reducible first | refine DyV.drew ?_ | refine DyV.drewN ?_ _ | refine DyV.alloc ?_ _)); exact Vc0.out)
  obtain ⟨cc0, cc1, cc2, cc3, cc4, cc5⟩ := Vc1
  have Vc1 := Lib.hid (DyV.mk cc0 cc1 cc2 cc3 cc4 cc5)
  have B1 := below_box (w := w) (by have hszw := (B0).size; repeat (with_reducible first | refine Below.setCell ?_ (by first | omega | (simp <;> omega)) _ | refine Below.alloc ?_ (by first | omega | (simp <;> omega)) _ | refine Below.drew ?_ | refine below_drewN ?_ _ | exact B0)) hb1
  clear hb1
  go_wp2_with fail
  refine (HW _ (hT.below (by have hszw := (B1).size; repeat (with_reducible first | refine Below.setCell ?_ (by first | omega | (simp <;> omega)) _ | refine Below.alloc ?_ (by first | omega | (simp <;> omega)) _ | refine Below.drew ?_ | refine below_drewN ?_ _ | exact B1)))).out.mono ?_
  rintro e w2 ⟨rfl, hb2⟩
  have Va2 : DyV w2 b0 bda sa (.slice aa na pa) ea := (by refine DyV.below ?_ hb2; (repeat (with_reducible first | refine DyV.drew ?_ | refine DyV.drewN ?_ _ | refine DyV.alloc ?_ _)); exact Va1.out)
  obtain ⟨ac0, ac1, ac2, ac3, ac4, ac5⟩ := Va2
  have Va2 := Lib.hid (DyV.mk ac0 ac1 ac2 ac3 ac4 ac5)
  have Vb2 : DyV w2 b1 bdb sb (.slice ab nb pb) eb := (by refine DyV.below ?_ hb2; (repeat (with_reducible first | refine DyV.drew ?_ | refine DyV.drewN ?_ _ | refine DyV.alloc ?_ _)); exact Vb1.out)
  obtain ⟨bc0, bc1, bc2, bc3, bc4, bc5⟩ := Vb2
  have Vb2 := Lib.hid (DyV.mk bc0 bc1 bc2 bc3 bc4 bc5)
  have Vc2 : DyV w2 b2 bdc sc (.slice ac nc pc) ec := (by refine DyV.below ?_ hb2; (repeat (with_reducible first | refine DyV.drew ?_ | refine DyV.drewN ?_ _ | refine DyV.alloc ?_ _)); exact Vc1.out)
  obtain ⟨cc0, cc1, cc2, cc3, cc4, cc5⟩ := Vc2
  have Vc2 := Lib.hid (DyV.mk cc0 cc1 cc2 cc3 cc4 cc5)
  have B2 := below_box (w := w) (by have hszw := (B1).size; repeat (with_reducible first | refine Below.setCell ?_ (by first | omega | (simp <;> omega)) _ | refine Below.alloc ?_ (by first | omega | (simp <;> omega)) _ | refine Below.drew ?_ | refine below_drewN ?_ _ | exact B1)) hb2
  clear hb2
  go_wp2_with fail
  go_ret
  exact ⟨rfl, (by have hszw := (B2).size; repeat (with_reducible first | refine Below.setCell ?_ (by first | omega | (simp <;> omega)) _ | refine Below.alloc ?_ (by first | omega | (simp <;> omega)) _ | refine Below.drew ?_ | refine below_drewN ?_ _ | exact B2))⟩

set_option maxRecDepth 100000 in
set_option maxHeartbeats 2000000 in
theorem ring_nb (w : World) (hT : Tab w) (bda sa : Bool) (aa : Option Addr) (na pa : Nat) (ea : Int) (bdb sb : Bool) (ab : Option Addr) (nb pb : Nat) (eb : Int) (bdc sc : Bool) (ac : Option Addr) (nc pc : Nat) (ec : Int) (ma : na ≤ 9223372036854775807) (mb : nb ≤ 9223372036854775807) (_mc : nc ≤ 9223372036854775807) (hsa : slimB na ea = true) (hsb : slimB nb eb = false) :
    Calls Tryd.prog 7 #[.agg #[.bool bda, .bool sa, .slice aa na pa, .int .i64 ea], .agg #[.bool bdb, .bool sb, .slice ab nb pb, .int .i64 eb], .agg #[.bool bdc, .bool sc, .slice ac nc pc, .int .i64 ec]] w fun o w' => o = .returned (.bool true) ∧ Below w.heap.size w w' := by
  have HSa := fun W => Lib.hid (slim_any W bda sa aa na pa ea ma true hsa)
  have HSb := fun W => Lib.hid (slim_any W bdb sb ab nb pb eb mb false hsb)
  have HW := fun W ht => Lib.hid (awake_any W ht)
  have e1 : ¬ w.heap.size + 1 = w.heap.size := by omega
  have e2 : ¬ w.heap.size + 1 + 1 = w.heap.size := by omega
  have e3 : ¬ w.heap.size + 1 + 1 = w.heap.size + 1 := by omega
  go_enter Tryd.func7, Tryd.ntmps7
  go_wp2_with fail
  have I0 := ((DyV.made w 27 bda sa (.slice aa na pa) ea).alloc (.cells #[.bool bdb, .bool sb, .slice ab nb pb, .int .i64 eb] 27)).alloc (.cells #[.bool bdc, .bool sc, .slice ac nc pc, .int .i64 ec] 27)
  have I1 := (DyV.made' (w.alloc (.cells #[.bool bda, .bool sa, .slice aa na pa, .int .i64 ea] 27)) 27 bdb sb (.slice ab nb pb) eb (n := w.heap.size + 1) (by rw [World.size_alloc])).alloc (.cells #[.bool bdc, .bool sc, .slice ac nc pc, .int .i64 ec] 27)
  have I2 := DyV.made' ((w.alloc (.cells #[.bool bda, .bool sa, .slice aa na pa, .int .i64 ea] 27)).alloc (.cells #[.bool bdb, .bool sb, .slice ab nb pb, .int .i64 eb] 27)) 27 bdc sc (.slice ac nc pc) ec (n := w.heap.size + 1 + 1) (by rw [World.size_alloc, World.size_alloc])
  have B0 : Below w.heap.size w (((w.alloc (.cells #[.bool bda, .bool sa, .slice aa na pa, .int .i64 ea] 27)).alloc (.cells #[.bool bdb, .bool sb, .slice ab nb pb, .int .i64 eb] 27)).alloc (.cells #[.bool bdc, .bool sc, .slice ac nc pc, .int .i64 ec] 27)) := (by repeat (with_reducible first | refine Below.setCell ?_ (by simp <;> omega) _ | refine Below.alloc ?_ (by simp <;> omega) _ | refine Below.drew ?_ | refine below_drewN ?_ _ | exact Below.refl _ _))
  generalize (((w.alloc (.cells #[.bool bda, .bool sa, .slice aa na pa, .int .i64 ea] 27)).alloc (.cells #[.bool bdb, .bool sb, .slice ab nb pb, .int .i64 eb] 27)).alloc (.cells #[.bool bdc, .bool sc, .slice ac nc pc, .int .i64 ec] 27)) = w0 at I0 I1 I2 B0 ⊢
  generalize w.heap.size + 1 + 1 = b2 at I2 ⊢
  generalize w.heap.size + 1 = b1 at I1 ⊢
  generalize hb0 : w.heap.size = b0 at I0 ⊢
  obtain ⟨ac0, ac1, ac2, ac3, ac4, ac5⟩ := I0
  have Va0 := Lib.hid (DyV.mk ac0 ac1 ac2 ac3 ac4 ac5)
  obtain ⟨bc0, bc1, bc2, bc3, bc4, bc5⟩ := I1
  have Vb0 := Lib.hid (DyV.mk bc0 bc1 bc2 bc3 bc4 bc5)
  obtain ⟨cc0, cc1, cc2, cc3, cc4, cc5⟩ := I2
  have Vc0 := Lib.hid (DyV.mk cc0 cc1 cc2 cc3 cc4 cc5)
  refine (HSa _).out.mono ?_
  rintro e w1 ⟨rfl, hb1⟩
  have Va1 : DyV w1 b0 bda sa (.slice aa na pa) ea := (by refine DyV.below ?_ hb1; (repeat (with_reducible first | refine DyV.drew ?_ | refine DyV.drewN ?_ _ | refine DyV.alloc ?_ _)); exact Va0.out)
  obtain ⟨ac0, ac1, ac2, ac3, ac4, ac5⟩ := Va1
  have Va1 := Lib.hid (DyV.mk ac0 ac1 ac2 ac3 ac4 ac5)
  have Vb1 : DyV w1 b1 bdb sb (.slice ab nb pb) eb := (by refine DyV.below ?_ hb1; (repeat (with_reducible first | refine DyV.drew ?_ | refine DyV.drewN ?_ _ | refine DyV.alloc ?_ _)); exact Vb0.out)
  obtain ⟨bc0, bc1, bc2, bc3, bc4, bc5⟩ := Vb1
  have Vb1 := Lib.hid (DyV.mk bc0 bc1 bc2 bc3 bc4 bc5)
  have Vc1 : DyV w1 b2 bdc sc (.slice ac nc pc) ec := (by refine DyV.below ?_ hb1; (repeat (with_reducible first | refine DyV.drew ?_ | refine DyV.drewN ?_ _ | refine DyV.alloc ?_ _)); exact Vc0.out)
  obtain ⟨cc0, cc1, cc2, cc3, cc4, cc5⟩ := Vc1
  have Vc1 := Lib.hid (DyV.mk cc0 cc1 cc2 cc3 cc4 cc5)
  have B1 := below_box (w := w) (by have hszw := (B0).size; repeat (with_reducible first | refine Below.setCell ?_ (by first | omega | (simp <;> omega)) _ | refine Below.alloc ?_ (by first | omega | (simp <;> omega)) _ | refine Below.drew ?_ | refine below_drewN ?_ _ | exact B0)) hb1
  clear hb1
  go_wp2_with fail
  refine (HSb _).out.mono ?_
  rintro e w2 ⟨rfl, hb2⟩
  have Va2 : DyV w2 b0 bda sa (.slice aa na pa) ea := (by refine DyV.below ?_ hb2; (repeat (with_reducible first | refine DyV.drew ?_ | refine DyV.drewN ?_ _ | refine DyV.alloc ?_ _)); exact Va1.out)
  obtain ⟨ac0, ac1, ac2, ac3, ac4, ac5⟩ := Va2
  have Va2 := Lib.hid (DyV.mk ac0 ac1 ac2 ac3 ac4 ac5)
  have Vb2 : DyV w2 b1 bdb sb (.slice ab nb pb) eb := (by refine DyV.below ?_ hb2; (repeat (with_reducible first | refine DyV.drew ?_ | refine DyV.drewN ?_ _ | refine DyV.alloc ?_ _)); exact Vb1.out)
  obtain ⟨bc0, bc1, bc2, bc3, bc4, bc5⟩ := Vb2
  have Vb2 := Lib.hid (DyV.mk bc0 bc1 bc2 bc3 bc4 bc5)
  have Vc2 : DyV w2 b2 bdc sc (.slice ac nc pc) ec := (by refine DyV.below ?_ hb2; (repeat (with_reducible first | refine DyV.drew ?_ | refine DyV.drewN ?_ _ | refine DyV.alloc ?_ _)); exact Vc1.out)
  obtain ⟨cc0, cc1, cc2, cc3, cc4, cc5⟩ := Vc2
  have Vc2 := Lib.hid (DyV.mk cc0 cc1 cc2 cc3 cc4 cc5)
  have B2 := below_box (w := w) (by have hszw := (B1).size; repeat (with_reducible first | refine Below.setCell ?_ (by first | omega | (simp <;> omega)) _ | refine Below.alloc ?_ (by first | omega | (simp <;> omega)) _ | refine Below.drew ?_ | refine below_drewN ?_ _ | exact B1)) hb2
  clear hb2
  go_wp2_with fail
  refine (HW _ (hT.below (by have hszw := (B2).size; repeat (with_reducible first | refine Below.setCell ?_ (by first | omega | (simp <;> omega)) _ | refine Below.alloc ?_ (by first | omega | (simp <;> omega)) _ | refine Below.drew ?_ | refine below_drewN ?_ _ | exact B2)))).out.mono ?_
  rintro e w3 ⟨rfl, hb3⟩
  have Va3 : DyV w3 b0 bda sa (.slice aa na pa) ea := (by refine DyV.below ?_ hb3; (repeat (with_reducible first | refine DyV.drew ?_ | refine DyV.drewN ?_ _ | refine DyV.alloc ?_ _)); exact Va2.out)
  obtain ⟨ac0, ac1, ac2, ac3, ac4, ac5⟩ := Va3
  have Va3 := Lib.hid (DyV.mk ac0 ac1 ac2 ac3 ac4 ac5)
  have Vb3 : DyV w3 b1 bdb sb (.slice ab nb pb) eb := (by refine DyV.below ?_ hb3; (repeat (with_reducible first | refine DyV.drew ?_ | refine DyV.drewN ?_ _ | refine DyV.alloc ?_ _)); exact Vb2.out)
  obtain ⟨bc0, bc1, bc2, bc3, bc4, bc5⟩ := Vb3
  have Vb3 := Lib.hid (DyV.mk bc0 bc1 bc2 bc3 bc4 bc5)
  have Vc3 : DyV w3 b2 bdc sc (.slice ac nc pc) ec := (by refine DyV.below ?_ hb3; (repeat (with_reducible first | refine DyV.drew ?_ | refine DyV.drewN ?_ _ | refine DyV.alloc ?_ _)); exact Vc2.out)
  obtain ⟨cc0, cc1, cc2, cc3, cc4, cc5⟩ := Vc3
  have Vc3 := Lib.hid (DyV.mk cc0 cc1 cc2 cc3 cc4 cc5)
  have B3 := below_box (w := w) (by have hszw := (B2).size; repeat (with_reducible first | refine Below.setCell ?_ (by first | omega | (simp <;> omega)) _ | refine Below.alloc ?_ (by first | omega | (simp <;> omega)) _ | refine Below.drew ?_ | refine below_drewN ?_ _ | exact B2)) hb3
  clear hb3
  go_wp2_with fail
  go_ret
  exact ⟨rfl, (by have hszw := (B3).size; repeat (with_reducible first | refine Below.setCell ?_ (by first | omega | (simp <;> omega)) _ | refine Below.alloc ?_ (by first | omega | (simp <;> omega)) _ | refine Below.drew ?_ | refine below_drewN ?_ _ | exact B3))⟩

set_option maxRecDepth 100000 in
set_option maxHeartbeats 2000000 in
theorem ring_nc (w : World) (hT : Tab w) (bda sa : Bool) (aa : Option Addr) (na pa : Nat) (ea : Int) (bdb sb : Bool) (ab : Option Addr) (nb pb : Nat) (eb : Int) (bdc sc : Bool) (ac : Option Addr) (nc pc : Nat) (ec : Int) (ma : na ≤ 9223372036854775807) (mb : nb ≤ 9223372036854775807) (mc : nc ≤ 9223372036854775807) (hsa : slimB na ea = true) (hsb : slimB nb eb = true) (hsc : slimB nc ec = false) :
    Calls Tryd.prog 7 #[.agg #[.bool bda, .bool sa, .slice aa na pa, .int .i64 ea], .agg #[.bool bdb, .bool sb, .slice ab nb pb, .int .i64 eb], .agg #[.bool bdc, .bool sc, .slice ac nc pc, .int .i64 ec]] w fun o w' => o = .returned (.bool true) ∧ Below w.heap.size w w' := by
  have HSa := fun W => Lib.hid (slim_any W bda sa aa na pa ea ma true hsa)
  have HSb := fun W => Lib.hid (slim_any W bdb sb ab nb pb eb mb true hsb)
  have HSc := fun W => Lib.hid (slim_any W bdc sc ac nc pc ec mc false hsc)
  have HW := fun W ht => Lib.hid (awake_any W ht)
  have e1 : ¬ w.heap.size + 1 = w.heap.size := by omega
  have e2 : ¬ w.heap.size + 1 + 1 = w.heap.size := by omega
  have e3 : ¬ w.heap.size + 1 + 1 = w.heap.size + 1 := by omega
  go_enter Tryd.func7, Tryd.ntmps7
  go_wp2_with fail
  have I0 := ((DyV.made w 27 bda sa (.slice aa na pa) ea).alloc (.cells #[.bool bdb, .bool sb, .slice ab nb pb, .int .i64 eb] 27)).alloc (.cells #[.bool bdc, .bool sc, .slice ac nc pc, .int .i64 ec] 27)
  have I1 := (DyV.made' (w.alloc (.cells #[.bool bda, .bool sa, .slice aa na pa, .int .i64 ea] 27)) 27 bdb sb (.slice ab nb pb) eb (n := w.heap.size + 1) (by rw [World.size_alloc])).alloc (.cells #[.bool bdc, .bool sc, .slice ac nc pc, .int .i64 ec] 27)
  have I2 := DyV.made' ((w.alloc (.cells #[.bool bda, .bool sa, .slice aa na pa, .int .i64 ea] 27)).alloc (.cells #[.bool bdb, .bool sb, .slice ab nb pb, .int .i64 eb] 27)) 27 bdc sc (.slice ac nc pc) ec (n := w.heap.size + 1 + 1) (by rw [World.size_alloc, World.size_alloc])
  have B0 : Below w.heap.size w (((w.alloc (.cells #[.bool bda, .bool sa, .slice aa na pa, .int .i64 ea] 27)).alloc (.cells #[.bool bdb, .bool sb, .slice ab nb pb, .int .i64 eb] 27)).alloc (.cells #[.bool bdc, .bool sc, .slice ac nc pc, .int .i64 ec] 27)) := (by repeat (with_reducible first | refine Below.setCell ?_ (by simp <;> omega) _ | refine Below.alloc ?_ (by simp <;> omega) _ | refine Below.drew ?_ | refine below_drewN ?_ _ | exact Below.refl _ _))
  generalize (((w.alloc (.cells #[.bool bda, .bool sa, .slice aa na pa, .int .i64 ea] 27)).alloc (.cells #[.bool bdb, .bool sb, .slice ab nb pb, .int .i64 eb] 27)).alloc (.cells #[.bool bdc, .bool sc, .slice ac nc pc, .int .i64 ec] 27)) = w0 at I0 I1 I2 B0 ⊢
  generalize w.heap.size + 1 + 1 = b2 at I2 ⊢
  generalize w.heap.size + 1 = b1 at I1 ⊢
  generalize hb0 : w.heap.size = b0 at I0 ⊢
  obtain ⟨ac0, ac1, ac2, ac3, ac4, ac5⟩ := I0
  have Va0 := Lib.hid (DyV.mk ac0 ac1 ac2 ac3 ac4 ac5)
  obtain ⟨bc0, bc1, bc2, bc3, bc4, bc5⟩ := I1
  have Vb0 := Lib.hid (DyV.mk bc0 bc1 bc2 bc3 bc4 bc5)
  obtain ⟨cc0, cc1, cc2, cc3, cc4, cc5⟩ := I2
  have Vc0 := Lib.hid (DyV.mk cc0 cc1 cc2 cc3 cc4 cc5)
  refine (HSa _).out.mono ?_
  rintro e w1 ⟨rfl, hb1⟩
  have Va1 : DyV w1 b0 bda sa (.slice aa na pa) ea := (by refine DyV.below ?_ hb1; (repeat (with_reducible first | refine DyV.drew ?_ | refine DyV.drewN ?_ _ | refine DyV.alloc ?_ _)); exact Va0.out)
  obtain ⟨ac0, ac1, ac2, ac3, ac4, ac5⟩ := Va1
  have Va1 := Lib.hid (DyV.mk ac0 ac1 ac2 ac3 ac4 ac5)
  have Vb1 : DyV w1 b1 bdb sb (.slice ab nb pb) eb := (by refine DyV.below ?_ hb1; (repeat (with_reducible first | refine DyV.drew ?_ | refine DyV.drewN ?_ _ | refine DyV.alloc ?_ _)); exact Vb0.out)
  obtain ⟨bc0, bc1, bc2, bc3, bc4, bc5⟩ := Vb1
  have Vb1 := Lib.hid (DyV.mk bc0 bc1 bc2 bc3 bc4 bc5)
  have Vc1 : DyV w1 b2 bdc sc (.slice ac nc pc) ec := (by refine DyV.below ?_ hb1; (repeat (with_reducible first | refine DyV.drew ?_ | refine DyV.drewN ?_ _ | refine DyV.alloc ?_ _)); exact Vc0.out)
  obtain ⟨cc0, cc1, cc2, cc3, cc4, cc5⟩ := Vc1
  have Vc1 := Lib.hid (DyV.mk cc0 cc1 cc2 cc3 cc4 cc5)
  have B1 := below_box (w := w) (by have hszw := (B0).size; repeat (with_reducible first | refine Below.setCell ?_ (by first | omega | (simp <;> omega)) _ | refine Below.alloc ?_ (by first | omega | (simp <;> omega)) _ | refine Below.drew ?_ | refine below_drewN ?_ _ | exact B0)) hb1
  clear hb1
  go_wp2_with fail
  refine (HSb _).out.mono ?_
  rintro e w2 ⟨rfl, hb2⟩
  have Va2 : DyV w2 b0 bda sa (.slice aa na pa) ea := (by refine DyV.below ?_ hb2; (repeat (with_reducible first | refine DyV.drew ?_ | refine DyV.drewN ?_ _ | refine DyV.alloc ?_ _)); exact Va1.out)
  obtain ⟨ac0, ac1, ac2, ac3, ac4, ac5⟩ := Va2
  have Va2 := Lib.hid (DyV.mk ac0 ac1 ac2 ac3 ac4 ac5)
  have Vb2 : DyV w2 b1 bdb sb (.slice ab nb pb) eb := (by refine DyV.below ?_ hb2; (repeat (with_reducible first | refine DyV.drew ?_ | refine DyV.drewN ?_ _ | refine DyV.alloc ?_ _)); exact Vb1.out)
  obtain ⟨bc0, bc1, bc2, bc3, bc4, bc5⟩ := Vb2
  have Vb2 := Lib.hid (DyV.mk bc0 bc1 bc2 bc3 bc4 bc5)
  have Vc2 : DyV w2 b2 bdc sc (.slice ac nc pc) ec := (by refine DyV.below ?_ hb2; (repeat (with_reducible first | refine DyV.drew ?_ | refine DyV.drewN ?_ _ | refine DyV.alloc ?_ _)); exact Vc1.out)
  obtain ⟨cc0, cc1, cc2, cc3, cc4, cc5⟩ := Vc2
  have Vc2 := Lib.hid (DyV.mk cc0 cc1 cc2 cc3 cc4 cc5)
  have B2 := below_box (w := w) (by have hszw := (B1).size; repeat (with_reducible first | refine Below.setCell ?_ (by first | omega | (simp <;> omega)) _ | refine Below.alloc ?_ (by first | omega | (simp <;> omega)) _ | refine Below.drew ?_ | refine below_drewN ?_ _ | exact B1)) hb2
  clear hb2
  go_wp2_with fail
  refine (HSc _).out.mono ?_
  rintro e w3 ⟨rfl, hb3⟩
  have Va3 : DyV w3 b0 bda sa (.slice aa na pa) ea := (by refine DyV.below ?_ hb3; (repeat (with_reducible first | refine DyV.drew ?_ | refine DyV.drewN ?_ _ | refine DyV.alloc ?_ _)); exact Va2.out)
  obtain ⟨ac0, ac1, ac2, ac3, ac4, ac5⟩ := Va3
  have Va3 := Lib.hid (DyV.mk ac0 ac1 ac2 ac3 ac4 ac5)
  have Vb3 : DyV w3 b1 bdb sb (.slice ab nb pb) eb := (by refine DyV.below ?_ hb3; (repeat (with_reducible first | refine DyV.drew ?_ | refine DyV.drewN ?_ _ | refine DyV.alloc ?_ _)); exact Vb2.out)
  obtain ⟨bc0, bc1, bc2, bc3, bc4, bc5⟩ := Vb3
  have Vb3 := Lib.hid (DyV.mk bc0 bc1 bc2 bc3 bc4 bc5)
  have Vc3 : DyV w3 b2 bdc sc (.slice ac nc pc) ec := (by refine DyV.below ?_ hb3; (repeat (with_reducible first | refine DyV.drew ?_ | refine DyV.drewN ?_ _ | refine DyV.alloc ?_ _)); exact Vc2.out)
  obtain ⟨cc0, cc1, cc2, cc3, cc4, cc5⟩ := Vc3
  have Vc3 := Lib.hid (DyV.mk cc0 cc1 cc2 cc3 cc4 cc5)
  have B3 := below_box (w := w) (by have hszw := (B2).size; repeat (with_reducible first | refine Below.setCell ?_ (by first | omega | (simp <;> omega)) _ | refine Below.alloc ?_ (by first | omega | (simp <;> omega)) _ | refine Below.drew ?_ | refine below_drewN ?_ _ | exact B2)) hb3
  clear hb3
  go_wp2_with fail
  refine (HW _ (hT.below (by have hszw := (B3).size; repeat (with_reducible first | refine Below.setCell ?_ (by first | omega | (simp <;> omega)) _ | refine Below.alloc ?_ (by first | omega | (simp <;> omega)) _ | refine Below.drew ?_ | refine below_drewN ?_ _ | exact B3)))).out.mono ?_
  rintro e w4 ⟨rfl, hb4⟩
  have Va4 : DyV w4 b0 bda sa (.slice aa na pa) ea := (by refine DyV.below ?_ hb4; (repeat (with_reducible first | refine DyV.drew ?_ | refine DyV.drewN ?_ _ | refine DyV.alloc ?_ _)); exact Va3.out)
  obtain ⟨ac0, ac1, ac2, ac3, ac4, ac5⟩ := Va4
  have Va4 := Lib.hid (DyV.mk ac0 ac1 ac2 ac3 ac4 ac5)
  have Vb4 : DyV w4 b1 bdb sb (.slice ab nb pb) eb := (by refine DyV.below ?_ hb4; (repeat (with_reducible first | refine DyV.drew ?_ | refine DyV.drewN ?_ _ | refine DyV.alloc ?_ _)); exact Vb3.out)
  obtain ⟨bc0, bc1, bc2, bc3, bc4, bc5⟩ := Vb4
  have Vb4 := Lib.hid (DyV.mk bc0 bc1 bc2 bc3 bc4 bc5)
  have Vc4 : DyV w4 b2 bdc sc (.slice ac nc pc) ec := (by refine DyV.below ?_ hb4; (repeat (with_reducible first | refine DyV.drew ?_ | refine DyV.drewN ?_ _ | refine DyV.alloc ?_ _)); exact Vc3.out)
  obtain ⟨cc0, cc1, cc2, cc3, cc4, cc5⟩ := Vc4
  have Vc4 := Lib.hid (DyV.mk cc0 cc1 cc2 cc3 cc4 cc5)
  have B4 := below_box (w := w) (by have hszw := (B3).size; repeat (with_reducible first | refine Below.setCell ?_ (by first | omega | (simp <;> omega)) _ | refine Below.alloc ?_ (by first | omega | (simp <;> omega)) _ | refine Below.drew ?_ | refine below_drewN ?_ _ | exact B3)) hb4
  clear hb4
  go_wp2_with fail
  go_ret
  exact ⟨rfl, (by have hszw := (B4).size; repeat (with_reducible first | refine Below.setCell ?_ (by first | omega | (simp <;> omega)) _ | refine Below.alloc ?_ (by first | omega | (simp <;> omega)) _ | refine Below.drew ?_ | refine below_drewN ?_ _ | exact B4))⟩

set_option maxRecDepth 100000 in
set_option maxHeartbeats 2000000 in
theorem ring_bad (w : World) (hT : Tab w) (bda sa : Bool) (aa : Option Addr) (na pa : Nat) (ea : Int) (da : Option (Int × Int)) (Ha : DyIs w bda sa aa na pa ea da) (bdb sb : Bool) (ab : Option Addr) (nb pb : Nat) (eb : Int) (db : Option (Int × Int)) (Hb : DyIs w bdb sb ab nb pb eb db) (bdc sc : Bool) (ac : Option Addr) (nc pc : Nat) (ec : Int) (ma : na ≤ 9223372036854775807) (mb : nb ≤ 9223372036854775807) (mc : nc ≤ 9223372036854775807) (hsa : slimB na ea = true) (hsb : slimB nb eb = true) (hsc : slimB nc ec = true) (va : dbad da = true) (x1 x2 x3 x4 : Option (Int × Int)) (ex1 : dadd da db = x1) (ex2 : dmul db da = x2) (ex3 : dsub db da = x3) (ex4 : dneg da = x4) (ex5 : cmpI (dman da) 0 = 0) (vx1 : dbad x1 = true) (vx2 : dbad x2 = true) (vx3 : dbad x3 = true) (vx4 : dbad x4 = true) :
    Calls Tryd.prog 7 #[.agg #[.bool bda, .bool sa, .slice aa na pa, .int .i64 ea], .agg #[.bool bdb, .bool sb, .slice ab nb pb, .int .i64 eb], .agg #[.bool bdc, .bool sc, .slice ac nc pc, .int .i64 ec]] w fun o w' => o = .returned (.bool true) ∧ Below w.heap.size w w' := by
  have HSa := fun W => Lib.hid (slim_any W bda sa aa na pa ea ma true hsa)
  have HSb := fun W => Lib.hid (slim_any W bdb sb ab nb pb eb mb true hsb)
  have HSc := fun W => Lib.hid (slim_any W bdc sc ac nc pc ec mc true hsc)
  have HW := fun W ht => Lib.hid (awake_any W ht)
  have Ga := Lib.hid Ha
  have Gb := Lib.hid Hb
  have HVa := fun W h ht => Lib.hid (rvalid_any W bda sa aa na pa ea da h ht)
  rw [va] at HVa
  have nva : (!true) = false := rfl
  rw [nva] at HVa
  have H1 := fun W (h0 : DyIn W bda sa aa na pa ea da) (h1 : DyIn W bdb sb ab nb pb eb db) ht => Lib.hid (dadd_any W _ _ _ _ _ _ _ _ _ _ _ _ _ _ h0 h1 ht )
  rw [ex1] at H1
  have H2 := fun W (h0 : DyIn W bdb sb ab nb pb eb db) (h1 : DyIn W bda sa aa na pa ea da) ht => Lib.hid (dmul_any W _ _ _ _ _ _ _ _ _ _ _ _ _ _ h0 h1 ht )
  rw [ex2] at H2
  have H3 := fun W (h0 : DyIn W bdb sb ab nb pb eb db) (h1 : DyIn W bda sa aa na pa ea da) ht => Lib.hid (dsub_any W _ _ _ _ _ _ _ _ _ _ _ _ _ _ h0 h1 ht )
  rw [ex3] at H3
  have H4 := fun W (h0 : DyIn W bda sa aa na pa ea da) ht => Lib.hid (dneg_any W _ _ _ _ _ _ _ h0 ht )
  rw [ex4] at H4
  have H5 := fun W (h0 : DyIn W bda sa aa na pa ea da) ht => Lib.hid (dsign_any W _ _ _ _ _ _ _ h0 ht )
  rw [show cmpI (dman da) 0 = 0 from ex5] at H5
  have HF := fld_bad
  have e1 : ¬ w.heap.size + 1 = w.heap.size := by omega
  have e2 : ¬ w.heap.size + 1 + 1 = w.heap.size := by omega
  have e3 : ¬ w.heap.size + 1 + 1 = w.heap.size + 1 := by omega
  clear va ex1 ex2 ex3 ex4 ex5 hsa hsb hsc Ha Hb
  go_enter Tryd.func7, Tryd.ntmps7
  go_wp2_with fail
  have I0 := ((DyV.made w 27 bda sa (.slice aa na pa) ea).alloc (.cells #[.bool bdb, .bool sb, .slice ab nb pb, .int .i64 eb] 27)).alloc (.cells #[.bool bdc, .bool sc, .slice ac nc pc, .int .i64 ec] 27)
  have I1 := (DyV.made' (w.alloc (.cells #[.bool bda, .bool sa, .slice aa na pa, .int .i64 ea] 27)) 27 bdb sb (.slice ab nb pb) eb (n := w.heap.size + 1) (by rw [World.size_alloc])).alloc (.cells #[.bool bdc, .bool sc, .slice ac nc pc, .int .i64 ec] 27)
  have I2 := DyV.made' ((w.alloc (.cells #[.bool bda, .bool sa, .slice aa na pa, .int .i64 ea] 27)).alloc (.cells #[.bool bdb, .bool sb, .slice ab nb pb, .int .i64 eb] 27)) 27 bdc sc (.slice ac nc pc) ec (n := w.heap.size + 1 + 1) (by rw [World.size_alloc, World.size_alloc])
  have B0 : Below w.heap.size w (((w.alloc (.cells #[.bool bda, .bool sa, .slice aa na pa, .int .i64 ea] 27)).alloc (.cells #[.bool bdb, .bool sb, .slice ab nb pb, .int .i64 eb] 27)).alloc (.cells #[.bool bdc, .bool sc, .slice ac nc pc, .int .i64 ec] 27)) := (by repeat (with_reducible first | refine Below.setCell ?_ (by simp <;> omega) _ | refine Below.alloc ?_ (by simp <;> omega) _ | refine Below.drew ?_ | refine below_drewN ?_ _ | exact Below.refl _ _))
  generalize (((w.alloc (.cells #[.bool bda, .bool sa, .slice aa na pa, .int .i64 ea] 27)).alloc (.cells #[.bool bdb, .bool sb, .slice ab nb pb, .int .i64 eb] 27)).alloc (.cells #[.bool bdc, .bool sc, .slice ac nc pc, .int .i64 ec] 27)) = w0 at I0 I1 I2 B0 ⊢
  generalize w.heap.size + 1 + 1 = b2 at I2 ⊢
  generalize w.heap.size + 1 = b1 at I1 ⊢
  generalize hb0 : w.heap.size = b0 at I0 ⊢
  obtain ⟨ac0, ac1, ac2, ac3, ac4, ac5⟩ := I0
  have Va0 := Lib.hid (DyV.mk ac0 ac1 ac2 ac3 ac4 ac5)
  obtain ⟨bc0, bc1, bc2, bc3, bc4, bc5⟩ := I1
  have Vb0 := Lib.hid (DyV.mk bc0 bc1 bc2 bc3 bc4 bc5)
  obtain ⟨cc0, cc1, cc2, cc3, cc4, cc5⟩ := I2
  have Vc0 := Lib.hid (DyV.mk cc0 cc1 cc2 cc3 cc4 cc5)
  refine (HSa _).out.mono ?_
  rintro e w1 ⟨rfl, hb1⟩
  have Va1 : DyV w1 b0 bda sa (.slice aa na pa) ea := (by refine DyV.below ?_ hb1; (repeat (with_reducible first | refine DyV.drew ?_ | refine DyV.drewN ?_ _ | refine DyV.alloc ?_ _)); exact Va0.out)
  obtain ⟨ac0, ac1, ac2, ac3, ac4, ac5⟩ := Va1
  have Va1 := Lib.hid (DyV.mk ac0 ac1 ac2 ac3 ac4 ac5)
  have Vb1 : DyV w1 b1 bdb sb (.slice ab nb pb) eb := (by refine DyV.below ?_ hb1; (repeat (with_reducible first | refine DyV.drew ?_ | refine DyV.drewN ?_ _ | refine DyV.alloc ?_ _)); exact Vb0.out)
  obtain ⟨bc0, bc1, bc2, bc3, bc4, bc5⟩ := Vb1
  have Vb1 := Lib.hid (DyV.mk bc0 bc1 bc2 bc3 bc4 bc5)
  have Vc1 : DyV w1 b2 bdc sc (.slice ac nc pc) ec := (by refine DyV.below ?_ hb1; (repeat (with_reducible first | refine DyV.drew ?_ | refine DyV.drewN ?_ _ | refine DyV.alloc ?_ _)); exact Vc0.out)
  obtain ⟨cc0, cc1, cc2, cc3, cc4, cc5⟩ := Vc1
  have Vc1 := Lib.hid (DyV.mk cc0 cc1 cc2 cc3 cc4 cc5)
  have B1 := below_box (w := w) (by have hszw := (B0).size; repeat (with_reducible first | refine Below.setCell ?_ (by first | omega | (simp <;> omega)) _ | refine Below.alloc ?_ (by first | omega | (simp <;> omega)) _ | refine Below.drew ?_ | refine below_drewN ?_ _ | exact B0)) hb1
  clear hb1
  go_wp2_with fail
  refine (HSb _).out.mono ?_
  rintro e w2 ⟨rfl, hb2⟩
  have Va2 : DyV w2 b0 bda sa (.slice aa na pa) ea := (by refine DyV.below ?_ hb2; (repeat (with_reducible first | refine DyV.drew ?_ | refine DyV.drewN ?_ _ | refine DyV.alloc ?_ _)); exact Va1.out)
  obtain ⟨ac0, ac1, ac2, ac3, ac4, ac5⟩ := Va2
  have Va2 := Lib.hid (DyV.mk ac0 ac1 ac2 ac3 ac4 ac5)
  have Vb2 : DyV w2 b1 bdb sb (.slice ab nb pb) eb := (by refine DyV.below ?_ hb2; (repeat (with_reducible first | refine DyV.drew ?_ | refine DyV.drewN ?_ _ | refine DyV.alloc ?_ _)); exact Vb1.out)
  obtain ⟨bc0, bc1, bc2, bc3, bc4, bc5⟩ := Vb2
  have Vb2 := Lib.hid (DyV.mk bc0 bc1 bc2 bc3 bc4 bc5)
  have Vc2 : DyV w2 b2 bdc sc (.slice ac nc pc) ec := (by refine DyV.below ?_ hb2; (repeat (with_reducible first | refine DyV.drew ?_ | refine DyV.drewN ?_ _ | refine DyV.alloc ?_ _)); exact Vc1.out)
  obtain ⟨cc0, cc1, cc2, cc3, cc4, cc5⟩ := Vc2
  have Vc2 := Lib.hid (DyV.mk cc0 cc1 cc2 cc3 cc4 cc5)
  have B2 := below_box (w := w) (by have hszw := (B1).size; repeat (with_reducible first | refine Below.setCell ?_ (by first | omega | (simp <;> omega)) _ | refine Below.alloc ?_ (by first | omega | (simp <;> omega)) _ | refine Below.drew ?_ | refine below_drewN ?_ _ | exact B1)) hb2
  clear hb2
  go_wp2_with fail
  refine (HSc _).out.mono ?_
  rintro e w3 ⟨rfl, hb3⟩
  have Va3 : DyV w3 b0 bda sa (.slice aa na pa) ea := (by refine DyV.below ?_ hb3; (repeat (with_reducible first | refine DyV.drew ?_ | refine DyV.drewN ?_ _ | refine DyV.alloc ?_ _)); exact Va2.out)
  obtain ⟨ac0, ac1, ac2, ac3, ac4, ac5⟩ := Va3
  have Va3 := Lib.hid (DyV.mk ac0 ac1 ac2 ac3 ac4 ac5)
  have Vb3 : DyV w3 b1 bdb sb (.slice ab nb pb) eb := (by refine DyV.below ?_ hb3; (repeat (with_reducible first | refine DyV.drew ?_ | refine DyV.drewN ?_ _ | refine DyV.alloc ?_ _)); exact Vb2.out)
  obtain ⟨bc0, bc1, bc2, bc3, bc4, bc5⟩ := Vb3
  have Vb3 := Lib.hid (DyV.mk bc0 bc1 bc2 bc3 bc4 bc5)
  have Vc3 : DyV w3 b2 bdc sc (.slice ac nc pc) ec := (by refine DyV.below ?_ hb3; (repeat (with_reducible first | refine DyV.drew ?_ | refine DyV.drewN ?_ _ | refine DyV.alloc ?_ _)); exact Vc2.out)
  obtain ⟨cc0, cc1, cc2, cc3, cc4, cc5⟩ := Vc3
  have Vc3 := Lib.hid (DyV.mk cc0 cc1 cc2 cc3 cc4 cc5)
  have B3 := below_box (w := w) (by have hszw := (B2).size; repeat (with_reducible first | refine Below.setCell ?_ (by first | omega | (simp <;> omega)) _ | refine Below.alloc ?_ (by first | omega | (simp <;> omega)) _ | refine Below.drew ?_ | refine below_drewN ?_ _ | exact B2)) hb3
  clear hb3
  go_wp2_with fail
  refine (HVa _ (Ga.out.below (by have hszw := (B3).size; repeat (with_reducible first | refine Below.setCell ?_ (by first | omega | (simp <;> omega)) _ | refine Below.alloc ?_ (by first | omega | (simp <;> omega)) _ | refine Below.drew ?_ | refine below_drewN ?_ _ | exact B3))) (hT.below (by have hszw := (B3).size; repeat (with_reducible first | refine Below.setCell ?_ (by first | omega | (simp <;> omega)) _ | refine Below.alloc ?_ (by first | omega | (simp <;> omega)) _ | refine Below.drew ?_ | refine below_drewN ?_ _ | exact B3)))).out.mono ?_
  rintro e w4 ⟨rfl, hb4⟩
  have Va4 : DyV w4 b0 bda sa (.slice aa na pa) ea := (by refine DyV.below ?_ hb4; (repeat (with_reducible first | refine DyV.drew ?_ | refine DyV.drewN ?_ _ | refine DyV.alloc ?_ _)); exact Va3.out)
  obtain ⟨ac0, ac1, ac2, ac3, ac4, ac5⟩ := Va4
  have Va4 := Lib.hid (DyV.mk ac0 ac1 ac2 ac3 ac4 ac5)
  have Vb4 : DyV w4 b1 bdb sb (.slice ab nb pb) eb := (by refine DyV.below ?_ hb4; (repeat (with_reducible first | refine DyV.drew ?_ | refine DyV.drewN ?_ _ | refine DyV.alloc ?_ _)); exact Vb3.out)
  obtain ⟨bc0, bc1, bc2, bc3, bc4, bc5⟩ := Vb4
  have Vb4 := Lib.hid (DyV.mk bc0 bc1 bc2 bc3 bc4 bc5)
  have Vc4 : DyV w4 b2 bdc sc (.slice ac nc pc) ec := (by refine DyV.below ?_ hb4; (repeat (with_reducible first | refine DyV.drew ?_ | refine DyV.drewN ?_ _ | refine DyV.alloc ?_ _)); exact Vc3.out)
  obtain ⟨cc0, cc1, cc2, cc3, cc4, cc5⟩ := Vc4
  have Vc4 := Lib.hid (DyV.mk cc0 cc1 cc2 cc3 cc4 cc5)
  have B4 := below_box (w := w) (by have hszw := (B3).size; repeat (with_reducible first | refine Below.setCell ?_ (by first | omega | (simp <;> omega)) _ | refine Below.alloc ?_ (by first | omega | (simp <;> omega)) _ | refine Below.drew ?_ | refine below_drewN ?_ _ | exact B3)) hb4
  clear hb4
  go_wp2_with fail
  refine (H1 _ (Ga.out.1.below (by have hszw := (B4).size; repeat (with_reducible first | refine Below.setCell ?_ (by first | omega | (simp <;> omega)) _ | refine Below.alloc ?_ (by first | omega | (simp <;> omega)) _ | refine Below.drew ?_ | refine below_drewN ?_ _ | exact B4))) (Gb.out.1.below (by have hszw := (B4).size; repeat (with_reducible first | refine Below.setCell ?_ (by first | omega | (simp <;> omega)) _ | refine Below.alloc ?_ (by first | omega | (simp <;> omega)) _ | refine Below.drew ?_ | refine below_drewN ?_ _ | exact B4))) (hT.below (by have hszw := (B4).size; repeat (with_reducible first | refine Below.setCell ?_ (by first | omega | (simp <;> omega)) _ | refine Below.alloc ?_ (by first | omega | (simp <;> omega)) _ | refine Below.drew ?_ | refine below_drewN ?_ _ | exact B4)))).out.mono ?_
  rintro e w5 ⟨a1, c1, rfl, M15, hb5, hf5⟩
  have Va5 : DyV w5 b0 bda sa (.slice aa na pa) ea := (by refine DyV.below ?_ hb5; (repeat (with_reducible first | refine DyV.drew ?_ | refine DyV.drewN ?_ _ | refine DyV.alloc ?_ _)); exact Va4.out)
  obtain ⟨ac0, ac1, ac2, ac3, ac4, ac5⟩ := Va5
  have Va5 := Lib.hid (DyV.mk ac0 ac1 ac2 ac3 ac4 ac5)
  have Vb5 : DyV w5 b1 bdb sb (.slice ab nb pb) eb := (by refine DyV.below ?_ hb5; (repeat (with_reducible first | refine DyV.drew ?_ | refine DyV.drewN ?_ _ | refine DyV.alloc ?_ _)); exact Vb4.out)
  obtain ⟨bc0, bc1, bc2, bc3, bc4, bc5⟩ := Vb5
  have Vb5 := Lib.hid (DyV.mk bc0 bc1 bc2 bc3 bc4 bc5)
  have Vc5 : DyV w5 b2 bdc sc (.slice ac nc pc) ec := (by refine DyV.below ?_ hb5; (repeat (with_reducible first | refine DyV.drew ?_ | refine DyV.drewN ?_ _ | refine DyV.alloc ?_ _)); exact Vc4.out)
  obtain ⟨cc0, cc1, cc2, cc3, cc4, cc5⟩ := Vc5
  have Vc5 := Lib.hid (DyV.mk cc0 cc1 cc2 cc3 cc4 cc5)
  have B5 := below_box (w := w) (by have hszw := (B4).size; repeat (with_reducible first | refine Below.setCell ?_ (by first | omega | (simp <;> omega)) _ | refine Below.alloc ?_ (by first | omega | (simp <;> omega)) _ | refine Below.drew ?_ | refine below_drewN ?_ _ | exact B4)) hb5
  clear hb5
  clear hf5
  go_wp2_with fail
  refine (H2 _ (Gb.out.1.below (by have hszw := (B5).size; repeat (with_reducible first | refine Below.setCell ?_ (by first | omega | (simp <;> omega)) _ | refine Below.alloc ?_ (by first | omega | (simp <;> omega)) _ | refine Below.drew ?_ | refine below_drewN ?_ _ | exact B5))) (Ga.out.1.below (by have hszw := (B5).size; repeat (with_reducible first | refine Below.setCell ?_ (by first | omega | (simp <;> omega)) _ | refine Below.alloc ?_ (by first | omega | (simp <;> omega)) _ | refine Below.drew ?_ | refine below_drewN ?_ _ | exact B5))) (hT.below (by have hszw := (B5).size; repeat (with_reducible first | refine Below.setCell ?_ (by first | omega | (simp <;> omega)) _ | refine Below.alloc ?_ (by first | omega | (simp <;> omega)) _ | refine Below.drew ?_ | refine below_drewN ?_ _ | exact B5)))).out.mono ?_
  rintro e w6 ⟨a2, c2, rfl, M26, hb6, hf6⟩
  have Va6 : DyV w6 b0 bda sa (.slice aa na pa) ea := (by refine DyV.below ?_ hb6; (repeat (with_reducible first | refine DyV.drew ?_ | refine DyV.drewN ?_ _ | refine DyV.alloc ?_ _)); exact Va5.out)
  obtain ⟨ac0, ac1, ac2, ac3, ac4, ac5⟩ := Va6
  have Va6 := Lib.hid (DyV.mk ac0 ac1 ac2 ac3 ac4 ac5)
  have Vb6 : DyV w6 b1 bdb sb (.slice ab nb pb) eb := (by refine DyV.below ?_ hb6; (repeat (with_reducible first | refine DyV.drew ?_ | refine DyV.drewN ?_ _ | refine DyV.alloc ?_ _)); exact Vb5.out)
  obtain ⟨bc0, bc1, bc2, bc3, bc4, bc5⟩ := Vb6
  have Vb6 := Lib.hid (DyV.mk bc0 bc1 bc2 bc3 bc4 bc5)
  have Vc6 : DyV w6 b2 bdc sc (.slice ac nc pc) ec := (by refine DyV.below ?_ hb6; (repeat (with_reducible first | refine DyV.drew ?_ | refine DyV.drewN ?_ _ | refine DyV.alloc ?_ _)); exact Vc5.out)
  obtain ⟨cc0, cc1, cc2, cc3, cc4, cc5⟩ := Vc6
  have Vc6 := Lib.hid (DyV.mk cc0 cc1 cc2 cc3 cc4 cc5)
  have B6 := below_box (w := w) (by have hszw := (B5).size; repeat (with_reducible first | refine Below.setCell ?_ (by first | omega | (simp <;> omega)) _ | refine Below.alloc ?_ (by first | omega | (simp <;> omega)) _ | refine Below.drew ?_ | refine below_drewN ?_ _ | exact B5)) hb6
  clear hb6
  clear hf6
  go_wp2_with fail
  refine (H3 _ (Gb.out.1.below (by have hszw := (B6).size; repeat (with_reducible first | refine Below.setCell ?_ (by first | omega | (simp <;> omega)) _ | refine Below.alloc ?_ (by first | omega | (simp <;> omega)) _ | refine Below.drew ?_ | refine below_drewN ?_ _ | exact B6))) (Ga.out.1.below (by have hszw := (B6).size; repeat (with_reducible first | refine Below.setCell ?_ (by first | omega | (simp <;> omega)) _ | refine Below.alloc ?_ (by first | omega | (simp <;> omega)) _ | refine Below.drew ?_ | refine below_drewN ?_ _ | exact B6))) (hT.below (by have hszw := (B6).size; repeat (with_reducible first | refine Below.setCell ?_ (by first | omega | (simp <;> omega)) _ | refine Below.alloc ?_ (by first | omega | (simp <;> omega)) _ | refine Below.drew ?_ | refine below_drewN ?_ _ | exact B6)))).out.mono ?_
  rintro e w7 ⟨a3, c3, rfl, M37, hb7, hf7⟩
  have Va7 : DyV w7 b0 bda sa (.slice aa na pa) ea := (by refine DyV.below ?_ hb7; (repeat (with_reducible first | refine DyV.drew ?_ | refine DyV.drewN ?_ _ | refine DyV.alloc ?_ _)); exact Va6.out)
  obtain ⟨ac0, ac1, ac2, ac3, ac4, ac5⟩ := Va7
  have Va7 := Lib.hid (DyV.mk ac0 ac1 ac2 ac3 ac4 ac5)
  have Vb7 : DyV w7 b1 bdb sb (.slice ab nb pb) eb := (by refine DyV.below ?_ hb7; (repeat (with_reducible first | refine DyV.drew ?_ | refine DyV.drewN ?_ _ | refine DyV.alloc ?_ _)); exact Vb6.out)
  obtain ⟨bc0, bc1, bc2, bc3, bc4, bc5⟩ := Vb7
  have Vb7 := Lib.hid (DyV.mk bc0 bc1 bc2 bc3 bc4 bc5)
  have Vc7 : DyV w7 b2 bdc sc (.slice ac nc pc) ec := (by refine DyV.below ?_ hb7; (repeat (with_reducible first | refine DyV.drew ?_ | refine DyV.drewN ?_ _ | refine DyV.alloc ?_ _)); exact Vc6.out)
  obtain ⟨cc0, cc1, cc2, cc3, cc4, cc5⟩ := Vc7
  have Vc7 := Lib.hid (DyV.mk cc0 cc1 cc2 cc3 cc4 cc5)
  have B7 := below_box (w := w) (by have hszw := (B6).size; repeat (with_reducible first | refine Below.setCell ?_ (by first | omega | (simp <;> omega)) _ | refine Below.alloc ?_ (by first | omega | (simp <;> omega)) _ | refine Below.drew ?_ | refine below_drewN ?_ _ | exact B6)) hb7
  clear hb7
  clear hf7
  go_wp2_with fail
  refine (H4 _ (Ga.out.1.below (by have hszw := (B7).size; repeat (with_reducible first | refine Below.setCell ?_ (by first | omega | (simp <;> omega)) _ | refine Below.alloc ?_ (by first | omega | (simp <;> omega)) _ | refine Below.drew ?_ | refine below_drewN ?_ _ | exact B7))) (hT.below (by have hszw := (B7).size; repeat (with_reducible first | refine Below.setCell ?_ (by first | omega | (simp <;> omega)) _ | refine Below.alloc ?_ (by first | omega | (simp <;> omega)) _ | refine Below.drew ?_ | refine below_drewN ?_ _ | exact B7)))).out.mono ?_
  rintro e w8 ⟨a4, c4, rfl, M48, hb8, hf8⟩
  have Va8 : DyV w8 b0 bda sa (.slice aa na pa) ea := (by refine DyV.below ?_ hb8; (repeat (with_reducible first | refine DyV.drew ?_ | refine DyV.drewN ?_ _ | refine DyV.alloc ?_ _)); exact Va7.out)
  obtain ⟨ac0, ac1, ac2, ac3, ac4, ac5⟩ := Va8
  have Va8 := Lib.hid (DyV.mk ac0 ac1 ac2 ac3 ac4 ac5)
  have Vb8 : DyV w8 b1 bdb sb (.slice ab nb pb) eb := (by refine DyV.below ?_ hb8; (repeat (with_reducible first | refine DyV.drew ?_ | refine DyV.drewN ?_ _ | refine DyV.alloc ?_ _)); exact Vb7.out)
  obtain ⟨bc0, bc1, bc2, bc3, bc4, bc5⟩ := Vb8
  have Vb8 := Lib.hid (DyV.mk bc0 bc1 bc2 bc3 bc4 bc5)
  have Vc8 : DyV w8 b2 bdc sc (.slice ac nc pc) ec := (by refine DyV.below ?_ hb8; (repeat (with_reducible first | refine DyV.drew ?_ | refine DyV.drewN ?_ _ | refine DyV.alloc ?_ _)); exact Vc7.out)
  obtain ⟨cc0, cc1, cc2, cc3, cc4, cc5⟩ := Vc8
  have Vc8 := Lib.hid (DyV.mk cc0 cc1 cc2 cc3 cc4 cc5)
  have B8 := below_box (w := w) (by have hszw := (B7).size; repeat (with_reducible first | refine Below.setCell ?_ (by first | omega | (simp <;> omega)) _ | refine Below.alloc ?_ (by first | omega | (simp <;> omega)) _ | refine Below.drew ?_ | refine below_drewN ?_ _ | exact B7)) hb8
  clear hb8
  clear hf8
  go_wp2_with fail
  refine (H5 _ (Ga.out.1.below (by have hszw := (B8).size; repeat (with_reducible first | refine Below.setCell ?_ (by first | omega | (simp <;> omega)) _ | refine Below.alloc ?_ (by first | omega | (simp <;> omega)) _ | refine Below.drew ?_ | refine below_drewN ?_ _ | exact B8))) (hT.below (by have hszw := (B8).size; repeat (with_reducible first | refine Below.setCell ?_ (by first | omega | (simp <;> omega)) _ | refine Below.alloc ?_ (by first | omega | (simp <;> omega)) _ | refine Below.drew ?_ | refine below_drewN ?_ _ | exact B8)))).out.mono ?_
  rintro e w9 ⟨rfl, hb9⟩
  have Va9 : DyV w9 b0 bda sa (.slice aa na pa) ea := (by refine DyV.below ?_ hb9; (repeat (with_reducible first | refine DyV.drew ?_ | refine DyV.drewN ?_ _ | refine DyV.alloc ?_ _)); exact Va8.out)
  obtain ⟨ac0, ac1, ac2, ac3, ac4, ac5⟩ := Va9
  have Va9 := Lib.hid (DyV.mk ac0 ac1 ac2 ac3 ac4 ac5)
  have Vb9 : DyV w9 b1 bdb sb (.slice ab nb pb) eb := (by refine DyV.below ?_ hb9; (repeat (with_reducible first | refine DyV.drew ?_ | refine DyV.drewN ?_ _ | refine DyV.alloc ?_ _)); exact Vb8.out)
  obtain ⟨bc0, bc1, bc2, bc3, bc4, bc5⟩ := Vb9
  have Vb9 := Lib.hid (DyV.mk bc0 bc1 bc2 bc3 bc4 bc5)
  have Vc9 : DyV w9 b2 bdc sc (.slice ac nc pc) ec := (by refine DyV.below ?_ hb9; (repeat (with_reducible first | refine DyV.drew ?_ | refine DyV.drewN ?_ _ | refine DyV.alloc ?_ _)); exact Vc8.out)
  obtain ⟨cc0, cc1, cc2, cc3, cc4, cc5⟩ := Vc9
  have Vc9 := Lib.hid (DyV.mk cc0 cc1 cc2 cc3 cc4 cc5)
  have B9 := below_box (w := w) (by have hszw := (B8).size; repeat (with_reducible first | refine Below.setCell ?_ (by first | omega | (simp <;> omega)) _ | refine Below.alloc ?_ (by first | omega | (simp <;> omega)) _ | refine Below.drew ?_ | refine below_drewN ?_ _ | exact B8)) hb9
  clear hb9
  go_wp2_with fail
  refine (HW _ (hT.below (by have hszw := (B9).size; repeat (with_reducible first | refine Below.setCell ?_ (by first | omega | (simp <;> omega)) _ | refine Below.alloc ?_ (by first | omega | (simp <;> omega)) _ | refine Below.drew ?_ | refine below_drewN ?_ _ | exact B9)))).out.mono ?_
  rintro e w10 ⟨rfl, hb10⟩
  have Va10 : DyV w10 b0 bda sa (.slice aa na pa) ea := (by refine DyV.below ?_ hb10; (repeat (with_reducible first | refine DyV.drew ?_ | refine DyV.drewN ?_ _ | refine DyV.alloc ?_ _)); exact Va9.out)
  obtain ⟨ac0, ac1, ac2, ac3, ac4, ac5⟩ := Va10
  have Va10 := Lib.hid (DyV.mk ac0 ac1 ac2 ac3 ac4 ac5)
  have Vb10 : DyV w10 b1 bdb sb (.slice ab nb pb) eb := (by refine DyV.below ?_ hb10; (repeat (with_reducible first | refine DyV.drew ?_ | refine DyV.drewN ?_ _ | refine DyV.alloc ?_ _)); exact Vb9.out)
  obtain ⟨bc0, bc1, bc2, bc3, bc4, bc5⟩ := Vb10
  have Vb10 := Lib.hid (DyV.mk bc0 bc1 bc2 bc3 bc4 bc5)
  have Vc10 : DyV w10 b2 bdc sc (.slice ac nc pc) ec := (by refine DyV.below ?_ hb10; (repeat (with_reducible first | refine DyV.drew ?_ | refine DyV.drewN ?_ _ | refine DyV.alloc ?_ _)); exact Vc9.out)
  obtain ⟨cc0, cc1, cc2, cc3, cc4, cc5⟩ := Vc10
  have Vc10 := Lib.hid (DyV.mk cc0 cc1 cc2 cc3 cc4 cc5)
  have B10 := below_box (w := w) (by have hszw := (B9).size; repeat (with_reducible first | refine Below.setCell ?_ (by first | omega | (simp <;> omega)) _ | refine Below.alloc ?_ (by first | omega | (simp <;> omega)) _ | refine Below.drew ?_ | refine below_drewN ?_ _ | exact B9)) hb10
  clear hb10
  go_wp2_with fail
  go_ret
  exact ⟨rfl, (by have hszw := (B10).size; repeat (with_reducible first | refine Below.setCell ?_ (by first | omega | (simp <;> omega)) _ | refine Below.alloc ?_ (by first | omega | (simp <;> omega)) _ | refine Below.drew ?_ | refine below_drewN ?_ _ | exact B10))⟩

set_option maxRecDepth 100000 in
set_option maxHeartbeats 2000000 in
theorem ring_vb (w : World) (hT : Tab w) (bda sa : Bool) (aa : Option Addr) (na pa : Nat) (ea : Int) (da : Option (Int × Int)) (Ha : DyIs w bda sa aa na pa ea da) (bdb sb : Bool) (ab : Option Addr) (nb pb : Nat) (eb : Int) (db : Option (Int × Int)) (Hb : DyIs w bdb sb ab nb pb eb db) (bdc sc : Bool) (ac : Option Addr) (nc pc : Nat) (ec : Int) (ma : na ≤ 9223372036854775807) (mb : nb ≤ 9223372036854775807) (mc : nc ≤ 9223372036854775807) (hsa : slimB na ea = true) (hsb : slimB nb eb = true) (hsc : slimB nc ec = true) (va : dbad da = false) (vb : dbad db = true) :
    Calls Tryd.prog 7 #[.agg #[.bool bda, .bool sa, .slice aa na pa, .int .i64 ea], .agg #[.bool bdb, .bool sb, .slice ab nb pb, .int .i64 eb], .agg #[.bool bdc, .bool sc, .slice ac nc pc, .int .i64 ec]] w fun o w' => o = .returned (.bool true) ∧ Below w.heap.size w w' := by
  have HSa := fun W => Lib.hid (slim_any W bda sa aa na pa ea ma true hsa)
  have HSb := fun W => Lib.hid (slim_any W bdb sb ab nb pb eb mb true hsb)
  have HSc := fun W => Lib.hid (slim_any W bdc sc ac nc pc ec mc true hsc)
  have HW := fun W ht => Lib.hid (awake_any W ht)
  have Ga := Lib.hid Ha
  have Gb := Lib.hid Hb
  have HVa := fun W h ht => Lib.hid (rvalid_any W bda sa aa na pa ea da h ht)
  rw [va] at HVa
  have nva : (!false) = true := rfl
  rw [nva] at HVa
  have HVb := fun W h ht => Lib.hid (rvalid_any W bdb sb ab nb pb eb db h ht)
  rw [vb] at HVb
  have nvb : (!true) = false := rfl
  rw [nvb] at HVb
  have e1 : ¬ w.heap.size + 1 = w.heap.size := by omega
  have e2 : ¬ w.heap.size + 1 + 1 = w.heap.size := by omega
  have e3 : ¬ w.heap.size + 1 + 1 = w.heap.size + 1 := by omega
  clear hsa hsb hsc va Ha vb Hb
  go_enter Tryd.func7, Tryd.ntmps7
  go_wp2_with fail
  have I0 := ((DyV.made w 27 bda sa (.slice aa na pa) ea).alloc (.cells #[.bool bdb, .bool sb, .slice ab nb pb, .int .i64 eb] 27)).alloc (.cells #[.bool bdc, .bool sc, .slice ac nc pc, .int .i64 ec] 27)
  have I1 := (DyV.made' (w.alloc (.cells #[.bool bda, .bool sa, .slice aa na pa, .int .i64 ea] 27)) 27 bdb sb (.slice ab nb pb) eb (n := w.heap.size + 1) (by rw [World.size_alloc])).alloc (.cells #[.bool bdc, .bool sc, .slice ac nc pc, .int .i64 ec] 27)
  have I2 := DyV.made' ((w.alloc (.cells #[.bool bda, .bool sa, .slice aa na pa, .int .i64 ea] 27)).alloc (.cells #[.bool bdb, .bool sb, .slice ab nb pb, .int .i64 eb] 27)) 27 bdc sc (.slice ac nc pc) ec (n := w.heap.size + 1 + 1) (by rw [World.size_alloc, World.size_alloc])
  have B0 : Below w.heap.size w (((w.alloc (.cells #[.bool bda, .bool sa, .slice aa na pa, .int .i64 ea] 27)).alloc (.cells #[.bool bdb, .bool sb, .slice ab nb pb, .int .i64 eb] 27)).alloc (.cells #[.bool bdc, .bool sc, .slice ac nc pc, .int .i64 ec] 27)) := (by repeat (with_reducible first | refine Below.setCell ?_ (by simp <;> omega) _ | refine Below.alloc ?_ (by simp <;> omega) _ | refine Below.drew ?_ | refine below_drewN ?_ _ | exact Below.refl _ _))
  generalize (((w.alloc (.cells #[.bool bda, .bool sa, .slice aa na pa, .int .i64 ea] 27)).alloc (.cells #[.bool bdb, .bool sb, .slice ab nb pb, .int .i64 eb] 27)).alloc (.cells #[.bool bdc, .bool sc, .slice ac nc pc, .int .i64 ec] 27)) = w0 at I0 I1 I2 B0 ⊢
  generalize w.heap.size + 1 + 1 = b2 at I2 ⊢
  generalize w.heap.size + 1 = b1 at I1 ⊢
  generalize hb0 : w.heap.size = b0 at I0 ⊢
  obtain ⟨ac0, ac1, ac2, ac3, ac4, ac5⟩ := I0
  have Va0 := Lib.hid (DyV.mk ac0 ac1 ac2 ac3 ac4 ac5)
  obtain ⟨bc0, bc1, bc2, bc3, bc4, bc5⟩ := I1
  have Vb0 := Lib.hid (DyV.mk bc0 bc1 bc2 bc3 bc4 bc5)
  obtain ⟨cc0, cc1, cc2, cc3, cc4, cc5⟩ := I2
  have Vc0 := Lib.hid (DyV.mk cc0 cc1 cc2 cc3 cc4 cc5)
  refine (HSa _).out.mono ?_
  rintro e w1 ⟨rfl, hb1⟩
  have Va1 : DyV w1 b0 bda sa (.slice aa na pa) ea := (by refine DyV.below ?_ hb1; (repeat (with_reducible first | refine DyV.drew ?_ | refine DyV.drewN ?_ _ | refine DyV.alloc ?_ _)); exact Va0.out)
  obtain ⟨ac0, ac1, ac2, ac3, ac4, ac5⟩ := Va1
  have Va1 := Lib.hid (DyV.mk ac0 ac1 ac2 ac3 ac4 ac5)
  have Vb1 : DyV w1 b1 bdb sb (.slice ab nb pb) eb := (by refine DyV.below ?_ hb1; (repeat (with_reducible first | refine DyV.drew ?_ | refine DyV.drewN ?_ _ | refine DyV.alloc ?_ _)); exact Vb0.out)
  obtain ⟨bc0, bc1, bc2, bc3, bc4, bc5⟩ := Vb1
  have Vb1 := Lib.hid (DyV.mk bc0 bc1 bc2 bc3 bc4 bc5)
  have Vc1 : DyV w1 b2 bdc sc (.slice ac nc pc) ec := (by refine DyV.below ?_ hb1; (repeat (with_reducible first | refine DyV.drew ?_ | refine DyV.drewN ?_ _ | refine DyV.alloc ?_ _)); exact Vc0.out)
  obtain ⟨cc0, cc1, cc2, cc3, cc4, cc5⟩ := Vc1
  have Vc1 := Lib.hid (DyV.mk cc0 cc1 cc2 cc3 cc4 cc5)
  have B1 := below_box (w := w) (by have hszw := (B0).size; repeat (with_reducible first | refine Below.setCell ?_ (by first | omega | (simp <;> omega)) _ | refine Below.alloc ?_ (by first | omega | (simp <;> omega)) _ | refine Below.drew ?_ | refine below_drewN ?_ _ | exact B0)) hb1
  clear hb1
  go_wp2_with fail
  refine (HSb _).out.mono ?_
  rintro e w2 ⟨rfl, hb2⟩
  have Va2 : DyV w2 b0 bda sa (.slice aa na pa) ea := (by refine DyV.below ?_ hb2; (repeat (with_reducible first | refine DyV.drew ?_ | refine DyV.drewN ?_ _ | refine DyV.alloc ?_ _)); exact Va1.out)
  obtain ⟨ac0, ac1, ac2, ac3, ac4, ac5⟩ := Va2
  have Va2 := Lib.hid (DyV.mk ac0 ac1 ac2 ac3 ac4 ac5)
  have Vb2 : DyV w2 b1 bdb sb (.slice ab nb pb) eb := (by refine DyV.below ?_ hb2; (repeat (with_reducible first | refine DyV.drew ?_ | refine DyV.drewN ?_ _ | refine DyV.alloc ?_ _)); exact Vb1.out)
  obtain ⟨bc0, bc1, bc2, bc3, bc4, bc5⟩ := Vb2
  have Vb2 := Lib.hid (DyV.mk bc0 bc1 bc2 bc3 bc4 bc5)
  have Vc2 : DyV w2 b2 bdc sc (.slice ac nc pc) ec := (by refine DyV.below ?_ hb2; (repeat (with_reducible first | refine DyV.drew ?_ | refine DyV.drewN ?_ _ | refine DyV.alloc ?_ _)); exact Vc1.out)
  obtain ⟨cc0, cc1, cc2, cc3, cc4, cc5⟩ := Vc2
  have Vc2 := Lib.hid (DyV.mk cc0 cc1 cc2 cc3 cc4 cc5)
  have B2 := below_box (w := w) (by have hszw := (B1).size; repeat (with_reducible first | refine Below.setCell ?_ (by first | omega | (simp <;> omega)) _ | refine Below.alloc ?_ (by first | omega | (simp <;> omega)) _ | refine Below.drew ?_ | refine below_drewN ?_ _ | exact B1)) hb2
  clear hb2
  go_wp2_with fail
  refine (HSc _).out.mono ?_
  rintro e w3 ⟨rfl, hb3⟩
  have Va3 : DyV w3 b0 bda sa (.slice aa na pa) ea := (by refine DyV.below ?_ hb3; (repeat (with_reducible first | refine DyV.drew ?_ | refine DyV.drewN ?_ _ | refine DyV.alloc ?_ _)); exact Va2.out)
  obtain ⟨ac0, ac1, ac2, ac3, ac4, ac5⟩ := Va3
  have Va3 := Lib.hid (DyV.mk ac0 ac1 ac2 ac3 ac4 ac5)
  have Vb3 : DyV w3 b1 bdb sb (.slice ab nb pb) eb := (by refine DyV.below ?_ hb3; (repeat (with_reducible first | refine DyV.drew ?_ | refine DyV.drewN ?_ _ | refine DyV.alloc ?_ _)); exact Vb2.out)
  obtain ⟨bc0, bc1, bc2, bc3, bc4, bc5⟩ := Vb3
  have Vb3 := Lib.hid (DyV.mk bc0 bc1 bc2 bc3 bc4 bc5)
  have Vc3 : DyV w3 b2 bdc sc (.slice ac nc pc) ec := (by refine DyV.below ?_ hb3; (repeat (with_reducible first | refine DyV.drew ?_ | refine DyV.drewN ?_ _ | refine DyV.alloc ?_ _)); exact Vc2.out)
  obtain ⟨cc0, cc1, cc2, cc3, cc4, cc5⟩ := Vc3
  have Vc3 := Lib.hid (DyV.mk cc0 cc1 cc2 cc3 cc4 cc5)
  have B3 := below_box (w := w) (by have hszw := (B2).size; repeat (with_reducible first | refine Below.setCell ?_ (by first | omega | (simp <;> omega)) _ | refine Below.alloc ?_ (by first | omega | (simp <;> omega)) _ | refine Below.drew ?_ | refine below_drewN ?_ _ | exact B2)) hb3
  clear hb3
  go_wp2_with fail
  refine (HVa _ (Ga.out.below (by have hszw := (B3).size; repeat (with_reducible first | refine Below.setCell ?_ (by first | omega | (simp <;> omega)) _ | refine Below.alloc ?_ (by first | omega | (simp <;> omega)) _ | refine Below.drew ?_ | refine below_drewN ?_ _ | exact B3))) (hT.below (by have hszw := (B3).size; repeat (with_reducible first | refine Below.setCell ?_ (by first | omega | (simp <;> omega)) _ | refine Below.alloc ?_ (by first | omega | (simp <;> omega)) _ | refine Below.drew ?_ | refine below_drewN ?_ _ | exact B3)))).out.mono ?_
  rintro e w4 ⟨rfl, hb4⟩
  have Va4 : DyV w4 b0 bda sa (.slice aa na pa) ea := (by refine DyV.below ?_ hb4; (repeat (with_reducible first | refine DyV.drew ?_ | refine DyV.drewN ?_ _ | refine DyV.alloc ?_ _)); exact Va3.out)
  obtain ⟨ac0, ac1, ac2, ac3, ac4, ac5⟩ := Va4
  have Va4 := Lib.hid (DyV.mk ac0 ac1 ac2 ac3 ac4 ac5)
  have Vb4 : DyV w4 b1 bdb sb (.slice ab nb pb) eb := (by refine DyV.below ?_ hb4; (repeat (with_reducible first | refine DyV.drew ?_ | refine DyV.drewN ?_ _ | refine DyV.alloc ?_ _)); exact Vb3.out)
  obtain ⟨bc0, bc1, bc2, bc3, bc4, bc5⟩ := Vb4
  have Vb4 := Lib.hid (DyV.mk bc0 bc1 bc2 bc3 bc4 bc5)
  have Vc4 : DyV w4 b2 bdc sc (.slice ac nc pc) ec := (by refine DyV.below ?_ hb4; (repeat (with_reducible first | refine DyV.drew ?_ | refine DyV.drewN ?_ _ | refine DyV.alloc ?_ _)); exact Vc3.out)
  obtain ⟨cc0, cc1, cc2, cc3, cc4, cc5⟩ := Vc4
  have Vc4 := Lib.hid (DyV.mk cc0 cc1 cc2 cc3 cc4 cc5)
  have B4 := below_box (w := w) (by have hszw := (B3).size; repeat (with_reducible first | refine Below.setCell ?_ (by first | omega | (simp <;> omega)) _ | refine Below.alloc ?_ (by first | omega | (simp <;> omega)) _ | refine Below.drew ?_ | refine below_drewN ?_ _ | exact B3)) hb4
  clear hb4
  go_wp2_with fail
  refine (HVb _ (Gb.out.below (by have hszw := (B4).size; repeat (with_reducible first | refine Below.setCell ?_ (by first | omega | (simp <;> omega)) _ | refine Below.alloc ?_ (by first | omega | (simp <;> omega)) _ | refine Below.drew ?_ | refine below_drewN ?_ _ | exact B4))) (hT.below (by have hszw := (B4).size; repeat (with_reducible first | refine Below.setCell ?_ (by first | omega | (simp <;> omega)) _ | refine Below.alloc ?_ (by first | omega | (simp <;> omega)) _ | refine Below.drew ?_ | refine below_drewN ?_ _ | exact B4)))).out.mono ?_
  rintro e w5 ⟨rfl, hb5⟩
  have Va5 : DyV w5 b0 bda sa (.slice aa na pa) ea := (by refine DyV.below ?_ hb5; (repeat (with_reducible first | refine DyV.drew ?_ | refine DyV.drewN ?_ _ | refine DyV.alloc ?_ _)); exact Va4.out)
  obtain ⟨ac0, ac1, ac2, ac3, ac4, ac5⟩ := Va5
  have Va5 := Lib.hid (DyV.mk ac0 ac1 ac2 ac3 ac4 ac5)
  have Vb5 : DyV w5 b1 bdb sb (.slice ab nb pb) eb := (by refine DyV.below ?_ hb5; (repeat (with_reducible first | refine DyV.drew ?_ | refine DyV.drewN ?_ _ | refine DyV.alloc ?_ _)); exact Vb4.out)
  obtain ⟨bc0, bc1, bc2, bc3, bc4, bc5⟩ := Vb5
  have Vb5 := Lib.hid (DyV.mk bc0 bc1 bc2 bc3 bc4 bc5)
  have Vc5 : DyV w5 b2 bdc sc (.slice ac nc pc) ec := (by refine DyV.below ?_ hb5; (repeat (with_reducible first | refine DyV.drew ?_ | refine DyV.drewN ?_ _ | refine DyV.alloc ?_ _)); exact Vc4.out)
  obtain ⟨cc0, cc1, cc2, cc3, cc4, cc5⟩ := Vc5
  have Vc5 := Lib.hid (DyV.mk cc0 cc1 cc2 cc3 cc4 cc5)
  have B5 := below_box (w := w) (by have hszw := (B4).size; repeat (with_reducible first | refine Below.setCell ?_ (by first | omega | (simp <;> omega)) _ | refine Below.alloc ?_ (by first | omega | (simp <;> omega)) _ | refine Below.drew ?_ | refine below_drewN ?_ _ | exact B4)) hb5
  clear hb5
  go_wp2_with fail
  refine (HW _ (hT.below (by have hszw := (B5).size; repeat (with_reducible first | refine Below.setCell ?_ (by first | omega | (simp <;> omega)) _ | refine Below.alloc ?_ (by first | omega | (simp <;> omega)) _ | refine Below.drew ?_ | refine below_drewN ?_ _ | exact B5)))).out.mono ?_
  rintro e w6 ⟨rfl, hb6⟩
  have Va6 : DyV w6 b0 bda sa (.slice aa na pa) ea := (by refine DyV.below ?_ hb6; (repeat (with_reducible first | refine DyV.drew ?_ | refine DyV.drewN ?_ _ | refine DyV.alloc ?_ _)); exact Va5.out)
  obtain ⟨ac0, ac1, ac2, ac3, ac4, ac5⟩ := Va6
  have Va6 := Lib.hid (DyV.mk ac0 ac1 ac2 ac3 ac4 ac5)
  have Vb6 : DyV w6 b1 bdb sb (.slice ab nb pb) eb := (by refine DyV.below ?_ hb6; (repeat (with_reducible first | refine DyV.drew ?_ | refine DyV.drewN ?_ _ | refine DyV.alloc ?_ _)); exact Vb5.out)
  obtain ⟨bc0, bc1, bc2, bc3, bc4, bc5⟩ := Vb6
  have Vb6 := Lib.hid (DyV.mk bc0 bc1 bc2 bc3 bc4 bc5)
  have Vc6 : DyV w6 b2 bdc sc (.slice ac nc pc) ec := (by refine DyV.below ?_ hb6; (repeat (with_reducible first | refine DyV.drew ?_ | refine DyV.drewN ?_ _ | refine DyV.alloc ?_ _)); exact Vc5.out)
  obtain ⟨cc0, cc1, cc2, cc3, cc4, cc5⟩ := Vc6
  have Vc6 := Lib.hid (DyV.mk cc0 cc1 cc2 cc3 cc4 cc5)
  have B6 := below_box (w := w) (by have hszw := (B5).size; repeat (with_reducible first | refine Below.setCell ?_ (by first | omega | (simp <;> omega)) _ | refine Below.alloc ?_ (by first | omega | (simp <;> omega)) _ | refine Below.drew ?_ | refine below_drewN ?_ _ | exact B5)) hb6
  clear hb6
  go_wp2_with fail
  go_ret
  exact ⟨rfl, (by have hszw := (B6).size; repeat (with_reducible first | refine Below.setCell ?_ (by first | omega | (simp <;> omega)) _ | refine Below.alloc ?_ (by first | omega | (simp <;> omega)) _ | refine Below.drew ?_ | refine below_drewN ?_ _ | exact B6))⟩

set_option maxRecDepth 100000 in
set_option maxHeartbeats 2000000 in
theorem ring_vc (w : World) (hT : Tab w) (bda sa : Bool) (aa : Option Addr) (na pa : Nat) (ea : Int) (da : Option (Int × Int)) (Ha : DyIs w bda sa aa na pa ea da) (bdb sb : Bool) (ab : Option Addr) (nb pb : Nat) (eb : Int) (db : Option (Int × Int)) (Hb : DyIs w bdb sb ab nb pb eb db) (bdc sc : Bool) (ac : Option Addr) (nc pc : Nat) (ec : Int) (dc : Option (Int × Int)) (Hc : DyIs w bdc sc ac nc pc ec dc) (ma : na ≤ 9223372036854775807) (mb : nb ≤ 9223372036854775807) (mc : nc ≤ 9223372036854775807) (hsa : slimB na ea = true) (hsb : slimB nb eb = true) (hsc : slimB nc ec = true) (va : dbad da = false) (vb : dbad db = false) (vc : dbad dc = true) :
    Calls Tryd.prog 7 #[.agg #[.bool bda, .bool sa, .slice aa na pa, .int .i64 ea], .agg #[.bool bdb, .bool sb, .slice ab nb pb, .int .i64 eb], .agg #[.bool bdc, .bool sc, .slice ac nc pc, .int .i64 ec]] w fun o w' => o = .returned (.bool true) ∧ Below w.heap.size w w' := by
  have HSa := fun W => Lib.hid (slim_any W bda sa aa na pa ea ma true hsa)
  have HSb := fun W => Lib.hid (slim_any W bdb sb ab nb pb eb mb true hsb)
  have HSc := fun W => Lib.hid (slim_any W bdc sc ac nc pc ec mc true hsc)
  have HW := fun W ht => Lib.hid (awake_any W ht)
  have Ga := Lib.hid Ha
  have Gb := Lib.hid Hb
  have Gc := Lib.hid Hc
  have HVa := fun W h ht => Lib.hid (rvalid_any W bda sa aa na pa ea da h ht)
  rw [va] at HVa
  have nva : (!false) = true := rfl
  rw [nva] at HVa
  have HVb := fun W h ht => Lib.hid (rvalid_any W bdb sb ab nb pb eb db h ht)
  rw [vb] at HVb
  have nvb : (!false) = true := rfl
  rw [nvb] at HVb
  have HVc := fun W h ht => Lib.hid (rvalid_any W bdc sc ac nc pc ec dc h ht)
  rw [vc] at HVc
  have nvc : (!true) = false := rfl
  rw [nvc] at HVc
  have e1 : ¬ w.heap.size + 1 = w.heap.size := by omega
  have e2 : ¬ w.heap.size + 1 + 1 = w.heap.size := by omega
  have e3 : ¬ w.heap.size + 1 + 1 = w.heap.size + 1 := by omega
  clear hsa hsb hsc va Ha vb Hb vc Hc
  go_enter Tryd.func7, Tryd.ntmps7
  go_wp2_with fail
  have I0 := ((DyV.made w 27 bda sa (.slice aa na pa) ea).alloc (.cells #[.bool bdb, .bool sb, .slice ab nb pb, .int .i64 eb] 27)).alloc (.cells #[.bool bdc, .bool sc, .slice ac nc pc, .int .i64 ec] 27)
  have I1 := (DyV.made' (w.alloc (.cells #[.bool bda, .bool sa, .slice aa na pa, .int .i64 ea] 27)) 27 bdb sb (.slice ab nb pb) eb (n := w.heap.size + 1) (by rw [World.size_alloc])).alloc (.cells #[.bool bdc, .bool sc, .slice ac nc pc, .int .i64 ec] 27)
  have I2 := DyV.made' ((w.alloc (.cells #[.bool bda, .bool sa, .slice aa na pa, .int .i64 ea] 27)).alloc (.cells #[.bool bdb, .bool sb, .slice ab nb pb, .int .i64 eb] 27)) 27 bdc sc (.slice ac nc pc) ec (n := w.heap.size + 1 + 1) (by rw [World.size_alloc, World.size_alloc])
  have B0 : Below w.heap.size w (((w.alloc (.cells #[.bool bda, .bool sa, .slice aa na pa, .int .i64 ea] 27)).alloc (.cells #[.bool bdb, .bool sb, .slice ab nb pb, .int .i64 eb] 27)).alloc (.cells #[.bool bdc, .bool sc, .slice ac nc pc, .int .i64 ec] 27)) := (by repeat (with_reducible first | refine Below.setCell ?_ (by simp <;> omega) _ | refine Below.alloc ?_ (by simp <;> omega) _ | refine Below.drew ?_ | refine below_drewN ?_ _ | exact Below.refl _ _))
  generalize (((w.alloc (.cells #[.bool bda, .bool sa, .slice aa na pa, .int .i64 ea] 27)).alloc (.cells #[.bool bdb, .bool sb, .slice ab nb pb, .int .i64 eb] 27)).alloc (.cells #[.bool bdc, .bool sc, .slice ac nc pc, .int .i64 ec] 27)) = w0 at I0 I1 I2 B0 ⊢
  generalize w.heap.size + 1 + 1 = b2 at I2 ⊢
  generalize w.heap.size + 1 = b1 at I1 ⊢
  generalize hb0 : w.heap.size = b0 at I0 ⊢
  obtain ⟨ac0, ac1, ac2, ac3, ac4, ac5⟩ := I0
  have Va0 := Lib.hid (DyV.mk ac0 ac1 ac2 ac3 ac4 ac5)
  obtain ⟨bc0, bc1, bc2, bc3, bc4, bc5⟩ := I1
  have Vb0 := Lib.hid (DyV.mk bc0 bc1 bc2 bc3 bc4 bc5)
  obtain ⟨cc0, cc1, cc2, cc3, cc4, cc5⟩ := I2
  have Vc0 := Lib.hid (DyV.mk cc0 cc1 cc2 cc3 cc4 cc5)
  refine (HSa _).out.mono ?_
  rintro e w1 ⟨rfl, hb1⟩
  have Va1 : DyV w1 b0 bda sa (.slice aa na pa) ea := (by refine DyV.below ?_ hb1; (repeat (with_reducible first | refine DyV.drew ?_ | refine DyV.drewN ?_ _ | refine DyV.alloc ?_ _)); exact Va0.out)
  obtain ⟨ac0, ac1, ac2, ac3, ac4, ac5⟩ := Va1
  have Va1 := Lib.hid (DyV.mk ac0 ac1 ac2 ac3 ac4 ac5)
  have Vb1 : DyV w1 b1 bdb sb (.slice ab nb pb) eb := (by refine DyV.below ?_ hb1; (repeat (with_reducible first | refine DyV.drew ?_ | refine DyV.drewN ?_ _ | refine DyV.alloc ?_ _)); exact Vb0.out)
  obtain ⟨bc0, bc1, bc2, bc3, bc4, bc5⟩ := Vb1
  have Vb1 := Lib.hid (DyV.mk bc0 bc1 bc2 bc3 bc4 bc5)
  have Vc1 : DyV w1 b2 bdc sc (.slice ac nc pc) ec := (by refine DyV.below ?_ hb1; (repeat (with_reducible first | refine DyV.drew ?_ | refine DyV.drewN ?_ _ | refine DyV.alloc ?_ _)); exact Vc0.out)
  obtain ⟨cc0, cc1, cc2, cc3, cc4, cc5⟩ := Vc1
  have Vc1 := Lib.hid (DyV.mk cc0 cc1 cc2 cc3 cc4 cc5)
  have B1 := below_box (w := w) (by have hszw := (B0).size; repeat (with_reducible first | refine Below.setCell ?_ (by first | omega | (simp <;> omega)) _ | refine Below.alloc ?_ (by first | omega | (simp <;> omega)) _ | refine Below.drew ?_ | refine below_drewN ?_ _ | exact B0)) hb1
  clear hb1
  go_wp2_with fail
  refine (HSb _).out.mono ?_
  rintro e w2 ⟨rfl, hb2⟩
  have Va2 : DyV w2 b0 bda sa (.slice aa na pa) ea := (by refine DyV.below ?_ hb2; (repeat (with_reducible first | refine DyV.drew ?_ | refine DyV.drewN ?_ _ | refine DyV.alloc ?_ _)); exact Va1.out)
  obtain ⟨ac0, ac1, ac2, ac3, ac4, ac5⟩ := Va2
  have Va2 := Lib.hid (DyV.mk ac0 ac1 ac2 ac3 ac4 ac5)
  have Vb2 : DyV w2 b1 bdb sb (.slice ab nb pb) eb := (by refine DyV.below ?_ hb2; (repeat (with_reducible first | refine DyV.drew ?_ | refine DyV.drewN ?_ _ | refine DyV.alloc ?_ _)); exact Vb1.out)
  obtain ⟨bc0, bc1, bc2, bc3, bc4, bc5⟩ := Vb2
  have Vb2 := Lib.hid (DyV.mk bc0 bc1 bc2 bc3 bc4 bc5)
  have Vc2 : DyV w2 b2 bdc sc (.slice ac nc pc) ec := (by refine DyV.below ?_ hb2; (repeat (with_reducible first | refine DyV.drew ?_ | refine DyV.drewN ?_ _ | refine DyV.alloc ?_ _)); exact Vc1.out)
  obtain ⟨cc0, cc1, cc2, cc3, cc4, cc5⟩ := Vc2
  have Vc2 := Lib.hid (DyV.mk cc0 cc1 cc2 cc3 cc4 cc5)
  have B2 := below_box (w := w) (by have hszw := (B1).size; repeat (with_reducible first | refine Below.setCell ?_ (by first | omega | (simp <;> omega)) _ | refine Below.alloc ?_ (by first | omega | (simp <;> omega)) _ | refine Below.drew ?_ | refine below_drewN ?_ _ | exact B1)) hb2
  clear hb2
  go_wp2_with fail
  refine (HSc _).out.mono ?_
  rintro e w3 ⟨rfl, hb3⟩
  have Va3 : DyV w3 b0 bda sa (.slice aa na pa) ea := (by refine DyV.below ?_ hb3; (repeat (with_reducible first | refine DyV.drew ?_ | refine DyV.drewN ?_ _ | refine DyV.alloc ?_ _)); exact Va2.out)
  obtain ⟨ac0, ac1, ac2, ac3, ac4, ac5⟩ := Va3
  have Va3 := Lib.hid (DyV.mk ac0 ac1 ac2 ac3 ac4 ac5)
  have Vb3 : DyV w3 b1 bdb sb (.slice ab nb pb) eb := (by refine DyV.below ?_ hb3; (repeat (with_reducible first | refine DyV.drew ?_ | refine DyV.drewN ?_ _ | refine DyV.alloc ?_ _)); exact Vb2.out)
  obtain ⟨bc0, bc1, bc2, bc3, bc4, bc5⟩ := Vb3
  have Vb3 := Lib.hid (DyV.mk bc0 bc1 bc2 bc3 bc4 bc5)
  have Vc3 : DyV w3 b2 bdc sc (.slice ac nc pc) ec := (by refine DyV.below ?_ hb3; (repeat (with_reducible first | refine DyV.drew ?_ | refine DyV.drewN ?_ _ | refine DyV.alloc ?_ _)); exact Vc2.out)
  obtain ⟨cc0, cc1, cc2, cc3, cc4, cc5⟩ := Vc3
  have Vc3 := Lib.hid (DyV.mk cc0 cc1 cc2 cc3 cc4 cc5)
  have B3 := below_box (w := w) (by have hszw := (B2).size; repeat (with_reducible first | refine Below.setCell ?_ (by first | omega | (simp <;> omega)) _ | refine Below.alloc ?_ (by first | omega | (simp <;> omega)) _ | refine Below.drew ?_ | refine below_drewN ?_ _ | exact B2)) hb3
  clear hb3
  go_wp2_with fail
  refine (HVa _ (Ga.out.below (by have hszw := (B3).size; repeat (with_reducible first | refine Below.setCell ?_ (by first | omega | (simp <;> omega)) _ | refine Below.alloc ?_ (by first | omega | (simp <;> omega)) _ | refine Below.drew ?_ | refine below_drewN ?_ _ | exact B3))) (hT.below (by have hszw := (B3).size; repeat (with_reducible first | refine Below.setCell ?_ (by first | omega | (simp <;> omega)) _ | refine Below.alloc ?_ (by first | omega | (simp <;> omega)) _ | refine Below.drew ?_ | refine below_drewN ?_ _ | exact B3)))).out.mono ?_
  rintro e w4 ⟨rfl, hb4⟩
  have Va4 : DyV w4 b0 bda sa (.slice aa na pa) ea := (by refine DyV.below ?_ hb4; (repeat (with_reducible first | refine DyV.drew ?_ | refine DyV.drewN ?_ _ | refine DyV.alloc ?_ _)); exact Va3.out)
  obtain ⟨ac0, ac1, ac2, ac3, ac4, ac5⟩ := Va4
  have Va4 := Lib.hid (DyV.mk ac0 ac1 ac2 ac3 ac4 ac5)
  have Vb4 : DyV w4 b1 bdb sb (.slice ab nb pb) eb := (by refine DyV.below ?_ hb4; (repeat (with_reducible first | refine DyV.drew ?_ | refine DyV.drewN ?_ _ | refine DyV.alloc ?_ _)); exact Vb3.out)
  obtain ⟨bc0, bc1, bc2, bc3, bc4, bc5⟩ := Vb4
  have Vb4 := Lib.hid (DyV.mk bc0 bc1 bc2 bc3 bc4 bc5)
  have Vc4 : DyV w4 b2 bdc sc (.slice ac nc pc) ec := (by refine DyV.below ?_ hb4; (repeat (with_reducible first | refine DyV.drew ?_ | refine DyV.drewN ?_ _ | refine DyV.alloc ?_ _)); exact Vc3.out)
  obtain ⟨cc0, cc1, cc2, cc3, cc4, cc5⟩ := Vc4
  have Vc4 := Lib.hid (DyV.mk cc0 cc1 cc2 cc3 cc4 cc5)
  have B4 := below_box (w := w) (by have hszw := (B3).size; repeat (with_reducible first | refine Below.setCell ?_ (by first | omega | (simp <;> omega)) _ | refine Below.alloc ?_ (by first | omega | (simp <;> omega)) _ | refine Below.drew ?_ | refine below_drewN ?_ _ | exact B3)) hb4
  clear hb4
  go_wp2_with fail
  refine (HVb _ (Gb.out.below (by have hszw := (B4).size; repeat (with_reducible first | refine Below.setCell ?_ (by first | omega | (simp <;> omega)) _ | refine Below.alloc ?_ (by first | omega | (simp <;> omega)) _ | refine Below.drew ?_ | refine below_drewN ?_ _ | exact B4))) (hT.below (by have hszw := (B4).size; repeat (with_reducible first | refine Below.setCell ?_ (by first | omega | (simp <;> omega)) _ | refine Below.alloc ?_ (by first | omega | (simp <;> omega)) _ | refine Below.drew ?_ | refine below_drewN ?_ _ | exact B4)))).out.mono ?_
  rintro e w5 ⟨rfl, hb5⟩
  have Va5 : DyV w5 b0 bda sa (.slice aa na pa) ea := (by refine DyV.below ?_ hb5; (repeat (with_reducible first | refine DyV.drew ?_ | refine DyV.drewN ?_ _ | refine DyV.alloc ?_ _)); exact Va4.out)
  obtain ⟨ac0, ac1, ac2, ac3, ac4, ac5⟩ := Va5
  have Va5 := Lib.hid (DyV.mk ac0 ac1 ac2 ac3 ac4 ac5)
  have Vb5 : DyV w5 b1 bdb sb (.slice ab nb pb) eb := (by refine DyV.below ?_ hb5; (repeat (with_reducible first | refine DyV.drew ?_ | refine DyV.drewN ?_ _ | refine DyV.alloc ?_ _)); exact Vb4.out)
  obtain ⟨bc0, bc1, bc2, bc3, bc4, bc5⟩ := Vb5
  have Vb5 := Lib.hid (DyV.mk bc0 bc1 bc2 bc3 bc4 bc5)
  have Vc5 : DyV w5 b2 bdc sc (.slice ac nc pc) ec := (by refine DyV.below ?_ hb5; (repeat (with_reducible first | refine DyV.drew ?_ | refine DyV.drewN ?_ _ | refine DyV.alloc ?_ _)); exact Vc4.out)
  obtain ⟨cc0, cc1, cc2, cc3, cc4, cc5⟩ := Vc5
  have Vc5 := Lib.hid (DyV.mk cc0 cc1 cc2 cc3 cc4 cc5)
  have B5 := below_box (w := w) (by have hszw := (B4).size; repeat (with_reducible first | refine Below.setCell ?_ (by first | omega | (simp <;> omega)) _ | refine Below.alloc ?_ (by first | omega | (simp <;> omega)) _ | refine Below.drew ?_ | refine below_drewN ?_ _ | exact B4)) hb5
  clear hb5
  go_wp2_with fail
  refine (HVc _ (Gc.out.below (by have hszw := (B5).size; repeat (with_reducible first | refine Below.setCell ?_ (by first | omega | (simp <;> omega)) _ | refine Below.alloc ?_ (by first | omega | (simp <;> omega)) _ | refine Below.drew ?_ | refine below_drewN ?_ _ | exact B5))) (hT.below (by have hszw := (B5).size; repeat (with_reducible first | refine Below.setCell ?_ (by first | omega | (simp <;> omega)) _ | refine Below.alloc ?_ (by first | omega | (simp <;> omega)) _ | refine Below.drew ?_ | refine below_drewN ?_ _ | exact B5)))).out.mono ?_
  rintro e w6 ⟨rfl, hb6⟩
  have Va6 : DyV w6 b0 bda sa (.slice aa na pa) ea := (by refine DyV.below ?_ hb6; (repeat (with_reducible first | refine DyV.drew ?_ | refine DyV.drewN ?_ _ | refine DyV.alloc ?_ _)); exact Va5.out)
  obtain ⟨ac0, ac1, ac2, ac3, ac4, ac5⟩ := Va6
  have Va6 := Lib.hid (DyV.mk ac0 ac1 ac2 ac3 ac4 ac5)
  have Vb6 : DyV w6 b1 bdb sb (.slice ab nb pb) eb := (by refine DyV.below ?_ hb6; (repeat (with_reducible first | refine DyV.drew ?_ | refine DyV.drewN ?_ _ | refine DyV.alloc ?_ _)); exact Vb5.out)
  obtain ⟨bc0, bc1, bc2, bc3, bc4, bc5⟩ := Vb6
  have Vb6 := Lib.hid (DyV.mk bc0 bc1 bc2 bc3 bc4 bc5)
  have Vc6 : DyV w6 b2 bdc sc (.slice ac nc pc) ec := (by refine DyV.below ?_ hb6; (repeat (with_reducible first | refine DyV.drew ?_ | refine DyV.drewN ?_ _ | refine DyV.alloc ?_ _)); exact Vc5.out)
  obtain ⟨cc0, cc1, cc2, cc3, cc4, cc5⟩ := Vc6
  have Vc6 := Lib.hid (DyV.mk cc0 cc1 cc2 cc3 cc4 cc5)
  have B6 := below_box (w := w) (by have hszw := (B5).size; repeat (with_reducible first | refine Below.setCell ?_ (by first | omega | (simp <;> omega)) _ | refine Below.alloc ?_ (by first | omega | (simp <;> omega)) _ | refine Below.drew ?_ | refine below_drewN ?_ _ | exact B5)) hb6
  clear hb6
  go_wp2_with fail
  refine (HW _ (hT.below (by have hszw := (B6).size; repeat (with_reducible first | refine Below.setCell ?_ (by first | omega | (simp <;> omega)) _ | refine Below.alloc ?_ (by first | omega | (simp <;> omega)) _ | refine Below.drew ?_ | refine below_drewN ?_ _ | exact B6)))).out.mono ?_
  rintro e w7 ⟨rfl, hb7⟩
  have Va7 : DyV w7 b0 bda sa (.slice aa na pa) ea := (by refine DyV.below ?_ hb7; (repeat (with_reducible first | refine DyV.drew ?_ | refine DyV.drewN ?_ _ | refine DyV.alloc ?_ _)); exact Va6.out)
  obtain ⟨ac0, ac1, ac2, ac3, ac4, ac5⟩ := Va7
  have Va7 := Lib.hid (DyV.mk ac0 ac1 ac2 ac3 ac4 ac5)
  have Vb7 : DyV w7 b1 bdb sb (.slice ab nb pb) eb := (by refine DyV.below ?_ hb7; (repeat (with_reducible first | refine DyV.drew ?_ | refine DyV.drewN ?_ _ | refine DyV.alloc ?_ _)); exact Vb6.out)
  obtain ⟨bc0, bc1, bc2, bc3, bc4, bc5⟩ := Vb7
  have Vb7 := Lib.hid (DyV.mk bc0 bc1 bc2 bc3 bc4 bc5)
  have Vc7 : DyV w7 b2 bdc sc (.slice ac nc pc) ec := (by refine DyV.below ?_ hb7; (repeat (with_reducible first | refine DyV.drew ?_ | refine DyV.drewN ?_ _ | refine DyV.alloc ?_ _)); exact Vc6.out)
  obtain ⟨cc0, cc1, cc2, cc3, cc4, cc5⟩ := Vc7
  have Vc7 := Lib.hid (DyV.mk cc0 cc1 cc2 cc3 cc4 cc5)
  have B7 := below_box (w := w) (by have hszw := (B6).size; repeat (with_reducible first | refine Below.setCell ?_ (by first | omega | (simp <;> omega)) _ | refine Below.alloc ?_ (by first | omega | (simp <;> omega)) _ | refine Below.drew ?_ | refine below_drewN ?_ _ | exact B6)) hb7
  clear hb7
  go_wp2_with fail
  go_ret
  exact ⟨rfl, (by have hszw := (B7).size; repeat (with_reducible first | refine Below.setCell ?_ (by first | omega | (simp <;> omega)) _ | refine Below.alloc ?_ (by first | omega | (simp <;> omega)) _ | refine Below.drew ?_ | refine below_drewN ?_ _ | exact B7))⟩

set_option maxRecDepth 100000 in
set_option maxHeartbeats 2000000 in
theorem ring_main (w : World) (hT : Tab w) (bda sa : Bool) (aa : Option Addr) (na pa : Nat) (ea : Int) (da : Option (Int × Int)) (Ha : DyIs w bda sa aa na pa ea da) (bdb sb : Bool) (ab : Option Addr) (nb pb : Nat) (eb : Int) (db : Option (Int × Int)) (Hb : DyIs w bdb sb ab nb pb eb db) (bdc sc : Bool) (ac : Option Addr) (nc pc : Nat) (ec : Int) (dc : Option (Int × Int)) (Hc : DyIs w bdc sc ac nc pc ec dc) (ma : na ≤ 9223372036854775807) (mb : nb ≤ 9223372036854775807) (mc : nc ≤ 9223372036854775807) (hsa : slimB na ea = true) (hsb : slimB nb eb = true) (hsc : slimB nc ec = true) (va : dbad da = false) (vb : dbad db = false) (vc : dbad dc = false) (xab yab z0 xs xbc yt ybc yu yac : Option (Int × Int)) (f1 : dadd da db = xab) (f2 : dadd db da = xab) (f3 : dmul da db = yab) (f4 : dmul db da = yab) (f5 : dsub da da = z0) (f6 : cmpI (dman z0) 0 = 0) (f7 : dadd xab dc = xs) (f8 : dadd db dc = xbc) (f9 : dadd da xbc = xs) (f10 : dmul yab dc = yt) (f11 : dmul db dc = ybc) (f12 : dmul da ybc = yt) (f13 : dmul xab dc = yu) (f14 : dmul da dc = yac) (f15 : dadd yac ybc = yu) :
    Calls Tryd.prog 7 #[.agg #[.bool bda, .bool sa, .slice aa na pa, .int .i64 ea], .agg #[.bool bdb, .bool sb, .slice ab nb pb, .int .i64 eb], .agg #[.bool bdc, .bool sc, .slice ac nc pc, .int .i64 ec]] w fun o w' => o = .returned (.bool true) ∧ Below w.heap.size w w' := by
  have HSa := fun W => Lib.hid (slim_any W bda sa aa na pa ea ma true hsa)
  have HSb := fun W => Lib.hid (slim_any W bdb sb ab nb pb eb mb true hsb)
  have HSc := fun W => Lib.hid (slim_any W bdc sc ac nc pc ec mc true hsc)
  have HW := fun W ht => Lib.hid (awake_any W ht)
  have Ga := Lib.hid Ha
  have Gb := Lib.hid Hb
  have Gc := Lib.hid Hc
  have Nxab := Lib.hid (show IsN xab from f1 ▸ isN_add _ _)
  have Nyab := Lib.hid (show IsN yab from f3 ▸ isN_mul _ _)
  have Nz0 := Lib.hid (show IsN z0 from f5 ▸ isN_add _ _)
  have Nxs := Lib.hid (show IsN xs from f7 ▸ isN_add _ _)
  have Nxbc := Lib.hid (show IsN xbc from f8 ▸ isN_add _ _)
  have Nyt := Lib.hid (show IsN yt from f10 ▸ isN_mul _ _)
  have Nybc := Lib.hid (show IsN ybc from f11 ▸ isN_mul _ _)
  have Nyu := Lib.hid (show IsN yu from f13 ▸ isN_mul _ _)
  have Nyac := Lib.hid (show IsN yac from f14 ▸ isN_mul _ _)
  have HVa := fun W h ht => Lib.hid (rvalid_any W bda sa aa na pa ea da h ht)
  rw [va] at HVa
  have nva : (!false) = true := rfl
  rw [nva] at HVa
  have HVb := fun W h ht => Lib.hid (rvalid_any W bdb sb ab nb pb eb db h ht)
  rw [vb] at HVb
  have nvb : (!false) = true := rfl
  rw [nvb] at HVb
  have HVc := fun W h ht => Lib.hid (rvalid_any W bdc sc ac nc pc ec dc h ht)
  rw [vc] at HVc
  have nvc : (!false) = true := rfl
  rw [nvc] at HVc
  have H1 := fun W (h0 : DyIn W bda sa aa na pa ea da) (h1 : DyIn W bdb sb ab nb pb eb db) ht => Lib.hid (dadd_any W _ _ _ _ _ _ _ _ _ _ _ _ _ _ h0 h1 ht )
  rw [f1] at H1
  have H2 := fun W (h0 : DyIn W bdb sb ab nb pb eb db) (h1 : DyIn W bda sa aa na pa ea da) ht => Lib.hid (dadd_any W _ _ _ _ _ _ _ _ _ _ _ _ _ _ h0 h1 ht )
  rw [f2] at H2
  have H3 := fun W b0 q0 (h0 : Mag W b0 (nl (dman xab).natAbs) q0 (dman xab).natAbs) b1 q1 (h1 : Mag W b1 (nl (dman xab).natAbs) q1 (dman xab).natAbs) ht => Lib.hid (same_any W _ _ _ _ _ _ _ _ _ _ _ _ _ _ (dyin_of Nxab.out h0) (dyin_of Nxab.out h1) ht true (by simp))
  have H4 := fun W (h0 : DyIn W bda sa aa na pa ea da) (h1 : DyIn W bdb sb ab nb pb eb db) ht => Lib.hid (dmul_any W _ _ _ _ _ _ _ _ _ _ _ _ _ _ h0 h1 ht )
  rw [f3] at H4
  have H5 := fun W (h0 : DyIn W bdb sb ab nb pb eb db) (h1 : DyIn W bda sa aa na pa ea da) ht => Lib.hid (dmul_any W _ _ _ _ _ _ _ _ _ _ _ _ _ _ h0 h1 ht )
  rw [f4] at H5
  have H6 := fun W b0 q0 (h0 : Mag W b0 (nl (dman yab).natAbs) q0 (dman yab).natAbs) b1 q1 (h1 : Mag W b1 (nl (dman yab).natAbs) q1 (dman yab).natAbs) ht => Lib.hid (same_any W _ _ _ _ _ _ _ _ _ _ _ _ _ _ (dyin_of Nyab.out h0) (dyin_of Nyab.out h1) ht true (by simp))
  have H7 := fun W (h0 : DyIn W bda sa aa na pa ea da) (h1 : DyIn W bda sa aa na pa ea da) ht => Lib.hid (dsub_any W _ _ _ _ _ _ _ _ _ _ _ _ _ _ h0 h1 ht )
  rw [f5] at H7
  have H8 := fun W b0 q0 (h0 : Mag W b0 (nl (dman z0).natAbs) q0 (dman z0).natAbs) ht => Lib.hid (dsign_any W _ _ _ _ _ _ _ (dyin_of Nz0.out h0) ht )
  rw [f6] at H8
  have H9 := fun W (h0 : DyIn W bda sa aa na pa ea da) (h1 : DyIn W bdb sb ab nb pb eb db) ht => Lib.hid (dadd_any W _ _ _ _ _ _ _ _ _ _ _ _ _ _ h0 h1 ht )
  rw [f1] at H9
  have H10 := fun W b0 q0 (h0 : Mag W b0 (nl (dman xab).natAbs) q0 (dman xab).natAbs) (h1 : DyIn W bdc sc ac nc pc ec dc) ht => Lib.hid (dadd_any W _ _ _ _ _ _ _ _ _ _ _ _ _ _ (dyin_of Nxab.out h0) h1 ht )
  rw [f7] at H10
  have H11 := fun W (h0 : DyIn W bdb sb ab nb pb eb db) (h1 : DyIn W bdc sc ac nc pc ec dc) ht => Lib.hid (dadd_any W _ _ _ _ _ _ _ _ _ _ _ _ _ _ h0 h1 ht )
  rw [f8] at H11
  have H12 := fun W (h0 : DyIn W bda sa aa na pa ea da) b1 q1 (h1 : Mag W b1 (nl (dman xbc).natAbs) q1 (dman xbc).natAbs) ht => Lib.hid (dadd_any W _ _ _ _ _ _ _ _ _ _ _ _ _ _ h0 (dyin_of Nxbc.out h1) ht )
  rw [f9] at H12
  have H13 := fun W b0 q0 (h0 : Mag W b0 (nl (dman xs).natAbs) q0 (dman xs).natAbs) b1 q1 (h1 : Mag W b1 (nl (dman xs).natAbs) q1 (dman xs).natAbs) ht => Lib.hid (same_any W _ _ _ _ _ _ _ _ _ _ _ _ _ _ (dyin_of Nxs.out h0) (dyin_of Nxs.out h1) ht true (by simp))
  have H14 := fun W (h0 : DyIn W bda sa aa na pa ea da) (h1 : DyIn W bdb sb ab nb pb eb db) ht => Lib.hid (dmul_any W _ _ _ _ _ _ _ _ _ _ _ _ _ _ h0 h1 ht )
  rw [f3] at H14
  have H15 := fun W b0 q0 (h0 : Mag W b0 (nl (dman yab).natAbs) q0 (dman yab).natAbs) (h1 : DyIn W bdc sc ac nc pc ec dc) ht => Lib.hid (dmul_any W _ _ _ _ _ _ _ _ _ _ _ _ _ _ (dyin_of Nyab.out h0) h1 ht )
  rw [f10] at H15
  have H16 := fun W (h0 : DyIn W bdb sb ab nb pb eb db) (h1 : DyIn W bdc sc ac nc pc ec dc) ht => Lib.hid (dmul_any W _ _ _ _ _ _ _ _ _ _ _ _ _ _ h0 h1 ht )
  rw [f11] at H16
  have H17 := fun W (h0 : DyIn W bda sa aa na pa ea da) b1 q1 (h1 : Mag W b1 (nl (dman ybc).natAbs) q1 (dman ybc).natAbs) ht => Lib.hid (dmul_any W _ _ _ _ _ _ _ _ _ _ _ _ _ _ h0 (dyin_of Nybc.out h1) ht )
  rw [f12] at H17
  have H18 := fun W b0 q0 (h0 : Mag W b0 (nl (dman yt).natAbs) q0 (dman yt).natAbs) b1 q1 (h1 : Mag W b1 (nl (dman yt).natAbs) q1 (dman yt).natAbs) ht => Lib.hid (same_any W _ _ _ _ _ _ _ _ _ _ _ _ _ _ (dyin_of Nyt.out h0) (dyin_of Nyt.out h1) ht true (by simp))
  have H19 := fun W (h0 : DyIn W bda sa aa na pa ea da) (h1 : DyIn W bdb sb ab nb pb eb db) ht => Lib.hid (dadd_any W _ _ _ _ _ _ _ _ _ _ _ _ _ _ h0 h1 ht )
  rw [f1] at H19
  have H20 := fun W b0 q0 (h0 : Mag W b0 (nl (dman xab).natAbs) q0 (dman xab).natAbs) (h1 : DyIn W bdc sc ac nc pc ec dc) ht => Lib.hid (dmul_any W _ _ _ _ _ _ _ _ _ _ _ _ _ _ (dyin_of Nxab.out h0) h1 ht )
  rw [f13] at H20
  have H21 := fun W (h0 : DyIn W bda sa aa na pa ea da) (h1 : DyIn W bdc sc ac nc pc ec dc) ht => Lib.hid (dmul_any W _ _ _ _ _ _ _ _ _ _ _ _ _ _ h0 h1 ht )
  rw [f14] at H21
  have H22 := fun W (h0 : DyIn W bdb sb ab nb pb eb db) (h1 : DyIn W bdc sc ac nc pc ec dc) ht => Lib.hid (dmul_any W _ _ _ _ _ _ _ _ _ _ _ _ _ _ h0 h1 ht )
  rw [f11] at H22
  have H23 := fun W b0 q0 (h0 : Mag W b0 (nl (dman yac).natAbs) q0 (dman yac).natAbs) b1 q1 (h1 : Mag W b1 (nl (dman ybc).natAbs) q1 (dman ybc).natAbs) ht => Lib.hid (dadd_any W _ _ _ _ _ _ _ _ _ _ _ _ _ _ (dyin_of Nyac.out h0) (dyin_of Nybc.out h1) ht )
  rw [f15] at H23
  have H24 := fun W b0 q0 (h0 : Mag W b0 (nl (dman yu).natAbs) q0 (dman yu).natAbs) b1 q1 (h1 : Mag W b1 (nl (dman yu).natAbs) q1 (dman yu).natAbs) ht => Lib.hid (same_any W _ _ _ _ _ _ _ _ _ _ _ _ _ _ (dyin_of Nyu.out h0) (dyin_of Nyu.out h1) ht true (by simp))
  have e1 : ¬ w.heap.size + 1 = w.heap.size := by omega
  have e2 : ¬ w.heap.size + 1 + 1 = w.heap.size := by omega
  have e3 : ¬ w.heap.size + 1 + 1 = w.heap.size + 1 := by omega
  clear va vb vc hsa hsb hsc Ha Hb Hc f1 f2 f3 f4 f5 f6 f7 f8 f9 f10 f11 f12 f13 f14 f15
  go_enter Tryd.func7, Tryd.ntmps7
  go_wp2_with fail
  have I0 := ((DyV.made w 27 bda sa (.slice aa na pa) ea).alloc (.cells #[.bool bdb, .bool sb, .slice ab nb pb, .int .i64 eb] 27)).alloc (.cells #[.bool bdc, .bool sc, .slice ac nc pc, .int .i64 ec] 27)
  have I1 := (DyV.made' (w.alloc (.cells #[.bool bda, .bool sa, .slice aa na pa, .int .i64 ea] 27)) 27 bdb sb (.slice ab nb pb) eb (n := w.heap.size + 1) (by rw [World.size_alloc])).alloc (.cells #[.bool bdc, .bool sc, .slice ac nc pc, .int .i64 ec] 27)
  have I2 := DyV.made' ((w.alloc (.cells #[.bool bda, .bool sa, .slice aa na pa, .int .i64 ea] 27)).alloc (.cells #[.bool bdb, .bool sb, .slice ab nb pb, .int .i64 eb] 27)) 27 bdc sc (.slice ac nc pc) ec (n := w.heap.size + 1 + 1) (by rw [World.size_alloc, World.size_alloc])
  have B0 : Below w.heap.size w (((w.alloc (.cells #[.bool bda, .bool sa, .slice aa na pa, .int .i64 ea] 27)).alloc (.cells #[.bool bdb, .bool sb, .slice ab nb pb, .int .i64 eb] 27)).alloc (.cells #[.bool bdc, .bool sc, .slice ac nc pc, .int .i64 ec] 27)) := (by repeat (with_reducible first | refine Below.setCell ?_ (by simp <;> omega) _ | refine Below.alloc ?_ (by simp <;> omega) _ | refine Below.drew ?_ | refine below_drewN ?_ _ | exact Below.refl _ _))
  generalize (((w.alloc (.cells #[.bool bda, .bool sa, .slice aa na pa, .int .i64 ea] 27)).alloc (.cells #[.bool bdb, .bool sb, .slice ab nb pb, .int .i64 eb] 27)).alloc (.cells #[.bool bdc, .bool sc, .slice ac nc pc, .int .i64 ec] 27)) = w0 at I0 I1 I2 B0 ⊢
  generalize w.heap.size + 1 + 1 = b2 at I2 ⊢
  generalize w.heap.size + 1 = b1 at I1 ⊢
  generalize hb0 : w.heap.size = b0 at I0 ⊢
  obtain ⟨ac0, ac1, ac2, ac3, ac4, ac5⟩ := I0
  have Va0 := Lib.hid (DyV.mk ac0 ac1 ac2 ac3 ac4 ac5)
  obtain ⟨bc0, bc1, bc2, bc3, bc4, bc5⟩ := I1
  have Vb0 := Lib.hid (DyV.mk bc0 bc1 bc2 bc3 bc4 bc5)
  obtain ⟨cc0, cc1, cc2, cc3, cc4, cc5⟩ := I2
  have Vc0 := Lib.hid (DyV.mk cc0 cc1 cc2 cc3 cc4 cc5)
  refine (HSa _).out.mono ?_
  rintro e w1 ⟨rfl, hb1⟩
  have Va1 : DyV w1 b0 bda sa (.slice aa na pa) ea := (by refine DyV.below ?_ hb1; (repeat (with_reducible first | refine DyV.drew ?_ | refine DyV.drewN ?_ _ | refine DyV.alloc ?_ _)); exact Va0.out)
  obtain ⟨ac0, ac1, ac2, ac3, ac4, ac5⟩ := Va1
  have Va1 := Lib.hid (DyV.mk ac0 ac1 ac2 ac3 ac4 ac5)
  have Vb1 : DyV w1 b1 bdb sb (.slice ab nb pb) eb := (by refine DyV.below ?_ hb1; (repeat (with_reducible first | refine DyV.drew ?_ | refine DyV.drewN ?_ _ | refine DyV.alloc ?_ _)); exact Vb0.out)
  obtain ⟨bc0, bc1, bc2, bc3, bc4, bc5⟩ := Vb1
  have Vb1 := Lib.hid (DyV.mk bc0 bc1 bc2 bc3 bc4 bc5)
  have Vc1 : DyV w1 b2 bdc sc (.slice ac nc pc) ec := (by refine DyV.below ?_ hb1; (repeat (with_reducible first | refine DyV.drew ?_ | refine DyV.drewN ?_ _ | refine DyV.alloc ?_ _)); exact Vc0.out)
  obtain ⟨cc0, cc1, cc2, cc3, cc4, cc5⟩ := Vc1
  have Vc1 := Lib.hid (DyV.mk cc0 cc1 cc2 cc3 cc4 cc5)
  have B1 := below_box (w := w) (by have hszw := (B0).size; repeat (with_reducible first | refine Below.setCell ?_ (by first | omega | (simp <;> omega)) _ | refine Below.alloc ?_ (by first | omega | (simp <;> omega)) _ | refine Below.drew ?_ | refine below_drewN ?_ _ | exact B0)) hb1
  clear hb1
  go_wp2_with fail
  refine (HSb _).out.mono ?_
  rintro e w2 ⟨rfl, hb2⟩
  have Va2 : DyV w2 b0 bda sa (.slice aa na pa) ea := (by refine DyV.below ?_ hb2; (repeat (with_reducible first | refine DyV.drew ?_ | refine DyV.drewN ?_ _ | refine DyV.alloc ?_ _)); exact Va1.out)
  obtain ⟨ac0, ac1, ac2, ac3, ac4, ac5⟩ := Va2
  have Va2 := Lib.hid (DyV.mk ac0 ac1 ac2 ac3 ac4 ac5)
  have Vb2 : DyV w2 b1 bdb sb (.slice ab nb pb) eb := (by refine DyV.below ?_ hb2; (repeat (with_reducible first | refine DyV.drew ?_ | refine DyV.drewN ?_ _ | refine DyV.alloc ?_ _)); exact Vb1.out)
  obtain ⟨bc0, bc1, bc2, bc3, bc4, bc5⟩ := Vb2
  have Vb2 := Lib.hid (DyV.mk bc0 bc1 bc2 bc3 bc4 bc5)
  have Vc2 : DyV w2 b2 bdc sc (.slice ac nc pc) ec := (by refine DyV.below ?_ hb2; (repeat (with_reducible first | refine DyV.drew ?_ | refine DyV.drewN ?_ _ | refine DyV.alloc ?_ _)); exact Vc1.out)
  obtain ⟨cc0, cc1, cc2, cc3, cc4, cc5⟩ := Vc2
  have Vc2 := Lib.hid (DyV.mk cc0 cc1 cc2 cc3 cc4 cc5)
  have B2 := below_box (w := w) (by have hszw := (B1).size; repeat (with_reducible first | refine Below.setCell ?_ (by first | omega | (simp <;> omega)) _ | refine Below.alloc ?_ (by first | omega | (simp <;> omega)) _ | refine Below.drew ?_ | refine below_drewN ?_ _ | exact B1)) hb2
  clear hb2
  go_wp2_with fail
  refine (HSc _).out.mono ?_
  rintro e w3 ⟨rfl, hb3⟩
  have Va3 : DyV w3 b0 bda sa (.slice aa na pa) ea := (by refine DyV.below ?_ hb3; (repeat (with_reducible first | refine DyV.drew ?_ | refine DyV.drewN ?_ _ | refine DyV.alloc ?_ _)); exact Va2.out)
  obtain ⟨ac0, ac1, ac2, ac3, ac4, ac5⟩ := Va3
  have Va3 := Lib.hid (DyV.mk ac0 ac1 ac2 ac3 ac4 ac5)
  have Vb3 : DyV w3 b1 bdb sb (.slice ab nb pb) eb := (by refine DyV.below ?_ hb3; (repeat (with_reducible first | refine DyV.drew ?_ | refine DyV.drewN ?_ _ | refine DyV.alloc ?_ _)); exact Vb2.out)
  obtain ⟨bc0, bc1, bc2, bc3, bc4, bc5⟩ := Vb3
  have Vb3 := Lib.hid (DyV.mk bc0 bc1 bc2 bc3 bc4 bc5)
  have Vc3 : DyV w3 b2 bdc sc (.slice ac nc pc) ec := (by refine DyV.below ?_ hb3; (repeat (with_reducible first | refine DyV.drew ?_ | refine DyV.drewN ?_ _ | refine DyV.alloc ?_ _)); exact Vc2.out)
  obtain ⟨cc0, cc1, cc2, cc3, cc4, cc5⟩ := Vc3
  have Vc3 := Lib.hid (DyV.mk cc0 cc1 cc2 cc3 cc4 cc5)
  have B3 := below_box (w := w) (by have hszw := (B2).size; repeat (with_reducible first | refine Below.setCell ?_ (by first | omega | (simp <;> omega)) _ | refine Below.alloc ?_ (by first | omega | (simp <;> omega)) _ | refine Below.drew ?_ | refine below_drewN ?_ _ | exact B2)) hb3
  clear hb3
  go_wp2_with fail
  refine (HVa _ (Ga.out.below (by have hszw := (B3).size; repeat (with_reducible first | refine Below.setCell ?_ (by first | omega | (simp <;> omega)) _ | refine Below.alloc ?_ (by first | omega | (simp <;> omega)) _ | refine Below.drew ?_ | refine below_drewN ?_ _ | exact B3))) (hT.below (by have hszw := (B3).size; repeat (with_reducible first | refine Below.setCell ?_ (by first | omega | (simp <;> omega)) _ | refine Below.alloc ?_ (by first | omega | (simp <;> omega)) _ | refine Below.drew ?_ | refine below_drewN ?_ _ | exact B3)))).out.mono ?_
  rintro e w4 ⟨rfl, hb4⟩
  have Va4 : DyV w4 b0 bda sa (.slice aa na pa) ea := (by refine DyV.below ?_ hb4; (repeat (with_reducible first | refine DyV.drew ?_ | refine DyV.drewN ?_ _ | refine DyV.alloc ?_ _)); exact Va3.out)
  obtain ⟨ac0, ac1, ac2, ac3, ac4, ac5⟩ := Va4
  have Va4 := Lib.hid (DyV.mk ac0 ac1 ac2 ac3 ac4 ac5)
  have Vb4 : DyV w4 b1 bdb sb (.slice ab nb pb) eb := (by refine DyV.below ?_ hb4; (repeat (with_reducible first | refine DyV.drew ?_ | refine DyV.drewN ?_ _ | refine DyV.alloc ?_ _)); exact Vb3.out)
  obtain ⟨bc0, bc1, bc2, bc3, bc4, bc5⟩ := Vb4
  have Vb4 := Lib.hid (DyV.mk bc0 bc1 bc2 bc3 bc4 bc5)
  have Vc4 : DyV w4 b2 bdc sc (.slice ac nc pc) ec := (by refine DyV.below ?_ hb4; (repeat (with_reducible first | refine DyV.drew ?_ | refine DyV.drewN ?_ _ | refine DyV.alloc ?_ _)); exact Vc3.out)
  obtain ⟨cc0, cc1, cc2, cc3, cc4, cc5⟩ := Vc4
  have Vc4 := Lib.hid (DyV.mk cc0 cc1 cc2 cc3 cc4 cc5)
  have B4 := below_box (w := w) (by have hszw := (B3).size; repeat (with_reducible first | refine Below.setCell ?_ (by first | omega | (simp <;> omega)) _ | refine Below.alloc ?_ (by first | omega | (simp <;> omega)) _ | refine Below.drew ?_ | refine below_drewN ?_ _ | exact B3)) hb4
  clear hb4
  go_wp2_with fail
  refine (HVb _ (Gb.out.below (by have hszw := (B4).size; repeat (with_reducible first | refine Below.setCell ?_ (by first | omega | (simp <;> omega)) _ | refine Below.alloc ?_ (by first | omega | (simp <;> omega)) _ | refine Below.drew ?_ | refine below_drewN ?_ _ | exact B4))) (hT.below (by have hszw := (B4).size; repeat (with_reducible first | refine Below.setCell ?_ (by first | omega | (simp <;> omega)) _ | refine Below.alloc ?_ (by first | omega | (simp <;> omega)) _ | refine Below.drew ?_ | refine below_drewN ?_ _ | exact B4)))).out.mono ?_
  rintro e w5 ⟨rfl, hb5⟩
  have Va5 : DyV w5 b0 bda sa (.slice aa na pa) ea := (by refine DyV.below ?_ hb5; (repeat (with_reducible first | refine DyV.drew ?_ | refine DyV.drewN ?_ _ | refine DyV.alloc ?_ _)); exact Va4.out)
  obtain ⟨ac0, ac1, ac2, ac3, ac4, ac5⟩ := Va5
  have Va5 := Lib.hid (DyV.mk ac0 ac1 ac2 ac3 ac4 ac5)
  have Vb5 : DyV w5 b1 bdb sb (.slice ab nb pb) eb := (by refine DyV.below ?_ hb5; (repeat (with_reducible first | refine DyV.drew ?_ | refine DyV.drewN ?_ _ | refine DyV.alloc ?_ _)); exact Vb4.out)
  obtain ⟨bc0, bc1, bc2, bc3, bc4, bc5⟩ := Vb5
  have Vb5 := Lib.hid (DyV.mk bc0 bc1 bc2 bc3 bc4 bc5)
  have Vc5 : DyV w5 b2 bdc sc (.slice ac nc pc) ec := (by refine DyV.below ?_ hb5; (repeat (with_reducible first | refine DyV.drew ?_ | refine DyV.drewN ?_ _ | refine DyV.alloc ?_ _)); exact Vc4.out)
  obtain ⟨cc0, cc1, cc2, cc3, cc4, cc5⟩ := Vc5
  have Vc5 := Lib.hid (DyV.mk cc0 cc1 cc2 cc3 cc4 cc5)
  have B5 := below_box (w := w) (by have hszw := (B4).size; repeat (with_reducible first | refine Below.setCell ?_ (by first | omega | (simp <;> omega)) _ | refine Below.alloc ?_ (by first | omega | (simp <;> omega)) _ | refine Below.drew ?_ | refine below_drewN ?_ _ | exact B4)) hb5
  clear hb5
  go_wp2_with fail
  refine (HVc _ (Gc.out.below (by have hszw := (B5).size; repeat (with_reducible first | refine Below.setCell ?_ (by first | omega | (simp <;> omega)) _ | refine Below.alloc ?_ (by first | omega | (simp <;> omega)) _ | refine Below.drew ?_ | refine below_drewN ?_ _ | exact B5))) (hT.below (by have hszw := (B5).size; repeat (with_reducible first | refine Below.setCell ?_ (by first | omega | (simp <;> omega)) _ | refine Below.alloc ?_ (by first | omega | (simp <;> omega)) _ | refine Below.drew ?_ | refine below_drewN ?_ _ | exact B5)))).out.mono ?_
  rintro e w6 ⟨rfl, hb6⟩
  have Va6 : DyV w6 b0 bda sa (.slice aa na pa) ea := (by refine DyV.below ?_ hb6; (repeat (with_reducible first | refine DyV.drew ?_ | refine DyV.drewN ?_ _ | refine DyV.alloc ?_ _)); exact Va5.out)
  obtain ⟨ac0, ac1, ac2, ac3, ac4, ac5⟩ := Va6
  have Va6 := Lib.hid (DyV.mk ac0 ac1 ac2 ac3 ac4 ac5)
  have Vb6 : DyV w6 b1 bdb sb (.slice ab nb pb) eb := (by refine DyV.below ?_ hb6; (repeat (with_reducible first | refine DyV.drew ?_ | refine DyV.drewN ?_ _ | refine DyV.alloc ?_ _)); exact Vb5.out)
  obtain ⟨bc0, bc1, bc2, bc3, bc4, bc5⟩ := Vb6
  have Vb6 := Lib.hid (DyV.mk bc0 bc1 bc2 bc3 bc4 bc5)
  have Vc6 : DyV w6 b2 bdc sc (.slice ac nc pc) ec := (by refine DyV.below ?_ hb6; (repeat (with_reducible first | refine DyV.drew ?_ | refine DyV.drewN ?_ _ | refine DyV.alloc ?_ _)); exact Vc5.out)
  obtain ⟨cc0, cc1, cc2, cc3, cc4, cc5⟩ := Vc6
  have Vc6 := Lib.hid (DyV.mk cc0 cc1 cc2 cc3 cc4 cc5)
  have B6 := below_box (w := w) (by have hszw := (B5).size; repeat (with_reducible first | refine Below.setCell ?_ (by first | omega | (simp <;> omega)) _ | refine Below.alloc ?_ (by first | omega | (simp <;> omega)) _ | refine Below.drew ?_ | refine below_drewN ?_ _ | exact B5)) hb6
  clear hb6
  go_wp2_with fail
  first
  | go_region_held3 (fun w' => w'.cell? ⟨b0, 0, none⟩ = some (.bool bda) ∧ w'.cell? ⟨b0, 1, none⟩ = some (.bool sa) ∧ w'.cell? ⟨b0, 2, none⟩ = some ((.slice aa na pa)) ∧ w'.cell? ⟨b0, 3, none⟩ = some (.int .i64 ea) ∧ w'.cell? ⟨b1, 0, none⟩ = some (.bool bdb) ∧ w'.cell? ⟨b1, 1, none⟩ = some (.bool sb) ∧ w'.cell? ⟨b1, 2, none⟩ = some ((.slice ab nb pb)) ∧ w'.cell? ⟨b1, 3, none⟩ = some (.int .i64 eb) ∧ w'.cell? ⟨b2, 0, none⟩ = some (.bool bdc) ∧ w'.cell? ⟨b2, 1, none⟩ = some (.bool sc) ∧ w'.cell? ⟨b2, 2, none⟩ = some ((.slice ac nc pc)) ∧ w'.cell? ⟨b2, 3, none⟩ = some (.int .i64 ec)) (first | (go_keep; done) | (go_simp; done))
      (first
        | (go_at_call 31; have xx := B13; refine (H8 _ a5 c5 (by repeat (with_reducible first | refine Mag.set ?_ (fun h => by have := M513 h; omega) _ _ | refine Mag.drew ?_ | refine Mag.alloc ?_ _ | refine Mag.drewN ?_ _ | refine Mag.below ?_ (Below.drew (Below.refl _ _)) | refine Mag.below ?_ ((Below.refl _ _).alloc (Nat.le_refl _) _) | exact M513)) (hT.below (by have hszw := (B13).size; repeat (with_reducible first | refine Below.setCell ?_ (by first | omega | (simp <;> omega)) _ | refine Below.alloc ?_ (by first | omega | (simp <;> omega)) _ | refine Below.drew ?_ | refine below_drewN ?_ _ | exact B13)))).out.mono ?_; rintro e w14 ⟨rfl, hb14⟩; have Va14 : DyV w14 b0 bda sa (.slice aa na pa) ea := (by refine DyV.below ?_ hb14; (repeat (with_reducible first | refine DyV.drew ?_ | refine DyV.drewN ?_ _ | refine DyV.alloc ?_ _)); exact Va13.out); obtain ⟨ac0, ac1, ac2, ac3, ac4, ac5⟩ := Va14; have Va14 := Lib.hid (DyV.mk ac0 ac1 ac2 ac3 ac4 ac5); have Vb14 : DyV w14 b1 bdb sb (.slice ab nb pb) eb := (by refine DyV.below ?_ hb14; (repeat (with_reducible first | refine DyV.drew ?_ | refine DyV.drewN ?_ _ | refine DyV.alloc ?_ _)); exact Vb13.out); obtain ⟨bc0, bc1, bc2, bc3, bc4, bc5⟩ := Vb14; have Vb14 := Lib.hid (DyV.mk bc0 bc1 bc2 bc3 bc4 bc5); have Vc14 : DyV w14 b2 bdc sc (.slice ac nc pc) ec := (by refine DyV.below ?_ hb14; (repeat (with_reducible first | refine DyV.drew ?_ | refine DyV.drewN ?_ _ | refine DyV.alloc ?_ _)); exact Vc13.out); obtain ⟨cc0, cc1, cc2, cc3, cc4, cc5⟩ := Vc14; have Vc14 := Lib.hid (DyV.mk cc0 cc1 cc2 cc3 cc4 cc5); have M514 : Mag w14 a5 (nl (dman z0).natAbs) c5 (dman z0).natAbs := Mag.below (by repeat (with_reducible first | refine Mag.set ?_ (fun h => by have := M513 h; omega) _ _ | refine Mag.drew ?_ | refine Mag.alloc ?_ _ | refine Mag.drewN ?_ _ | refine Mag.below ?_ (Below.drew (Below.refl _ _)) | refine Mag.below ?_ ((Below.refl _ _).alloc (Nat.le_refl _) _) | exact M513)) hb14; have B14 := below_box (w := w) (by have hszw := (B13).size; repeat (with_reducible first | refine Below.setCell ?_ (by first | omega | (simp <;> omega)) _ | refine Below.alloc ?_ (by first | omega | (simp <;> omega)) _ | refine Below.drew ?_ | refine below_drewN ?_ _ | exact B13)) hb14; clear hb14)
        | (go_at_call 30; have xx := B12; refine (H7 _ (Ga.out.1.below (by have hszw := (B12).size; repeat (with_reducible first | refine Below.setCell ?_ (by first | omega | (simp <;> omega)) _ | refine Below.alloc ?_ (by first | omega | (simp <;> omega)) _ | refine Below.drew ?_ | refine below_drewN ?_ _ | exact B12))) (Ga.out.1.below (by have hszw := (B12).size; repeat (with_reducible first | refine Below.setCell ?_ (by first | omega | (simp <;> omega)) _ | refine Below.alloc ?_ (by first | omega | (simp <;> omega)) _ | refine Below.drew ?_ | refine below_drewN ?_ _ | exact B12))) (hT.below (by have hszw := (B12).size; repeat (with_reducible first | refine Below.setCell ?_ (by first | omega | (simp <;> omega)) _ | refine Below.alloc ?_ (by first | omega | (simp <;> omega)) _ | refine Below.drew ?_ | refine below_drewN ?_ _ | exact B12)))).out.mono ?_; rintro e w13 ⟨a5, c5, rfl, M513, hb13, hf13⟩; have Va13 : DyV w13 b0 bda sa (.slice aa na pa) ea := (by refine DyV.below ?_ hb13; (repeat (with_reducible first | refine DyV.drew ?_ | refine DyV.drewN ?_ _ | refine DyV.alloc ?_ _)); exact Va12.out); obtain ⟨ac0, ac1, ac2, ac3, ac4, ac5⟩ := Va13; have Va13 := Lib.hid (DyV.mk ac0 ac1 ac2 ac3 ac4 ac5); have Vb13 : DyV w13 b1 bdb sb (.slice ab nb pb) eb := (by refine DyV.below ?_ hb13; (repeat (with_reducible first | refine DyV.drew ?_ | refine DyV.drewN ?_ _ | refine DyV.alloc ?_ _)); exact Vb12.out); obtain ⟨bc0, bc1, bc2, bc3, bc4, bc5⟩ := Vb13; have Vb13 := Lib.hid (DyV.mk bc0 bc1 bc2 bc3 bc4 bc5); have Vc13 : DyV w13 b2 bdc sc (.slice ac nc pc) ec := (by refine DyV.below ?_ hb13; (repeat (with_reducible first | refine DyV.drew ?_ | refine DyV.drewN ?_ _ | refine DyV.alloc ?_ _)); exact Vc12.out); obtain ⟨cc0, cc1, cc2, cc3, cc4, cc5⟩ := Vc13; have Vc13 := Lib.hid (DyV.mk cc0 cc1 cc2 cc3 cc4 cc5); have B13 := below_box (w := w) (by have hszw := (B12).size; repeat (with_reducible first | refine Below.setCell ?_ (by first | omega | (simp <;> omega)) _ | refine Below.alloc ?_ (by first | omega | (simp <;> omega)) _ | refine Below.drew ?_ | refine below_drewN ?_ _ | exact B12)) hb13; clear hb13; clear hf13)
        | (go_at_call 27; have xx := B11; refine (H6 _ a3 c3 (by repeat (with_reducible first | refine Mag.set ?_ (fun h => by have := M311 h; omega) _ _ | refine Mag.drew ?_ | refine Mag.alloc ?_ _ | refine Mag.drewN ?_ _ | refine Mag.below ?_ (Below.drew (Below.refl _ _)) | refine Mag.below ?_ ((Below.refl _ _).alloc (Nat.le_refl _) _) | exact M311)) a4 c4 (by repeat (with_reducible first | refine Mag.set ?_ (fun h => by have := M411 h; omega) _ _ | refine Mag.drew ?_ | refine Mag.alloc ?_ _ | refine Mag.drewN ?_ _ | refine Mag.below ?_ (Below.drew (Below.refl _ _)) | refine Mag.below ?_ ((Below.refl _ _).alloc (Nat.le_refl _) _) | exact M411)) (hT.below (by have hszw := (B11).size; repeat (with_reducible first | refine Below.setCell ?_ (by first | omega | (simp <;> omega)) _ | refine Below.alloc ?_ (by first | omega | (simp <;> omega)) _ | refine Below.drew ?_ | refine below_drewN ?_ _ | exact B11)))).out.mono ?_; rintro e w12 ⟨rfl, hb12⟩; have Va12 : DyV w12 b0 bda sa (.slice aa na pa) ea := (by refine DyV.below ?_ hb12; (repeat (with_reducible first | refine DyV.drew ?_ | refine DyV.drewN ?_ _ | refine DyV.alloc ?_ _)); exact Va11.out); obtain ⟨ac0, ac1, ac2, ac3, ac4, ac5⟩ := Va12; have Va12 := Lib.hid (DyV.mk ac0 ac1 ac2 ac3 ac4 ac5); have Vb12 : DyV w12 b1 bdb sb (.slice ab nb pb) eb := (by refine DyV.below ?_ hb12; (repeat (with_reducible first | refine DyV.drew ?_ | refine DyV.drewN ?_ _ | refine DyV.alloc ?_ _)); exact Vb11.out); obtain ⟨bc0, bc1, bc2, bc3, bc4, bc5⟩ := Vb12; have Vb12 := Lib.hid (DyV.mk bc0 bc1 bc2 bc3 bc4 bc5); have Vc12 : DyV w12 b2 bdc sc (.slice ac nc pc) ec := (by refine DyV.below ?_ hb12; (repeat (with_reducible first | refine DyV.drew ?_ | refine DyV.drewN ?_ _ | refine DyV.alloc ?_ _)); exact Vc11.out); obtain ⟨cc0, cc1, cc2, cc3, cc4, cc5⟩ := Vc12; have Vc12 := Lib.hid (DyV.mk cc0 cc1 cc2 cc3 cc4 cc5); have M312 : Mag w12 a3 (nl (dman yab).natAbs) c3 (dman yab).natAbs := Mag.below (by repeat (with_reducible first | refine Mag.set ?_ (fun h => by have := M311 h; omega) _ _ | refine Mag.drew ?_ | refine Mag.alloc ?_ _ | refine Mag.drewN ?_ _ | refine Mag.below ?_ (Below.drew (Below.refl _ _)) | refine Mag.below ?_ ((Below.refl _ _).alloc (Nat.le_refl _) _) | exact M311)) hb12; have M412 : Mag w12 a4 (nl (dman yab).natAbs) c4 (dman yab).natAbs := Mag.below (by repeat (with_reducible first | refine Mag.set ?_ (fun h => by have := M411 h; omega) _ _ | refine Mag.drew ?_ | refine Mag.alloc ?_ _ | refine Mag.drewN ?_ _ | refine Mag.below ?_ (Below.drew (Below.refl _ _)) | refine Mag.below ?_ ((Below.refl _ _).alloc (Nat.le_refl _) _) | exact M411)) hb12; have B12 := below_box (w := w) (by have hszw := (B11).size; repeat (with_reducible first | refine Below.setCell ?_ (by first | omega | (simp <;> omega)) _ | refine Below.alloc ?_ (by first | omega | (simp <;> omega)) _ | refine Below.drew ?_ | refine below_drewN ?_ _ | exact B11)) hb12; clear hb12)
        | (go_at_call 25; have xx := B10; refine (H5 _ (Gb.out.1.below (by have hszw := (B10).size; repeat (with_reducible first | refine Below.setCell ?_ (by first | omega | (simp <;> omega)) _ | refine Below.alloc ?_ (by first | omega | (simp <;> omega)) _ | refine Below.drew ?_ | refine below_drewN ?_ _ | exact B10))) (Ga.out.1.below (by have hszw := (B10).size; repeat (with_reducible first | refine Below.setCell ?_ (by first | omega | (simp <;> omega)) _ | refine Below.alloc ?_ (by first | omega | (simp <;> omega)) _ | refine Below.drew ?_ | refine below_drewN ?_ _ | exact B10))) (hT.below (by have hszw := (B10).size; repeat (with_reducible first | refine Below.setCell ?_ (by first | omega | (simp <;> omega)) _ | refine Below.alloc ?_ (by first | omega | (simp <;> omega)) _ | refine Below.drew ?_ | refine below_drewN ?_ _ | exact B10)))).out.mono ?_; rintro e w11 ⟨a4, c4, rfl, M411, hb11, hf11⟩; have Va11 : DyV w11 b0 bda sa (.slice aa na pa) ea := (by refine DyV.below ?_ hb11; (repeat (with_reducible first | refine DyV.drew ?_ | refine DyV.drewN ?_ _ | refine DyV.alloc ?_ _)); exact Va10.out); obtain ⟨ac0, ac1, ac2, ac3, ac4, ac5⟩ := Va11; have Va11 := Lib.hid (DyV.mk ac0 ac1 ac2 ac3 ac4 ac5); have Vb11 : DyV w11 b1 bdb sb (.slice ab nb pb) eb := (by refine DyV.below ?_ hb11; (repeat (with_reducible first | refine DyV.drew ?_ | refine DyV.drewN ?_ _ | refine DyV.alloc ?_ _)); exact Vb10.out); obtain ⟨bc0, bc1, bc2, bc3, bc4, bc5⟩ := Vb11; have Vb11 := Lib.hid (DyV.mk bc0 bc1 bc2 bc3 bc4 bc5); have Vc11 : DyV w11 b2 bdc sc (.slice ac nc pc) ec := (by refine DyV.below ?_ hb11; (repeat (with_reducible first | refine DyV.drew ?_ | refine DyV.drewN ?_ _ | refine DyV.alloc ?_ _)); exact Vc10.out); obtain ⟨cc0, cc1, cc2, cc3, cc4, cc5⟩ := Vc11; have Vc11 := Lib.hid (DyV.mk cc0 cc1 cc2 cc3 cc4 cc5); have M311 : Mag w11 a3 (nl (dman yab).natAbs) c3 (dman yab).natAbs := Mag.below (by repeat (with_reducible first | refine Mag.set ?_ (fun h => by have := M310 h; omega) _ _ | refine Mag.drew ?_ | refine Mag.alloc ?_ _ | refine Mag.drewN ?_ _ | refine Mag.below ?_ (Below.drew (Below.refl _ _)) | refine Mag.below ?_ ((Below.refl _ _).alloc (Nat.le_refl _) _) | exact M310)) hb11; have B11 := below_box (w := w) (by have hszw := (B10).size; repeat (with_reducible first | refine Below.setCell ?_ (by first | omega | (simp <;> omega)) _ | refine Below.alloc ?_ (by first | omega | (simp <;> omega)) _ | refine Below.drew ?_ | refine below_drewN ?_ _ | exact B10)) hb11; clear hb11; clear hf11)
        | (go_at_call 25; have xx := B9; refine (H4 _ (Ga.out.1.below (by have hszw := (B9).size; repeat (with_reducible first | refine Below.setCell ?_ (by first | omega | (simp <;> omega)) _ | refine Below.alloc ?_ (by first | omega | (simp <;> omega)) _ | refine Below.drew ?_ | refine below_drewN ?_ _ | exact B9))) (Gb.out.1.below (by have hszw := (B9).size; repeat (with_reducible first | refine Below.setCell ?_ (by first | omega | (simp <;> omega)) _ | refine Below.alloc ?_ (by first | omega | (simp <;> omega)) _ | refine Below.drew ?_ | refine below_drewN ?_ _ | exact B9))) (hT.below (by have hszw := (B9).size; repeat (with_reducible first | refine Below.setCell ?_ (by first | omega | (simp <;> omega)) _ | refine Below.alloc ?_ (by first | omega | (simp <;> omega)) _ | refine Below.drew ?_ | refine below_drewN ?_ _ | exact B9)))).out.mono ?_; rintro e w10 ⟨a3, c3, rfl, M310, hb10, hf10⟩; have Va10 : DyV w10 b0 bda sa (.slice aa na pa) ea := (by refine DyV.below ?_ hb10; (repeat (with_reducible first | refine DyV.drew ?_ | refine DyV.drewN ?_ _ | refine DyV.alloc ?_ _)); exact Va9.out); obtain ⟨ac0, ac1, ac2, ac3, ac4, ac5⟩ := Va10; have Va10 := Lib.hid (DyV.mk ac0 ac1 ac2 ac3 ac4 ac5); have Vb10 : DyV w10 b1 bdb sb (.slice ab nb pb) eb := (by refine DyV.below ?_ hb10; (repeat (with_reducible first | refine DyV.drew ?_ | refine DyV.drewN ?_ _ | refine DyV.alloc ?_ _)); exact Vb9.out); obtain ⟨bc0, bc1, bc2, bc3, bc4, bc5⟩ := Vb10; have Vb10 := Lib.hid (DyV.mk bc0 bc1 bc2 bc3 bc4 bc5); have Vc10 : DyV w10 b2 bdc sc (.slice ac nc pc) ec := (by refine DyV.below ?_ hb10; (repeat (with_reducible first | refine DyV.drew ?_ | refine DyV.drewN ?_ _ | refine DyV.alloc ?_ _)); exact Vc9.out); obtain ⟨cc0, cc1, cc2, cc3, cc4, cc5⟩ := Vc10; have Vc10 := Lib.hid (DyV.mk cc0 cc1 cc2 cc3 cc4 cc5); have B10 := below_box (w := w) (by have hszw := (B9).size; repeat (with_reducible first | refine Below.setCell ?_ (by first | omega | (simp <;> omega)) _ | refine Below.alloc ?_ (by first | omega | (simp <;> omega)) _ | refine Below.drew ?_ | refine below_drewN ?_ _ | exact B9)) hb10; clear hb10; clear hf10)
        | (go_at_call 27; have xx := B8; refine (H3 _ a1 c1 (by repeat (with_reducible first | refine Mag.set ?_ (fun h => by have := M18 h; omega) _ _ | refine Mag.drew ?_ | refine Mag.alloc ?_ _ | refine Mag.drewN ?_ _ | refine Mag.below ?_ (Below.drew (Below.refl _ _)) | refine Mag.below ?_ ((Below.refl _ _).alloc (Nat.le_refl _) _) | exact M18)) a2 c2 (by repeat (with_reducible first | refine Mag.set ?_ (fun h => by have := M28 h; omega) _ _ | refine Mag.drew ?_ | refine Mag.alloc ?_ _ | refine Mag.drewN ?_ _ | refine Mag.below ?_ (Below.drew (Below.refl _ _)) | refine Mag.below ?_ ((Below.refl _ _).alloc (Nat.le_refl _) _) | exact M28)) (hT.below (by have hszw := (B8).size; repeat (with_reducible first | refine Below.setCell ?_ (by first | omega | (simp <;> omega)) _ | refine Below.alloc ?_ (by first | omega | (simp <;> omega)) _ | refine Below.drew ?_ | refine below_drewN ?_ _ | exact B8)))).out.mono ?_; rintro e w9 ⟨rfl, hb9⟩; have Va9 : DyV w9 b0 bda sa (.slice aa na pa) ea := (by refine DyV.below ?_ hb9; (repeat (with_reducible first | refine DyV.drew ?_ | refine DyV.drewN ?_ _ | refine DyV.alloc ?_ _)); exact Va8.out); obtain ⟨ac0, ac1, ac2, ac3, ac4, ac5⟩ := Va9; have Va9 := Lib.hid (DyV.mk ac0 ac1 ac2 ac3 ac4 ac5); have Vb9 : DyV w9 b1 bdb sb (.slice ab nb pb) eb := (by refine DyV.below ?_ hb9; (repeat (with_reducible first | refine DyV.drew ?_ | refine DyV.drewN ?_ _ | refine DyV.alloc ?_ _)); exact Vb8.out); obtain ⟨bc0, bc1, bc2, bc3, bc4, bc5⟩ := Vb9; have Vb9 := Lib.hid (DyV.mk bc0 bc1 bc2 bc3 bc4 bc5); have Vc9 : DyV w9 b2 bdc sc (.slice ac nc pc) ec := (by refine DyV.below ?_ hb9; (repeat (with_reducible first | refine DyV.drew ?_ | refine DyV.drewN ?_ _ | refine DyV.alloc ?_ _)); exact Vc8.out); obtain ⟨cc0, cc1, cc2, cc3, cc4, cc5⟩ := Vc9; have Vc9 := Lib.hid (DyV.mk cc0 cc1 cc2 cc3 cc4 cc5); have M19 : Mag w9 a1 (nl (dman xab).natAbs) c1 (dman xab).natAbs := Mag.below (by repeat (with_reducible first | refine Mag.set ?_ (fun h => by have := M18 h; omega) _ _ | refine Mag.drew ?_ | refine Mag.alloc ?_ _ | refine Mag.drewN ?_ _ | refine Mag.below ?_ (Below.drew (Below.refl _ _)) | refine Mag.below ?_ ((Below.refl _ _).alloc (Nat.le_refl _) _) | exact M18)) hb9; have M29 : Mag w9 a2 (nl (dman xab).natAbs) c2 (dman xab).natAbs := Mag.below (by repeat (with_reducible first | refine Mag.set ?_ (fun h => by have := M28 h; omega) _ _ | refine Mag.drew ?_ | refine Mag.alloc ?_ _ | refine Mag.drewN ?_ _ | refine Mag.below ?_ (Below.drew (Below.refl _ _)) | refine Mag.below ?_ ((Below.refl _ _).alloc (Nat.le_refl _) _) | exact M28)) hb9; have B9 := below_box (w := w) (by have hszw := (B8).size; repeat (with_reducible first | refine Below.setCell ?_ (by first | omega | (simp <;> omega)) _ | refine Below.alloc ?_ (by first | omega | (simp <;> omega)) _ | refine Below.drew ?_ | refine below_drewN ?_ _ | exact B8)) hb9; clear hb9)
        | (go_at_call 11; have xx := B7; refine (H2 _ (Gb.out.1.below (by have hszw := (B7).size; repeat (with_reducible first | refine Below.setCell ?_ (by first | omega | (simp <;> omega)) _ | refine Below.alloc ?_ (by first | omega | (simp <;> omega)) _ | refine Below.drew ?_ | refine below_drewN ?_ _ | exact B7))) (Ga.out.1.below (by have hszw := (B7).size; repeat (with_reducible first | refine Below.setCell ?_ (by first | omega | (simp <;> omega)) _ | refine Below.alloc ?_ (by first | omega | (simp <;> omega)) _ | refine Below.drew ?_ | refine below_drewN ?_ _ | exact B7))) (hT.below (by have hszw := (B7).size; repeat (with_reducible first | refine Below.setCell ?_ (by first | omega | (simp <;> omega)) _ | refine Below.alloc ?_ (by first | omega | (simp <;> omega)) _ | refine Below.drew ?_ | refine below_drewN ?_ _ | exact B7)))).out.mono ?_; rintro e w8 ⟨a2, c2, rfl, M28, hb8, hf8⟩; have Va8 : DyV w8 b0 bda sa (.slice aa na pa) ea := (by refine DyV.below ?_ hb8; (repeat (with_reducible first | refine DyV.drew ?_ | refine DyV.drewN ?_ _ | refine DyV.alloc ?_ _)); exact Va7.out); obtain ⟨ac0, ac1, ac2, ac3, ac4, ac5⟩ := Va8; have Va8 := Lib.hid (DyV.mk ac0 ac1 ac2 ac3 ac4 ac5); have Vb8 : DyV w8 b1 bdb sb (.slice ab nb pb) eb := (by refine DyV.below ?_ hb8; (repeat (with_reducible first | refine DyV.drew ?_ | refine DyV.drewN ?_ _ | refine DyV.alloc ?_ _)); exact Vb7.out); obtain ⟨bc0, bc1, bc2, bc3, bc4, bc5⟩ := Vb8; have Vb8 := Lib.hid (DyV.mk bc0 bc1 bc2 bc3 bc4 bc5); have Vc8 : DyV w8 b2 bdc sc (.slice ac nc pc) ec := (by refine DyV.below ?_ hb8; (repeat (with_reducible first | refine DyV.drew ?_ | refine DyV.drewN ?_ _ | refine DyV.alloc ?_ _)); exact Vc7.out); obtain ⟨cc0, cc1, cc2, cc3, cc4, cc5⟩ := Vc8; have Vc8 := Lib.hid (DyV.mk cc0 cc1 cc2 cc3 cc4 cc5); have M18 : Mag w8 a1 (nl (dman xab).natAbs) c1 (dman xab).natAbs := Mag.below (by repeat (with_reducible first | refine Mag.set ?_ (fun h => by have := M17 h; omega) _ _ | refine Mag.drew ?_ | refine Mag.alloc ?_ _ | refine Mag.drewN ?_ _ | refine Mag.below ?_ (Below.drew (Below.refl _ _)) | refine Mag.below ?_ ((Below.refl _ _).alloc (Nat.le_refl _) _) | exact M17)) hb8; have B8 := below_box (w := w) (by have hszw := (B7).size; repeat (with_reducible first | refine Below.setCell ?_ (by first | omega | (simp <;> omega)) _ | refine Below.alloc ?_ (by first | omega | (simp <;> omega)) _ | refine Below.drew ?_ | refine below_drewN ?_ _ | exact B7)) hb8; clear hb8; clear hf8)
        | (go_at_call 11; have xx := B6; refine (H1 _ (Ga.out.1.below (by have hszw := (B6).size; repeat (with_reducible first | refine Below.setCell ?_ (by first | omega | (simp <;> omega)) _ | refine Below.alloc ?_ (by first | omega | (simp <;> omega)) _ | refine Below.drew ?_ | refine below_drewN ?_ _ | exact B6))) (Gb.out.1.below (by have hszw := (B6).size; repeat (with_reducible first | refine Below.setCell ?_ (by first | omega | (simp <;> omega)) _ | refine Below.alloc ?_ (by first | omega | (simp <;> omega)) _ | refine Below.drew ?_ | refine below_drewN ?_ _ | exact B6))) (hT.below (by have hszw := (B6).size; repeat (with_reducible first | refine Below.setCell ?_ (by first | omega | (simp <;> omega)) _ | refine Below.alloc ?_ (by first | omega | (simp <;> omega)) _ | refine Below.drew ?_ | refine below_drewN ?_ _ | exact B6)))).out.mono ?_; rintro e w7 ⟨a1, c1, rfl, M17, hb7, hf7⟩; have Va7 : DyV w7 b0 bda sa (.slice aa na pa) ea := (by refine DyV.below ?_ hb7; (repeat (with_reducible first | refine DyV.drew ?_ | refine DyV.drewN ?_ _ | refine DyV.alloc ?_ _)); exact Va6.out); obtain ⟨ac0, ac1, ac2, ac3, ac4, ac5⟩ := Va7; have Va7 := Lib.hid (DyV.mk ac0 ac1 ac2 ac3 ac4 ac5); have Vb7 : DyV w7 b1 bdb sb (.slice ab nb pb) eb := (by refine DyV.below ?_ hb7; (repeat (with_reducible first | refine DyV.drew ?_ | refine DyV.drewN ?_ _ | refine DyV.alloc ?_ _)); exact Vb6.out); obtain ⟨bc0, bc1, bc2, bc3, bc4, bc5⟩ := Vb7; have Vb7 := Lib.hid (DyV.mk bc0 bc1 bc2 bc3 bc4 bc5); have Vc7 : DyV w7 b2 bdc sc (.slice ac nc pc) ec := (by refine DyV.below ?_ hb7; (repeat (with_reducible first | refine DyV.drew ?_ | refine DyV.drewN ?_ _ | refine DyV.alloc ?_ _)); exact Vc6.out); obtain ⟨cc0, cc1, cc2, cc3, cc4, cc5⟩ := Vc7; have Vc7 := Lib.hid (DyV.mk cc0 cc1 cc2 cc3 cc4 cc5); have B7 := below_box (w := w) (by have hszw := (B6).size; repeat (with_reducible first | refine Below.setCell ?_ (by first | omega | (simp <;> omega)) _ | refine Below.alloc ?_ (by first | omega | (simp <;> omega)) _ | refine Below.drew ?_ | refine below_drewN ?_ _ | exact B6)) hb7; clear hb7; clear hf7)
        | fail)
  | fail "region"
  all_goals go_wp2_with fail
  first
  | go_region_held3 (fun w' => w'.cell? ⟨b0, 0, none⟩ = some (.bool bda) ∧ w'.cell? ⟨b0, 1, none⟩ = some (.bool sa) ∧ w'.cell? ⟨b0, 2, none⟩ = some ((.slice aa na pa)) ∧ w'.cell? ⟨b0, 3, none⟩ = some (.int .i64 ea) ∧ w'.cell? ⟨b1, 0, none⟩ = some (.bool bdb) ∧ w'.cell? ⟨b1, 1, none⟩ = some (.bool sb) ∧ w'.cell? ⟨b1, 2, none⟩ = some ((.slice ab nb pb)) ∧ w'.cell? ⟨b1, 3, none⟩ = some (.int .i64 eb) ∧ w'.cell? ⟨b2, 0, none⟩ = some (.bool bdc) ∧ w'.cell? ⟨b2, 1, none⟩ = some (.bool sc) ∧ w'.cell? ⟨b2, 2, none⟩ = some ((.slice ac nc pc)) ∧ w'.cell? ⟨b2, 3, none⟩ = some (.int .i64 ec)) (first | (go_keep; done) | (go_simp; done))
      (first
        | (go_at_call 27; have xx := B23; refine (H18 _ a6 c6 (by repeat (with_reducible first | refine Mag.set ?_ (fun h => by have := M623 h; omega) _ _ | refine Mag.drew ?_ | refine Mag.alloc ?_ _ | refine Mag.drewN ?_ _ | refine Mag.below ?_ (Below.drew (Below.refl _ _)) | refine Mag.below ?_ ((Below.refl _ _).alloc (Nat.le_refl _) _) | exact M623)) a8 c8 (by repeat (with_reducible first | refine Mag.set ?_ (fun h => by have := M823 h; omega) _ _ | refine Mag.drew ?_ | refine Mag.alloc ?_ _ | refine Mag.drewN ?_ _ | refine Mag.below ?_ (Below.drew (Below.refl _ _)) | refine Mag.below ?_ ((Below.refl _ _).alloc (Nat.le_refl _) _) | exact M823)) (hT.below (by have hszw := (B23).size; repeat (with_reducible first | refine Below.setCell ?_ (by first | omega | (simp <;> omega)) _ | refine Below.alloc ?_ (by first | omega | (simp <;> omega)) _ | refine Below.drew ?_ | refine below_drewN ?_ _ | exact B23)))).out.mono ?_; rintro e w24 ⟨rfl, hb24⟩; have Va24 : DyV w24 b0 bda sa (.slice aa na pa) ea := (by refine DyV.below ?_ hb24; (repeat (with_reducible first | refine DyV.drew ?_ | refine DyV.drewN ?_ _ | refine DyV.alloc ?_ _)); exact Va23.out); obtain ⟨ac0, ac1, ac2, ac3, ac4, ac5⟩ := Va24; have Va24 := Lib.hid (DyV.mk ac0 ac1 ac2 ac3 ac4 ac5); have Vb24 : DyV w24 b1 bdb sb (.slice ab nb pb) eb := (by refine DyV.below ?_ hb24; (repeat (with_reducible first | refine DyV.drew ?_ | refine DyV.drewN ?_ _ | refine DyV.alloc ?_ _)); exact Vb23.out); obtain ⟨bc0, bc1, bc2, bc3, bc4, bc5⟩ := Vb24; have Vb24 := Lib.hid (DyV.mk bc0 bc1 bc2 bc3 bc4 bc5); have Vc24 : DyV w24 b2 bdc sc (.slice ac nc pc) ec := (by refine DyV.below ?_ hb24; (repeat (with_reducible first | refine DyV.drew ?_ | refine DyV.drewN ?_ _ | refine DyV.alloc ?_ _)); exact Vc23.out); obtain ⟨cc0, cc1, cc2, cc3, cc4, cc5⟩ := Vc24; have Vc24 := Lib.hid (DyV.mk cc0 cc1 cc2 cc3 cc4 cc5); have M624 : Mag w24 a6 (nl (dman yt).natAbs) c6 (dman yt).natAbs := Mag.below (by repeat (with_reducible first | refine Mag.set ?_ (fun h => by have := M623 h; omega) _ _ | refine Mag.drew ?_ | refine Mag.alloc ?_ _ | refine Mag.drewN ?_ _ | refine Mag.below ?_ (Below.drew (Below.refl _ _)) | refine Mag.below ?_ ((Below.refl _ _).alloc (Nat.le_refl _) _) | exact M623)) hb24; have M824 : Mag w24 a8 (nl (dman yt).natAbs) c8 (dman yt).natAbs := Mag.below (by repeat (with_reducible first | refine Mag.set ?_ (fun h => by have := M823 h; omega) _ _ | refine Mag.drew ?_ | refine Mag.alloc ?_ _ | refine Mag.drewN ?_ _ | refine Mag.below ?_ (Below.drew (Below.refl _ _)) | refine Mag.below ?_ ((Below.refl _ _).alloc (Nat.le_refl _) _) | exact M823)) hb24; have B24 := below_box (w := w) (by have hszw := (B23).size; repeat (with_reducible first | refine Below.setCell ?_ (by first | omega | (simp <;> omega)) _ | refine Below.alloc ?_ (by first | omega | (simp <;> omega)) _ | refine Below.drew ?_ | refine below_drewN ?_ _ | exact B23)) hb24; clear hb24)
        | (go_at_call 25; have xx := B22; refine (H17 _ (Ga.out.1.below (by have hszw := (B22).size; repeat (with_reducible first | refine Below.setCell ?_ (by first | omega | (simp <;> omega)) _ | refine Below.alloc ?_ (by first | omega | (simp <;> omega)) _ | refine Below.drew ?_ | refine below_drewN ?_ _ | exact B22))) a7 c7 (by repeat (with_reducible first | refine Mag.set ?_ (fun h => by have := M722 h; omega) _ _ | refine Mag.drew ?_ | refine Mag.alloc ?_ _ | refine Mag.drewN ?_ _ | refine Mag.below ?_ (Below.drew (Below.refl _ _)) | refine Mag.below ?_ ((Below.refl _ _).alloc (Nat.le_refl _) _) | exact M722)) (hT.below (by have hszw := (B22).size; repeat (with_reducible first | refine Below.setCell ?_ (by first | omega | (simp <;> omega)) _ | refine Below.alloc ?_ (by first | omega | (simp <;> omega)) _ | refine Below.drew ?_ | refine below_drewN ?_ _ | exact B22)))).out.mono ?_; rintro e w23 ⟨a8, c8, rfl, M823, hb23, hf23⟩; have Va23 : DyV w23 b0 bda sa (.slice aa na pa) ea := (by refine DyV.below ?_ hb23; (repeat (with_reducible first | refine DyV.drew ?_ | refine DyV.drewN ?_ _ | refine DyV.alloc ?_ _)); exact Va22.out); obtain ⟨ac0, ac1, ac2, ac3, ac4, ac5⟩ := Va23; have Va23 := Lib.hid (DyV.mk ac0 ac1 ac2 ac3 ac4 ac5); have Vb23 : DyV w23 b1 bdb sb (.slice ab nb pb) eb := (by refine DyV.below ?_ hb23; (repeat (with_reducible first | refine DyV.drew ?_ | refine DyV.drewN ?_ _ | refine DyV.alloc ?_ _)); exact Vb22.out); obtain ⟨bc0, bc1, bc2, bc3, bc4, bc5⟩ := Vb23; have Vb23 := Lib.hid (DyV.mk bc0 bc1 bc2 bc3 bc4 bc5); have Vc23 : DyV w23 b2 bdc sc (.slice ac nc pc) ec := (by refine DyV.below ?_ hb23; (repeat (with_reducible first | refine DyV.drew ?_ | refine DyV.drewN ?_ _ | refine DyV.alloc ?_ _)); exact Vc22.out); obtain ⟨cc0, cc1, cc2, cc3, cc4, cc5⟩ := Vc23; have Vc23 := Lib.hid (DyV.mk cc0 cc1 cc2 cc3 cc4 cc5); have M623 : Mag w23 a6 (nl (dman yt).natAbs) c6 (dman yt).natAbs := Mag.below (by repeat (with_reducible first | refine Mag.set ?_ (fun h => by have := M622 h; omega) _ _ | refine Mag.drew ?_ | refine Mag.alloc ?_ _ | refine Mag.drewN ?_ _ | refine Mag.below ?_ (Below.drew (Below.refl _ _)) | refine Mag.below ?_ ((Below.refl _ _).alloc (Nat.le_refl _) _) | exact M622)) hb23; have M723 : Mag w23 a7 (nl (dman ybc).natAbs) c7 (dman ybc).natAbs := Mag.below (by repeat (with_reducible first | refine Mag.set ?_ (fun h => by have := M722 h; omega) _ _ | refine Mag.drew ?_ | refine Mag.alloc ?_ _ | refine Mag.drewN ?_ _ | refine Mag.below ?_ (Below.drew (Below.refl _ _)) | refine Mag.below ?_ ((Below.refl _ _).alloc (Nat.le_refl _) _) | exact M722)) hb23; have B23 := below_box (w := w) (by have hszw := (B22).size; repeat (with_reducible first | refine Below.setCell ?_ (by first | omega | (simp <;> omega)) _ | refine Below.alloc ?_ (by first | omega | (simp <;> omega)) _ | refine Below.drew ?_ | refine below_drewN ?_ _ | exact B22)) hb23; clear hb23; clear hf23)
        | (go_at_call 25; have xx := B21; refine (H16 _ (Gb.out.1.below (by have hszw := (B21).size; repeat (with_reducible first | refine Below.setCell ?_ (by first | omega | (simp <;> omega)) _ | refine Below.alloc ?_ (by first | omega | (simp <;> omega)) _ | refine Below.drew ?_ | refine below_drewN ?_ _ | exact B21))) (Gc.out.1.below (by have hszw := (B21).size; repeat (with_reducible first | refine Below.setCell ?_ (by first | omega | (simp <;> omega)) _ | refine Below.alloc ?_ (by first | omega | (simp <;> omega)) _ | refine Below.drew ?_ | refine below_drewN ?_ _ | exact B21))) (hT.below (by have hszw := (B21).size; repeat (with_reducible first | refine Below.setCell ?_ (by first | omega | (simp <;> omega)) _ | refine Below.alloc ?_ (by first | omega | (simp <;> omega)) _ | refine Below.drew ?_ | refine below_drewN ?_ _ | exact B21)))).out.mono ?_; rintro e w22 ⟨a7, c7, rfl, M722, hb22, hf22⟩; have Va22 : DyV w22 b0 bda sa (.slice aa na pa) ea := (by refine DyV.below ?_ hb22; (repeat (with_reducible first | refine DyV.drew ?_ | refine DyV.drewN ?_ _ | refine DyV.alloc ?_ _)); exact Va21.out); obtain ⟨ac0, ac1, ac2, ac3, ac4, ac5⟩ := Va22; have Va22 := Lib.hid (DyV.mk ac0 ac1 ac2 ac3 ac4 ac5); have Vb22 : DyV w22 b1 bdb sb (.slice ab nb pb) eb := (by refine DyV.below ?_ hb22; (repeat (with_reducible first | refine DyV.drew ?_ | refine DyV.drewN ?_ _ | refine DyV.alloc ?_ _)); exact Vb21.out); obtain ⟨bc0, bc1, bc2, bc3, bc4, bc5⟩ := Vb22; have Vb22 := Lib.hid (DyV.mk bc0 bc1 bc2 bc3 bc4 bc5); have Vc22 : DyV w22 b2 bdc sc (.slice ac nc pc) ec := (by refine DyV.below ?_ hb22; (repeat (with_reducible first | refine DyV.drew ?_ | refine DyV.drewN ?_ _ | refine DyV.alloc ?_ _)); exact Vc21.out); obtain ⟨cc0, cc1, cc2, cc3, cc4, cc5⟩ := Vc22; have Vc22 := Lib.hid (DyV.mk cc0 cc1 cc2 cc3 cc4 cc5); have M622 : Mag w22 a6 (nl (dman yt).natAbs) c6 (dman yt).natAbs := Mag.below (by repeat (with_reducible first | refine Mag.set ?_ (fun h => by have := M621 h; omega) _ _ | refine Mag.drew ?_ | refine Mag.alloc ?_ _ | refine Mag.drewN ?_ _ | refine Mag.below ?_ (Below.drew (Below.refl _ _)) | refine Mag.below ?_ ((Below.refl _ _).alloc (Nat.le_refl _) _) | exact M621)) hb22; have B22 := below_box (w := w) (by have hszw := (B21).size; repeat (with_reducible first | refine Below.setCell ?_ (by first | omega | (simp <;> omega)) _ | refine Below.alloc ?_ (by first | omega | (simp <;> omega)) _ | refine Below.drew ?_ | refine below_drewN ?_ _ | exact B21)) hb22; clear hb22; clear hf22)
        | (go_at_call 25; have xx := B20; refine (H15 _ a5 c5 (by repeat (with_reducible first | refine Mag.set ?_ (fun h => by have := M520 h; omega) _ _ | refine Mag.drew ?_ | refine Mag.alloc ?_ _ | refine Mag.drewN ?_ _ | refine Mag.below ?_ (Below.drew (Below.refl _ _)) | refine Mag.below ?_ ((Below.refl _ _).alloc (Nat.le_refl _) _) | exact M520)) (Gc.out.1.below (by have hszw := (B20).size; repeat (with_reducible first | refine Below.setCell ?_ (by first | omega | (simp <;> omega)) _ | refine Below.alloc ?_ (by first | omega | (simp <;> omega)) _ | refine Below.drew ?_ | refine below_drewN ?_ _ | exact B20))) (hT.below (by have hszw := (B20).size; repeat (with_reducible first | refine Below.setCell ?_ (by first | omega | (simp <;> omega)) _ | refine Below.alloc ?_ (by first | omega | (simp <;> omega)) _ | refine Below.drew ?_ | refine below_drewN ?_ _ | exact B20)))).out.mono ?_; rintro e w21 ⟨a6, c6, rfl, M621, hb21, hf21⟩; have Va21 : DyV w21 b0 bda sa (.slice aa na pa) ea := (by refine DyV.below ?_ hb21; (repeat (with_reducible first | refine DyV.drew ?_ | refine DyV.drewN ?_ _ | refine DyV.alloc ?_ _)); exact Va20.out); obtain ⟨ac0, ac1, ac2, ac3, ac4, ac5⟩ := Va21; have Va21 := Lib.hid (DyV.mk ac0 ac1 ac2 ac3 ac4 ac5); have Vb21 : DyV w21 b1 bdb sb (.slice ab nb pb) eb := (by refine DyV.below ?_ hb21; (repeat (with_reducible first | refine DyV.drew ?_ | refine DyV.drewN ?_ _ | refine DyV.alloc ?_ _)); exact Vb20.out); obtain ⟨bc0, bc1, bc2, bc3, bc4, bc5⟩ := Vb21; have Vb21 := Lib.hid (DyV.mk bc0 bc1 bc2 bc3 bc4 bc5); have Vc21 : DyV w21 b2 bdc sc (.slice ac nc pc) ec := (by refine DyV.below ?_ hb21; (repeat (with_reducible first | refine DyV.drew ?_ | refine DyV.drewN ?_ _ | refine DyV.alloc ?_ _)); exact Vc20.out); obtain ⟨cc0, cc1, cc2, cc3, cc4, cc5⟩ := Vc21; have Vc21 := Lib.hid (DyV.mk cc0 cc1 cc2 cc3 cc4 cc5); have M521 : Mag w21 a5 (nl (dman yab).natAbs) c5 (dman yab).natAbs := Mag.below (by repeat (with_reducible first | refine Mag.set ?_ (fun h => by have := M520 h; omega) _ _ | refine Mag.drew ?_ | refine Mag.alloc ?_ _ | refine Mag.drewN ?_ _ | refine Mag.below ?_ (Below.drew (Below.refl _ _)) | refine Mag.below ?_ ((Below.refl _ _).alloc (Nat.le_refl _) _) | exact M520)) hb21; have B21 := below_box (w := w) (by have hszw := (B20).size; repeat (with_reducible first | refine Below.setCell ?_ (by first | omega | (simp <;> omega)) _ | refine Below.alloc ?_ (by first | omega | (simp <;> omega)) _ | refine Below.drew ?_ | refine below_drewN ?_ _ | exact B20)) hb21; clear hb21; clear hf21)
        | (go_at_call 25; have xx := B19; refine (H14 _ (Ga.out.1.below (by have hszw := (B19).size; repeat (with_reducible first | refine Below.setCell ?_ (by first | omega | (simp <;> omega)) _ | refine Below.alloc ?_ (by first | omega | (simp <;> omega)) _ | refine Below.drew ?_ | refine below_drewN ?_ _ | exact B19))) (Gb.out.1.below (by have hszw := (B19).size; repeat (with_reducible first | refine Below.setCell ?_ (by first | omega | (simp <;> omega)) _ | refine Below.alloc ?_ (by first | omega | (simp <;> omega)) _ | refine Below.drew ?_ | refine below_drewN ?_ _ | exact B19))) (hT.below (by have hszw := (B19).size; repeat (with_reducible first | refine Below.setCell ?_ (by first | omega | (simp <;> omega)) _ | refine Below.alloc ?_ (by first | omega | (simp <;> omega)) _ | refine Below.drew ?_ | refine below_drewN ?_ _ | exact B19)))).out.mono ?_; rintro e w20 ⟨a5, c5, rfl, M520, hb20, hf20⟩; have Va20 : DyV w20 b0 bda sa (.slice aa na pa) ea := (by refine DyV.below ?_ hb20; (repeat (with_reducible first | refine DyV.drew ?_ | refine DyV.drewN ?_ _ | refine DyV.alloc ?_ _)); exact Va19.out); obtain ⟨ac0, ac1, ac2, ac3, ac4, ac5⟩ := Va20; have Va20 := Lib.hid (DyV.mk ac0 ac1 ac2 ac3 ac4 ac5); have Vb20 : DyV w20 b1 bdb sb (.slice ab nb pb) eb := (by refine DyV.below ?_ hb20; (repeat (with_reducible first | refine DyV.drew ?_ | refine DyV.drewN ?_ _ | refine DyV.alloc ?_ _)); exact Vb19.out); obtain ⟨bc0, bc1, bc2, bc3, bc4, bc5⟩ := Vb20; have Vb20 := Lib.hid (DyV.mk bc0 bc1 bc2 bc3 bc4 bc5); have Vc20 : DyV w20 b2 bdc sc (.slice ac nc pc) ec := (by refine DyV.below ?_ hb20; (repeat (with_reducible first | refine DyV.drew ?_ | refine DyV.drewN ?_ _ | refine DyV.alloc ?_ _)); exact Vc19.out); obtain ⟨cc0, cc1, cc2, cc3, cc4, cc5⟩ := Vc20; have Vc20 := Lib.hid (DyV.mk cc0 cc1 cc2 cc3 cc4 cc5); have B20 := below_box (w := w) (by have hszw := (B19).size; repeat (with_reducible first | refine Below.setCell ?_ (by first | omega | (simp <;> omega)) _ | refine Below.alloc ?_ (by first | omega | (simp <;> omega)) _ | refine Below.drew ?_ | refine below_drewN ?_ _ | exact B19)) hb20; clear hb20; clear hf20)
        | (go_at_call 27; have xx := B18; refine (H13 _ a2 c2 (by repeat (with_reducible first | refine Mag.set ?_ (fun h => by have := M218 h; omega) _ _ | refine Mag.drew ?_ | refine Mag.alloc ?_ _ | refine Mag.drewN ?_ _ | refine Mag.below ?_ (Below.drew (Below.refl _ _)) | refine Mag.below ?_ ((Below.refl _ _).alloc (Nat.le_refl _) _) | exact M218)) a4 c4 (by repeat (with_reducible first | refine Mag.set ?_ (fun h => by have := M418 h; omega) _ _ | refine Mag.drew ?_ | refine Mag.alloc ?_ _ | refine Mag.drewN ?_ _ | refine Mag.below ?_ (Below.drew (Below.refl _ _)) | refine Mag.below ?_ ((Below.refl _ _).alloc (Nat.le_refl _) _) | exact M418)) (hT.below (by have hszw := (B18).size; repeat (with_reducible first | refine Below.setCell ?_ (by first | omega | (simp <;> omega)) _ | refine Below.alloc ?_ (by first | omega | (simp <;> omega)) _ | refine Below.drew ?_ | refine below_drewN ?_ _ | exact B18)))).out.mono ?_; rintro e w19 ⟨rfl, hb19⟩; have Va19 : DyV w19 b0 bda sa (.slice aa na pa) ea := (by refine DyV.below ?_ hb19; (repeat (with_reducible first | refine DyV.drew ?_ | refine DyV.drewN ?_ _ | refine DyV.alloc ?_ _)); exact Va18.out); obtain ⟨ac0, ac1, ac2, ac3, ac4, ac5⟩ := Va19; have Va19 := Lib.hid (DyV.mk ac0 ac1 ac2 ac3 ac4 ac5); have Vb19 : DyV w19 b1 bdb sb (.slice ab nb pb) eb := (by refine DyV.below ?_ hb19; (repeat (with_reducible first | refine DyV.drew ?_ | refine DyV.drewN ?_ _ | refine DyV.alloc ?_ _)); exact Vb18.out); obtain ⟨bc0, bc1, bc2, bc3, bc4, bc5⟩ := Vb19; have Vb19 := Lib.hid (DyV.mk bc0 bc1 bc2 bc3 bc4 bc5); have Vc19 : DyV w19 b2 bdc sc (.slice ac nc pc) ec := (by refine DyV.below ?_ hb19; (repeat (with_reducible first | refine DyV.drew ?_ | refine DyV.drewN ?_ _ | refine DyV.alloc ?_ _)); exact Vc18.out); obtain ⟨cc0, cc1, cc2, cc3, cc4, cc5⟩ := Vc19; have Vc19 := Lib.hid (DyV.mk cc0 cc1 cc2 cc3 cc4 cc5); have M219 : Mag w19 a2 (nl (dman xs).natAbs) c2 (dman xs).natAbs := Mag.below (by repeat (with_reducible first | refine Mag.set ?_ (fun h => by have := M218 h; omega) _ _ | refine Mag.drew ?_ | refine Mag.alloc ?_ _ | refine Mag.drewN ?_ _ | refine Mag.below ?_ (Below.drew (Below.refl _ _)) | refine Mag.below ?_ ((Below.refl _ _).alloc (Nat.le_refl _) _) | exact M218)) hb19; have M419 : Mag w19 a4 (nl (dman xs).natAbs) c4 (dman xs).natAbs := Mag.below (by repeat (with_reducible first | refine Mag.set ?_ (fun h => by have := M418 h; omega) _ _ | refine Mag.drew ?_ | refine Mag.alloc ?_ _ | refine Mag.drewN ?_ _ | refine Mag.below ?_ (Below.drew (Below.refl _ _)) | refine Mag.below ?_ ((Below.refl _ _).alloc (Nat.le_refl _) _) | exact M418)) hb19; have B19 := below_box (w := w) (by have hszw := (B18).size; repeat (with_reducible first | refine Below.setCell ?_ (by first | omega | (simp <;> omega)) _ | refine Below.alloc ?_ (by first | omega | (simp <;> omega)) _ | refine Below.drew ?_ | refine below_drewN ?_ _ | exact B18)) hb19; clear hb19)
        | (go_at_call 11; have xx := B17; refine (H12 _ (Ga.out.1.below (by have hszw := (B17).size; repeat (with_reducible first | refine Below.setCell ?_ (by first | omega | (simp <;> omega)) _ | refine Below.alloc ?_ (by first | omega | (simp <;> omega)) _ | refine Below.drew ?_ | refine below_drewN ?_ _ | exact B17))) a3 c3 (by repeat (with_reducible first | refine Mag.set ?_ (fun h => by have := M317 h; omega) _ _ | refine Mag.drew ?_ | refine Mag.alloc ?_ _ | refine Mag.drewN ?_ _ | refine Mag.below ?_ (Below.drew (Below.refl _ _)) | refine Mag.below ?_ ((Below.refl _ _).alloc (Nat.le_refl _) _) | exact M317)) (hT.below (by have hszw := (B17).size; repeat (with_reducible first | refine Below.setCell ?_ (by first | omega | (simp <;> omega)) _ | refine Below.alloc ?_ (by first | omega | (simp <;> omega)) _ | refine Below.drew ?_ | refine below_drewN ?_ _ | exact B17)))).out.mono ?_; rintro e w18 ⟨a4, c4, rfl, M418, hb18, hf18⟩; have Va18 : DyV w18 b0 bda sa (.slice aa na pa) ea := (by refine DyV.below ?_ hb18; (repeat (with_reducible first | refine DyV.drew ?_ | refine DyV.drewN ?_ _ | refine DyV.alloc ?_ _)); exact Va17.out); obtain ⟨ac0, ac1, ac2, ac3, ac4, ac5⟩ := Va18; have Va18 := Lib.hid (DyV.mk ac0 ac1 ac2 ac3 ac4 ac5); have Vb18 : DyV w18 b1 bdb sb (.slice ab nb pb) eb := (by refine DyV.below ?_ hb18; (repeat (with_reducible first | refine DyV.drew ?_ | refine DyV.drewN ?_ _ | refine DyV.alloc ?_ _)); exact Vb17.out); obtain ⟨bc0, bc1, bc2, bc3, bc4, bc5⟩ := Vb18; have Vb18 := Lib.hid (DyV.mk bc0 bc1 bc2 bc3 bc4 bc5); have Vc18 : DyV w18 b2 bdc sc (.slice ac nc pc) ec := (by refine DyV.below ?_ hb18; (repeat (with_reducible first | refine DyV.drew ?_ | refine DyV.drewN ?_ _ | refine DyV.alloc ?_ _)); exact Vc17.out); obtain ⟨cc0, cc1, cc2, cc3, cc4, cc5⟩ := Vc18; have Vc18 := Lib.hid (DyV.mk cc0 cc1 cc2 cc3 cc4 cc5); have M218 : Mag w18 a2 (nl (dman xs).natAbs) c2 (dman xs).natAbs := Mag.below (by repeat (with_reducible first | refine Mag.set ?_ (fun h => by have := M217 h; omega) _ _ | refine Mag.drew ?_ | refine Mag.alloc ?_ _ | refine Mag.drewN ?_ _ | refine Mag.below ?_ (Below.drew (Below.refl _ _)) | refine Mag.below ?_ ((Below.refl _ _).alloc (Nat.le_refl _) _) | exact M217)) hb18; have M318 : Mag w18 a3 (nl (dman xbc).natAbs) c3 (dman xbc).natAbs := Mag.below (by repeat (with_reducible first | refine Mag.set ?_ (fun h => by have := M317 h; omega) _ _ | refine Mag.drew ?_ | refine Mag.alloc ?_ _ | refine Mag.drewN ?_ _ | refine Mag.below ?_ (Below.drew (Below.refl _ _)) | refine Mag.below ?_ ((Below.refl _ _).alloc (Nat.le_refl _) _) | exact M317)) hb18; have B18 := below_box (w := w) (by have hszw := (B17).size; repeat (with_reducible first | refine Below.setCell ?_ (by first | omega | (simp <;> omega)) _ | refine Below.alloc ?_ (by first | omega | (simp <;> omega)) _ | refine Below.drew ?_ | refine below_drewN ?_ _ | exact B17)) hb18; clear hb18; clear hf18)
        | (go_at_call 11; have xx := B16; refine (H11 _ (Gb.out.1.below (by have hszw := (B16).size; repeat (with_reducible first | refine Below.setCell ?_ (by first | omega | (simp <;> omega)) _ | refine Below.alloc ?_ (by first | omega | (simp <;> omega)) _ | refine Below.drew ?_ | refine below_drewN ?_ _ | exact B16))) (Gc.out.1.below (by have hszw := (B16).size; repeat (with_reducible first | refine Below.setCell ?_ (by first | omega | (simp <;> omega)) _ | refine Below.alloc ?_ (by first | omega | (simp <;> omega)) _ | refine Below.drew ?_ | refine below_drewN ?_ _ | exact B16))) (hT.below (by have hszw := (B16).size; repeat (with_reducible first | refine Below.setCell ?_ (by first | omega | (simp <;> omega)) _ | refine Below.alloc ?_ (by first | omega | (simp <;> omega)) _ | refine Below.drew ?_ | refine below_drewN ?_ _ | exact B16)))).out.mono ?_; rintro e w17 ⟨a3, c3, rfl, M317, hb17, hf17⟩; have Va17 : DyV w17 b0 bda sa (.slice aa na pa) ea := (by refine DyV.below ?_ hb17; (repeat (with_reducible first | refine DyV.drew ?_ | refine DyV.drewN ?_ _ | refine DyV.alloc ?_ _)); exact Va16.out); obtain ⟨ac0, ac1, ac2, ac3, ac4, ac5⟩ := Va17; have Va17 := Lib.hid (DyV.mk ac0 ac1 ac2 ac3 ac4 ac5); have Vb17 : DyV w17 b1 bdb sb (.slice ab nb pb) eb := (by refine DyV.below ?_ hb17; (repeat (with_reducible first | refine DyV.drew ?_ | refine DyV.drewN ?_ _ | refine DyV.alloc ?_ _)); exact Vb16.out); obtain ⟨bc0, bc1, bc2, bc3, bc4, bc5⟩ := Vb17; have Vb17 := Lib.hid (DyV.mk bc0 bc1 bc2 bc3 bc4 bc5); have Vc17 : DyV w17 b2 bdc sc (.slice ac nc pc) ec := (by refine DyV.below ?_ hb17; (repeat (with_reducible first | refine DyV.drew ?_ | refine DyV.drewN ?_ _ | refine DyV.alloc ?_ _)); exact Vc16.out); obtain ⟨cc0, cc1, cc2, cc3, cc4, cc5⟩ := Vc17; have Vc17 := Lib.hid (DyV.mk cc0 cc1 cc2 cc3 cc4 cc5); have M217 : Mag w17 a2 (nl (dman xs).natAbs) c2 (dman xs).natAbs := Mag.below (by repeat (with_reducible first | refine Mag.set ?_ (fun h => by have := M216 h; omega) _ _ | refine Mag.drew ?_ | refine Mag.alloc ?_ _ | refine Mag.drewN ?_ _ | refine Mag.below ?_ (Below.drew (Below.refl _ _)) | refine Mag.below ?_ ((Below.refl _ _).alloc (Nat.le_refl _) _) | exact M216)) hb17; have B17 := below_box (w := w) (by have hszw := (B16).size; repeat (with_reducible first | refine Below.setCell ?_ (by first | omega | (simp <;> omega)) _ | refine Below.alloc ?_ (by first | omega | (simp <;> omega)) _ | refine Below.drew ?_ | refine below_drewN ?_ _ | exact B16)) hb17; clear hb17; clear hf17)
        | (go_at_call 11; have xx := B15; refine (H10 _ a1 c1 (by repeat (with_reducible first | refine Mag.set ?_ (fun h => by have := M115 h; omega) _ _ | refine Mag.drew ?_ | refine Mag.alloc ?_ _ | refine Mag.drewN ?_ _ | refine Mag.below ?_ (Below.drew (Below.refl _ _)) | refine Mag.below ?_ ((Below.refl _ _).alloc (Nat.le_refl _) _) | exact M115)) (Gc.out.1.below (by have hszw := (B15).size; repeat (with_reducible first | refine Below.setCell ?_ (by first | omega | (simp <;> omega)) _ | refine Below.alloc ?_ (by first | omega | (simp <;> omega)) _ | refine Below.drew ?_ | refine below_drewN ?_ _ | exact B15))) (hT.below (by have hszw := (B15).size; repeat (with_reducible first | refine Below.setCell ?_ (by first | omega | (simp <;> omega)) _ | refine Below.alloc ?_ (by first | omega | (simp <;> omega)) _ | refine Below.drew ?_ | refine below_drewN ?_ _ | exact B15)))).out.mono ?_; rintro e w16 ⟨a2, c2, rfl, M216, hb16, hf16⟩; have Va16 : DyV w16 b0 bda sa (.slice aa na pa) ea := (by refine DyV.below ?_ hb16; (repeat (with_reducible first | refine DyV.drew ?_ | refine DyV.drewN ?_ _ | refine DyV.alloc ?_ _)); exact Va15.out); obtain ⟨ac0, ac1, ac2, ac3, ac4, ac5⟩ := Va16; have Va16 := Lib.hid (DyV.mk ac0 ac1 ac2 ac3 ac4 ac5); have Vb16 : DyV w16 b1 bdb sb (.slice ab nb pb) eb := (by refine DyV.below ?_ hb16; (repeat (with_reducible first | refine DyV.drew ?_ | refine DyV.drewN ?_ _ | refine DyV.alloc ?_ _)); exact Vb15.out); obtain ⟨bc0, bc1, bc2, bc3, bc4, bc5⟩ := Vb16; have Vb16 := Lib.hid (DyV.mk bc0 bc1 bc2 bc3 bc4 bc5); have Vc16 : DyV w16 b2 bdc sc (.slice ac nc pc) ec := (by refine DyV.below ?_ hb16; (repeat (with_reducible first | refine DyV.drew ?_ | refine DyV.drewN ?_ _ | refine DyV.alloc ?_ _)); exact Vc15.out); obtain ⟨cc0, cc1, cc2, cc3, cc4, cc5⟩ := Vc16; have Vc16 := Lib.hid (DyV.mk cc0 cc1 cc2 cc3 cc4 cc5); have M116 : Mag w16 a1 (nl (dman xab).natAbs) c1 (dman xab).natAbs := Mag.below (by repeat (with_reducible first | refine Mag.set ?_ (fun h => by have := M115 h; omega) _ _ | refine Mag.drew ?_ | refine Mag.alloc ?_ _ | refine Mag.drewN ?_ _ | refine Mag.below ?_ (Below.drew (Below.refl _ _)) | refine Mag.below ?_ ((Below.refl _ _).alloc (Nat.le_refl _) _) | exact M115)) hb16; have B16 := below_box (w := w) (by have hszw := (B15).size; repeat (with_reducible first | refine Below.setCell ?_ (by first | omega | (simp <;> omega)) _ | refine Below.alloc ?_ (by first | omega | (simp <;> omega)) _ | refine Below.drew ?_ | refine below_drewN ?_ _ | exact B15)) hb16; clear hb16; clear hf16)
        | (go_at_call 11; have xx := B14; refine (H9 _ (Ga.out.1.below (by have hszw := (B14).size; repeat (with_reducible first | refine Below.setCell ?_ (by first | omega | (simp <;> omega)) _ | refine Below.alloc ?_ (by first | omega | (simp <;> omega)) _ | refine Below.drew ?_ | refine below_drewN ?_ _ | exact B14))) (Gb.out.1.below (by have hszw := (B14).size; repeat (with_reducible first | refine Below.setCell ?_ (by first | omega | (simp <;> omega)) _ | refine Below.alloc ?_ (by first | omega | (simp <;> omega)) _ | refine Below.drew ?_ | refine below_drewN ?_ _ | exact B14))) (hT.below (by have hszw := (B14).size; repeat (with_reducible first | refine Below.setCell ?_ (by first | omega | (simp <;> omega)) _ | refine Below.alloc ?_ (by first | omega | (simp <;> omega)) _ | refine Below.drew ?_ | refine below_drewN ?_ _ | exact B14)))).out.mono ?_; rintro e w15 ⟨a1, c1, rfl, M115, hb15, hf15⟩; have Va15 : DyV w15 b0 bda sa (.slice aa na pa) ea := (by refine DyV.below ?_ hb15; (repeat (with_reducible first | refine DyV.drew ?_ | refine DyV.drewN ?_ _ | refine DyV.alloc ?_ _)); exact Va14.out); obtain ⟨ac0, ac1, ac2, ac3, ac4, ac5⟩ := Va15; have Va15 := Lib.hid (DyV.mk ac0 ac1 ac2 ac3 ac4 ac5); have Vb15 : DyV w15 b1 bdb sb (.slice ab nb pb) eb := (by refine DyV.below ?_ hb15; (repeat (with_reducible first | refine DyV.drew ?_ | refine DyV.drewN ?_ _ | refine DyV.alloc ?_ _)); exact Vb14.out); obtain ⟨bc0, bc1, bc2, bc3, bc4, bc5⟩ := Vb15; have Vb15 := Lib.hid (DyV.mk bc0 bc1 bc2 bc3 bc4 bc5); have Vc15 : DyV w15 b2 bdc sc (.slice ac nc pc) ec := (by refine DyV.below ?_ hb15; (repeat (with_reducible first | refine DyV.drew ?_ | refine DyV.drewN ?_ _ | refine DyV.alloc ?_ _)); exact Vc14.out); obtain ⟨cc0, cc1, cc2, cc3, cc4, cc5⟩ := Vc15; have Vc15 := Lib.hid (DyV.mk cc0 cc1 cc2 cc3 cc4 cc5); have B15 := below_box (w := w) (by have hszw := (B14).size; repeat (with_reducible first | refine Below.setCell ?_ (by first | omega | (simp <;> omega)) _ | refine Below.alloc ?_ (by first | omega | (simp <;> omega)) _ | refine Below.drew ?_ | refine below_drewN ?_ _ | exact B14)) hb15; clear hb15; clear hf15)
        | fail)
  | fail "region"
  all_goals go_wp2_with fail
  first
  | go_region_held3 (fun w' => w'.cell? ⟨b0, 0, none⟩ = some (.bool bda) ∧ w'.cell? ⟨b0, 1, none⟩ = some (.bool sa) ∧ w'.cell? ⟨b0, 2, none⟩ = some ((.slice aa na pa)) ∧ w'.cell? ⟨b0, 3, none⟩ = some (.int .i64 ea) ∧ w'.cell? ⟨b1, 0, none⟩ = some (.bool bdb) ∧ w'.cell? ⟨b1, 1, none⟩ = some (.bool sb) ∧ w'.cell? ⟨b1, 2, none⟩ = some ((.slice ab nb pb)) ∧ w'.cell? ⟨b1, 3, none⟩ = some (.int .i64 eb) ∧ w'.cell? ⟨b2, 0, none⟩ = some (.bool bdc) ∧ w'.cell? ⟨b2, 1, none⟩ = some (.bool sc) ∧ w'.cell? ⟨b2, 2, none⟩ = some ((.slice ac nc pc)) ∧ w'.cell? ⟨b2, 3, none⟩ = some (.int .i64 ec)) (first | (go_keep; done) | (go_simp; done))
      (first
        | (go_at_call 14; have xx := B30; refine (HW _ (hT.below (by have hszw := (B30).size; repeat (with_reducible first | refine Below.setCell ?_ (by first | omega | (simp <;> omega)) _ | refine Below.alloc ?_ (by first | omega | (simp <;> omega)) _ | refine Below.drew ?_ | refine below_drewN ?_ _ | exact B30)))).out.mono ?_; rintro e w31 ⟨rfl, hb31⟩; have Va31 : DyV w31 b0 bda sa (.slice aa na pa) ea := (by refine DyV.below ?_ hb31; (repeat (with_reducible first | refine DyV.drew ?_ | refine DyV.drewN ?_ _ | refine DyV.alloc ?_ _)); exact Va30.out); obtain ⟨ac0, ac1, ac2, ac3, ac4, ac5⟩ := Va31; have Va31 := Lib.hid (DyV.mk ac0 ac1 ac2 ac3 ac4 ac5); have Vb31 : DyV w31 b1 bdb sb (.slice ab nb pb) eb := (by refine DyV.below ?_ hb31; (repeat (with_reducible first | refine DyV.drew ?_ | refine DyV.drewN ?_ _ | refine DyV.alloc ?_ _)); exact Vb30.out); obtain ⟨bc0, bc1, bc2, bc3, bc4, bc5⟩ := Vb31; have Vb31 := Lib.hid (DyV.mk bc0 bc1 bc2 bc3 bc4 bc5); have Vc31 : DyV w31 b2 bdc sc (.slice ac nc pc) ec := (by refine DyV.below ?_ hb31; (repeat (with_reducible first | refine DyV.drew ?_ | refine DyV.drewN ?_ _ | refine DyV.alloc ?_ _)); exact Vc30.out); obtain ⟨cc0, cc1, cc2, cc3, cc4, cc5⟩ := Vc31; have Vc31 := Lib.hid (DyV.mk cc0 cc1 cc2 cc3 cc4 cc5); have B31 := below_box (w := w) (by have hszw := (B30).size; repeat (with_reducible first | refine Below.setCell ?_ (by first | omega | (simp <;> omega)) _ | refine Below.alloc ?_ (by first | omega | (simp <;> omega)) _ | refine Below.drew ?_ | refine below_drewN ?_ _ | exact B30)) hb31; clear hb31)
        | (go_at_call 27; have xx := B29; refine (H24 _ a2 c2 (by repeat (with_reducible first | refine Mag.set ?_ (fun h => by have := M229 h; omega) _ _ | refine Mag.drew ?_ | refine Mag.alloc ?_ _ | refine Mag.drewN ?_ _ | refine Mag.below ?_ (Below.drew (Below.refl _ _)) | refine Mag.below ?_ ((Below.refl _ _).alloc (Nat.le_refl _) _) | exact M229)) a5 c5 (by repeat (with_reducible first | refine Mag.set ?_ (fun h => by have := M529 h; omega) _ _ | refine Mag.drew ?_ | refine Mag.alloc ?_ _ | refine Mag.drewN ?_ _ | refine Mag.below ?_ (Below.drew (Below.refl _ _)) | refine Mag.below ?_ ((Below.refl _ _).alloc (Nat.le_refl _) _) | exact M529)) (hT.below (by have hszw := (B29).size; repeat (with_reducible first | refine Below.setCell ?_ (by first | omega | (simp <;> omega)) _ | refine Below.alloc ?_ (by first | omega | (simp <;> omega)) _ | refine Below.drew ?_ | refine below_drewN ?_ _ | exact B29)))).out.mono ?_; rintro e w30 ⟨rfl, hb30⟩; have Va30 : DyV w30 b0 bda sa (.slice aa na pa) ea := (by refine DyV.below ?_ hb30; (repeat (with_reducible first | refine DyV.drew ?_ | refine DyV.drewN ?_ _ | refine DyV.alloc ?_ _)); exact Va29.out); obtain ⟨ac0, ac1, ac2, ac3, ac4, ac5⟩ := Va30; have Va30 := Lib.hid (DyV.mk ac0 ac1 ac2 ac3 ac4 ac5); have Vb30 : DyV w30 b1 bdb sb (.slice ab nb pb) eb := (by refine DyV.below ?_ hb30; (repeat (with_reducible first | refine DyV.drew ?_ | refine DyV.drewN ?_ _ | refine DyV.alloc ?_ _)); exact Vb29.out); obtain ⟨bc0, bc1, bc2, bc3, bc4, bc5⟩ := Vb30; have Vb30 := Lib.hid (DyV.mk bc0 bc1 bc2 bc3 bc4 bc5); have Vc30 : DyV w30 b2 bdc sc (.slice ac nc pc) ec := (by refine DyV.below ?_ hb30; (repeat (with_reducible first | refine DyV.drew ?_ | refine DyV.drewN ?_ _ | refine DyV.alloc ?_ _)); exact Vc29.out); obtain ⟨cc0, cc1, cc2, cc3, cc4, cc5⟩ := Vc30; have Vc30 := Lib.hid (DyV.mk cc0 cc1 cc2 cc3 cc4 cc5); have M230 : Mag w30 a2 (nl (dman yu).natAbs) c2 (dman yu).natAbs := Mag.below (by repeat (with_reducible first | refine Mag.set ?_ (fun h => by have := M229 h; omega) _ _ | refine Mag.drew ?_ | refine Mag.alloc ?_ _ | refine Mag.drewN ?_ _ | refine Mag.below ?_ (Below.drew (Below.refl _ _)) | refine Mag.below ?_ ((Below.refl _ _).alloc (Nat.le_refl _) _) | exact M229)) hb30; have M530 : Mag w30 a5 (nl (dman yu).natAbs) c5 (dman yu).natAbs := Mag.below (by repeat (with_reducible first | refine Mag.set ?_ (fun h => by have := M529 h; omega) _ _ | refine Mag.drew ?_ | refine Mag.alloc ?_ _ | refine Mag.drewN ?_ _ | refine Mag.below ?_ (Below.drew (Below.refl _ _)) | refine Mag.below ?_ ((Below.refl _ _).alloc (Nat.le_refl _) _) | exact M529)) hb30; have B30 := below_box (w := w) (by have hszw := (B29).size; repeat (with_reducible first | refine Below.setCell ?_ (by first | omega | (simp <;> omega)) _ | refine Below.alloc ?_ (by first | omega | (simp <;> omega)) _ | refine Below.drew ?_ | refine below_drewN ?_ _ | exact B29)) hb30; clear hb30)
        | (go_at_call 11; have xx := B28; refine (H23 _ a3 c3 (by repeat (with_reducible first | refine Mag.set ?_ (fun h => by have := M328 h; omega) _ _ | refine Mag.drew ?_ | refine Mag.alloc ?_ _ | refine Mag.drewN ?_ _ | refine Mag.below ?_ (Below.drew (Below.refl _ _)) | refine Mag.below ?_ ((Below.refl _ _).alloc (Nat.le_refl _) _) | exact M328)) a4 c4 (by repeat (with_reducible first | refine Mag.set ?_ (fun h => by have := M428 h; omega) _ _ | refine Mag.drew ?_ | refine Mag.alloc ?_ _ | refine Mag.drewN ?_ _ | refine Mag.below ?_ (Below.drew (Below.refl _ _)) | refine Mag.below ?_ ((Below.refl _ _).alloc (Nat.le_refl _) _) | exact M428)) (hT.below (by have hszw := (B28).size; repeat (with_reducible first | refine Below.setCell ?_ (by first | omega | (simp <;> omega)) _ | refine Below.alloc ?_ (by first | omega | (simp <;> omega)) _ | refine Below.drew ?_ | refine below_drewN ?_ _ | exact B28)))).out.mono ?_; rintro e w29 ⟨a5, c5, rfl, M529, hb29, hf29⟩; have Va29 : DyV w29 b0 bda sa (.slice aa na pa) ea := (by refine DyV.below ?_ hb29; (repeat (with_reducible first | refine DyV.drew ?_ | refine DyV.drewN ?_ _ | refine DyV.alloc ?_ _)); exact Va28.out); obtain ⟨ac0, ac1, ac2, ac3, ac4, ac5⟩ := Va29; have Va29 := Lib.hid (DyV.mk ac0 ac1 ac2 ac3 ac4 ac5); have Vb29 : DyV w29 b1 bdb sb (.slice ab nb pb) eb := (by refine DyV.below ?_ hb29; (repeat (with_reducible first | refine DyV.drew ?_ | refine DyV.drewN ?_ _ | refine DyV.alloc ?_ _)); exact Vb28.out); obtain ⟨bc0, bc1, bc2, bc3, bc4, bc5⟩ := Vb29; have Vb29 := Lib.hid (DyV.mk bc0 bc1 bc2 bc3 bc4 bc5); have Vc29 : DyV w29 b2 bdc sc (.slice ac nc pc) ec := (by refine DyV.below ?_ hb29; (repeat (with_reducible first | refine DyV.drew ?_ | refine DyV.drewN ?_ _ | refine DyV.alloc ?_ _)); exact Vc28.out); obtain ⟨cc0, cc1, cc2, cc3, cc4, cc5⟩ := Vc29; have Vc29 := Lib.hid (DyV.mk cc0 cc1 cc2 cc3 cc4 cc5); have M229 : Mag w29 a2 (nl (dman yu).natAbs) c2 (dman yu).natAbs := Mag.below (by repeat (with_reducible first | refine Mag.set ?_ (fun h => by have := M228 h; omega) _ _ | refine Mag.drew ?_ | refine Mag.alloc ?_ _ | refine Mag.drewN ?_ _ | refine Mag.below ?_ (Below.drew (Below.refl _ _)) | refine Mag.below ?_ ((Below.refl _ _).alloc (Nat.le_refl _) _) | exact M228)) hb29; have M329 : Mag w29 a3 (nl (dman yac).natAbs) c3 (dman yac).natAbs := Mag.below (by repeat (with_reducible first | refine Mag.set ?_ (fun h => by have := M328 h; omega) _ _ | refine Mag.drew ?_ | refine Mag.alloc ?_ _ | refine Mag.drewN ?_ _ | refine Mag.below ?_ (Below.drew (Below.refl _ _)) | refine Mag.below ?_ ((Below.refl _ _).alloc (Nat.le_refl _) _) | exact M328)) hb29; have M429 : Mag w29 a4 (nl (dman ybc).natAbs) c4 (dman ybc).natAbs := Mag.below (by repeat (with_reducible first | refine Mag.set ?_ (fun h => by have := M428 h; omega) _ _ | refine Mag.drew ?_ | refine Mag.alloc ?_ _ | refine Mag.drewN ?_ _ | refine Mag.below ?_ (Below.drew (Below.refl _ _)) | refine Mag.below ?_ ((Below.refl _ _).alloc (Nat.le_refl _) _) | exact M428)) hb29; have B29 := below_box (w := w) (by have hszw := (B28).size; repeat (with_reducible first | refine Below.setCell ?_ (by first | omega | (simp <;> omega)) _ | refine Below.alloc ?_ (by first | omega | (simp <;> omega)) _ | refine Below.drew ?_ | refine below_drewN ?_ _ | exact B28)) hb29; clear hb29; clear hf29)
        | (go_at_call 25; have xx := B27; refine (H22 _ (Gb.out.1.below (by have hszw := (B27).size; repeat (with_reducible first | refine Below.setCell ?_ (by first | omega | (simp <;> omega)) _ | refine Below.alloc ?_ (by first | omega | (simp <;> omega)) _ | refine Below.drew ?_ | refine below_drewN ?_ _ | exact B27))) (Gc.out.1.below (by have hszw := (B27).size; repeat (with_reducible first | refine Below.setCell ?_ (by first | omega | (simp <;> omega)) _ | refine Below.alloc ?_ (by first | omega | (simp <;> omega)) _ | refine Below.drew ?_ | refine below_drewN ?_ _ | exact B27))) (hT.below (by have hszw := (B27).size; repeat (with_reducible first | refine Below.setCell ?_ (by first | omega | (simp <;> omega)) _ | refine Below.alloc ?_ (by first | omega | (simp <;> omega)) _ | refine Below.drew ?_ | refine below_drewN ?_ _ | exact B27)))).out.mono ?_; rintro e w28 ⟨a4, c4, rfl, M428, hb28, hf28⟩; have Va28 : DyV w28 b0 bda sa (.slice aa na pa) ea := (by refine DyV.below ?_ hb28; (repeat (with_reducible first | refine DyV.drew ?_ | refine DyV.drewN ?_ _ | refine DyV.alloc ?_ _)); exact Va27.out); obtain ⟨ac0, ac1, ac2, ac3, ac4, ac5⟩ := Va28; have Va28 := Lib.hid (DyV.mk ac0 ac1 ac2 ac3 ac4 ac5); have Vb28 : DyV w28 b1 bdb sb (.slice ab nb pb) eb := (by refine DyV.below ?_ hb28; (repeat (with_reducible first | refine DyV.drew ?_ | refine DyV.drewN ?_ _ | refine DyV.alloc ?_ _)); exact Vb27.out); obtain ⟨bc0, bc1, bc2, bc3, bc4, bc5⟩ := Vb28; have Vb28 := Lib.hid (DyV.mk bc0 bc1 bc2 bc3 bc4 bc5); have Vc28 : DyV w28 b2 bdc sc (.slice ac nc pc) ec := (by refine DyV.below ?_ hb28; (repeat (with_reducible first | refine DyV.drew ?_ | refine DyV.drewN ?_ _ | refine DyV.alloc ?_ _)); exact Vc27.out); obtain ⟨cc0, cc1, cc2, cc3, cc4, cc5⟩ := Vc28; have Vc28 := Lib.hid (DyV.mk cc0 cc1 cc2 cc3 cc4 cc5); have M228 : Mag w28 a2 (nl (dman yu).natAbs) c2 (dman yu).natAbs := Mag.below (by repeat (with_reducible first | refine Mag.set ?_ (fun h => by have := M227 h; omega) _ _ | refine Mag.drew ?_ | refine Mag.alloc ?_ _ | refine Mag.drewN ?_ _ | refine Mag.below ?_ (Below.drew (Below.refl _ _)) | refine Mag.below ?_ ((Below.refl _ _).alloc (Nat.le_refl _) _) | exact M227)) hb28; have M328 : Mag w28 a3 (nl (dman yac).natAbs) c3 (dman yac).natAbs := Mag.below (by repeat (with_reducible first | refine Mag.set ?_ (fun h => by have := M327 h; omega) _ _ | refine Mag.drew ?_ | refine Mag.alloc ?_ _ | refine Mag.drewN ?_ _ | refine Mag.below ?_ (Below.drew (Below.refl _ _)) | refine Mag.below ?_ ((Below.refl _ _).alloc (Nat.le_refl _) _) | exact M327)) hb28; have B28 := below_box (w := w) (by have hszw := (B27).size; repeat (with_reducible first | refine Below.setCell ?_ (by first | omega | (simp <;> omega)) _ | refine Below.alloc ?_ (by first | omega | (simp <;> omega)) _ | refine Below.drew ?_ | refine below_drewN ?_ _ | exact B27)) hb28; clear hb28; clear hf28)
        | (go_at_call 25; have xx := B26; refine (H21 _ (Ga.out.1.below (by have hszw := (B26).size; repeat (with_reducible first | refine Below.setCell ?_ (by first | omega | (simp <;> omega)) _ | refine Below.alloc ?_ (by first | omega | (simp <;> omega)) _ | refine Below.drew ?_ | refine below_drewN ?_ _ | exact B26))) (Gc.out.1.below (by have hszw := (B26).size; repeat (with_reducible first | refine Below.setCell ?_ (by first | omega | (simp <;> omega)) _ | refine Below.alloc ?_ (by first | omega | (simp <;> omega)) _ | refine Below.drew ?_ | refine below_drewN ?_ _ | exact B26))) (hT.below (by have hszw := (B26).size; repeat (with_reducible first | refine Below.setCell ?_ (by first | omega | (simp <;> omega)) _ | refine Below.alloc ?_ (by first | omega | (simp <;> omega)) _ | refine Below.drew ?_ | refine below_drewN ?_ _ | exact B26)))).out.mono ?_; rintro e w27 ⟨a3, c3, rfl, M327, hb27, hf27⟩; have Va27 : DyV w27 b0 bda sa (.slice aa na pa) ea := (by refine DyV.below ?_ hb27; (repeat (with_reducible first | refine DyV.drew ?_ | refine DyV.drewN ?_ _ | refine DyV.alloc ?_ _)); exact Va26.out); obtain ⟨ac0, ac1, ac2, ac3, ac4, ac5⟩ := Va27; have Va27 := Lib.hid (DyV.mk ac0 ac1 ac2 ac3 ac4 ac5); have Vb27 : DyV w27 b1 bdb sb (.slice ab nb pb) eb := (by refine DyV.below ?_ hb27; (repeat (with_reducible first | refine DyV.drew ?_ | refine DyV.drewN ?_ _ | refine DyV.alloc ?_ _)); exact Vb26.out); obtain ⟨bc0, bc1, bc2, bc3, bc4, bc5⟩ := Vb27; have Vb27 := Lib.hid (DyV.mk bc0 bc1 bc2 bc3 bc4 bc5); have Vc27 : DyV w27 b2 bdc sc (.slice ac nc pc) ec := (by refine DyV.below ?_ hb27; (repeat (with_reducible first | refine DyV.drew ?_ | refine DyV.drewN ?_ _ | refine DyV.alloc ?_ _)); exact Vc26.out); obtain ⟨cc0, cc1, cc2, cc3, cc4, cc5⟩ := Vc27; have Vc27 := Lib.hid (DyV.mk cc0 cc1 cc2 cc3 cc4 cc5); have M227 : Mag w27 a2 (nl (dman yu).natAbs) c2 (dman yu).natAbs := Mag.below (by repeat (with_reducible first | refine Mag.set ?_ (fun h => by have := M226 h; omega) _ _ | refine Mag.drew ?_ | refine Mag.alloc ?_ _ | refine Mag.drewN ?_ _ | refine Mag.below ?_ (Below.drew (Below.refl _ _)) | refine Mag.below ?_ ((Below.refl _ _).alloc (Nat.le_refl _) _) | exact M226)) hb27; have B27 := below_box (w := w) (by have hszw := (B26).size; repeat (with_reducible first | refine Below.setCell ?_ (by first | omega | (simp <;> omega)) _ | refine Below.alloc ?_ (by first | omega | (simp <;> omega)) _ | refine Below.drew ?_ | refine below_drewN ?_ _ | exact B26)) hb27; clear hb27; clear hf27)
        | (go_at_call 25; have xx := B25; refine (H20 _ a1 c1 (by repeat (with_reducible first | refine Mag.set ?_ (fun h => by have := M125 h; omega) _ _ | refine Mag.drew ?_ | refine Mag.alloc ?_ _ | refine Mag.drewN ?_ _ | refine Mag.below ?_ (Below.drew (Below.refl _ _)) | refine Mag.below ?_ ((Below.refl _ _).alloc (Nat.le_refl _) _) | exact M125)) (Gc.out.1.below (by have hszw := (B25).size; repeat (with_reducible first | refine Below.setCell ?_ (by first | omega | (simp <;> omega)) _ | refine Below.alloc ?_ (by first | omega | (simp <;> omega)) _ | refine Below.drew ?_ | refine below_drewN ?_ _ | exact B25))) (hT.below (by have hszw := (B25).size; repeat (with_reducible first | refine Below.setCell ?_ (by first | omega | (simp <;> omega)) _ | refine Below.alloc ?_ (by first | omega | (simp <;> omega)) _ | refine Below.drew ?_ | refine below_drewN ?_ _ | exact B25)))).out.mono ?_; rintro e w26 ⟨a2, c2, rfl, M226, hb26, hf26⟩; have Va26 : DyV w26 b0 bda sa (.slice aa na pa) ea := (by refine DyV.below ?_ hb26; (repeat (with_reducible first | refine DyV.drew ?_ | refine DyV.drewN ?_ _ | refine DyV.alloc ?_ _)); exact Va25.out); obtain ⟨ac0, ac1, ac2, ac3, ac4, ac5⟩ := Va26; have Va26 := Lib.hid (DyV.mk ac0 ac1 ac2 ac3 ac4 ac5); have Vb26 : DyV w26 b1 bdb sb (.slice ab nb pb) eb := (by refine DyV.below ?_ hb26; (repeat (with_reducible first | refine DyV.drew ?_ | refine DyV.drewN ?_ _ | refine DyV.alloc ?_ _)); exact Vb25.out); obtain ⟨bc0, bc1, bc2, bc3, bc4, bc5⟩ := Vb26; have Vb26 := Lib.hid (DyV.mk bc0 bc1 bc2 bc3 bc4 bc5); have Vc26 : DyV w26 b2 bdc sc (.slice ac nc pc) ec := (by refine DyV.below ?_ hb26; (repeat (with_reducible first | refine DyV.drew ?_ | refine DyV.drewN ?_ _ | refine DyV.alloc ?_ _)); exact Vc25.out); obtain ⟨cc0, cc1, cc2, cc3, cc4, cc5⟩ := Vc26; have Vc26 := Lib.hid (DyV.mk cc0 cc1 cc2 cc3 cc4 cc5); have M126 : Mag w26 a1 (nl (dman xab).natAbs) c1 (dman xab).natAbs := Mag.below (by repeat (with_reducible first | refine Mag.set ?_ (fun h => by have := M125 h; omega) _ _ | refine Mag.drew ?_ | refine Mag.alloc ?_ _ | refine Mag.drewN ?_ _ | refine Mag.below ?_ (Below.drew (Below.refl _ _)) | refine Mag.below ?_ ((Below.refl _ _).alloc (Nat.le_refl _) _) | exact M125)) hb26; have B26 := below_box (w := w) (by have hszw := (B25).size; repeat (with_reducible first | refine Below.setCell ?_ (by first | omega | (simp <;> omega)) _ | refine Below.alloc ?_ (by first | omega | (simp <;> omega)) _ | refine Below.drew ?_ | refine below_drewN ?_ _ | exact B25)) hb26; clear hb26; clear hf26)
        | (go_at_call 11; have xx := B24; refine (H19 _ (Ga.out.1.below (by have hszw := (B24).size; repeat (with_reducible first | refine Below.setCell ?_ (by first | omega | (simp <;> omega)) _ | refine Below.alloc ?_ (by first | omega | (simp <;> omega)) _ | refine Below.drew ?_ | refine below_drewN ?_ _ | exact B24))) (Gb.out.1.below (by have hszw := (B24).size; repeat (with_reducible first | refine Below.setCell ?_ (by first | omega | (simp <;> omega)) _ | refine Below.alloc ?_ (by first | omega | (simp <;> omega)) _ | refine Below.drew ?_ | refine below_drewN ?_ _ | exact B24))) (hT.below (by have hszw := (B24).size; repeat (with_reducible first | refine Below.setCell ?_ (by first | omega | (simp <;> omega)) _ | refine Below.alloc ?_ (by first | omega | (simp <;> omega)) _ | refine Below.drew ?_ | refine below_drewN ?_ _ | exact B24)))).out.mono ?_; rintro e w25 ⟨a1, c1, rfl, M125, hb25, hf25⟩; have Va25 : DyV w25 b0 bda sa (.slice aa na pa) ea := (by refine DyV.below ?_ hb25; (repeat (with_reducible first | refine DyV.drew ?_ | refine DyV.drewN ?_ _ | refine DyV.alloc ?_ _)); exact Va24.out); obtain ⟨ac0, ac1, ac2, ac3, ac4, ac5⟩ := Va25; have Va25 := Lib.hid (DyV.mk ac0 ac1 ac2 ac3 ac4 ac5); have Vb25 : DyV w25 b1 bdb sb (.slice ab nb pb) eb := (by refine DyV.below ?_ hb25; (repeat (with_reducible first | refine DyV.drew ?_ | refine DyV.drewN ?_ _ | refine DyV.alloc ?_ _)); exact Vb24.out); obtain ⟨bc0, bc1, bc2, bc3, bc4, bc5⟩ := Vb25; have Vb25 := Lib.hid (DyV.mk bc0 bc1 bc2 bc3 bc4 bc5); have Vc25 : DyV w25 b2 bdc sc (.slice ac nc pc) ec := (by refine DyV.below ?_ hb25; (repeat (with_reducible first | refine DyV.drew ?_ | refine DyV.drewN ?_ _ | refine DyV.alloc ?_ _)); exact Vc24.out); obtain ⟨cc0, cc1, cc2, cc3, cc4, cc5⟩ := Vc25; have Vc25 := Lib.hid (DyV.mk cc0 cc1 cc2 cc3 cc4 cc5); have B25 := below_box (w := w) (by have hszw := (B24).size; repeat (with_reducible first | refine Below.setCell ?_ (by first | omega | (simp <;> omega)) _ | refine Below.alloc ?_ (by first | omega | (simp <;> omega)) _ | refine Below.drew ?_ | refine below_drewN ?_ _ | exact B24)) hb25; clear hb25; clear hf25)
        | fail)
  | fail "region"
  all_goals go_wp2_with fail
  all_goals (
    go_ret
    exact ⟨rfl, (by have hszw := (B31).size; repeat (with_reducible first | refine Below.setCell ?_ (by first | omega | (simp <;> omega)) _ | refine Below.alloc ?_ (by first | omega | (simp <;> omega)) _ | refine Below.drew ?_ | refine below_drewN ?_ _ | exact B31))⟩)

theorem slim_ni {n : Nat} {e : Int} (h : slimB n e = true) : n ≤ 20 := by
  simp only [slimB, Bool.and_eq_true, decide_eq_true_eq] at h; exact h.1
theorem dyis_of {w : World} {bd s : Bool} {a : Option Addr} {n p x : Nat} {e : Int} (hm : Mag w a n p x) (hs : slimB n e = true) (h0 : -9223372036854775808 ≤ e) (h1 : e ≤ 9223372036854775807) : DyIs w bd s a n p e (nrmB bd (sgn s x) e) := by
  have hn := slim_ni hs
  have hb := slim_pow x n hm.lt
  exact ⟨⟨x, hm, by omega, by omega, h0, h1, rfl⟩, by omega⟩

theorem ring_any (w : World) (hT : Tab w) (bda sa : Bool) (aa : Option Addr) (na pa xa : Nat) (ea : Int) (bdb sb : Bool) (ab : Option Addr) (nb pb xb : Nat) (eb : Int) (bdc sc : Bool) (ac : Option Addr) (nc pc xc : Nat) (ec : Int)
    (Ma : Mag w aa na pa xa) (Mb : Mag w ab nb pb xb) (Mc : Mag w ac nc pc xc) (ua : -9223372036854775808 ≤ ea ∧ ea ≤ 9223372036854775807) (ub : -9223372036854775808 ≤ eb ∧ eb ≤ 9223372036854775807) (uc : -9223372036854775808 ≤ ec ∧ ec ≤ 9223372036854775807) :
    Calls Tryd.prog 7 #[.agg #[.bool bda, .bool sa, .slice aa na pa, .int .i64 ea], .agg #[.bool bdb, .bool sb, .slice ab nb pb, .int .i64 eb], .agg #[.bool bdc, .bool sc, .slice ac nc pc, .int .i64 ec]] w fun o w' => o = .returned (.bool true) ∧ Below w.heap.size w w' := by
  have ma := Nat.le_trans Ma.fits Ma.lim
  have mb := Nat.le_trans Mb.fits Mb.lim
  have mc := Nat.le_trans Mc.fits Mc.lim
  cases hsa : slimB na ea with
  | false => exact ring_na w hT _ _ _ _ _ _ _ _ _ _ _ _ _ _ _ _ _ _ ma mb mc hsa
  | true =>
    cases hsb : slimB nb eb with
    | false => exact ring_nb w hT _ _ _ _ _ _ _ _ _ _ _ _ _ _ _ _ _ _ ma mb mc hsa hsb
    | true =>
      cases hsc : slimB nc ec with
      | false => exact ring_nc w hT _ _ _ _ _ _ _ _ _ _ _ _ _ _ _ _ _ _ ma mb mc hsa hsb hsc
      | true =>
        have Ha := dyis_of (bd := bda) (s := sa) Ma hsa ua.1 ua.2
        have Hb := dyis_of (bd := bdb) (s := sb) Mb hsb ub.1 ub.2
        have Hc := dyis_of (bd := bdc) (s := sc) Mc hsc uc.1 uc.2
        cases va : nrmB bda (sgn sa xa) ea with
        | none =>
          rw [va] at Ha
          exact ring_bad w hT _ _ _ _ _ _ _ Ha _ _ _ _ _ _ _ Hb _ _ _ _ _ _ ma mb mc hsa hsb hsc rfl _ _ _ _ rfl rfl rfl rfl (by decide) rfl (by rw [dmul_none]; rfl) (by show dbad (dadd _ none) = true; rw [dadd_none]; rfl) rfl
        | some p =>
          obtain ⟨m, e⟩ := p
          rw [va] at Ha
          have Sa := slim_nrm hsa Ma.lt va
          cases vb : nrmB bdb (sgn sb xb) eb with
          | none =>
            rw [vb] at Hb
            exact ring_vb w hT _ _ _ _ _ _ _ Ha _ _ _ _ _ _ _ Hb _ _ _ _ _ _ ma mb mc hsa hsb hsc rfl rfl
          | some q =>
            obtain ⟨n, f⟩ := q
            rw [vb] at Hb
            have Sb := slim_nrm hsb Mb.lt vb
            cases vc : nrmB bdc (sgn sc xc) ec with
            | none =>
              rw [vc] at Hc
              exact ring_vc w hT _ _ _ _ _ _ _ Ha _ _ _ _ _ _ _ Hb _ _ _ _ _ _ _ Hc ma mb mc hsa hsb hsc rfl rfl rfl
            | some r =>
              obtain ⟨k, g⟩ := r
              rw [vc] at Hc
              have Sc := slim_nrm hsc Mc.lt vc
              obtain ⟨h1, h2, h3, h4⟩ := ring_law Sa Sb Sc
              exact ring_main w hT _ _ _ _ _ _ _ Ha _ _ _ _ _ _ _ Hb _ _ _ _ _ _ _ Hc ma mb mc hsa hsb hsc rfl rfl rfl _ _ (some (0, 0)) _ _ _ _ _ _ rfl (dadd_comm _ _) rfl (dmul_comm _ _) h1 (by decide) rfl rfl h2.symm rfl rfl h3.symm rfl rfl h4.symm

end Go.Proofs.YtjhngehajahbnaaDoor

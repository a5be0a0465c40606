/-
  Walks: the law FloatMonotone.
-/
import Derived.Test.YtkpglfloddkclaaDoorHk
import Derived.Test.YtkpglfloddkclaaDoorHl
namespace Go.Proofs.YtkpglfloddkclaaDoor
open Go.RowKit Sp

set_option maxRecDepth 100000 in
set_option maxHeartbeats 20000000 in
theorem mono_na (w : World) (hT : Tab w) (bda sa : Bool) (aa : Option Addr) (na pa : Nat) (ea : Int) (bdb sb : Bool) (ab : Option Addr) (nb pb : Nat) (eb : Int) (f g h : Nat) (_hf : f < 18446744073709551616) (_hg : g < 18446744073709551616) (_hh : h < 18446744073709551616) (mode : Int) (ma : na ≤ 9223372036854775807) (_mb : nb ≤ 9223372036854775807) (hsa : slim3B na ea = false) :
    Calls Tryd.prog 5 #[.agg #[.bool bda, .bool sa, .slice aa na pa, .int .i64 ea], .agg #[.bool bdb, .bool sb, .slice ab nb pb, .int .i64 eb], .int .u64 f, .int .u64 g, .int .u64 h, .int .i64 mode] w fun o w' => o = .returned (.bool true) ∧ Below w.heap.size w w' := by
  have HSla := fun W => Lib.hid (slimDyad3_any W bda sa aa na pa ea ma false hsa)
  have HW := fun W ht => Lib.hid (awakeF_any W ht)
  go_enter Tryd.func5, Tryd.ntmps5
  go_wp2_with fail
  have I0 := (DyV.made w 28 bda sa (.slice aa na pa) ea).alloc (.cells #[.bool bdb, .bool sb, .slice ab nb pb, .int .i64 eb] 28)
  have I1 := DyV.made' (w.alloc (.cells #[.bool bda, .bool sa, .slice aa na pa, .int .i64 ea] 28)) 28 bdb sb (.slice ab nb pb) eb (n := w.heap.size + 1) (by rw [World.size_alloc])
  have B0 : Below w.heap.size w ((w.alloc (.cells #[.bool bda, .bool sa, .slice aa na pa, .int .i64 ea] 28)).alloc (.cells #[.bool bdb, .bool sb, .slice ab nb pb, .int .i64 eb] 28)) := (by repeat (with_reducible first | refine Below.setCell ?_ (by simp <;> omega) _ | refine Below.alloc ?_ (by simp <;> omega) _ | refine Below.drew ?_ | refine below_drewN ?_ _ | exact Below.refl _ _))
  generalize ((w.alloc (.cells #[.bool bda, .bool sa, .slice aa na pa, .int .i64 ea] 28)).alloc (.cells #[.bool bdb, .bool sb, .slice ab nb pb, .int .i64 eb] 28)) = w0 at I0 I1 B0 ⊢
  have ne01 : ¬ w.heap.size = w.heap.size + 1 := by omega
  have ne10 : ¬ w.heap.size + 1 = w.heap.size := by omega
  generalize hb1 : w.heap.size + 1 = b1 at I1 ne01 ne10 ⊢
  generalize hb0 : w.heap.size = b0 at I0 ne01 ne10 ⊢
  obtain ⟨ac0, ac1, ac2, ac3, ac4, ac5⟩ := I0
  have Va0 := Lib.hid (DyV.mk ac0 ac1 ac2 ac3 ac4 ac5)
  obtain ⟨bc0, bc1, bc2, bc3, bc4, bc5⟩ := I1
  have Vb0 := Lib.hid (DyV.mk bc0 bc1 bc2 bc3 bc4 bc5)
  refine (HSla _).out.mono ?_
  rintro e w1 ⟨rfl, hb1⟩
  have Va1 : DyV w1 b0 bda sa (.slice aa na pa) ea := (by refine DyV.below ?_ hb1; (repeat (with_reducible first | refine DyV.drew ?_ | refine DyV.drewN ?_ _ | refine DyV.alloc ?_ _)); exact Va0.out)
  (try clear ac0 ac1 ac2 ac3 ac4)
  obtain ⟨ac0, ac1, ac2, ac3, ac4, ac5⟩ := Va1
  have Va1 := Lib.hid (DyV.mk ac0 ac1 ac2 ac3 ac4 ac5)
  have Vb1 : DyV w1 b1 bdb sb (.slice ab nb pb) eb := (by refine DyV.below ?_ hb1; (repeat (with_reducible first | refine DyV.drew ?_ | refine DyV.drewN ?_ _ | refine DyV.alloc ?_ _)); exact Vb0.out)
  (try clear bc0 bc1 bc2 bc3 bc4)
  obtain ⟨bc0, bc1, bc2, bc3, bc4, bc5⟩ := Vb1
  have Vb1 := Lib.hid (DyV.mk bc0 bc1 bc2 bc3 bc4 bc5)
  have B1 := below_box (w := w) (by have hszw := (B0).size; repeat (with_reducible first | refine Below.setCell ?_ (by first | omega | (simp <;> omega)) _ | refine Below.alloc ?_ (by first | omega | (simp <;> omega)) _ | refine Below.drew ?_ | refine below_drewN ?_ _ | exact B0)) hb1
  clear hb1
  go_wp2_with fail
  refine (HW _ (hT.below (by have hszw := (B1).size; repeat (with_reducible first | refine Below.setCell ?_ (by first | omega | (simp <;> omega)) _ | refine Below.alloc ?_ (by first | omega | (simp <;> omega)) _ | refine Below.drew ?_ | refine below_drewN ?_ _ | exact B1)))).out.mono ?_
  rintro e w2 ⟨rfl, hb2⟩
  have Va2 : DyV w2 b0 bda sa (.slice aa na pa) ea := (by refine DyV.below ?_ hb2; (repeat (with_reducible first | refine DyV.drew ?_ | refine DyV.drewN ?_ _ | refine DyV.alloc ?_ _)); exact Va1.out)
  (try clear ac0 ac1 ac2 ac3 ac4)
  obtain ⟨ac0, ac1, ac2, ac3, ac4, ac5⟩ := Va2
  have Va2 := Lib.hid (DyV.mk ac0 ac1 ac2 ac3 ac4 ac5)
  have Vb2 : DyV w2 b1 bdb sb (.slice ab nb pb) eb := (by refine DyV.below ?_ hb2; (repeat (with_reducible first | refine DyV.drew ?_ | refine DyV.drewN ?_ _ | refine DyV.alloc ?_ _)); exact Vb1.out)
  (try clear bc0 bc1 bc2 bc3 bc4)
  obtain ⟨bc0, bc1, bc2, bc3, bc4, bc5⟩ := Vb2
  have Vb2 := Lib.hid (DyV.mk bc0 bc1 bc2 bc3 bc4 bc5)
  have B2 := below_box (w := w) (by have hszw := (B1).size; repeat (with_reducible first | refine Below.setCell ?_ (by first | omega | (simp <;> omega)) _ | refine Below.alloc ?_ (by first | omega | (simp <;> omega)) _ | refine Below.drew ?_ | refine below_drewN ?_ _ | exact B1)) hb2
  clear hb2
  go_wp2_with fail
  go_ret
  exact ⟨rfl, (by have hszw := (B2).size; repeat (with_reducible first | refine Below.setCell ?_ (by first | omega | (simp <;> omega)) _ | refine Below.alloc ?_ (by first | omega | (simp <;> omega)) _ | refine Below.drew ?_ | refine below_drewN ?_ _ | exact B2))⟩

set_option maxRecDepth 100000 in
set_option maxHeartbeats 20000000 in
theorem mono_nb (w : World) (hT : Tab w) (bda sa : Bool) (aa : Option Addr) (na pa : Nat) (ea : Int) (bdb sb : Bool) (ab : Option Addr) (nb pb : Nat) (eb : Int) (f g h : Nat) (_hf : f < 18446744073709551616) (_hg : g < 18446744073709551616) (_hh : h < 18446744073709551616) (mode : Int) (ma : na ≤ 9223372036854775807) (mb : nb ≤ 9223372036854775807) (hsa : slim3B na ea = true) (hsb : slim3B nb eb = false) :
    Calls Tryd.prog 5 #[.agg #[.bool bda, .bool sa, .slice aa na pa, .int .i64 ea], .agg #[.bool bdb, .bool sb, .slice ab nb pb, .int .i64 eb], .int .u64 f, .int .u64 g, .int .u64 h, .int .i64 mode] w fun o w' => o = .returned (.bool true) ∧ Below w.heap.size w w' := by
  have HSla := fun W => Lib.hid (slimDyad3_any W bda sa aa na pa ea ma true hsa)
  have HSlb := fun W => Lib.hid (slimDyad3_any W bdb sb ab nb pb eb mb false hsb)
  have HW := fun W ht => Lib.hid (awakeF_any W ht)
  go_enter Tryd.func5, Tryd.ntmps5
  go_wp2_with fail
  have I0 := (DyV.made w 28 bda sa (.slice aa na pa) ea).alloc (.cells #[.bool bdb, .bool sb, .slice ab nb pb, .int .i64 eb] 28)
  have I1 := DyV.made' (w.alloc (.cells #[.bool bda, .bool sa, .slice aa na pa, .int .i64 ea] 28)) 28 bdb sb (.slice ab nb pb) eb (n := w.heap.size + 1) (by rw [World.size_alloc])
  have B0 : Below w.heap.size w ((w.alloc (.cells #[.bool bda, .bool sa, .slice aa na pa, .int .i64 ea] 28)).alloc (.cells #[.bool bdb, .bool sb, .slice ab nb pb, .int .i64 eb] 28)) := (by repeat (with_reducible first | refine Below.setCell ?_ (by simp <;> omega) _ | refine Below.alloc ?_ (by simp <;> omega) _ | refine Below.drew ?_ | refine below_drewN ?_ _ | exact Below.refl _ _))
  generalize ((w.alloc (.cells #[.bool bda, .bool sa, .slice aa na pa, .int .i64 ea] 28)).alloc (.cells #[.bool bdb, .bool sb, .slice ab nb pb, .int .i64 eb] 28)) = w0 at I0 I1 B0 ⊢
  have ne01 : ¬ w.heap.size = w.heap.size + 1 := by omega
  have ne10 : ¬ w.heap.size + 1 = w.heap.size := by omega
  generalize hb1 : w.heap.size + 1 = b1 at I1 ne01 ne10 ⊢
  generalize hb0 : w.heap.size = b0 at I0 ne01 ne10 ⊢
  obtain ⟨ac0, ac1, ac2, ac3, ac4, ac5⟩ := I0
  have Va0 := Lib.hid (DyV.mk ac0 ac1 ac2 ac3 ac4 ac5)
  obtain ⟨bc0, bc1, bc2, bc3, bc4, bc5⟩ := I1
  have Vb0 := Lib.hid (DyV.mk bc0 bc1 bc2 bc3 bc4 bc5)
  refine (HSla _).out.mono ?_
  rintro e w1 ⟨rfl, hb1⟩
  have Va1 : DyV w1 b0 bda sa (.slice aa na pa) ea := (by refine DyV.below ?_ hb1; (repeat (with_reducible first | refine DyV.drew ?_ | refine DyV.drewN ?_ _ | refine DyV.alloc ?_ _)); exact Va0.out)
  (try clear ac0 ac1 ac2 ac3 ac4)
  obtain ⟨ac0, ac1, ac2, ac3, ac4, ac5⟩ := Va1
  have Va1 := Lib.hid (DyV.mk ac0 ac1 ac2 ac3 ac4 ac5)
  have Vb1 : DyV w1 b1 bdb sb (.slice ab nb pb) eb := (by refine DyV.below ?_ hb1; (repeat (with_reducible first | refine DyV.drew ?_ | refine DyV.drewN ?_ _ | refine DyV.alloc ?_ _)); exact Vb0.out)
  (try clear bc0 bc1 bc2 bc3 bc4)
  obtain ⟨bc0, bc1, bc2, bc3, bc4, bc5⟩ := Vb1
  have Vb1 := Lib.hid (DyV.mk bc0 bc1 bc2 bc3 bc4 bc5)
  have B1 := below_box (w := w) (by have hszw := (B0).size; repeat (with_reducible first | refine Below.setCell ?_ (by first | omega | (simp <;> omega)) _ | refine Below.alloc ?_ (by first | omega | (simp <;> omega)) _ | refine Below.drew ?_ | refine below_drewN ?_ _ | exact B0)) hb1
  clear hb1
  go_wp2_with fail
  refine (HSlb _).out.mono ?_
  rintro e w2 ⟨rfl, hb2⟩
  have Va2 : DyV w2 b0 bda sa (.slice aa na pa) ea := (by refine DyV.below ?_ hb2; (repeat (with_reducible first | refine DyV.drew ?_ | refine DyV.drewN ?_ _ | refine DyV.alloc ?_ _)); exact Va1.out)
  (try clear ac0 ac1 ac2 ac3 ac4)
  obtain ⟨ac0, ac1, ac2, ac3, ac4, ac5⟩ := Va2
  have Va2 := Lib.hid (DyV.mk ac0 ac1 ac2 ac3 ac4 ac5)
  have Vb2 : DyV w2 b1 bdb sb (.slice ab nb pb) eb := (by refine DyV.below ?_ hb2; (repeat (with_reducible first | refine DyV.drew ?_ | refine DyV.drewN ?_ _ | refine DyV.alloc ?_ _)); exact Vb1.out)
  (try clear bc0 bc1 bc2 bc3 bc4)
  obtain ⟨bc0, bc1, bc2, bc3, bc4, bc5⟩ := Vb2
  have Vb2 := Lib.hid (DyV.mk bc0 bc1 bc2 bc3 bc4 bc5)
  have B2 := below_box (w := w) (by have hszw := (B1).size; repeat (with_reducible first | refine Below.setCell ?_ (by first | omega | (simp <;> omega)) _ | refine Below.alloc ?_ (by first | omega | (simp <;> omega)) _ | refine Below.drew ?_ | refine below_drewN ?_ _ | exact B1)) hb2
  clear hb2
  go_wp2_with fail
  refine (HW _ (hT.below (by have hszw := (B2).size; repeat (with_reducible first | refine Below.setCell ?_ (by first | omega | (simp <;> omega)) _ | refine Below.alloc ?_ (by first | omega | (simp <;> omega)) _ | refine Below.drew ?_ | refine below_drewN ?_ _ | exact B2)))).out.mono ?_
  rintro e w3 ⟨rfl, hb3⟩
  have Va3 : DyV w3 b0 bda sa (.slice aa na pa) ea := (by refine DyV.below ?_ hb3; (repeat (with_reducible first | refine DyV.drew ?_ | refine DyV.drewN ?_ _ | refine DyV.alloc ?_ _)); exact Va2.out)
  (try clear ac0 ac1 ac2 ac3 ac4)
  obtain ⟨ac0, ac1, ac2, ac3, ac4, ac5⟩ := Va3
  have Va3 := Lib.hid (DyV.mk ac0 ac1 ac2 ac3 ac4 ac5)
  have Vb3 : DyV w3 b1 bdb sb (.slice ab nb pb) eb := (by refine DyV.below ?_ hb3; (repeat (with_reducible first | refine DyV.drew ?_ | refine DyV.drewN ?_ _ | refine DyV.alloc ?_ _)); exact Vb2.out)
  (try clear bc0 bc1 bc2 bc3 bc4)
  obtain ⟨bc0, bc1, bc2, bc3, bc4, bc5⟩ := Vb3
  have Vb3 := Lib.hid (DyV.mk bc0 bc1 bc2 bc3 bc4 bc5)
  have B3 := below_box (w := w) (by have hszw := (B2).size; repeat (with_reducible first | refine Below.setCell ?_ (by first | omega | (simp <;> omega)) _ | refine Below.alloc ?_ (by first | omega | (simp <;> omega)) _ | refine Below.drew ?_ | refine below_drewN ?_ _ | exact B2)) hb3
  clear hb3
  go_wp2_with fail
  go_ret
  exact ⟨rfl, (by have hszw := (B3).size; repeat (with_reducible first | refine Below.setCell ?_ (by first | omega | (simp <;> omega)) _ | refine Below.alloc ?_ (by first | omega | (simp <;> omega)) _ | refine Below.drew ?_ | refine below_drewN ?_ _ | exact B3))⟩

set_option maxRecDepth 100000 in
set_option maxHeartbeats 20000000 in
theorem mono_T_Ta (w : World) (hT : Tab w) (bda sa : Bool) (aa : Option Addr) (na pa : Nat) (ea : Int) (da : Option (Int × Int)) (Ha : DyIs w bda sa aa na pa ea da) (bdb sb : Bool) (ab : Option Addr) (nb pb : Nat) (eb : Int) (db : Option (Int × Int)) (Hb : DyIs w bdb sb ab nb pb eb db) (f g h : Nat) (hf : f < 18446744073709551616) (hg : g < 18446744073709551616) (_hh : h < 18446744073709551616) (mode : Int) (ma : na ≤ 9223372036854775807) (mb : nb ≤ 9223372036854775807) (hsa : slim3B na ea = true) (hsb : slim3B nb eb = true) (ok : (!dbad da && !dbad db) = true) (cc : dcmp da db ≤ 0) (r1 : fcmpok (fround da mode) (fround db mode) = true) (r2 : fcmpv (fround da mode) (fround db mode) ≤ 0) (fk : fcmpok f g = true) (fc : fcmpv f g ≤ 0) (k1 : fcmpok (fadd f h mode) (fadd g h mode) = false) :
    Calls Tryd.prog 5 #[.agg #[.bool bda, .bool sa, .slice aa na pa, .int .i64 ea], .agg #[.bool bdb, .bool sb, .slice ab nb pb, .int .i64 eb], .int .u64 f, .int .u64 g, .int .u64 h, .int .i64 mode] w fun o w' => o = .returned (.bool true) ∧ Below w.heap.size w w' := by
  have HSla := fun W => Lib.hid (slimDyad3_any W bda sa aa na pa ea ma true hsa)
  have HSlb := fun W => Lib.hid (slimDyad3_any W bdb sb ab nb pb eb mb true hsb)
  have HW := fun W ht => Lib.hid (awakeF_any W ht)
  have Ga := Lib.hid Ha
  have Gb := Lib.hid Hb
  have HC := fun W (h : DyIs W bda sa aa na pa ea da) (h' : DyIs W bdb sb ab nb pb eb db) ht => Lib.hid (dcmp_any W bda sa bdb sb aa ab na nb pa pb ea eb da db h.1 h'.1 ht)
  rw [ok] at HC
  have c1 : decide (dcmp da db ≤ 0) = true := by simpa using cc
  have HR1 := fun W (h : DyIs W bda sa aa na pa ea da) ht => Lib.hid (fround_any W bda sa aa na pa ea mode da h.1 ht)
  have HR2 := fun W (h : DyIs W bdb sb ab nb pb eb db) ht => Lib.hid (fround_any W bdb sb ab nb pb eb mode db h.1 ht)
  have HR3 := fun W => Lib.hid (fcmp_any W (fround da mode) (fround db mode) (fround_lt _ _) (fround_lt _ _))
  rw [r1] at HR3
  have c2 : decide (0 < fcmpv (fround da mode) (fround db mode)) = false := by simp; omega
  generalize fcmpv (fround da mode) (fround db mode) = v1 at *
  generalize ((fround da mode : Nat) : Int) = i1 at *
  generalize ((fround db mode : Nat) : Int) = i2 at *
  generalize dcmp da db = v0 at *
  have HF := fun W => Lib.hid (fcmp_any W f g hf hg)
  rw [fk] at HF
  have d1 : decide (fcmpv f g ≤ 0) = true := by simpa using fc
  have HA1 := fun W ht => Lib.hid (wadd_any W f h hf _hh mode ht)
  have HA2 := fun W ht => Lib.hid (wadd_any W g h hg _hh mode ht)
  have HA3 := fun W => Lib.hid (fcmp_any W (fadd f h mode) (fadd g h mode) (fadd_lt hf _hh mode) (fadd_lt hg _hh mode))
  rw [k1] at HA3
  generalize fcmpv (fadd f h mode) (fadd g h mode) = v2 at *
  generalize ((fadd f h mode : Nat) : Int) = i3 at *
  generalize ((fadd g h mode : Nat) : Int) = i4 at *
  generalize fcmpv f g = v3 at *
  clear ok cc r1 r2 fk fc k1 Ha Hb hsa hsb hf hg _hh
  generalize (f : Int) = jf at *
  generalize (g : Int) = jg at *
  generalize (h : Int) = jh at *
  go_enter Tryd.func5, Tryd.ntmps5
  go_wp2_with fail
  have I0 := (DyV.made w 28 bda sa (.slice aa na pa) ea).alloc (.cells #[.bool bdb, .bool sb, .slice ab nb pb, .int .i64 eb] 28)
  have I1 := DyV.made' (w.alloc (.cells #[.bool bda, .bool sa, .slice aa na pa, .int .i64 ea] 28)) 28 bdb sb (.slice ab nb pb) eb (n := w.heap.size + 1) (by rw [World.size_alloc])
  have B0 : Below w.heap.size w ((w.alloc (.cells #[.bool bda, .bool sa, .slice aa na pa, .int .i64 ea] 28)).alloc (.cells #[.bool bdb, .bool sb, .slice ab nb pb, .int .i64 eb] 28)) := (by repeat (with_reducible first | refine Below.setCell ?_ (by simp <;> omega) _ | refine Below.alloc ?_ (by simp <;> omega) _ | refine Below.drew ?_ | refine below_drewN ?_ _ | exact Below.refl _ _))
  generalize ((w.alloc (.cells #[.bool bda, .bool sa, .slice aa na pa, .int .i64 ea] 28)).alloc (.cells #[.bool bdb, .bool sb, .slice ab nb pb, .int .i64 eb] 28)) = w0 at I0 I1 B0 ⊢
  have ne01 : ¬ w.heap.size = w.heap.size + 1 := by omega
  have ne10 : ¬ w.heap.size + 1 = w.heap.size := by omega
  generalize hb1 : w.heap.size + 1 = b1 at I1 ne01 ne10 ⊢
  generalize hb0 : w.heap.size = b0 at I0 ne01 ne10 ⊢
  obtain ⟨ac0, ac1, ac2, ac3, ac4, ac5⟩ := I0
  have Va0 := Lib.hid (DyV.mk ac0 ac1 ac2 ac3 ac4 ac5)
  obtain ⟨bc0, bc1, bc2, bc3, bc4, bc5⟩ := I1
  have Vb0 := Lib.hid (DyV.mk bc0 bc1 bc2 bc3 bc4 bc5)
  refine (HSla _).out.mono ?_
  rintro e w1 ⟨rfl, hb1⟩
  have Va1 : DyV w1 b0 bda sa (.slice aa na pa) ea := (by refine DyV.below ?_ hb1; (repeat (with_reducible first | refine DyV.drew ?_ | refine DyV.drewN ?_ _ | refine DyV.alloc ?_ _)); exact Va0.out)
  (try clear ac0 ac1 ac2 ac3 ac4)
  obtain ⟨ac0, ac1, ac2, ac3, ac4, ac5⟩ := Va1
  have Va1 := Lib.hid (DyV.mk ac0 ac1 ac2 ac3 ac4 ac5)
  have Vb1 : DyV w1 b1 bdb sb (.slice ab nb pb) eb := (by refine DyV.below ?_ hb1; (repeat (with_reducible first | refine DyV.drew ?_ | refine DyV.drewN ?_ _ | refine DyV.alloc ?_ _)); exact Vb0.out)
  (try clear bc0 bc1 bc2 bc3 bc4)
  obtain ⟨bc0, bc1, bc2, bc3, bc4, bc5⟩ := Vb1
  have Vb1 := Lib.hid (DyV.mk bc0 bc1 bc2 bc3 bc4 bc5)
  have B1 := below_box (w := w) (by have hszw := (B0).size; repeat (with_reducible first | refine Below.setCell ?_ (by first | omega | (simp <;> omega)) _ | refine Below.alloc ?_ (by first | omega | (simp <;> omega)) _ | refine Below.drew ?_ | refine below_drewN ?_ _ | exact B0)) hb1
  clear hb1
  go_wp2_with fail
  refine (HSlb _).out.mono ?_
  rintro e w2 ⟨rfl, hb2⟩
  have Va2 : DyV w2 b0 bda sa (.slice aa na pa) ea := (by refine DyV.below ?_ hb2; (repeat (with_reducible first | refine DyV.drew ?_ | refine DyV.drewN ?_ _ | refine DyV.alloc ?_ _)); exact Va1.out)
  (try clear ac0 ac1 ac2 ac3 ac4)
  obtain ⟨ac0, ac1, ac2, ac3, ac4, ac5⟩ := Va2
  have Va2 := Lib.hid (DyV.mk ac0 ac1 ac2 ac3 ac4 ac5)
  have Vb2 : DyV w2 b1 bdb sb (.slice ab nb pb) eb := (by refine DyV.below ?_ hb2; (repeat (with_reducible first | refine DyV.drew ?_ | refine DyV.drewN ?_ _ | refine DyV.alloc ?_ _)); exact Vb1.out)
  (try clear bc0 bc1 bc2 bc3 bc4)
  obtain ⟨bc0, bc1, bc2, bc3, bc4, bc5⟩ := Vb2
  have Vb2 := Lib.hid (DyV.mk bc0 bc1 bc2 bc3 bc4 bc5)
  have B2 := below_box (w := w) (by have hszw := (B1).size; repeat (with_reducible first | refine Below.setCell ?_ (by first | omega | (simp <;> omega)) _ | refine Below.alloc ?_ (by first | omega | (simp <;> omega)) _ | refine Below.drew ?_ | refine below_drewN ?_ _ | exact B1)) hb2
  clear hb2
  go_wp2_with fail
  refine (HC _ (Ga.out.below (by have hszw := (B2).size; repeat (with_reducible first | refine Below.setCell ?_ (by first | omega | (simp <;> omega)) _ | refine Below.alloc ?_ (by first | omega | (simp <;> omega)) _ | refine Below.drew ?_ | refine below_drewN ?_ _ | exact B2))) (Gb.out.below (by have hszw := (B2).size; repeat (with_reducible first | refine Below.setCell ?_ (by first | omega | (simp <;> omega)) _ | refine Below.alloc ?_ (by first | omega | (simp <;> omega)) _ | refine Below.drew ?_ | refine below_drewN ?_ _ | exact B2))) (hT.below (by have hszw := (B2).size; repeat (with_reducible first | refine Below.setCell ?_ (by first | omega | (simp <;> omega)) _ | refine Below.alloc ?_ (by first | omega | (simp <;> omega)) _ | refine Below.drew ?_ | refine below_drewN ?_ _ | exact B2)))).out.mono ?_
  rintro e w3 ⟨rfl, hb3⟩
  have Va3 : DyV w3 b0 bda sa (.slice aa na pa) ea := (by refine DyV.below ?_ hb3; (repeat (with_reducible first | refine DyV.drew ?_ | refine DyV.drewN ?_ _ | refine DyV.alloc ?_ _)); exact Va2.out)
  (try clear ac0 ac1 ac2 ac3 ac4)
  obtain ⟨ac0, ac1, ac2, ac3, ac4, ac5⟩ := Va3
  have Va3 := Lib.hid (DyV.mk ac0 ac1 ac2 ac3 ac4 ac5)
  have Vb3 : DyV w3 b1 bdb sb (.slice ab nb pb) eb := (by refine DyV.below ?_ hb3; (repeat (with_reducible first | refine DyV.drew ?_ | refine DyV.drewN ?_ _ | refine DyV.alloc ?_ _)); exact Vb2.out)
  (try clear bc0 bc1 bc2 bc3 bc4)
  obtain ⟨bc0, bc1, bc2, bc3, bc4, bc5⟩ := Vb3
  have Vb3 := Lib.hid (DyV.mk bc0 bc1 bc2 bc3 bc4 bc5)
  have B3 := below_box (w := w) (by have hszw := (B2).size; repeat (with_reducible first | refine Below.setCell ?_ (by first | omega | (simp <;> omega)) _ | refine Below.alloc ?_ (by first | omega | (simp <;> omega)) _ | refine Below.drew ?_ | refine below_drewN ?_ _ | exact B2)) hb3
  clear hb3
  go_wp2_with fail
  first
  | go_region_held3 (fun w' => w'.cell? ⟨b0, 0, none⟩ = some (.bool bda) ∧ w'.cell? ⟨b0, 1, none⟩ = some (.bool sa) ∧ w'.cell? ⟨b0, 2, none⟩ = some ((.slice aa na pa)) ∧ w'.cell? ⟨b0, 3, none⟩ = some (.int .i64 ea) ∧ w'.cell? ⟨b1, 0, none⟩ = some (.bool bdb) ∧ w'.cell? ⟨b1, 1, none⟩ = some (.bool sb) ∧ w'.cell? ⟨b1, 2, none⟩ = some ((.slice ab nb pb)) ∧ w'.cell? ⟨b1, 3, none⟩ = some (.int .i64 eb)) (first | (go_keep; done) | (go_simp; done))
      (first
        | (go_at_call 23; have xx := B5; refine (HR3 _).out.mono ?_; rintro e w6 ⟨rfl, hb6⟩; have Va6 : DyV w6 b0 bda sa (.slice aa na pa) ea := (by refine DyV.below ?_ hb6; (repeat (with_reducible first | refine DyV.drew ?_ | refine DyV.drewN ?_ _ | refine DyV.alloc ?_ _)); exact Va5.out); (try clear ac0 ac1 ac2 ac3 ac4); obtain ⟨ac0, ac1, ac2, ac3, ac4, ac5⟩ := Va6; have Va6 := Lib.hid (DyV.mk ac0 ac1 ac2 ac3 ac4 ac5); have Vb6 : DyV w6 b1 bdb sb (.slice ab nb pb) eb := (by refine DyV.below ?_ hb6; (repeat (with_reducible first | refine DyV.drew ?_ | refine DyV.drewN ?_ _ | refine DyV.alloc ?_ _)); exact Vb5.out); (try clear bc0 bc1 bc2 bc3 bc4); obtain ⟨bc0, bc1, bc2, bc3, bc4, bc5⟩ := Vb6; have Vb6 := Lib.hid (DyV.mk bc0 bc1 bc2 bc3 bc4 bc5); have B6 := below_box (w := w) (by have hszw := (B5).size; repeat (with_reducible first | refine Below.setCell ?_ (by first | omega | (simp <;> omega)) _ | refine Below.alloc ?_ (by first | omega | (simp <;> omega)) _ | refine Below.drew ?_ | refine below_drewN ?_ _ | exact B5)) hb6; clear hb6)
        | (go_at_call 19; have xx := B4; refine (HR2 _ (Gb.out.below (by have hszw := (B4).size; repeat (with_reducible first | refine Below.setCell ?_ (by first | omega | (simp <;> omega)) _ | refine Below.alloc ?_ (by first | omega | (simp <;> omega)) _ | refine Below.drew ?_ | refine below_drewN ?_ _ | exact B4))) (hT.below (by have hszw := (B4).size; repeat (with_reducible first | refine Below.setCell ?_ (by first | omega | (simp <;> omega)) _ | refine Below.alloc ?_ (by first | omega | (simp <;> omega)) _ | refine Below.drew ?_ | refine below_drewN ?_ _ | exact B4)))).out.mono ?_; rintro e w5 ⟨rfl, hb5⟩; have Va5 : DyV w5 b0 bda sa (.slice aa na pa) ea := (by refine DyV.below ?_ hb5; (repeat (with_reducible first | refine DyV.drew ?_ | refine DyV.drewN ?_ _ | refine DyV.alloc ?_ _)); exact Va4.out); (try clear ac0 ac1 ac2 ac3 ac4); obtain ⟨ac0, ac1, ac2, ac3, ac4, ac5⟩ := Va5; have Va5 := Lib.hid (DyV.mk ac0 ac1 ac2 ac3 ac4 ac5); have Vb5 : DyV w5 b1 bdb sb (.slice ab nb pb) eb := (by refine DyV.below ?_ hb5; (repeat (with_reducible first | refine DyV.drew ?_ | refine DyV.drewN ?_ _ | refine DyV.alloc ?_ _)); exact Vb4.out); (try clear bc0 bc1 bc2 bc3 bc4); obtain ⟨bc0, bc1, bc2, bc3, bc4, bc5⟩ := Vb5; have Vb5 := Lib.hid (DyV.mk bc0 bc1 bc2 bc3 bc4 bc5); have B5 := below_box (w := w) (by have hszw := (B4).size; repeat (with_reducible first | refine Below.setCell ?_ (by first | omega | (simp <;> omega)) _ | refine Below.alloc ?_ (by first | omega | (simp <;> omega)) _ | refine Below.drew ?_ | refine below_drewN ?_ _ | exact B4)) hb5; clear hb5)
        | (go_at_call 19; have xx := B3; refine (HR1 _ (Ga.out.below (by have hszw := (B3).size; repeat (with_reducible first | refine Below.setCell ?_ (by first | omega | (simp <;> omega)) _ | refine Below.alloc ?_ (by first | omega | (simp <;> omega)) _ | refine Below.drew ?_ | refine below_drewN ?_ _ | exact B3))) (hT.below (by have hszw := (B3).size; repeat (with_reducible first | refine Below.setCell ?_ (by first | omega | (simp <;> omega)) _ | refine Below.alloc ?_ (by first | omega | (simp <;> omega)) _ | refine Below.drew ?_ | refine below_drewN ?_ _ | exact B3)))).out.mono ?_; rintro e w4 ⟨rfl, hb4⟩; have Va4 : DyV w4 b0 bda sa (.slice aa na pa) ea := (by refine DyV.below ?_ hb4; (repeat (with_reducible first | refine DyV.drew ?_ | refine DyV.drewN ?_ _ | refine DyV.alloc ?_ _)); exact Va3.out); (try clear ac0 ac1 ac2 ac3 ac4); obtain ⟨ac0, ac1, ac2, ac3, ac4, ac5⟩ := Va4; have Va4 := Lib.hid (DyV.mk ac0 ac1 ac2 ac3 ac4 ac5); have Vb4 : DyV w4 b1 bdb sb (.slice ab nb pb) eb := (by refine DyV.below ?_ hb4; (repeat (with_reducible first | refine DyV.drew ?_ | refine DyV.drewN ?_ _ | refine DyV.alloc ?_ _)); exact Vb3.out); (try clear bc0 bc1 bc2 bc3 bc4); obtain ⟨bc0, bc1, bc2, bc3, bc4, bc5⟩ := Vb4; have Vb4 := Lib.hid (DyV.mk bc0 bc1 bc2 bc3 bc4 bc5); have B4 := below_box (w := w) (by have hszw := (B3).size; repeat (with_reducible first | refine Below.setCell ?_ (by first | omega | (simp <;> omega)) _ | refine Below.alloc ?_ (by first | omega | (simp <;> omega)) _ | refine Below.drew ?_ | refine below_drewN ?_ _ | exact B3)) hb4; clear hb4)
        | fail)
  | fail "region"
  go_wp2_with fail
  refine (HF _).out.mono ?_
  rintro e w7 ⟨rfl, hb7⟩
  have Va7 : DyV w7 b0 bda sa (.slice aa na pa) ea := (by refine DyV.below ?_ hb7; (repeat (with_reducible first | refine DyV.drew ?_ | refine DyV.drewN ?_ _ | refine DyV.alloc ?_ _)); exact Va6.out)
  (try clear ac0 ac1 ac2 ac3 ac4)
  obtain ⟨ac0, ac1, ac2, ac3, ac4, ac5⟩ := Va7
  have Va7 := Lib.hid (DyV.mk ac0 ac1 ac2 ac3 ac4 ac5)
  have Vb7 : DyV w7 b1 bdb sb (.slice ab nb pb) eb := (by refine DyV.below ?_ hb7; (repeat (with_reducible first | refine DyV.drew ?_ | refine DyV.drewN ?_ _ | refine DyV.alloc ?_ _)); exact Vb6.out)
  (try clear bc0 bc1 bc2 bc3 bc4)
  obtain ⟨bc0, bc1, bc2, bc3, bc4, bc5⟩ := Vb7
  have Vb7 := Lib.hid (DyV.mk bc0 bc1 bc2 bc3 bc4 bc5)
  have B7 := below_box (w := w) (by have hszw := (B6).size; repeat (with_reducible first | refine Below.setCell ?_ (by first | omega | (simp <;> omega)) _ | refine Below.alloc ?_ (by first | omega | (simp <;> omega)) _ | refine Below.drew ?_ | refine below_drewN ?_ _ | exact B6)) hb7
  clear hb7
  go_wp2_with fail
  refine (HA1 _ (hT.below (by have hszw := (B7).size; repeat (with_reducible first | refine Below.setCell ?_ (by first | omega | (simp <;> omega)) _ | refine Below.alloc ?_ (by first | omega | (simp <;> omega)) _ | refine Below.drew ?_ | refine below_drewN ?_ _ | exact B7)))).out.mono ?_
  rintro e w8 ⟨rfl, hb8⟩
  have Va8 : DyV w8 b0 bda sa (.slice aa na pa) ea := (by refine DyV.below ?_ hb8; (repeat (with_reducible first | refine DyV.drew ?_ | refine DyV.drewN ?_ _ | refine DyV.alloc ?_ _)); exact Va7.out)
  (try clear ac0 ac1 ac2 ac3 ac4)
  obtain ⟨ac0, ac1, ac2, ac3, ac4, ac5⟩ := Va8
  have Va8 := Lib.hid (DyV.mk ac0 ac1 ac2 ac3 ac4 ac5)
  have Vb8 : DyV w8 b1 bdb sb (.slice ab nb pb) eb := (by refine DyV.below ?_ hb8; (repeat (with_reducible first | refine DyV.drew ?_ | refine DyV.drewN ?_ _ | refine DyV.alloc ?_ _)); exact Vb7.out)
  (try clear bc0 bc1 bc2 bc3 bc4)
  obtain ⟨bc0, bc1, bc2, bc3, bc4, bc5⟩ := Vb8
  have Vb8 := Lib.hid (DyV.mk bc0 bc1 bc2 bc3 bc4 bc5)
  have B8 := below_box (w := w) (by have hszw := (B7).size; repeat (with_reducible first | refine Below.setCell ?_ (by first | omega | (simp <;> omega)) _ | refine Below.alloc ?_ (by first | omega | (simp <;> omega)) _ | refine Below.drew ?_ | refine below_drewN ?_ _ | exact B7)) hb8
  clear hb8
  go_wp2_with fail
  refine (HA2 _ (hT.below (by have hszw := (B8).size; repeat (with_reducible first | refine Below.setCell ?_ (by first | omega | (simp <;> omega)) _ | refine Below.alloc ?_ (by first | omega | (simp <;> omega)) _ | refine Below.drew ?_ | refine below_drewN ?_ _ | exact B8)))).out.mono ?_
  rintro e w9 ⟨rfl, hb9⟩
  have Va9 : DyV w9 b0 bda sa (.slice aa na pa) ea := (by refine DyV.below ?_ hb9; (repeat (with_reducible first | refine DyV.drew ?_ | refine DyV.drewN ?_ _ | refine DyV.alloc ?_ _)); exact Va8.out)
  (try clear ac0 ac1 ac2 ac3 ac4)
  obtain ⟨ac0, ac1, ac2, ac3, ac4, ac5⟩ := Va9
  have Va9 := Lib.hid (DyV.mk ac0 ac1 ac2 ac3 ac4 ac5)
  have Vb9 : DyV w9 b1 bdb sb (.slice ab nb pb) eb := (by refine DyV.below ?_ hb9; (repeat (with_reducible first | refine DyV.drew ?_ | refine DyV.drewN ?_ _ | refine DyV.alloc ?_ _)); exact Vb8.out)
  (try clear bc0 bc1 bc2 bc3 bc4)
  obtain ⟨bc0, bc1, bc2, bc3, bc4, bc5⟩ := Vb9
  have Vb9 := Lib.hid (DyV.mk bc0 bc1 bc2 bc3 bc4 bc5)
  have B9 := below_box (w := w) (by have hszw := (B8).size; repeat (with_reducible first | refine Below.setCell ?_ (by first | omega | (simp <;> omega)) _ | refine Below.alloc ?_ (by first | omega | (simp <;> omega)) _ | refine Below.drew ?_ | refine below_drewN ?_ _ | exact B8)) hb9
  clear hb9
  go_wp2_with fail
  refine (HA3 _).out.mono ?_
  rintro e w10 ⟨rfl, hb10⟩
  have Va10 : DyV w10 b0 bda sa (.slice aa na pa) ea := (by refine DyV.below ?_ hb10; (repeat (with_reducible first | refine DyV.drew ?_ | refine DyV.drewN ?_ _ | refine DyV.alloc ?_ _)); exact Va9.out)
  (try clear ac0 ac1 ac2 ac3 ac4)
  obtain ⟨ac0, ac1, ac2, ac3, ac4, ac5⟩ := Va10
  have Va10 := Lib.hid (DyV.mk ac0 ac1 ac2 ac3 ac4 ac5)
  have Vb10 : DyV w10 b1 bdb sb (.slice ab nb pb) eb := (by refine DyV.below ?_ hb10; (repeat (with_reducible first | refine DyV.drew ?_ | refine DyV.drewN ?_ _ | refine DyV.alloc ?_ _)); exact Vb9.out)
  (try clear bc0 bc1 bc2 bc3 bc4)
  obtain ⟨bc0, bc1, bc2, bc3, bc4, bc5⟩ := Vb10
  have Vb10 := Lib.hid (DyV.mk bc0 bc1 bc2 bc3 bc4 bc5)
  have B10 := below_box (w := w) (by have hszw := (B9).size; repeat (with_reducible first | refine Below.setCell ?_ (by first | omega | (simp <;> omega)) _ | refine Below.alloc ?_ (by first | omega | (simp <;> omega)) _ | refine Below.drew ?_ | refine below_drewN ?_ _ | exact B9)) hb10
  clear hb10
  go_wp2_with fail
  refine (HW _ (hT.below (by have hszw := (B10).size; repeat (with_reducible first | refine Below.setCell ?_ (by first | omega | (simp <;> omega)) _ | refine Below.alloc ?_ (by first | omega | (simp <;> omega)) _ | refine Below.drew ?_ | refine below_drewN ?_ _ | exact B10)))).out.mono ?_
  rintro e w11 ⟨rfl, hb11⟩
  have Va11 : DyV w11 b0 bda sa (.slice aa na pa) ea := (by refine DyV.below ?_ hb11; (repeat (with_reducible first | refine DyV.drew ?_ | refine DyV.drewN ?_ _ | refine DyV.alloc ?_ _)); exact Va10.out)
  (try clear ac0 ac1 ac2 ac3 ac4)
  obtain ⟨ac0, ac1, ac2, ac3, ac4, ac5⟩ := Va11
  have Va11 := Lib.hid (DyV.mk ac0 ac1 ac2 ac3 ac4 ac5)
  have Vb11 : DyV w11 b1 bdb sb (.slice ab nb pb) eb := (by refine DyV.below ?_ hb11; (repeat (with_reducible first | refine DyV.drew ?_ | refine DyV.drewN ?_ _ | refine DyV.alloc ?_ _)); exact Vb10.out)
  (try clear bc0 bc1 bc2 bc3 bc4)
  obtain ⟨bc0, bc1, bc2, bc3, bc4, bc5⟩ := Vb11
  have Vb11 := Lib.hid (DyV.mk bc0 bc1 bc2 bc3 bc4 bc5)
  have B11 := below_box (w := w) (by have hszw := (B10).size; repeat (with_reducible first | refine Below.setCell ?_ (by first | omega | (simp <;> omega)) _ | refine Below.alloc ?_ (by first | omega | (simp <;> omega)) _ | refine Below.drew ?_ | refine below_drewN ?_ _ | exact B10)) hb11
  clear hb11
  go_wp2_with fail
  go_ret
  exact ⟨rfl, (by have hszw := (B11).size; repeat (with_reducible first | refine Below.setCell ?_ (by first | omega | (simp <;> omega)) _ | refine Below.alloc ?_ (by first | omega | (simp <;> omega)) _ | refine Below.drew ?_ | refine below_drewN ?_ _ | exact B11))⟩

set_option maxRecDepth 100000 in
set_option maxHeartbeats 20000000 in
theorem mono_T_Tb (w : World) (hT : Tab w) (bda sa : Bool) (aa : Option Addr) (na pa : Nat) (ea : Int) (da : Option (Int × Int)) (Ha : DyIs w bda sa aa na pa ea da) (bdb sb : Bool) (ab : Option Addr) (nb pb : Nat) (eb : Int) (db : Option (Int × Int)) (Hb : DyIs w bdb sb ab nb pb eb db) (f g h : Nat) (hf : f < 18446744073709551616) (hg : g < 18446744073709551616) (_hh : h < 18446744073709551616) (mode : Int) (ma : na ≤ 9223372036854775807) (mb : nb ≤ 9223372036854775807) (hsa : slim3B na ea = true) (hsb : slim3B nb eb = true) (ok : (!dbad da && !dbad db) = true) (cc : dcmp da db ≤ 0) (r1 : fcmpok (fround da mode) (fround db mode) = true) (r2 : fcmpv (fround da mode) (fround db mode) ≤ 0) (fk : fcmpok f g = true) (fc : fcmpv f g ≤ 0) (k1 : fcmpok (fadd f h mode) (fadd g h mode) = true) (k2 : fcmpv (fadd f h mode) (fadd g h mode) ≤ 0) :
    Calls Tryd.prog 5 #[.agg #[.bool bda, .bool sa, .slice aa na pa, .int .i64 ea], .agg #[.bool bdb, .bool sb, .slice ab nb pb, .int .i64 eb], .int .u64 f, .int .u64 g, .int .u64 h, .int .i64 mode] w fun o w' => o = .returned (.bool true) ∧ Below w.heap.size w w' := by
  have HSla := fun W => Lib.hid (slimDyad3_any W bda sa aa na pa ea ma true hsa)
  have HSlb := fun W => Lib.hid (slimDyad3_any W bdb sb ab nb pb eb mb true hsb)
  have HW := fun W ht => Lib.hid (awakeF_any W ht)
  have Ga := Lib.hid Ha
  have Gb := Lib.hid Hb
  have HC := fun W (h : DyIs W bda sa aa na pa ea da) (h' : DyIs W bdb sb ab nb pb eb db) ht => Lib.hid (dcmp_any W bda sa bdb sb aa ab na nb pa pb ea eb da db h.1 h'.1 ht)
  rw [ok] at HC
  have c1 : decide (dcmp da db ≤ 0) = true := by simpa using cc
  have HR1 := fun W (h : DyIs W bda sa aa na pa ea da) ht => Lib.hid (fround_any W bda sa aa na pa ea mode da h.1 ht)
  have HR2 := fun W (h : DyIs W bdb sb ab nb pb eb db) ht => Lib.hid (fround_any W bdb sb ab nb pb eb mode db h.1 ht)
  have HR3 := fun W => Lib.hid (fcmp_any W (fround da mode) (fround db mode) (fround_lt _ _) (fround_lt _ _))
  rw [r1] at HR3
  have c2 : decide (0 < fcmpv (fround da mode) (fround db mode)) = false := by simp; omega
  generalize fcmpv (fround da mode) (fround db mode) = v1 at *
  generalize ((fround da mode : Nat) : Int) = i1 at *
  generalize ((fround db mode : Nat) : Int) = i2 at *
  generalize dcmp da db = v0 at *
  have HF := fun W => Lib.hid (fcmp_any W f g hf hg)
  rw [fk] at HF
  have d1 : decide (fcmpv f g ≤ 0) = true := by simpa using fc
  have HA1 := fun W ht => Lib.hid (wadd_any W f h hf _hh mode ht)
  have HA2 := fun W ht => Lib.hid (wadd_any W g h hg _hh mode ht)
  have HA3 := fun W => Lib.hid (fcmp_any W (fadd f h mode) (fadd g h mode) (fadd_lt hf _hh mode) (fadd_lt hg _hh mode))
  rw [k1] at HA3
  have d2 : decide (0 < fcmpv (fadd f h mode) (fadd g h mode)) = false := by simp; omega
  generalize fcmpv (fadd f h mode) (fadd g h mode) = v2 at *
  generalize ((fadd f h mode : Nat) : Int) = i3 at *
  generalize ((fadd g h mode : Nat) : Int) = i4 at *
  generalize fcmpv f g = v3 at *
  clear ok cc r1 r2 fk fc k1 k2 Ha Hb hsa hsb hf hg _hh
  generalize (f : Int) = jf at *
  generalize (g : Int) = jg at *
  generalize (h : Int) = jh at *
  go_enter Tryd.func5, Tryd.ntmps5
  go_wp2_with fail
  have I0 := (DyV.made w 28 bda sa (.slice aa na pa) ea).alloc (.cells #[.bool bdb, .bool sb, .slice ab nb pb, .int .i64 eb] 28)
  have I1 := DyV.made' (w.alloc (.cells #[.bool bda, .bool sa, .slice aa na pa, .int .i64 ea] 28)) 28 bdb sb (.slice ab nb pb) eb (n := w.heap.size + 1) (by rw [World.size_alloc])
  have B0 : Below w.heap.size w ((w.alloc (.cells #[.bool bda, .bool sa, .slice aa na pa, .int .i64 ea] 28)).alloc (.cells #[.bool bdb, .bool sb, .slice ab nb pb, .int .i64 eb] 28)) := (by repeat (with_reducible first | refine Below.setCell ?_ (by simp <;> omega) _ | refine Below.alloc ?_ (by simp <;> omega) _ | refine Below.drew ?_ | refine below_drewN ?_ _ | exact Below.refl _ _))
  generalize ((w.alloc (.cells #[.bool bda, .bool sa, .slice aa na pa, .int .i64 ea] 28)).alloc (.cells #[.bool bdb, .bool sb, .slice ab nb pb, .int .i64 eb] 28)) = w0 at I0 I1 B0 ⊢
  have ne01 : ¬ w.heap.size = w.heap.size + 1 := by omega
  have ne10 : ¬ w.heap.size + 1 = w.heap.size := by omega
  generalize hb1 : w.heap.size + 1 = b1 at I1 ne01 ne10 ⊢
  generalize hb0 : w.heap.size = b0 at I0 ne01 ne10 ⊢
  obtain ⟨ac0, ac1, ac2, ac3, ac4, ac5⟩ := I0
  have Va0 := Lib.hid (DyV.mk ac0 ac1 ac2 ac3 ac4 ac5)
  obtain ⟨bc0, bc1, bc2, bc3, bc4, bc5⟩ := I1
  have Vb0 := Lib.hid (DyV.mk bc0 bc1 bc2 bc3 bc4 bc5)
  refine (HSla _).out.mono ?_
  rintro e w1 ⟨rfl, hb1⟩
  have Va1 : DyV w1 b0 bda sa (.slice aa na pa) ea := (by refine DyV.below ?_ hb1; (repeat (with_reducible first | refine DyV.drew ?_ | refine DyV.drewN ?_ _ | refine DyV.alloc ?_ _)); exact Va0.out)
  (try clear ac0 ac1 ac2 ac3 ac4)
  obtain ⟨ac0, ac1, ac2, ac3, ac4, ac5⟩ := Va1
  have Va1 := Lib.hid (DyV.mk ac0 ac1 ac2 ac3 ac4 ac5)
  have Vb1 : DyV w1 b1 bdb sb (.slice ab nb pb) eb := (by refine DyV.below ?_ hb1; (repeat (with_reducible first | refine DyV.drew ?_ | refine DyV.drewN ?_ _ | refine DyV.alloc ?_ _)); exact Vb0.out)
  (try clear bc0 bc1 bc2 bc3 bc4)
  obtain ⟨bc0, bc1, bc2, bc3, bc4, bc5⟩ := Vb1
  have Vb1 := Lib.hid (DyV.mk bc0 bc1 bc2 bc3 bc4 bc5)
  have B1 := below_box (w := w) (by have hszw := (B0).size; repeat (with_reducible first | refine Below.setCell ?_ (by first | omega | (simp <;> omega)) _ | refine Below.alloc ?_ (by first | omega | (simp <;> omega)) _ | refine Below.drew ?_ | refine below_drewN ?_ _ | exact B0)) hb1
  clear hb1
  go_wp2_with fail
  refine (HSlb _).out.mono ?_
  rintro e w2 ⟨rfl, hb2⟩
  have Va2 : DyV w2 b0 bda sa (.slice aa na pa) ea := (by refine DyV.below ?_ hb2; (repeat (with_reducible first | refine DyV.drew ?_ | refine DyV.drewN ?_ _ | refine DyV.alloc ?_ _)); exact Va1.out)
  (try clear ac0 ac1 ac2 ac3 ac4)
  obtain ⟨ac0, ac1, ac2, ac3, ac4, ac5⟩ := Va2
  have Va2 := Lib.hid (DyV.mk ac0 ac1 ac2 ac3 ac4 ac5)
  have Vb2 : DyV w2 b1 bdb sb (.slice ab nb pb) eb := (by refine DyV.below ?_ hb2; (repeat (with_reducible first | refine DyV.drew ?_ | refine DyV.drewN ?_ _ | refine DyV.alloc ?_ _)); exact Vb1.out)
  (try clear bc0 bc1 bc2 bc3 bc4)
  obtain ⟨bc0, bc1, bc2, bc3, bc4, bc5⟩ := Vb2
  have Vb2 := Lib.hid (DyV.mk bc0 bc1 bc2 bc3 bc4 bc5)
  have B2 := below_box (w := w) (by have hszw := (B1).size; repeat (with_reducible first | refine Below.setCell ?_ (by first | omega | (simp <;> omega)) _ | refine Below.alloc ?_ (by first | omega | (simp <;> omega)) _ | refine Below.drew ?_ | refine below_drewN ?_ _ | exact B1)) hb2
  clear hb2
  go_wp2_with fail
  refine (HC _ (Ga.out.below (by have hszw := (B2).size; repeat (with_reducible first | refine Below.setCell ?_ (by first | omega | (simp <;> omega)) _ | refine Below.alloc ?_ (by first | omega | (simp <;> omega)) _ | refine Below.drew ?_ | refine below_drewN ?_ _ | exact B2))) (Gb.out.below (by have hszw := (B2).size; repeat (with_reducible first | refine Below.setCell ?_ (by first | omega | (simp <;> omega)) _ | refine Below.alloc ?_ (by first | omega | (simp <;> omega)) _ | refine Below.drew ?_ | refine below_drewN ?_ _ | exact B2))) (hT.below (by have hszw := (B2).size; repeat (with_reducible first | refine Below.setCell ?_ (by first | omega | (simp <;> omega)) _ | refine Below.alloc ?_ (by first | omega | (simp <;> omega)) _ | refine Below.drew ?_ | refine below_drewN ?_ _ | exact B2)))).out.mono ?_
  rintro e w3 ⟨rfl, hb3⟩
  have Va3 : DyV w3 b0 bda sa (.slice aa na pa) ea := (by refine DyV.below ?_ hb3; (repeat (with_reducible first | refine DyV.drew ?_ | refine DyV.drewN ?_ _ | refine DyV.alloc ?_ _)); exact Va2.out)
  (try clear ac0 ac1 ac2 ac3 ac4)
  obtain ⟨ac0, ac1, ac2, ac3, ac4, ac5⟩ := Va3
  have Va3 := Lib.hid (DyV.mk ac0 ac1 ac2 ac3 ac4 ac5)
  have Vb3 : DyV w3 b1 bdb sb (.slice ab nb pb) eb := (by refine DyV.below ?_ hb3; (repeat (with_reducible first | refine DyV.drew ?_ | refine DyV.drewN ?_ _ | refine DyV.alloc ?_ _)); exact Vb2.out)
  (try clear bc0 bc1 bc2 bc3 bc4)
  obtain ⟨bc0, bc1, bc2, bc3, bc4, bc5⟩ := Vb3
  have Vb3 := Lib.hid (DyV.mk bc0 bc1 bc2 bc3 bc4 bc5)
  have B3 := below_box (w := w) (by have hszw := (B2).size; repeat (with_reducible first | refine Below.setCell ?_ (by first | omega | (simp <;> omega)) _ | refine Below.alloc ?_ (by first | omega | (simp <;> omega)) _ | refine Below.drew ?_ | refine below_drewN ?_ _ | exact B2)) hb3
  clear hb3
  go_wp2_with fail
  first
  | go_region_held3 (fun w' => w'.cell? ⟨b0, 0, none⟩ = some (.bool bda) ∧ w'.cell? ⟨b0, 1, none⟩ = some (.bool sa) ∧ w'.cell? ⟨b0, 2, none⟩ = some ((.slice aa na pa)) ∧ w'.cell? ⟨b0, 3, none⟩ = some (.int .i64 ea) ∧ w'.cell? ⟨b1, 0, none⟩ = some (.bool bdb) ∧ w'.cell? ⟨b1, 1, none⟩ = some (.bool sb) ∧ w'.cell? ⟨b1, 2, none⟩ = some ((.slice ab nb pb)) ∧ w'.cell? ⟨b1, 3, none⟩ = some (.int .i64 eb)) (first | (go_keep; done) | (go_simp; done))
      (first
        | (go_at_call 23; have xx := B5; refine (HR3 _).out.mono ?_; rintro e w6 ⟨rfl, hb6⟩; have Va6 : DyV w6 b0 bda sa (.slice aa na pa) ea := (by refine DyV.below ?_ hb6; (repeat (with_reducible first | refine DyV.drew ?_ | refine DyV.drewN ?_ _ | refine DyV.alloc ?_ _)); exact Va5.out); (try clear ac0 ac1 ac2 ac3 ac4); obtain ⟨ac0, ac1, ac2, ac3, ac4, ac5⟩ := Va6; have Va6 := Lib.hid (DyV.mk ac0 ac1 ac2 ac3 ac4 ac5); have Vb6 : DyV w6 b1 bdb sb (.slice ab nb pb) eb := (by refine DyV.below ?_ hb6; (repeat (with_reducible first | refine DyV.drew ?_ | refine DyV.drewN ?_ _ | refine DyV.alloc ?_ _)); exact Vb5.out); (try clear bc0 bc1 bc2 bc3 bc4); obtain ⟨bc0, bc1, bc2, bc3, bc4, bc5⟩ := Vb6; have Vb6 := Lib.hid (DyV.mk bc0 bc1 bc2 bc3 bc4 bc5); have B6 := below_box (w := w) (by have hszw := (B5).size; repeat (with_reducible first | refine Below.setCell ?_ (by first | omega | (simp <;> omega)) _ | refine Below.alloc ?_ (by first | omega | (simp <;> omega)) _ | refine Below.drew ?_ | refine below_drewN ?_ _ | exact B5)) hb6; clear hb6)
        | (go_at_call 19; have xx := B4; refine (HR2 _ (Gb.out.below (by have hszw := (B4).size; repeat (with_reducible first | refine Below.setCell ?_ (by first | omega | (simp <;> omega)) _ | refine Below.alloc ?_ (by first | omega | (simp <;> omega)) _ | refine Below.drew ?_ | refine below_drewN ?_ _ | exact B4))) (hT.below (by have hszw := (B4).size; repeat (with_reducible first | refine Below.setCell ?_ (by first | omega | (simp <;> omega)) _ | refine Below.alloc ?_ (by first | omega | (simp <;> omega)) _ | refine Below.drew ?_ | refine below_drewN ?_ _ | exact B4)))).out.mono ?_; rintro e w5 ⟨rfl, hb5⟩; have Va5 : DyV w5 b0 bda sa (.slice aa na pa) ea := (by refine DyV.below ?_ hb5; (repeat (with_reducible first | refine DyV.drew ?_ | refine DyV.drewN ?_ _ | refine DyV.alloc ?_ _)); exact Va4.out); (try clear ac0 ac1 ac2 ac3 ac4); obtain ⟨ac0, ac1, ac2, ac3, ac4, ac5⟩ := Va5; have Va5 := Lib.hid (DyV.mk ac0 ac1 ac2 ac3 ac4 ac5); have Vb5 : DyV w5 b1 bdb sb (.slice ab nb pb) eb := (by refine DyV.below ?_ hb5; (repeat (with_reducible first | refine DyV.drew ?_ | refine DyV.drewN ?_ _ | refine DyV.alloc ?_ _)); exact Vb4.out); (try clear bc0 bc1 bc2 bc3 bc4); obtain ⟨bc0, bc1, bc2, bc3, bc4, bc5⟩ := Vb5; have Vb5 := Lib.hid (DyV.mk bc0 bc1 bc2 bc3 bc4 bc5); have B5 := below_box (w := w) (by have hszw := (B4).size; repeat (with_reducible first | refine Below.setCell ?_ (by first | omega | (simp <;> omega)) _ | refine Below.alloc ?_ (by first | omega | (simp <;> omega)) _ | refine Below.drew ?_ | refine below_drewN ?_ _ | exact B4)) hb5; clear hb5)
        | (go_at_call 19; have xx := B3; refine (HR1 _ (Ga.out.below (by have hszw := (B3).size; repeat (with_reducible first | refine Below.setCell ?_ (by first | omega | (simp <;> omega)) _ | refine Below.alloc ?_ (by first | omega | (simp <;> omega)) _ | refine Below.drew ?_ | refine below_drewN ?_ _ | exact B3))) (hT.below (by have hszw := (B3).size; repeat (with_reducible first | refine Below.setCell ?_ (by first | omega | (simp <;> omega)) _ | refine Below.alloc ?_ (by first | omega | (simp <;> omega)) _ | refine Below.drew ?_ | refine below_drewN ?_ _ | exact B3)))).out.mono ?_; rintro e w4 ⟨rfl, hb4⟩; have Va4 : DyV w4 b0 bda sa (.slice aa na pa) ea := (by refine DyV.below ?_ hb4; (repeat (with_reducible first | refine DyV.drew ?_ | refine DyV.drewN ?_ _ | refine DyV.alloc ?_ _)); exact Va3.out); (try clear ac0 ac1 ac2 ac3 ac4); obtain ⟨ac0, ac1, ac2, ac3, ac4, ac5⟩ := Va4; have Va4 := Lib.hid (DyV.mk ac0 ac1 ac2 ac3 ac4 ac5); have Vb4 : DyV w4 b1 bdb sb (.slice ab nb pb) eb := (by refine DyV.below ?_ hb4; (repeat (with_reducible first | refine DyV.drew ?_ | refine DyV.drewN ?_ _ | refine DyV.alloc ?_ _)); exact Vb3.out); (try clear bc0 bc1 bc2 bc3 bc4); obtain ⟨bc0, bc1, bc2, bc3, bc4, bc5⟩ := Vb4; have Vb4 := Lib.hid (DyV.mk bc0 bc1 bc2 bc3 bc4 bc5); have B4 := below_box (w := w) (by have hszw := (B3).size; repeat (with_reducible first | refine Below.setCell ?_ (by first | omega | (simp <;> omega)) _ | refine Below.alloc ?_ (by first | omega | (simp <;> omega)) _ | refine Below.drew ?_ | refine below_drewN ?_ _ | exact B3)) hb4; clear hb4)
        | fail)
  | fail "region"
  go_wp2_with fail
  refine (HF _).out.mono ?_
  rintro e w7 ⟨rfl, hb7⟩
  have Va7 : DyV w7 b0 bda sa (.slice aa na pa) ea := (by refine DyV.below ?_ hb7; (repeat (with_reducible first | refine DyV.drew ?_ | refine DyV.drewN ?_ _ | refine DyV.alloc ?_ _)); exact Va6.out)
  (try clear ac0 ac1 ac2 ac3 ac4)
  obtain ⟨ac0, ac1, ac2, ac3, ac4, ac5⟩ := Va7
  have Va7 := Lib.hid (DyV.mk ac0 ac1 ac2 ac3 ac4 ac5)
  have Vb7 : DyV w7 b1 bdb sb (.slice ab nb pb) eb := (by refine DyV.below ?_ hb7; (repeat (with_reducible first | refine DyV.drew ?_ | refine DyV.drewN ?_ _ | refine DyV.alloc ?_ _)); exact Vb6.out)
  (try clear bc0 bc1 bc2 bc3 bc4)
  obtain ⟨bc0, bc1, bc2, bc3, bc4, bc5⟩ := Vb7
  have Vb7 := Lib.hid (DyV.mk bc0 bc1 bc2 bc3 bc4 bc5)
  have B7 := below_box (w := w) (by have hszw := (B6).size; repeat (with_reducible first | refine Below.setCell ?_ (by first | omega | (simp <;> omega)) _ | refine Below.alloc ?_ (by first | omega | (simp <;> omega)) _ | refine Below.drew ?_ | refine below_drewN ?_ _ | exact B6)) hb7
  clear hb7
  go_wp2_with fail
  refine (HA1 _ (hT.below (by have hszw := (B7).size; repeat (with_reducible first | refine Below.setCell ?_ (by first | omega | (simp <;> omega)) _ | refine Below.alloc ?_ (by first | omega | (simp <;> omega)) _ | refine Below.drew ?_ | refine below_drewN ?_ _ | exact B7)))).out.mono ?_
  rintro e w8 ⟨rfl, hb8⟩
  have Va8 : DyV w8 b0 bda sa (.slice aa na pa) ea := (by refine DyV.below ?_ hb8; (repeat (with_reducible first | refine DyV.drew ?_ | refine DyV.drewN ?_ _ | refine DyV.alloc ?_ _)); exact Va7.out)
  (try clear ac0 ac1 ac2 ac3 ac4)
  obtain ⟨ac0, ac1, ac2, ac3, ac4, ac5⟩ := Va8
  have Va8 := Lib.hid (DyV.mk ac0 ac1 ac2 ac3 ac4 ac5)
  have Vb8 : DyV w8 b1 bdb sb (.slice ab nb pb) eb := (by refine DyV.below ?_ hb8; (repeat (with_reducible first | refine DyV.drew ?_ | refine DyV.drewN ?_ _ | refine DyV.alloc ?_ _)); exact Vb7.out)
  (try clear bc0 bc1 bc2 bc3 bc4)
  obtain ⟨bc0, bc1, bc2, bc3, bc4, bc5⟩ := Vb8
  have Vb8 := Lib.hid (DyV.mk bc0 bc1 bc2 bc3 bc4 bc5)
  have B8 := below_box (w := w) (by have hszw := (B7).size; repeat (with_reducible first | refine Below.setCell ?_ (by first | omega | (simp <;> omega)) _ | refine Below.alloc ?_ (by first | omega | (simp <;> omega)) _ | refine Below.drew ?_ | refine below_drewN ?_ _ | exact B7)) hb8
  clear hb8
  go_wp2_with fail
  refine (HA2 _ (hT.below (by have hszw := (B8).size; repeat (with_reducible first | refine Below.setCell ?_ (by first | omega | (simp <;> omega)) _ | refine Below.alloc ?_ (by first | omega | (simp <;> omega)) _ | refine Below.drew ?_ | refine below_drewN ?_ _ | exact B8)))).out.mono ?_
  rintro e w9 ⟨rfl, hb9⟩
  have Va9 : DyV w9 b0 bda sa (.slice aa na pa) ea := (by refine DyV.below ?_ hb9; (repeat (with_reducible first | refine DyV.drew ?_ | refine DyV.drewN ?_ _ | refine DyV.alloc ?_ _)); exact Va8.out)
  (try clear ac0 ac1 ac2 ac3 ac4)
  obtain ⟨ac0, ac1, ac2, ac3, ac4, ac5⟩ := Va9
  have Va9 := Lib.hid (DyV.mk ac0 ac1 ac2 ac3 ac4 ac5)
  have Vb9 : DyV w9 b1 bdb sb (.slice ab nb pb) eb := (by refine DyV.below ?_ hb9; (repeat (with_reducible first | refine DyV.drew ?_ | refine DyV.drewN ?_ _ | refine DyV.alloc ?_ _)); exact Vb8.out)
  (try clear bc0 bc1 bc2 bc3 bc4)
  obtain ⟨bc0, bc1, bc2, bc3, bc4, bc5⟩ := Vb9
  have Vb9 := Lib.hid (DyV.mk bc0 bc1 bc2 bc3 bc4 bc5)
  have B9 := below_box (w := w) (by have hszw := (B8).size; repeat (with_reducible first | refine Below.setCell ?_ (by first | omega | (simp <;> omega)) _ | refine Below.alloc ?_ (by first | omega | (simp <;> omega)) _ | refine Below.drew ?_ | refine below_drewN ?_ _ | exact B8)) hb9
  clear hb9
  go_wp2_with fail
  refine (HA3 _).out.mono ?_
  rintro e w10 ⟨rfl, hb10⟩
  have Va10 : DyV w10 b0 bda sa (.slice aa na pa) ea := (by refine DyV.below ?_ hb10; (repeat (with_reducible first | refine DyV.drew ?_ | refine DyV.drewN ?_ _ | refine DyV.alloc ?_ _)); exact Va9.out)
  (try clear ac0 ac1 ac2 ac3 ac4)
  obtain ⟨ac0, ac1, ac2, ac3, ac4, ac5⟩ := Va10
  have Va10 := Lib.hid (DyV.mk ac0 ac1 ac2 ac3 ac4 ac5)
  have Vb10 : DyV w10 b1 bdb sb (.slice ab nb pb) eb := (by refine DyV.below ?_ hb10; (repeat (with_reducible first | refine DyV.drew ?_ | refine DyV.drewN ?_ _ | refine DyV.alloc ?_ _)); exact Vb9.out)
  (try clear bc0 bc1 bc2 bc3 bc4)
  obtain ⟨bc0, bc1, bc2, bc3, bc4, bc5⟩ := Vb10
  have Vb10 := Lib.hid (DyV.mk bc0 bc1 bc2 bc3 bc4 bc5)
  have B10 := below_box (w := w) (by have hszw := (B9).size; repeat (with_reducible first | refine Below.setCell ?_ (by first | omega | (simp <;> omega)) _ | refine Below.alloc ?_ (by first | omega | (simp <;> omega)) _ | refine Below.drew ?_ | refine below_drewN ?_ _ | exact B9)) hb10
  clear hb10
  go_wp2_with fail
  refine (HW _ (hT.below (by have hszw := (B10).size; repeat (with_reducible first | refine Below.setCell ?_ (by first | omega | (simp <;> omega)) _ | refine Below.alloc ?_ (by first | omega | (simp <;> omega)) _ | refine Below.drew ?_ | refine below_drewN ?_ _ | exact B10)))).out.mono ?_
  rintro e w11 ⟨rfl, hb11⟩
  have Va11 : DyV w11 b0 bda sa (.slice aa na pa) ea := (by refine DyV.below ?_ hb11; (repeat (with_reducible first | refine DyV.drew ?_ | refine DyV.drewN ?_ _ | refine DyV.alloc ?_ _)); exact Va10.out)
  (try clear ac0 ac1 ac2 ac3 ac4)
  obtain ⟨ac0, ac1, ac2, ac3, ac4, ac5⟩ := Va11
  have Va11 := Lib.hid (DyV.mk ac0 ac1 ac2 ac3 ac4 ac5)
  have Vb11 : DyV w11 b1 bdb sb (.slice ab nb pb) eb := (by refine DyV.below ?_ hb11; (repeat (with_reducible first | refine DyV.drew ?_ | refine DyV.drewN ?_ _ | refine DyV.alloc ?_ _)); exact Vb10.out)
  (try clear bc0 bc1 bc2 bc3 bc4)
  obtain ⟨bc0, bc1, bc2, bc3, bc4, bc5⟩ := Vb11
  have Vb11 := Lib.hid (DyV.mk bc0 bc1 bc2 bc3 bc4 bc5)
  have B11 := below_box (w := w) (by have hszw := (B10).size; repeat (with_reducible first | refine Below.setCell ?_ (by first | omega | (simp <;> omega)) _ | refine Below.alloc ?_ (by first | omega | (simp <;> omega)) _ | refine Below.drew ?_ | refine below_drewN ?_ _ | exact B10)) hb11
  clear hb11
  go_wp2_with fail
  go_ret
  exact ⟨rfl, (by have hszw := (B11).size; repeat (with_reducible first | refine Below.setCell ?_ (by first | omega | (simp <;> omega)) _ | refine Below.alloc ?_ (by first | omega | (simp <;> omega)) _ | refine Below.drew ?_ | refine below_drewN ?_ _ | exact B11))⟩

set_option maxRecDepth 100000 in
set_option maxHeartbeats 20000000 in
theorem mono_T_F1 (w : World) (hT : Tab w) (bda sa : Bool) (aa : Option Addr) (na pa : Nat) (ea : Int) (da : Option (Int × Int)) (Ha : DyIs w bda sa aa na pa ea da) (bdb sb : Bool) (ab : Option Addr) (nb pb : Nat) (eb : Int) (db : Option (Int × Int)) (Hb : DyIs w bdb sb ab nb pb eb db) (f g h : Nat) (hf : f < 18446744073709551616) (hg : g < 18446744073709551616) (_hh : h < 18446744073709551616) (mode : Int) (ma : na ≤ 9223372036854775807) (mb : nb ≤ 9223372036854775807) (hsa : slim3B na ea = true) (hsb : slim3B nb eb = true) (ok : (!dbad da && !dbad db) = true) (cc : dcmp da db ≤ 0) (r1 : fcmpok (fround da mode) (fround db mode) = true) (r2 : fcmpv (fround da mode) (fround db mode) ≤ 0) (fk : fcmpok f g = false) :
    Calls Tryd.prog 5 #[.agg #[.bool bda, .bool sa, .slice aa na pa, .int .i64 ea], .agg #[.bool bdb, .bool sb, .slice ab nb pb, .int .i64 eb], .int .u64 f, .int .u64 g, .int .u64 h, .int .i64 mode] w fun o w' => o = .returned (.bool true) ∧ Below w.heap.size w w' := by
  have HSla := fun W => Lib.hid (slimDyad3_any W bda sa aa na pa ea ma true hsa)
  have HSlb := fun W => Lib.hid (slimDyad3_any W bdb sb ab nb pb eb mb true hsb)
  have HW := fun W ht => Lib.hid (awakeF_any W ht)
  have Ga := Lib.hid Ha
  have Gb := Lib.hid Hb
  have HC := fun W (h : DyIs W bda sa aa na pa ea da) (h' : DyIs W bdb sb ab nb pb eb db) ht => Lib.hid (dcmp_any W bda sa bdb sb aa ab na nb pa pb ea eb da db h.1 h'.1 ht)
  rw [ok] at HC
  have c1 : decide (dcmp da db ≤ 0) = true := by simpa using cc
  have HR1 := fun W (h : DyIs W bda sa aa na pa ea da) ht => Lib.hid (fround_any W bda sa aa na pa ea mode da h.1 ht)
  have HR2 := fun W (h : DyIs W bdb sb ab nb pb eb db) ht => Lib.hid (fround_any W bdb sb ab nb pb eb mode db h.1 ht)
  have HR3 := fun W => Lib.hid (fcmp_any W (fround da mode) (fround db mode) (fround_lt _ _) (fround_lt _ _))
  rw [r1] at HR3
  have c2 : decide (0 < fcmpv (fround da mode) (fround db mode)) = false := by simp; omega
  generalize fcmpv (fround da mode) (fround db mode) = v1 at *
  generalize ((fround da mode : Nat) : Int) = i1 at *
  generalize ((fround db mode : Nat) : Int) = i2 at *
  generalize dcmp da db = v0 at *
  have HF := fun W => Lib.hid (fcmp_any W f g hf hg)
  rw [fk] at HF
  generalize fcmpv f g = v3 at *
  clear ok cc r1 r2 fk Ha Hb hsa hsb hf hg _hh
  generalize (f : Int) = jf at *
  generalize (g : Int) = jg at *
  generalize (h : Int) = jh at *
  go_enter Tryd.func5, Tryd.ntmps5
  go_wp2_with fail
  have I0 := (DyV.made w 28 bda sa (.slice aa na pa) ea).alloc (.cells #[.bool bdb, .bool sb, .slice ab nb pb, .int .i64 eb] 28)
  have I1 := DyV.made' (w.alloc (.cells #[.bool bda, .bool sa, .slice aa na pa, .int .i64 ea] 28)) 28 bdb sb (.slice ab nb pb) eb (n := w.heap.size + 1) (by rw [World.size_alloc])
  have B0 : Below w.heap.size w ((w.alloc (.cells #[.bool bda, .bool sa, .slice aa na pa, .int .i64 ea] 28)).alloc (.cells #[.bool bdb, .bool sb, .slice ab nb pb, .int .i64 eb] 28)) := (by repeat (with_reducible first | refine Below.setCell ?_ (by simp <;> omega) _ | refine Below.alloc ?_ (by simp <;> omega) _ | refine Below.drew ?_ | refine below_drewN ?_ _ | exact Below.refl _ _))
  generalize ((w.alloc (.cells #[.bool bda, .bool sa, .slice aa na pa, .int .i64 ea] 28)).alloc (.cells #[.bool bdb, .bool sb, .slice ab nb pb, .int .i64 eb] 28)) = w0 at I0 I1 B0 ⊢
  have ne01 : ¬ w.heap.size = w.heap.size + 1 := by omega
  have ne10 : ¬ w.heap.size + 1 = w.heap.size := by omega
  generalize hb1 : w.heap.size + 1 = b1 at I1 ne01 ne10 ⊢
  generalize hb0 : w.heap.size = b0 at I0 ne01 ne10 ⊢
  obtain ⟨ac0, ac1, ac2, ac3, ac4, ac5⟩ := I0
  have Va0 := Lib.hid (DyV.mk ac0 ac1 ac2 ac3 ac4 ac5)
  obtain ⟨bc0, bc1, bc2, bc3, bc4, bc5⟩ := I1
  have Vb0 := Lib.hid (DyV.mk bc0 bc1 bc2 bc3 bc4 bc5)
  refine (HSla _).out.mono ?_
  rintro e w1 ⟨rfl, hb1⟩
  have Va1 : DyV w1 b0 bda sa (.slice aa na pa) ea := (by refine DyV.below ?_ hb1; (repeat (with_reducible first | refine DyV.drew ?_ | refine DyV.drewN ?_ _ | refine DyV.alloc ?_ _)); exact Va0.out)
  (try clear ac0 ac1 ac2 ac3 ac4)
  obtain ⟨ac0, ac1, ac2, ac3, ac4, ac5⟩ := Va1
  have Va1 := Lib.hid (DyV.mk ac0 ac1 ac2 ac3 ac4 ac5)
  have Vb1 : DyV w1 b1 bdb sb (.slice ab nb pb) eb := (by refine DyV.below ?_ hb1; (repeat (with_reducible first | refine DyV.drew ?_ | refine DyV.drewN ?_ _ | refine DyV.alloc ?_ _)); exact Vb0.out)
  (try clear bc0 bc1 bc2 bc3 bc4)
  obtain ⟨bc0, bc1, bc2, bc3, bc4, bc5⟩ := Vb1
  have Vb1 := Lib.hid (DyV.mk bc0 bc1 bc2 bc3 bc4 bc5)
  have B1 := below_box (w := w) (by have hszw := (B0).size; repeat (with_reducible first | refine Below.setCell ?_ (by first | omega | (simp <;> omega)) _ | refine Below.alloc ?_ (by first | omega | (simp <;> omega)) _ | refine Below.drew ?_ | refine below_drewN ?_ _ | exact B0)) hb1
  clear hb1
  go_wp2_with fail
  refine (HSlb _).out.mono ?_
  rintro e w2 ⟨rfl, hb2⟩
  have Va2 : DyV w2 b0 bda sa (.slice aa na pa) ea := (by refine DyV.below ?_ hb2; (repeat (with_reducible first | refine DyV.drew ?_ | refine DyV.drewN ?_ _ | refine DyV.alloc ?_ _)); exact Va1.out)
  (try clear ac0 ac1 ac2 ac3 ac4)
  obtain ⟨ac0, ac1, ac2, ac3, ac4, ac5⟩ := Va2
  have Va2 := Lib.hid (DyV.mk ac0 ac1 ac2 ac3 ac4 ac5)
  have Vb2 : DyV w2 b1 bdb sb (.slice ab nb pb) eb := (by refine DyV.below ?_ hb2; (repeat (with_reducible first | refine DyV.drew ?_ | refine DyV.drewN ?_ _ | refine DyV.alloc ?_ _)); exact Vb1.out)
  (try clear bc0 bc1 bc2 bc3 bc4)
  obtain ⟨bc0, bc1, bc2, bc3, bc4, bc5⟩ := Vb2
  have Vb2 := Lib.hid (DyV.mk bc0 bc1 bc2 bc3 bc4 bc5)
  have B2 := below_box (w := w) (by have hszw := (B1).size; repeat (with_reducible first | refine Below.setCell ?_ (by first | omega | (simp <;> omega)) _ | refine Below.alloc ?_ (by first | omega | (simp <;> omega)) _ | refine Below.drew ?_ | refine below_drewN ?_ _ | exact B1)) hb2
  clear hb2
  go_wp2_with fail
  refine (HC _ (Ga.out.below (by have hszw := (B2).size; repeat (with_reducible first | refine Below.setCell ?_ (by first | omega | (simp <;> omega)) _ | refine Below.alloc ?_ (by first | omega | (simp <;> omega)) _ | refine Below.drew ?_ | refine below_drewN ?_ _ | exact B2))) (Gb.out.below (by have hszw := (B2).size; repeat (with_reducible first | refine Below.setCell ?_ (by first | omega | (simp <;> omega)) _ | refine Below.alloc ?_ (by first | omega | (simp <;> omega)) _ | refine Below.drew ?_ | refine below_drewN ?_ _ | exact B2))) (hT.below (by have hszw := (B2).size; repeat (with_reducible first | refine Below.setCell ?_ (by first | omega | (simp <;> omega)) _ | refine Below.alloc ?_ (by first | omega | (simp <;> omega)) _ | refine Below.drew ?_ | refine below_drewN ?_ _ | exact B2)))).out.mono ?_
  rintro e w3 ⟨rfl, hb3⟩
  have Va3 : DyV w3 b0 bda sa (.slice aa na pa) ea := (by refine DyV.below ?_ hb3; (repeat (with_reducible first | refine DyV.drew ?_ | refine DyV.drewN ?_ _ | refine DyV.alloc ?_ _)); exact Va2.out)
  (try clear ac0 ac1 ac2 ac3 ac4)
  obtain ⟨ac0, ac1, ac2, ac3, ac4, ac5⟩ := Va3
  have Va3 := Lib.hid (DyV.mk ac0 ac1 ac2 ac3 ac4 ac5)
  have Vb3 : DyV w3 b1 bdb sb (.slice ab nb pb) eb := (by refine DyV.below ?_ hb3; (repeat (with_reducible first | refine DyV.drew ?_ | refine DyV.drewN ?_ _ | refine DyV.alloc ?_ _)); exact Vb2.out)
  (try clear bc0 bc1 bc2 bc3 bc4)
  obtain ⟨bc0, bc1, bc2, bc3, bc4, bc5⟩ := Vb3
  have Vb3 := Lib.hid (DyV.mk bc0 bc1 bc2 bc3 bc4 bc5)
  have B3 := below_box (w := w) (by have hszw := (B2).size; repeat (with_reducible first | refine Below.setCell ?_ (by first | omega | (simp <;> omega)) _ | refine Below.alloc ?_ (by first | omega | (simp <;> omega)) _ | refine Below.drew ?_ | refine below_drewN ?_ _ | exact B2)) hb3
  clear hb3
  go_wp2_with fail
  first
  | go_region_held3 (fun w' => w'.cell? ⟨b0, 0, none⟩ = some (.bool bda) ∧ w'.cell? ⟨b0, 1, none⟩ = some (.bool sa) ∧ w'.cell? ⟨b0, 2, none⟩ = some ((.slice aa na pa)) ∧ w'.cell? ⟨b0, 3, none⟩ = some (.int .i64 ea) ∧ w'.cell? ⟨b1, 0, none⟩ = some (.bool bdb) ∧ w'.cell? ⟨b1, 1, none⟩ = some (.bool sb) ∧ w'.cell? ⟨b1, 2, none⟩ = some ((.slice ab nb pb)) ∧ w'.cell? ⟨b1, 3, none⟩ = some (.int .i64 eb)) (first | (go_keep; done) | (go_simp; done))
      (first
        | (go_at_call 23; have xx := B5; refine (HR3 _).out.mono ?_; rintro e w6 ⟨rfl, hb6⟩; have Va6 : DyV w6 b0 bda sa (.slice aa na pa) ea := (by refine DyV.below ?_ hb6; (repeat (with_reducible first | refine DyV.drew ?_ | refine DyV.drewN ?_ _ | refine DyV.alloc ?_ _)); exact Va5.out); (try clear ac0 ac1 ac2 ac3 ac4); obtain ⟨ac0, ac1, ac2, ac3, ac4, ac5⟩ := Va6; have Va6 := Lib.hid (DyV.mk ac0 ac1 ac2 ac3 ac4 ac5); have Vb6 : DyV w6 b1 bdb sb (.slice ab nb pb) eb := (by refine DyV.below ?_ hb6; (repeat (with_reducible first | refine DyV.drew ?_ | refine DyV.drewN ?_ _ | refine DyV.alloc ?_ _)); exact Vb5.out); (try clear bc0 bc1 bc2 bc3 bc4); obtain ⟨bc0, bc1, bc2, bc3, bc4, bc5⟩ := Vb6; have Vb6 := Lib.hid (DyV.mk bc0 bc1 bc2 bc3 bc4 bc5); have B6 := below_box (w := w) (by have hszw := (B5).size; repeat (with_reducible first | refine Below.setCell ?_ (by first | omega | (simp <;> omega)) _ | refine Below.alloc ?_ (by first | omega | (simp <;> omega)) _ | refine Below.drew ?_ | refine below_drewN ?_ _ | exact B5)) hb6; clear hb6)
        | (go_at_call 19; have xx := B4; refine (HR2 _ (Gb.out.below (by have hszw := (B4).size; repeat (with_reducible first | refine Below.setCell ?_ (by first | omega | (simp <;> omega)) _ | refine Below.alloc ?_ (by first | omega | (simp <;> omega)) _ | refine Below.drew ?_ | refine below_drewN ?_ _ | exact B4))) (hT.below (by have hszw := (B4).size; repeat (with_reducible first | refine Below.setCell ?_ (by first | omega | (simp <;> omega)) _ | refine Below.alloc ?_ (by first | omega | (simp <;> omega)) _ | refine Below.drew ?_ | refine below_drewN ?_ _ | exact B4)))).out.mono ?_; rintro e w5 ⟨rfl, hb5⟩; have Va5 : DyV w5 b0 bda sa (.slice aa na pa) ea := (by refine DyV.below ?_ hb5; (repeat (with_reducible first | refine DyV.drew ?_ | refine DyV.drewN ?_ _ | refine DyV.alloc ?_ _)); exact Va4.out); (try clear ac0 ac1 ac2 ac3 ac4); obtain ⟨ac0, ac1, ac2, ac3, ac4, ac5⟩ := Va5; have Va5 := Lib.hid (DyV.mk ac0 ac1 ac2 ac3 ac4 ac5); have Vb5 : DyV w5 b1 bdb sb (.slice ab nb pb) eb := (by refine DyV.below ?_ hb5; (repeat (with_reducible first | refine DyV.drew ?_ | refine DyV.drewN ?_ _ | refine DyV.alloc ?_ _)); exact Vb4.out); (try clear bc0 bc1 bc2 bc3 bc4); obtain ⟨bc0, bc1, bc2, bc3, bc4, bc5⟩ := Vb5; have Vb5 := Lib.hid (DyV.mk bc0 bc1 bc2 bc3 bc4 bc5); have B5 := below_box (w := w) (by have hszw := (B4).size; repeat (with_reducible first | refine Below.setCell ?_ (by first | omega | (simp <;> omega)) _ | refine Below.alloc ?_ (by first | omega | (simp <;> omega)) _ | refine Below.drew ?_ | refine below_drewN ?_ _ | exact B4)) hb5; clear hb5)
        | (go_at_call 19; have xx := B3; refine (HR1 _ (Ga.out.below (by have hszw := (B3).size; repeat (with_reducible first | refine Below.setCell ?_ (by first | omega | (simp <;> omega)) _ | refine Below.alloc ?_ (by first | omega | (simp <;> omega)) _ | refine Below.drew ?_ | refine below_drewN ?_ _ | exact B3))) (hT.below (by have hszw := (B3).size; repeat (with_reducible first | refine Below.setCell ?_ (by first | omega | (simp <;> omega)) _ | refine Below.alloc ?_ (by first | omega | (simp <;> omega)) _ | refine Below.drew ?_ | refine below_drewN ?_ _ | exact B3)))).out.mono ?_; rintro e w4 ⟨rfl, hb4⟩; have Va4 : DyV w4 b0 bda sa (.slice aa na pa) ea := (by refine DyV.below ?_ hb4; (repeat (with_reducible first | refine DyV.drew ?_ | refine DyV.drewN ?_ _ | refine DyV.alloc ?_ _)); exact Va3.out); (try clear ac0 ac1 ac2 ac3 ac4); obtain ⟨ac0, ac1, ac2, ac3, ac4, ac5⟩ := Va4; have Va4 := Lib.hid (DyV.mk ac0 ac1 ac2 ac3 ac4 ac5); have Vb4 : DyV w4 b1 bdb sb (.slice ab nb pb) eb := (by refine DyV.below ?_ hb4; (repeat (with_reducible first | refine DyV.drew ?_ | refine DyV.drewN ?_ _ | refine DyV.alloc ?_ _)); exact Vb3.out); (try clear bc0 bc1 bc2 bc3 bc4); obtain ⟨bc0, bc1, bc2, bc3, bc4, bc5⟩ := Vb4; have Vb4 := Lib.hid (DyV.mk bc0 bc1 bc2 bc3 bc4 bc5); have B4 := below_box (w := w) (by have hszw := (B3).size; repeat (with_reducible first | refine Below.setCell ?_ (by first | omega | (simp <;> omega)) _ | refine Below.alloc ?_ (by first | omega | (simp <;> omega)) _ | refine Below.drew ?_ | refine below_drewN ?_ _ | exact B3)) hb4; clear hb4)
        | fail)
  | fail "region"
  go_wp2_with fail
  refine (HF _).out.mono ?_
  rintro e w7 ⟨rfl, hb7⟩
  have Va7 : DyV w7 b0 bda sa (.slice aa na pa) ea := (by refine DyV.below ?_ hb7; (repeat (with_reducible first | refine DyV.drew ?_ | refine DyV.drewN ?_ _ | refine DyV.alloc ?_ _)); exact Va6.out)
  (try clear ac0 ac1 ac2 ac3 ac4)
  obtain ⟨ac0, ac1, ac2, ac3, ac4, ac5⟩ := Va7
  have Va7 := Lib.hid (DyV.mk ac0 ac1 ac2 ac3 ac4 ac5)
  have Vb7 : DyV w7 b1 bdb sb (.slice ab nb pb) eb := (by refine DyV.below ?_ hb7; (repeat (with_reducible first | refine DyV.drew ?_ | refine DyV.drewN ?_ _ | refine DyV.alloc ?_ _)); exact Vb6.out)
  (try clear bc0 bc1 bc2 bc3 bc4)
  obtain ⟨bc0, bc1, bc2, bc3, bc4, bc5⟩ := Vb7
  have Vb7 := Lib.hid (DyV.mk bc0 bc1 bc2 bc3 bc4 bc5)
  have B7 := below_box (w := w) (by have hszw := (B6).size; repeat (with_reducible first | refine Below.setCell ?_ (by first | omega | (simp <;> omega)) _ | refine Below.alloc ?_ (by first | omega | (simp <;> omega)) _ | refine Below.drew ?_ | refine below_drewN ?_ _ | exact B6)) hb7
  clear hb7
  go_wp2_with fail
  refine (HW _ (hT.below (by have hszw := (B7).size; repeat (with_reducible first | refine Below.setCell ?_ (by first | omega | (simp <;> omega)) _ | refine Below.alloc ?_ (by first | omega | (simp <;> omega)) _ | refine Below.drew ?_ | refine below_drewN ?_ _ | exact B7)))).out.mono ?_
  rintro e w8 ⟨rfl, hb8⟩
  have Va8 : DyV w8 b0 bda sa (.slice aa na pa) ea := (by refine DyV.below ?_ hb8; (repeat (with_reducible first | refine DyV.drew ?_ | refine DyV.drewN ?_ _ | refine DyV.alloc ?_ _)); exact Va7.out)
  (try clear ac0 ac1 ac2 ac3 ac4)
  obtain ⟨ac0, ac1, ac2, ac3, ac4, ac5⟩ := Va8
  have Va8 := Lib.hid (DyV.mk ac0 ac1 ac2 ac3 ac4 ac5)
  have Vb8 : DyV w8 b1 bdb sb (.slice ab nb pb) eb := (by refine DyV.below ?_ hb8; (repeat (with_reducible first | refine DyV.drew ?_ | refine DyV.drewN ?_ _ | refine DyV.alloc ?_ _)); exact Vb7.out)
  (try clear bc0 bc1 bc2 bc3 bc4)
  obtain ⟨bc0, bc1, bc2, bc3, bc4, bc5⟩ := Vb8
  have Vb8 := Lib.hid (DyV.mk bc0 bc1 bc2 bc3 bc4 bc5)
  have B8 := below_box (w := w) (by have hszw := (B7).size; repeat (with_reducible first | refine Below.setCell ?_ (by first | omega | (simp <;> omega)) _ | refine Below.alloc ?_ (by first | omega | (simp <;> omega)) _ | refine Below.drew ?_ | refine below_drewN ?_ _ | exact B7)) hb8
  clear hb8
  go_wp2_with fail
  go_ret
  exact ⟨rfl, (by have hszw := (B8).size; repeat (with_reducible first | refine Below.setCell ?_ (by first | omega | (simp <;> omega)) _ | refine Below.alloc ?_ (by first | omega | (simp <;> omega)) _ | refine Below.drew ?_ | refine below_drewN ?_ _ | exact B8))⟩

set_option maxRecDepth 100000 in
set_option maxHeartbeats 20000000 in
theorem mono_T_F2 (w : World) (hT : Tab w) (bda sa : Bool) (aa : Option Addr) (na pa : Nat) (ea : Int) (da : Option (Int × Int)) (Ha : DyIs w bda sa aa na pa ea da) (bdb sb : Bool) (ab : Option Addr) (nb pb : Nat) (eb : Int) (db : Option (Int × Int)) (Hb : DyIs w bdb sb ab nb pb eb db) (f g h : Nat) (hf : f < 18446744073709551616) (hg : g < 18446744073709551616) (_hh : h < 18446744073709551616) (mode : Int) (ma : na ≤ 9223372036854775807) (mb : nb ≤ 9223372036854775807) (hsa : slim3B na ea = true) (hsb : slim3B nb eb = true) (ok : (!dbad da && !dbad db) = true) (cc : dcmp da db ≤ 0) (r1 : fcmpok (fround da mode) (fround db mode) = true) (r2 : fcmpv (fround da mode) (fround db mode) ≤ 0) (fk : fcmpok f g = true) (fc : ¬ fcmpv f g ≤ 0) :
    Calls Tryd.prog 5 #[.agg #[.bool bda, .bool sa, .slice aa na pa, .int .i64 ea], .agg #[.bool bdb, .bool sb, .slice ab nb pb, .int .i64 eb], .int .u64 f, .int .u64 g, .int .u64 h, .int .i64 mode] w fun o w' => o = .returned (.bool true) ∧ Below w.heap.size w w' := by
  have HSla := fun W => Lib.hid (slimDyad3_any W bda sa aa na pa ea ma true hsa)
  have HSlb := fun W => Lib.hid (slimDyad3_any W bdb sb ab nb pb eb mb true hsb)
  have HW := fun W ht => Lib.hid (awakeF_any W ht)
  have Ga := Lib.hid Ha
  have Gb := Lib.hid Hb
  have HC := fun W (h : DyIs W bda sa aa na pa ea da) (h' : DyIs W bdb sb ab nb pb eb db) ht => Lib.hid (dcmp_any W bda sa bdb sb aa ab na nb pa pb ea eb da db h.1 h'.1 ht)
  rw [ok] at HC
  have c1 : decide (dcmp da db ≤ 0) = true := by simpa using cc
  have HR1 := fun W (h : DyIs W bda sa aa na pa ea da) ht => Lib.hid (fround_any W bda sa aa na pa ea mode da h.1 ht)
  have HR2 := fun W (h : DyIs W bdb sb ab nb pb eb db) ht => Lib.hid (fround_any W bdb sb ab nb pb eb mode db h.1 ht)
  have HR3 := fun W => Lib.hid (fcmp_any W (fround da mode) (fround db mode) (fround_lt _ _) (fround_lt _ _))
  rw [r1] at HR3
  have c2 : decide (0 < fcmpv (fround da mode) (fround db mode)) = false := by simp; omega
  generalize fcmpv (fround da mode) (fround db mode) = v1 at *
  generalize ((fround da mode : Nat) : Int) = i1 at *
  generalize ((fround db mode : Nat) : Int) = i2 at *
  generalize dcmp da db = v0 at *
  have HF := fun W => Lib.hid (fcmp_any W f g hf hg)
  rw [fk] at HF
  have d1 : decide (fcmpv f g ≤ 0) = false := by simpa using fc
  generalize fcmpv f g = v3 at *
  clear ok cc r1 r2 fk fc Ha Hb hsa hsb hf hg _hh
  generalize (f : Int) = jf at *
  generalize (g : Int) = jg at *
  generalize (h : Int) = jh at *
  go_enter Tryd.func5, Tryd.ntmps5
  go_wp2_with fail
  have I0 := (DyV.made w 28 bda sa (.slice aa na pa) ea).alloc (.cells #[.bool bdb, .bool sb, .slice ab nb pb, .int .i64 eb] 28)
  have I1 := DyV.made' (w.alloc (.cells #[.bool bda, .bool sa, .slice aa na pa, .int .i64 ea] 28)) 28 bdb sb (.slice ab nb pb) eb (n := w.heap.size + 1) (by rw [World.size_alloc])
  have B0 : Below w.heap.size w ((w.alloc (.cells #[.bool bda, .bool sa, .slice aa na pa, .int .i64 ea] 28)).alloc (.cells #[.bool bdb, .bool sb, .slice ab nb pb, .int .i64 eb] 28)) := (by repeat (with_reducible first | refine Below.setCell ?_ (by simp <;> omega) _ | refine Below.alloc ?_ (by simp <;> omega) _ | refine Below.drew ?_ | refine below_drewN ?_ _ | exact Below.refl _ _))
  generalize ((w.alloc (.cells #[.bool bda, .bool sa, .slice aa na pa, .int .i64 ea] 28)).alloc (.cells #[.bool bdb, .bool sb, .slice ab nb pb, .int .i64 eb] 28)) = w0 at I0 I1 B0 ⊢
  have ne01 : ¬ w.heap.size = w.heap.size + 1 := by omega
  have ne10 : ¬ w.heap.size + 1 = w.heap.size := by omega
  generalize hb1 : w.heap.size + 1 = b1 at I1 ne01 ne10 ⊢
  generalize hb0 : w.heap.size = b0 at I0 ne01 ne10 ⊢
  obtain ⟨ac0, ac1, ac2, ac3, ac4, ac5⟩ := I0
  have Va0 := Lib.hid (DyV.mk ac0 ac1 ac2 ac3 ac4 ac5)
  obtain ⟨bc0, bc1, bc2, bc3, bc4, bc5⟩ := I1
  have Vb0 := Lib.hid (DyV.mk bc0 bc1 bc2 bc3 bc4 bc5)
  refine (HSla _).out.mono ?_
  rintro e w1 ⟨rfl, hb1⟩
  have Va1 : DyV w1 b0 bda sa (.slice aa na pa) ea := (by refine DyV.below ?_ hb1; (repeat (with_reducible first | refine DyV.drew ?_ | refine DyV.drewN ?_ _ | refine DyV.alloc ?_ _)); exact Va0.out)
  (try clear ac0 ac1 ac2 ac3 ac4)
  obtain ⟨ac0, ac1, ac2, ac3, ac4, ac5⟩ := Va1
  have Va1 := Lib.hid (DyV.mk ac0 ac1 ac2 ac3 ac4 ac5)
  have Vb1 : DyV w1 b1 bdb sb (.slice ab nb pb) eb := (by refine DyV.below ?_ hb1; (repeat (with_reducible first | refine DyV.drew ?_ | refine DyV.drewN ?_ _ | refine DyV.alloc ?_ _)); exact Vb0.out)
  (try clear bc0 bc1 bc2 bc3 bc4)
  obtain ⟨bc0, bc1, bc2, bc3, bc4, bc5⟩ := Vb1
  have Vb1 := Lib.hid (DyV.mk bc0 bc1 bc2 bc3 bc4 bc5)
  have B1 := below_box (w := w) (by have hszw := (B0).size; repeat (with_reducible first | refine Below.setCell ?_ (by first | omega | (simp <;> omega)) _ | refine Below.alloc ?_ (by first | omega | (simp <;> omega)) _ | refine Below.drew ?_ | refine below_drewN ?_ _ | exact B0)) hb1
  clear hb1
  go_wp2_with fail
  refine (HSlb _).out.mono ?_
  rintro e w2 ⟨rfl, hb2⟩
  have Va2 : DyV w2 b0 bda sa (.slice aa na pa) ea := (by refine DyV.below ?_ hb2; (repeat (with_reducible first | refine DyV.drew ?_ | refine DyV.drewN ?_ _ | refine DyV.alloc ?_ _)); exact Va1.out)
  (try clear ac0 ac1 ac2 ac3 ac4)
  obtain ⟨ac0, ac1, ac2, ac3, ac4, ac5⟩ := Va2
  have Va2 := Lib.hid (DyV.mk ac0 ac1 ac2 ac3 ac4 ac5)
  have Vb2 : DyV w2 b1 bdb sb (.slice ab nb pb) eb := (by refine DyV.below ?_ hb2; (repeat (with_reducible first | refine DyV.drew ?_ | refine DyV.drewN ?_ _ | refine DyV.alloc ?_ _)); exact Vb1.out)
  (try clear bc0 bc1 bc2 bc3 bc4)
  obtain ⟨bc0, bc1, bc2, bc3, bc4, bc5⟩ := Vb2
  have Vb2 := Lib.hid (DyV.mk bc0 bc1 bc2 bc3 bc4 bc5)
  have B2 := below_box (w := w) (by have hszw := (B1).size; repeat (with_reducible first | refine Below.setCell ?_ (by first | omega | (simp <;> omega)) _ | refine Below.alloc ?_ (by first | omega | (simp <;> omega)) _ | refine Below.drew ?_ | refine below_drewN ?_ _ | exact B1)) hb2
  clear hb2
  go_wp2_with fail
  refine (HC _ (Ga.out.below (by have hszw := (B2).size; repeat (with_reducible first | refine Below.setCell ?_ (by first | omega | (simp <;> omega)) _ | refine Below.alloc ?_ (by first | omega | (simp <;> omega)) _ | refine Below.drew ?_ | refine below_drewN ?_ _ | exact B2))) (Gb.out.below (by have hszw := (B2).size; repeat (with_reducible first | refine Below.setCell ?_ (by first | omega | (simp <;> omega)) _ | refine Below.alloc ?_ (by first | omega | (simp <;> omega)) _ | refine Below.drew ?_ | refine below_drewN ?_ _ | exact B2))) (hT.below (by have hszw := (B2).size; repeat (with_reducible first | refine Below.setCell ?_ (by first | omega | (simp <;> omega)) _ | refine Below.alloc ?_ (by first | omega | (simp <;> omega)) _ | refine Below.drew ?_ | refine below_drewN ?_ _ | exact B2)))).out.mono ?_
  rintro e w3 ⟨rfl, hb3⟩
  have Va3 : DyV w3 b0 bda sa (.slice aa na pa) ea := (by refine DyV.below ?_ hb3; (repeat (with_reducible first | refine DyV.drew ?_ | refine DyV.drewN ?_ _ | refine DyV.alloc ?_ _)); exact Va2.out)
  (try clear ac0 ac1 ac2 ac3 ac4)
  obtain ⟨ac0, ac1, ac2, ac3, ac4, ac5⟩ := Va3
  have Va3 := Lib.hid (DyV.mk ac0 ac1 ac2 ac3 ac4 ac5)
  have Vb3 : DyV w3 b1 bdb sb (.slice ab nb pb) eb := (by refine DyV.below ?_ hb3; (repeat (with_reducible first | refine DyV.drew ?_ | refine DyV.drewN ?_ _ | refine DyV.alloc ?_ _)); exact Vb2.out)
  (try clear bc0 bc1 bc2 bc3 bc4)
  obtain ⟨bc0, bc1, bc2, bc3, bc4, bc5⟩ := Vb3
  have Vb3 := Lib.hid (DyV.mk bc0 bc1 bc2 bc3 bc4 bc5)
  have B3 := below_box (w := w) (by have hszw := (B2).size; repeat (with_reducible first | refine Below.setCell ?_ (by first | omega | (simp <;> omega)) _ | refine Below.alloc ?_ (by first | omega | (simp <;> omega)) _ | refine Below.drew ?_ | refine below_drewN ?_ _ | exact B2)) hb3
  clear hb3
  go_wp2_with fail
  first
  | go_region_held3 (fun w' => w'.cell? ⟨b0, 0, none⟩ = some (.bool bda) ∧ w'.cell? ⟨b0, 1, none⟩ = some (.bool sa) ∧ w'.cell? ⟨b0, 2, none⟩ = some ((.slice aa na pa)) ∧ w'.cell? ⟨b0, 3, none⟩ = some (.int .i64 ea) ∧ w'.cell? ⟨b1, 0, none⟩ = some (.bool bdb) ∧ w'.cell? ⟨b1, 1, none⟩ = some (.bool sb) ∧ w'.cell? ⟨b1, 2, none⟩ = some ((.slice ab nb pb)) ∧ w'.cell? ⟨b1, 3, none⟩ = some (.int .i64 eb)) (first | (go_keep; done) | (go_simp; done))
      (first
        | (go_at_call 23; have xx := B5; refine (HR3 _).out.mono ?_; rintro e w6 ⟨rfl, hb6⟩; have Va6 : DyV w6 b0 bda sa (.slice aa na pa) ea := (by refine DyV.below ?_ hb6; (repeat (with_reducible first | refine DyV.drew ?_ | refine DyV.drewN ?_ _ | refine DyV.alloc ?_ _)); exact Va5.out); (try clear ac0 ac1 ac2 ac3 ac4); obtain ⟨ac0, ac1, ac2, ac3, ac4, ac5⟩ := Va6; have Va6 := Lib.hid (DyV.mk ac0 ac1 ac2 ac3 ac4 ac5); have Vb6 : DyV w6 b1 bdb sb (.slice ab nb pb) eb := (by refine DyV.below ?_ hb6; (repeat (with_reducible first | refine DyV.drew ?_ | refine DyV.drewN ?_ _ | refine DyV.alloc ?_ _)); exact Vb5.out); (try clear bc0 bc1 bc2 bc3 bc4); obtain ⟨bc0, bc1, bc2, bc3, bc4, bc5⟩ := Vb6; have Vb6 := Lib.hid (DyV.mk bc0 bc1 bc2 bc3 bc4 bc5); have B6 := below_box (w := w) (by have hszw := (B5).size; repeat (with_reducible first | refine Below.setCell ?_ (by first | omega | (simp <;> omega)) _ | refine Below.alloc ?_ (by first | omega | (simp <;> omega)) _ | refine Below.drew ?_ | refine below_drewN ?_ _ | exact B5)) hb6; clear hb6)
        | (go_at_call 19; have xx := B4; refine (HR2 _ (Gb.out.below (by have hszw := (B4).size; repeat (with_reducible first | refine Below.setCell ?_ (by first | omega | (simp <;> omega)) _ | refine Below.alloc ?_ (by first | omega | (simp <;> omega)) _ | refine Below.drew ?_ | refine below_drewN ?_ _ | exact B4))) (hT.below (by have hszw := (B4).size; repeat (with_reducible first | refine Below.setCell ?_ (by first | omega | (simp <;> omega)) _ | refine Below.alloc ?_ (by first | omega | (simp <;> omega)) _ | refine Below.drew ?_ | refine below_drewN ?_ _ | exact B4)))).out.mono ?_; rintro e w5 ⟨rfl, hb5⟩; have Va5 : DyV w5 b0 bda sa (.slice aa na pa) ea := (by refine DyV.below ?_ hb5; (repeat (with_reducible first | refine DyV.drew ?_ | refine DyV.drewN ?_ _ | refine DyV.alloc ?_ _)); exact Va4.out); (try clear ac0 ac1 ac2 ac3 ac4); obtain ⟨ac0, ac1, ac2, ac3, ac4, ac5⟩ := Va5; have Va5 := Lib.hid (DyV.mk ac0 ac1 ac2 ac3 ac4 ac5); have Vb5 : DyV w5 b1 bdb sb (.slice ab nb pb) eb := (by refine DyV.below ?_ hb5; (repeat (with_reducible first | refine DyV.drew ?_ | refine DyV.drewN ?_ _ | refine DyV.alloc ?_ _)); exact Vb4.out); (try clear bc0 bc1 bc2 bc3 bc4); obtain ⟨bc0, bc1, bc2, bc3, bc4, bc5⟩ := Vb5; have Vb5 := Lib.hid (DyV.mk bc0 bc1 bc2 bc3 bc4 bc5); have B5 := below_box (w := w) (by have hszw := (B4).size; repeat (with_reducible first | refine Below.setCell ?_ (by first | omega | (simp <;> omega)) _ | refine Below.alloc ?_ (by first | omega | (simp <;> omega)) _ | refine Below.drew ?_ | refine below_drewN ?_ _ | exact B4)) hb5; clear hb5)
        | (go_at_call 19; have xx := B3; refine (HR1 _ (Ga.out.below (by have hszw := (B3).size; repeat (with_reducible first | refine Below.setCell ?_ (by first | omega | (simp <;> omega)) _ | refine Below.alloc ?_ (by first | omega | (simp <;> omega)) _ | refine Below.drew ?_ | refine below_drewN ?_ _ | exact B3))) (hT.below (by have hszw := (B3).size; repeat (with_reducible first | refine Below.setCell ?_ (by first | omega | (simp <;> omega)) _ | refine Below.alloc ?_ (by first | omega | (simp <;> omega)) _ | refine Below.drew ?_ | refine below_drewN ?_ _ | exact B3)))).out.mono ?_; rintro e w4 ⟨rfl, hb4⟩; have Va4 : DyV w4 b0 bda sa (.slice aa na pa) ea := (by refine DyV.below ?_ hb4; (repeat (with_reducible first | refine DyV.drew ?_ | refine DyV.drewN ?_ _ | refine DyV.alloc ?_ _)); exact Va3.out); (try clear ac0 ac1 ac2 ac3 ac4); obtain ⟨ac0, ac1, ac2, ac3, ac4, ac5⟩ := Va4; have Va4 := Lib.hid (DyV.mk ac0 ac1 ac2 ac3 ac4 ac5); have Vb4 : DyV w4 b1 bdb sb (.slice ab nb pb) eb := (by refine DyV.below ?_ hb4; (repeat (with_reducible first | refine DyV.drew ?_ | refine DyV.drewN ?_ _ | refine DyV.alloc ?_ _)); exact Vb3.out); (try clear bc0 bc1 bc2 bc3 bc4); obtain ⟨bc0, bc1, bc2, bc3, bc4, bc5⟩ := Vb4; have Vb4 := Lib.hid (DyV.mk bc0 bc1 bc2 bc3 bc4 bc5); have B4 := below_box (w := w) (by have hszw := (B3).size; repeat (with_reducible first | refine Below.setCell ?_ (by first | omega | (simp <;> omega)) _ | refine Below.alloc ?_ (by first | omega | (simp <;> omega)) _ | refine Below.drew ?_ | refine below_drewN ?_ _ | exact B3)) hb4; clear hb4)
        | fail)
  | fail "region"
  go_wp2_with fail
  refine (HF _).out.mono ?_
  rintro e w7 ⟨rfl, hb7⟩
  have Va7 : DyV w7 b0 bda sa (.slice aa na pa) ea := (by refine DyV.below ?_ hb7; (repeat (with_reducible first | refine DyV.drew ?_ | refine DyV.drewN ?_ _ | refine DyV.alloc ?_ _)); exact Va6.out)
  (try clear ac0 ac1 ac2 ac3 ac4)
  obtain ⟨ac0, ac1, ac2, ac3, ac4, ac5⟩ := Va7
  have Va7 := Lib.hid (DyV.mk ac0 ac1 ac2 ac3 ac4 ac5)
  have Vb7 : DyV w7 b1 bdb sb (.slice ab nb pb) eb := (by refine DyV.below ?_ hb7; (repeat (with_reducible first | refine DyV.drew ?_ | refine DyV.drewN ?_ _ | refine DyV.alloc ?_ _)); exact Vb6.out)
  (try clear bc0 bc1 bc2 bc3 bc4)
  obtain ⟨bc0, bc1, bc2, bc3, bc4, bc5⟩ := Vb7
  have Vb7 := Lib.hid (DyV.mk bc0 bc1 bc2 bc3 bc4 bc5)
  have B7 := below_box (w := w) (by have hszw := (B6).size; repeat (with_reducible first | refine Below.setCell ?_ (by first | omega | (simp <;> omega)) _ | refine Below.alloc ?_ (by first | omega | (simp <;> omega)) _ | refine Below.drew ?_ | refine below_drewN ?_ _ | exact B6)) hb7
  clear hb7
  go_wp2_with fail
  refine (HW _ (hT.below (by have hszw := (B7).size; repeat (with_reducible first | refine Below.setCell ?_ (by first | omega | (simp <;> omega)) _ | refine Below.alloc ?_ (by first | omega | (simp <;> omega)) _ | refine Below.drew ?_ | refine below_drewN ?_ _ | exact B7)))).out.mono ?_
  rintro e w8 ⟨rfl, hb8⟩
  have Va8 : DyV w8 b0 bda sa (.slice aa na pa) ea := (by refine DyV.below ?_ hb8; (repeat (with_reducible first | refine DyV.drew ?_ | refine DyV.drewN ?_ _ | refine DyV.alloc ?_ _)); exact Va7.out)
  (try clear ac0 ac1 ac2 ac3 ac4)
  obtain ⟨ac0, ac1, ac2, ac3, ac4, ac5⟩ := Va8
  have Va8 := Lib.hid (DyV.mk ac0 ac1 ac2 ac3 ac4 ac5)
  have Vb8 : DyV w8 b1 bdb sb (.slice ab nb pb) eb := (by refine DyV.below ?_ hb8; (repeat (with_reducible first | refine DyV.drew ?_ | refine DyV.drewN ?_ _ | refine DyV.alloc ?_ _)); exact Vb7.out)
  (try clear bc0 bc1 bc2 bc3 bc4)
  obtain ⟨bc0, bc1, bc2, bc3, bc4, bc5⟩ := Vb8
  have Vb8 := Lib.hid (DyV.mk bc0 bc1 bc2 bc3 bc4 bc5)
  have B8 := below_box (w := w) (by have hszw := (B7).size; repeat (with_reducible first | refine Below.setCell ?_ (by first | omega | (simp <;> omega)) _ | refine Below.alloc ?_ (by first | omega | (simp <;> omega)) _ | refine Below.drew ?_ | refine below_drewN ?_ _ | exact B7)) hb8
  clear hb8
  go_wp2_with fail
  go_ret
  exact ⟨rfl, (by have hszw := (B8).size; repeat (with_reducible first | refine Below.setCell ?_ (by first | omega | (simp <;> omega)) _ | refine Below.alloc ?_ (by first | omega | (simp <;> omega)) _ | refine Below.drew ?_ | refine below_drewN ?_ _ | exact B8))⟩

set_option maxRecDepth 100000 in
set_option maxHeartbeats 20000000 in
theorem mono_F1_Ta (w : World) (hT : Tab w) (bda sa : Bool) (aa : Option Addr) (na pa : Nat) (ea : Int) (da : Option (Int × Int)) (Ha : DyIs w bda sa aa na pa ea da) (bdb sb : Bool) (ab : Option Addr) (nb pb : Nat) (eb : Int) (db : Option (Int × Int)) (Hb : DyIs w bdb sb ab nb pb eb db) (f g h : Nat) (hf : f < 18446744073709551616) (hg : g < 18446744073709551616) (_hh : h < 18446744073709551616) (mode : Int) (ma : na ≤ 9223372036854775807) (mb : nb ≤ 9223372036854775807) (hsa : slim3B na ea = true) (hsb : slim3B nb eb = true) (ok : (!dbad da && !dbad db) = false) (fk : fcmpok f g = true) (fc : fcmpv f g ≤ 0) (k1 : fcmpok (fadd f h mode) (fadd g h mode) = false) :
    Calls Tryd.prog 5 #[.agg #[.bool bda, .bool sa, .slice aa na pa, .int .i64 ea], .agg #[.bool bdb, .bool sb, .slice ab nb pb, .int .i64 eb], .int .u64 f, .int .u64 g, .int .u64 h, .int .i64 mode] w fun o w' => o = .returned (.bool true) ∧ Below w.heap.size w w' := by
  have HSla := fun W => Lib.hid (slimDyad3_any W bda sa aa na pa ea ma true hsa)
  have HSlb := fun W => Lib.hid (slimDyad3_any W bdb sb ab nb pb eb mb true hsb)
  have HW := fun W ht => Lib.hid (awakeF_any W ht)
  have Ga := Lib.hid Ha
  have Gb := Lib.hid Hb
  have HC := fun W (h : DyIs W bda sa aa na pa ea da) (h' : DyIs W bdb sb ab nb pb eb db) ht => Lib.hid (dcmp_any W bda sa bdb sb aa ab na nb pa pb ea eb da db h.1 h'.1 ht)
  rw [ok] at HC
  generalize dcmp da db = v0 at *
  have HF := fun W => Lib.hid (fcmp_any W f g hf hg)
  rw [fk] at HF
  have d1 : decide (fcmpv f g ≤ 0) = true := by simpa using fc
  have HA1 := fun W ht => Lib.hid (wadd_any W f h hf _hh mode ht)
  have HA2 := fun W ht => Lib.hid (wadd_any W g h hg _hh mode ht)
  have HA3 := fun W => Lib.hid (fcmp_any W (fadd f h mode) (fadd g h mode) (fadd_lt hf _hh mode) (fadd_lt hg _hh mode))
  rw [k1] at HA3
  generalize fcmpv (fadd f h mode) (fadd g h mode) = v2 at *
  generalize ((fadd f h mode : Nat) : Int) = i3 at *
  generalize ((fadd g h mode : Nat) : Int) = i4 at *
  generalize fcmpv f g = v3 at *
  clear ok fk fc k1 Ha Hb hsa hsb hf hg _hh
  generalize (f : Int) = jf at *
  generalize (g : Int) = jg at *
  generalize (h : Int) = jh at *
  go_enter Tryd.func5, Tryd.ntmps5
  go_wp2_with fail
  have I0 := (DyV.made w 28 bda sa (.slice aa na pa) ea).alloc (.cells #[.bool bdb, .bool sb, .slice ab nb pb, .int .i64 eb] 28)
  have I1 := DyV.made' (w.alloc (.cells #[.bool bda, .bool sa, .slice aa na pa, .int .i64 ea] 28)) 28 bdb sb (.slice ab nb pb) eb (n := w.heap.size + 1) (by rw [World.size_alloc])
  have B0 : Below w.heap.size w ((w.alloc (.cells #[.bool bda, .bool sa, .slice aa na pa, .int .i64 ea] 28)).alloc (.cells #[.bool bdb, .bool sb, .slice ab nb pb, .int .i64 eb] 28)) := (by repeat (with_reducible first | refine Below.setCell ?_ (by simp <;> omega) _ | refine Below.alloc ?_ (by simp <;> omega) _ | refine Below.drew ?_ | refine below_drewN ?_ _ | exact Below.refl _ _))
  generalize ((w.alloc (.cells #[.bool bda, .bool sa, .slice aa na pa, .int .i64 ea] 28)).alloc (.cells #[.bool bdb, .bool sb, .slice ab nb pb, .int .i64 eb] 28)) = w0 at I0 I1 B0 ⊢
  have ne01 : ¬ w.heap.size = w.heap.size + 1 := by omega
  have ne10 : ¬ w.heap.size + 1 = w.heap.size := by omega
  generalize hb1 : w.heap.size + 1 = b1 at I1 ne01 ne10 ⊢
  generalize hb0 : w.heap.size = b0 at I0 ne01 ne10 ⊢
  obtain ⟨ac0, ac1, ac2, ac3, ac4, ac5⟩ := I0
  have Va0 := Lib.hid (DyV.mk ac0 ac1 ac2 ac3 ac4 ac5)
  obtain ⟨bc0, bc1, bc2, bc3, bc4, bc5⟩ := I1
  have Vb0 := Lib.hid (DyV.mk bc0 bc1 bc2 bc3 bc4 bc5)
  refine (HSla _).out.mono ?_
  rintro e w1 ⟨rfl, hb1⟩
  have Va1 : DyV w1 b0 bda sa (.slice aa na pa) ea := (by refine DyV.below ?_ hb1; (repeat (with_reducible first | refine DyV.drew ?_ | refine DyV.drewN ?_ _ | refine DyV.alloc ?_ _)); exact Va0.out)
  (try clear ac0 ac1 ac2 ac3 ac4)
  obtain ⟨ac0, ac1, ac2, ac3, ac4, ac5⟩ := Va1
  have Va1 := Lib.hid (DyV.mk ac0 ac1 ac2 ac3 ac4 ac5)
  have Vb1 : DyV w1 b1 bdb sb (.slice ab nb pb) eb := (by refine DyV.below ?_ hb1; (repeat (with_reducible first | refine DyV.drew ?_ | refine DyV.drewN ?_ _ | refine DyV.alloc ?_ _)); exact Vb0.out)
  (try clear bc0 bc1 bc2 bc3 bc4)
  obtain ⟨bc0, bc1, bc2, bc3, bc4, bc5⟩ := Vb1
  have Vb1 := Lib.hid (DyV.mk bc0 bc1 bc2 bc3 bc4 bc5)
  have B1 := below_box (w := w) (by have hszw := (B0).size; repeat (with_reducible first | refine Below.setCell ?_ (by first | omega | (simp <;> omega)) _ | refine Below.alloc ?_ (by first | omega | (simp <;> omega)) _ | refine Below.drew ?_ | refine below_drewN ?_ _ | exact B0)) hb1
  clear hb1
  go_wp2_with fail
  refine (HSlb _).out.mono ?_
  rintro e w2 ⟨rfl, hb2⟩
  have Va2 : DyV w2 b0 bda sa (.slice aa na pa) ea := (by refine DyV.below ?_ hb2; (repeat (with_reducible first | refine DyV.drew ?_ | refine DyV.drewN ?_ _ | refine DyV.alloc ?_ _)); exact Va1.out)
  (try clear ac0 ac1 ac2 ac3 ac4)
  obtain ⟨ac0, ac1, ac2, ac3, ac4, ac5⟩ := Va2
  have Va2 := Lib.hid (DyV.mk ac0 ac1 ac2 ac3 ac4 ac5)
  have Vb2 : DyV w2 b1 bdb sb (.slice ab nb pb) eb := (by refine DyV.below ?_ hb2; (repeat (with_reducible first | refine DyV.drew ?_ | refine DyV.drewN ?_ _ | refine DyV.alloc ?_ _)); exact Vb1.out)
  (try clear bc0 bc1 bc2 bc3 bc4)
  obtain ⟨bc0, bc1, bc2, bc3, bc4, bc5⟩ := Vb2
  have Vb2 := Lib.hid (DyV.mk bc0 bc1 bc2 bc3 bc4 bc5)
  have B2 := below_box (w := w) (by have hszw := (B1).size; repeat (with_reducible first | refine Below.setCell ?_ (by first | omega | (simp <;> omega)) _ | refine Below.alloc ?_ (by first | omega | (simp <;> omega)) _ | refine Below.drew ?_ | refine below_drewN ?_ _ | exact B1)) hb2
  clear hb2
  go_wp2_with fail
  refine (HC _ (Ga.out.below (by have hszw := (B2).size; repeat (with_reducible first | refine Below.setCell ?_ (by first | omega | (simp <;> omega)) _ | refine Below.alloc ?_ (by first | omega | (simp <;> omega)) _ | refine Below.drew ?_ | refine below_drewN ?_ _ | exact B2))) (Gb.out.below (by have hszw := (B2).size; repeat (with_reducible first | refine Below.setCell ?_ (by first | omega | (simp <;> omega)) _ | refine Below.alloc ?_ (by first | omega | (simp <;> omega)) _ | refine Below.drew ?_ | refine below_drewN ?_ _ | exact B2))) (hT.below (by have hszw := (B2).size; repeat (with_reducible first | refine Below.setCell ?_ (by first | omega | (simp <;> omega)) _ | refine Below.alloc ?_ (by first | omega | (simp <;> omega)) _ | refine Below.drew ?_ | refine below_drewN ?_ _ | exact B2)))).out.mono ?_
  rintro e w3 ⟨rfl, hb3⟩
  have Va3 : DyV w3 b0 bda sa (.slice aa na pa) ea := (by refine DyV.below ?_ hb3; (repeat (with_reducible first | refine DyV.drew ?_ | refine DyV.drewN ?_ _ | refine DyV.alloc ?_ _)); exact Va2.out)
  (try clear ac0 ac1 ac2 ac3 ac4)
  obtain ⟨ac0, ac1, ac2, ac3, ac4, ac5⟩ := Va3
  have Va3 := Lib.hid (DyV.mk ac0 ac1 ac2 ac3 ac4 ac5)
  have Vb3 : DyV w3 b1 bdb sb (.slice ab nb pb) eb := (by refine DyV.below ?_ hb3; (repeat (with_reducible first | refine DyV.drew ?_ | refine DyV.drewN ?_ _ | refine DyV.alloc ?_ _)); exact Vb2.out)
  (try clear bc0 bc1 bc2 bc3 bc4)
  obtain ⟨bc0, bc1, bc2, bc3, bc4, bc5⟩ := Vb3
  have Vb3 := Lib.hid (DyV.mk bc0 bc1 bc2 bc3 bc4 bc5)
  have B3 := below_box (w := w) (by have hszw := (B2).size; repeat (with_reducible first | refine Below.setCell ?_ (by first | omega | (simp <;> omega)) _ | refine Below.alloc ?_ (by first | omega | (simp <;> omega)) _ | refine Below.drew ?_ | refine below_drewN ?_ _ | exact B2)) hb3
  clear hb3
  go_wp2_with fail
  refine (HF _).out.mono ?_
  rintro e w4 ⟨rfl, hb4⟩
  have Va4 : DyV w4 b0 bda sa (.slice aa na pa) ea := (by refine DyV.below ?_ hb4; (repeat (with_reducible first | refine DyV.drew ?_ | refine DyV.drewN ?_ _ | refine DyV.alloc ?_ _)); exact Va3.out)
  (try clear ac0 ac1 ac2 ac3 ac4)
  obtain ⟨ac0, ac1, ac2, ac3, ac4, ac5⟩ := Va4
  have Va4 := Lib.hid (DyV.mk ac0 ac1 ac2 ac3 ac4 ac5)
  have Vb4 : DyV w4 b1 bdb sb (.slice ab nb pb) eb := (by refine DyV.below ?_ hb4; (repeat (with_reducible first | refine DyV.drew ?_ | refine DyV.drewN ?_ _ | refine DyV.alloc ?_ _)); exact Vb3.out)
  (try clear bc0 bc1 bc2 bc3 bc4)
  obtain ⟨bc0, bc1, bc2, bc3, bc4, bc5⟩ := Vb4
  have Vb4 := Lib.hid (DyV.mk bc0 bc1 bc2 bc3 bc4 bc5)
  have B4 := below_box (w := w) (by have hszw := (B3).size; repeat (with_reducible first | refine Below.setCell ?_ (by first | omega | (simp <;> omega)) _ | refine Below.alloc ?_ (by first | omega | (simp <;> omega)) _ | refine Below.drew ?_ | refine below_drewN ?_ _ | exact B3)) hb4
  clear hb4
  go_wp2_with fail
  refine (HA1 _ (hT.below (by have hszw := (B4).size; repeat (with_reducible first | refine Below.setCell ?_ (by first | omega | (simp <;> omega)) _ | refine Below.alloc ?_ (by first | omega | (simp <;> omega)) _ | refine Below.drew ?_ | refine below_drewN ?_ _ | exact B4)))).out.mono ?_
  rintro e w5 ⟨rfl, hb5⟩
  have Va5 : DyV w5 b0 bda sa (.slice aa na pa) ea := (by refine DyV.below ?_ hb5; (repeat (with_reducible first | refine DyV.drew ?_ | refine DyV.drewN ?_ _ | refine DyV.alloc ?_ _)); exact Va4.out)
  (try clear ac0 ac1 ac2 ac3 ac4)
  obtain ⟨ac0, ac1, ac2, ac3, ac4, ac5⟩ := Va5
  have Va5 := Lib.hid (DyV.mk ac0 ac1 ac2 ac3 ac4 ac5)
  have Vb5 : DyV w5 b1 bdb sb (.slice ab nb pb) eb := (by refine DyV.below ?_ hb5; (repeat (with_reducible first | refine DyV.drew ?_ | refine DyV.drewN ?_ _ | refine DyV.alloc ?_ _)); exact Vb4.out)
  (try clear bc0 bc1 bc2 bc3 bc4)
  obtain ⟨bc0, bc1, bc2, bc3, bc4, bc5⟩ := Vb5
  have Vb5 := Lib.hid (DyV.mk bc0 bc1 bc2 bc3 bc4 bc5)
  have B5 := below_box (w := w) (by have hszw := (B4).size; repeat (with_reducible first | refine Below.setCell ?_ (by first | omega | (simp <;> omega)) _ | refine Below.alloc ?_ (by first | omega | (simp <;> omega)) _ | refine Below.drew ?_ | refine below_drewN ?_ _ | exact B4)) hb5
  clear hb5
  go_wp2_with fail
  refine (HA2 _ (hT.below (by have hszw := (B5).size; repeat (with_reducible first | refine Below.setCell ?_ (by first | omega | (simp <;> omega)) _ | refine Below.alloc ?_ (by first | omega | (simp <;> omega)) _ | refine Below.drew ?_ | refine below_drewN ?_ _ | exact B5)))).out.mono ?_
  rintro e w6 ⟨rfl, hb6⟩
  have Va6 : DyV w6 b0 bda sa (.slice aa na pa) ea := (by refine DyV.below ?_ hb6; (repeat (with_reducible first | refine DyV.drew ?_ | refine DyV.drewN ?_ _ | refine DyV.alloc ?_ _)); exact Va5.out)
  (try clear ac0 ac1 ac2 ac3 ac4)
  obtain ⟨ac0, ac1, ac2, ac3, ac4, ac5⟩ := Va6
  have Va6 := Lib.hid (DyV.mk ac0 ac1 ac2 ac3 ac4 ac5)
  have Vb6 : DyV w6 b1 bdb sb (.slice ab nb pb) eb := (by refine DyV.below ?_ hb6; (repeat (with_reducible first | refine DyV.drew ?_ | refine DyV.drewN ?_ _ | refine DyV.alloc ?_ _)); exact Vb5.out)
  (try clear bc0 bc1 bc2 bc3 bc4)
  obtain ⟨bc0, bc1, bc2, bc3, bc4, bc5⟩ := Vb6
  have Vb6 := Lib.hid (DyV.mk bc0 bc1 bc2 bc3 bc4 bc5)
  have B6 := below_box (w := w) (by have hszw := (B5).size; repeat (with_reducible first | refine Below.setCell ?_ (by first | omega | (simp <;> omega)) _ | refine Below.alloc ?_ (by first | omega | (simp <;> omega)) _ | refine Below.drew ?_ | refine below_drewN ?_ _ | exact B5)) hb6
  clear hb6
  go_wp2_with fail
  refine (HA3 _).out.mono ?_
  rintro e w7 ⟨rfl, hb7⟩
  have Va7 : DyV w7 b0 bda sa (.slice aa na pa) ea := (by refine DyV.below ?_ hb7; (repeat (with_reducible first | refine DyV.drew ?_ | refine DyV.drewN ?_ _ | refine DyV.alloc ?_ _)); exact Va6.out)
  (try clear ac0 ac1 ac2 ac3 ac4)
  obtain ⟨ac0, ac1, ac2, ac3, ac4, ac5⟩ := Va7
  have Va7 := Lib.hid (DyV.mk ac0 ac1 ac2 ac3 ac4 ac5)
  have Vb7 : DyV w7 b1 bdb sb (.slice ab nb pb) eb := (by refine DyV.below ?_ hb7; (repeat (with_reducible first | refine DyV.drew ?_ | refine DyV.drewN ?_ _ | refine DyV.alloc ?_ _)); exact Vb6.out)
  (try clear bc0 bc1 bc2 bc3 bc4)
  obtain ⟨bc0, bc1, bc2, bc3, bc4, bc5⟩ := Vb7
  have Vb7 := Lib.hid (DyV.mk bc0 bc1 bc2 bc3 bc4 bc5)
  have B7 := below_box (w := w) (by have hszw := (B6).size; repeat (with_reducible first | refine Below.setCell ?_ (by first | omega | (simp <;> omega)) _ | refine Below.alloc ?_ (by first | omega | (simp <;> omega)) _ | refine Below.drew ?_ | refine below_drewN ?_ _ | exact B6)) hb7
  clear hb7
  go_wp2_with fail
  refine (HW _ (hT.below (by have hszw := (B7).size; repeat (with_reducible first | refine Below.setCell ?_ (by first | omega | (simp <;> omega)) _ | refine Below.alloc ?_ (by first | omega | (simp <;> omega)) _ | refine Below.drew ?_ | refine below_drewN ?_ _ | exact B7)))).out.mono ?_
  rintro e w8 ⟨rfl, hb8⟩
  have Va8 : DyV w8 b0 bda sa (.slice aa na pa) ea := (by refine DyV.below ?_ hb8; (repeat (with_reducible first | refine DyV.drew ?_ | refine DyV.drewN ?_ _ | refine DyV.alloc ?_ _)); exact Va7.out)
  (try clear ac0 ac1 ac2 ac3 ac4)
  obtain ⟨ac0, ac1, ac2, ac3, ac4, ac5⟩ := Va8
  have Va8 := Lib.hid (DyV.mk ac0 ac1 ac2 ac3 ac4 ac5)
  have Vb8 : DyV w8 b1 bdb sb (.slice ab nb pb) eb := (by refine DyV.below ?_ hb8; (repeat (with_reducible first | refine DyV.drew ?_ | refine DyV.drewN ?_ _ | refine DyV.alloc ?_ _)); exact Vb7.out)
  (try clear bc0 bc1 bc2 bc3 bc4)
  obtain ⟨bc0, bc1, bc2, bc3, bc4, bc5⟩ := Vb8
  have Vb8 := Lib.hid (DyV.mk bc0 bc1 bc2 bc3 bc4 bc5)
  have B8 := below_box (w := w) (by have hszw := (B7).size; repeat (with_reducible first | refine Below.setCell ?_ (by first | omega | (simp <;> omega)) _ | refine Below.alloc ?_ (by first | omega | (simp <;> omega)) _ | refine Below.drew ?_ | refine below_drewN ?_ _ | exact B7)) hb8
  clear hb8
  go_wp2_with fail
  go_ret
  exact ⟨rfl, (by have hszw := (B8).size; repeat (with_reducible first | refine Below.setCell ?_ (by first | omega | (simp <;> omega)) _ | refine Below.alloc ?_ (by first | omega | (simp <;> omega)) _ | refine Below.drew ?_ | refine below_drewN ?_ _ | exact B8))⟩

set_option maxRecDepth 100000 in
set_option maxHeartbeats 20000000 in
theorem mono_F1_Tb (w : World) (hT : Tab w) (bda sa : Bool) (aa : Option Addr) (na pa : Nat) (ea : Int) (da : Option (Int × Int)) (Ha : DyIs w bda sa aa na pa ea da) (bdb sb : Bool) (ab : Option Addr) (nb pb : Nat) (eb : Int) (db : Option (Int × Int)) (Hb : DyIs w bdb sb ab nb pb eb db) (f g h : Nat) (hf : f < 18446744073709551616) (hg : g < 18446744073709551616) (_hh : h < 18446744073709551616) (mode : Int) (ma : na ≤ 9223372036854775807) (mb : nb ≤ 9223372036854775807) (hsa : slim3B na ea = true) (hsb : slim3B nb eb = true) (ok : (!dbad da && !dbad db) = false) (fk : fcmpok f g = true) (fc : fcmpv f g ≤ 0) (k1 : fcmpok (fadd f h mode) (fadd g h mode) = true) (k2 : fcmpv (fadd f h mode) (fadd g h mode) ≤ 0) :
    Calls Tryd.prog 5 #[.agg #[.bool bda, .bool sa, .slice aa na pa, .int .i64 ea], .agg #[.bool bdb, .bool sb, .slice ab nb pb, .int .i64 eb], .int .u64 f, .int .u64 g, .int .u64 h, .int .i64 mode] w fun o w' => o = .returned (.bool true) ∧ Below w.heap.size w w' := by
  have HSla := fun W => Lib.hid (slimDyad3_any W bda sa aa na pa ea ma true hsa)
  have HSlb := fun W => Lib.hid (slimDyad3_any W bdb sb ab nb pb eb mb true hsb)
  have HW := fun W ht => Lib.hid (awakeF_any W ht)
  have Ga := Lib.hid Ha
  have Gb := Lib.hid Hb
  have HC := fun W (h : DyIs W bda sa aa na pa ea da) (h' : DyIs W bdb sb ab nb pb eb db) ht => Lib.hid (dcmp_any W bda sa bdb sb aa ab na nb pa pb ea eb da db h.1 h'.1 ht)
  rw [ok] at HC
  generalize dcmp da db = v0 at *
  have HF := fun W => Lib.hid (fcmp_any W f g hf hg)
  rw [fk] at HF
  have d1 : decide (fcmpv f g ≤ 0) = true := by simpa using fc
  have HA1 := fun W ht => Lib.hid (wadd_any W f h hf _hh mode ht)
  have HA2 := fun W ht => Lib.hid (wadd_any W g h hg _hh mode ht)
  have HA3 := fun W => Lib.hid (fcmp_any W (fadd f h mode) (fadd g h mode) (fadd_lt hf _hh mode) (fadd_lt hg _hh mode))
  rw [k1] at HA3
  have d2 : decide (0 < fcmpv (fadd f h mode) (fadd g h mode)) = false := by simp; omega
  generalize fcmpv (fadd f h mode) (fadd g h mode) = v2 at *
  generalize ((fadd f h mode : Nat) : Int) = i3 at *
  generalize ((fadd g h mode : Nat) : Int) = i4 at *
  generalize fcmpv f g = v3 at *
  clear ok fk fc k1 k2 Ha Hb hsa hsb hf hg _hh
  generalize (f : Int) = jf at *
  generalize (g : Int) = jg at *
  generalize (h : Int) = jh at *
  go_enter Tryd.func5, Tryd.ntmps5
  go_wp2_with fail
  have I0 := (DyV.made w 28 bda sa (.slice aa na pa) ea).alloc (.cells #[.bool bdb, .bool sb, .slice ab nb pb, .int .i64 eb] 28)
  have I1 := DyV.made' (w.alloc (.cells #[.bool bda, .bool sa, .slice aa na pa, .int .i64 ea] 28)) 28 bdb sb (.slice ab nb pb) eb (n := w.heap.size + 1) (by rw [World.size_alloc])
  have B0 : Below w.heap.size w ((w.alloc (.cells #[.bool bda, .bool sa, .slice aa na pa, .int .i64 ea] 28)).alloc (.cells #[.bool bdb, .bool sb, .slice ab nb pb, .int .i64 eb] 28)) := (by repeat (with_reducible first | refine Below.setCell ?_ (by simp <;> omega) _ | refine Below.alloc ?_ (by simp <;> omega) _ | refine Below.drew ?_ | refine below_drewN ?_ _ | exact Below.refl _ _))
  generalize ((w.alloc (.cells #[.bool bda, .bool sa, .slice aa na pa, .int .i64 ea] 28)).alloc (.cells #[.bool bdb, .bool sb, .slice ab nb pb, .int .i64 eb] 28)) = w0 at I0 I1 B0 ⊢
  have ne01 : ¬ w.heap.size = w.heap.size + 1 := by omega
  have ne10 : ¬ w.heap.size + 1 = w.heap.size := by omega
  generalize hb1 : w.heap.size + 1 = b1 at I1 ne01 ne10 ⊢
  generalize hb0 : w.heap.size = b0 at I0 ne01 ne10 ⊢
  obtain ⟨ac0, ac1, ac2, ac3, ac4, ac5⟩ := I0
  have Va0 := Lib.hid (DyV.mk ac0 ac1 ac2 ac3 ac4 ac5)
  obtain ⟨bc0, bc1, bc2, bc3, bc4, bc5⟩ := I1
  have Vb0 := Lib.hid (DyV.mk bc0 bc1 bc2 bc3 bc4 bc5)
  refine (HSla _).out.mono ?_
  rintro e w1 ⟨rfl, hb1⟩
  have Va1 : DyV w1 b0 bda sa (.slice aa na pa) ea := (by refine DyV.below ?_ hb1; (repeat (with_reducible first | refine DyV.drew ?_ | refine DyV.drewN ?_ _ | refine DyV.alloc ?_ _)); exact Va0.out)
  (try clear ac0 ac1 ac2 ac3 ac4)
  obtain ⟨ac0, ac1, ac2, ac3, ac4, ac5⟩ := Va1
  have Va1 := Lib.hid (DyV.mk ac0 ac1 ac2 ac3 ac4 ac5)
  have Vb1 : DyV w1 b1 bdb sb (.slice ab nb pb) eb := (by refine DyV.below ?_ hb1; (repeat (with_reducible first | refine DyV.drew ?_ | refine DyV.drewN ?_ _ | refine DyV.alloc ?_ _)); exact Vb0.out)
  (try clear bc0 bc1 bc2 bc3 bc4)
  obtain ⟨bc0, bc1, bc2, bc3, bc4, bc5⟩ := Vb1
  have Vb1 := Lib.hid (DyV.mk bc0 bc1 bc2 bc3 bc4 bc5)
  have B1 := below_box (w := w) (by have hszw := (B0).size; repeat (with_reducible first | refine Below.setCell ?_ (by first | omega | (simp <;> omega)) _ | refine Below.alloc ?_ (by first | omega | (simp <;> omega)) _ | refine Below.drew ?_ | refine below_drewN ?_ _ | exact B0)) hb1
  clear hb1
  go_wp2_with fail
  refine (HSlb _).out.mono ?_
  rintro e w2 ⟨rfl, hb2⟩
  have Va2 : DyV w2 b0 bda sa (.slice aa na pa) ea := (by refine DyV.below ?_ hb2; (repeat (with_reducible first | refine DyV.drew ?_ | refine DyV.drewN ?_ _ | refine DyV.alloc ?_ _)); exact Va1.out)
  (try clear ac0 ac1 ac2 ac3 ac4)
  obtain ⟨ac0, ac1, ac2, ac3, ac4, ac5⟩ := Va2
  have Va2 := Lib.hid (DyV.mk ac0 ac1 ac2 ac3 ac4 ac5)
  have Vb2 : DyV w2 b1 bdb sb (.slice ab nb pb) eb := (by refine DyV.below ?_ hb2; (repeat (with_reducible first | refine DyV.drew ?_ | refine DyV.drewN ?_ _ | refine DyV.alloc ?_ _)); exact Vb1.out)
  (try clear bc0 bc1 bc2 bc3 bc4)
  obtain ⟨bc0, bc1, bc2, bc3, bc4, bc5⟩ := Vb2
  have Vb2 := Lib.hid (DyV.mk bc0 bc1 bc2 bc3 bc4 bc5)
  have B2 := below_box (w := w) (by have hszw := (B1).size; repeat (with_reducible first | refine Below.setCell ?_ (by first | omega | (simp <;> omega)) _ | refine Below.alloc ?_ (by first | omega | (simp <;> omega)) _ | refine Below.drew ?_ | refine below_drewN ?_ _ | exact B1)) hb2
  clear hb2
  go_wp2_with fail
  refine (HC _ (Ga.out.below (by have hszw := (B2).size; repeat (with_reducible first | refine Below.setCell ?_ (by first | omega | (simp <;> omega)) _ | refine Below.alloc ?_ (by first | omega | (simp <;> omega)) _ | refine Below.drew ?_ | refine below_drewN ?_ _ | exact B2))) (Gb.out.below (by have hszw := (B2).size; repeat (with_reducible first | refine Below.setCell ?_ (by first | omega | (simp <;> omega)) _ | refine Below.alloc ?_ (by first | omega | (simp <;> omega)) _ | refine Below.drew ?_ | refine below_drewN ?_ _ | exact B2))) (hT.below (by have hszw := (B2).size; repeat (with_reducible first | refine Below.setCell ?_ (by first | omega | (simp <;> omega)) _ | refine Below.alloc ?_ (by first | omega | (simp <;> omega)) _ | refine Below.drew ?_ | refine below_drewN ?_ _ | exact B2)))).out.mono ?_
  rintro e w3 ⟨rfl, hb3⟩
  have Va3 : DyV w3 b0 bda sa (.slice aa na pa) ea := (by refine DyV.below ?_ hb3; (repeat (with_reducible first | refine DyV.drew ?_ | refine DyV.drewN ?_ _ | refine DyV.alloc ?_ _)); exact Va2.out)
  (try clear ac0 ac1 ac2 ac3 ac4)
  obtain ⟨ac0, ac1, ac2, ac3, ac4, ac5⟩ := Va3
  have Va3 := Lib.hid (DyV.mk ac0 ac1 ac2 ac3 ac4 ac5)
  have Vb3 : DyV w3 b1 bdb sb (.slice ab nb pb) eb := (by refine DyV.below ?_ hb3; (repeat (with_reducible first | refine DyV.drew ?_ | refine DyV.drewN ?_ _ | refine DyV.alloc ?_ _)); exact Vb2.out)
  (try clear bc0 bc1 bc2 bc3 bc4)
  obtain ⟨bc0, bc1, bc2, bc3, bc4, bc5⟩ := Vb3
  have Vb3 := Lib.hid (DyV.mk bc0 bc1 bc2 bc3 bc4 bc5)
  have B3 := below_box (w := w) (by have hszw := (B2).size; repeat (with_reducible first | refine Below.setCell ?_ (by first | omega | (simp <;> omega)) _ | refine Below.alloc ?_ (by first | omega | (simp <;> omega)) _ | refine Below.drew ?_ | refine below_drewN ?_ _ | exact B2)) hb3
  clear hb3
  go_wp2_with fail
  refine (HF _).out.mono ?_
  rintro e w4 ⟨rfl, hb4⟩
  have Va4 : DyV w4 b0 bda sa (.slice aa na pa) ea := (by refine DyV.below ?_ hb4; (repeat (with_reducible first | refine DyV.drew ?_ | refine DyV.drewN ?_ _ | refine DyV.alloc ?_ _)); exact Va3.out)
  (try clear ac0 ac1 ac2 ac3 ac4)
  obtain ⟨ac0, ac1, ac2, ac3, ac4, ac5⟩ := Va4
  have Va4 := Lib.hid (DyV.mk ac0 ac1 ac2 ac3 ac4 ac5)
  have Vb4 : DyV w4 b1 bdb sb (.slice ab nb pb) eb := (by refine DyV.below ?_ hb4; (repeat (with_reducible first | refine DyV.drew ?_ | refine DyV.drewN ?_ _ | refine DyV.alloc ?_ _)); exact Vb3.out)
  (try clear bc0 bc1 bc2 bc3 bc4)
  obtain ⟨bc0, bc1, bc2, bc3, bc4, bc5⟩ := Vb4
  have Vb4 := Lib.hid (DyV.mk bc0 bc1 bc2 bc3 bc4 bc5)
  have B4 := below_box (w := w) (by have hszw := (B3).size; repeat (with_reducible first | refine Below.setCell ?_ (by first | omega | (simp <;> omega)) _ | refine Below.alloc ?_ (by first | omega | (simp <;> omega)) _ | refine Below.drew ?_ | refine below_drewN ?_ _ | exact B3)) hb4
  clear hb4
  go_wp2_with fail
  refine (HA1 _ (hT.below (by have hszw := (B4).size; repeat (with_reducible first | refine Below.setCell ?_ (by first | omega | (simp <;> omega)) _ | refine Below.alloc ?_ (by first | omega | (simp <;> omega)) _ | refine Below.drew ?_ | refine below_drewN ?_ _ | exact B4)))).out.mono ?_
  rintro e w5 ⟨rfl, hb5⟩
  have Va5 : DyV w5 b0 bda sa (.slice aa na pa) ea := (by refine DyV.below ?_ hb5; (repeat (with_reducible first | refine DyV.drew ?_ | refine DyV.drewN ?_ _ | refine DyV.alloc ?_ _)); exact Va4.out)
  (try clear ac0 ac1 ac2 ac3 ac4)
  obtain ⟨ac0, ac1, ac2, ac3, ac4, ac5⟩ := Va5
  have Va5 := Lib.hid (DyV.mk ac0 ac1 ac2 ac3 ac4 ac5)
  have Vb5 : DyV w5 b1 bdb sb (.slice ab nb pb) eb := (by refine DyV.below ?_ hb5; (repeat (with_reducible first | refine DyV.drew ?_ | refine DyV.drewN ?_ _ | refine DyV.alloc ?_ _)); exact Vb4.out)
  (try clear bc0 bc1 bc2 bc3 bc4)
  obtain ⟨bc0, bc1, bc2, bc3, bc4, bc5⟩ := Vb5
  have Vb5 := Lib.hid (DyV.mk bc0 bc1 bc2 bc3 bc4 bc5)
  have B5 := below_box (w := w) (by have hszw := (B4).size; repeat (with_reducible first | refine Below.setCell ?_ (by first | omega | (simp <;> omega)) _ | refine Below.alloc ?_ (by first | omega | (simp <;> omega)) _ | refine Below.drew ?_ | refine below_drewN ?_ _ | exact B4)) hb5
  clear hb5
  go_wp2_with fail
  refine (HA2 _ (hT.below (by have hszw := (B5).size; repeat (with_reducible first | refine Below.setCell ?_ (by first | omega | (simp <;> omega)) _ | refine Below.alloc ?_ (by first | omega | (simp <;> omega)) _ | refine Below.drew ?_ | refine below_drewN ?_ _ | exact B5)))).out.mono ?_
  rintro e w6 ⟨rfl, hb6⟩
  have Va6 : DyV w6 b0 bda sa (.slice aa na pa) ea := (by refine DyV.below ?_ hb6; (repeat (with_reducible first | refine DyV.drew ?_ | refine DyV.drewN ?_ _ | refine DyV.alloc ?_ _)); exact Va5.out)
  (try clear ac0 ac1 ac2 ac3 ac4)
  obtain ⟨ac0, ac1, ac2, ac3, ac4, ac5⟩ := Va6
  have Va6 := Lib.hid (DyV.mk ac0 ac1 ac2 ac3 ac4 ac5)
  have Vb6 : DyV w6 b1 bdb sb (.slice ab nb pb) eb := (by refine DyV.below ?_ hb6; (repeat (with_reducible first | refine DyV.drew ?_ | refine DyV.drewN ?_ _ | refine DyV.alloc ?_ _)); exact Vb5.out)
  (try clear bc0 bc1 bc2 bc3 bc4)
  obtain ⟨bc0, bc1, bc2, bc3, bc4, bc5⟩ := Vb6
  have Vb6 := Lib.hid (DyV.mk bc0 bc1 bc2 bc3 bc4 bc5)
  have B6 := below_box (w := w) (by have hszw := (B5).size; repeat (with_reducible first | refine Below.setCell ?_ (by first | omega | (simp <;> omega)) _ | refine Below.alloc ?_ (by first | omega | (simp <;> omega)) _ | refine Below.drew ?_ | refine below_drewN ?_ _ | exact B5)) hb6
  clear hb6
  go_wp2_with fail
  refine (HA3 _).out.mono ?_
  rintro e w7 ⟨rfl, hb7⟩
  have Va7 : DyV w7 b0 bda sa (.slice aa na pa) ea := (by refine DyV.below ?_ hb7; (repeat (with_reducible first | refine DyV.drew ?_ | refine DyV.drewN ?_ _ | refine DyV.alloc ?_ _)); exact Va6.out)
  (try clear ac0 ac1 ac2 ac3 ac4)
  obtain ⟨ac0, ac1, ac2, ac3, ac4, ac5⟩ := Va7
  have Va7 := Lib.hid (DyV.mk ac0 ac1 ac2 ac3 ac4 ac5)
  have Vb7 : DyV w7 b1 bdb sb (.slice ab nb pb) eb := (by refine DyV.below ?_ hb7; (repeat (with_reducible first | refine DyV.drew ?_ | refine DyV.drewN ?_ _ | refine DyV.alloc ?_ _)); exact Vb6.out)
  (try clear bc0 bc1 bc2 bc3 bc4)
  obtain ⟨bc0, bc1, bc2, bc3, bc4, bc5⟩ := Vb7
  have Vb7 := Lib.hid (DyV.mk bc0 bc1 bc2 bc3 bc4 bc5)
  have B7 := below_box (w := w) (by have hszw := (B6).size; repeat (with_reducible first | refine Below.setCell ?_ (by first | omega | (simp <;> omega)) _ | refine Below.alloc ?_ (by first | omega | (simp <;> omega)) _ | refine Below.drew ?_ | refine below_drewN ?_ _ | exact B6)) hb7
  clear hb7
  go_wp2_with fail
  refine (HW _ (hT.below (by have hszw := (B7).size; repeat (with_reducible first | refine Below.setCell ?_ (by first | omega | (simp <;> omega)) _ | refine Below.alloc ?_ (by first | omega | (simp <;> omega)) _ | refine Below.drew ?_ | refine below_drewN ?_ _ | exact B7)))).out.mono ?_
  rintro e w8 ⟨rfl, hb8⟩
  have Va8 : DyV w8 b0 bda sa (.slice aa na pa) ea := (by refine DyV.below ?_ hb8; (repeat (with_reducible first | refine DyV.drew ?_ | refine DyV.drewN ?_ _ | refine DyV.alloc ?_ _)); exact Va7.out)
  (try clear ac0 ac1 ac2 ac3 ac4)
  obtain ⟨ac0, ac1, ac2, ac3, ac4, ac5⟩ := Va8
  have Va8 := Lib.hid (DyV.mk ac0 ac1 ac2 ac3 ac4 ac5)
  have Vb8 : DyV w8 b1 bdb sb (.slice ab nb pb) eb := (by refine DyV.below ?_ hb8; (repeat (with_reducible first | refine DyV.drew ?_ | refine DyV.drewN ?_ _ | refine DyV.alloc ?_ _)); exact Vb7.out)
  (try clear bc0 bc1 bc2 bc3 bc4)
  obtain ⟨bc0, bc1, bc2, bc3, bc4, bc5⟩ := Vb8
  have Vb8 := Lib.hid (DyV.mk bc0 bc1 bc2 bc3 bc4 bc5)
  have B8 := below_box (w := w) (by have hszw := (B7).size; repeat (with_reducible first | refine Below.setCell ?_ (by first | omega | (simp <;> omega)) _ | refine Below.alloc ?_ (by first | omega | (simp <;> omega)) _ | refine Below.drew ?_ | refine below_drewN ?_ _ | exact B7)) hb8
  clear hb8
  go_wp2_with fail
  go_ret
  exact ⟨rfl, (by have hszw := (B8).size; repeat (with_reducible first | refine Below.setCell ?_ (by first | omega | (simp <;> omega)) _ | refine Below.alloc ?_ (by first | omega | (simp <;> omega)) _ | refine Below.drew ?_ | refine below_drewN ?_ _ | exact B8))⟩

set_option maxRecDepth 100000 in
set_option maxHeartbeats 20000000 in
theorem mono_F1_F1 (w : World) (hT : Tab w) (bda sa : Bool) (aa : Option Addr) (na pa : Nat) (ea : Int) (da : Option (Int × Int)) (Ha : DyIs w bda sa aa na pa ea da) (bdb sb : Bool) (ab : Option Addr) (nb pb : Nat) (eb : Int) (db : Option (Int × Int)) (Hb : DyIs w bdb sb ab nb pb eb db) (f g h : Nat) (hf : f < 18446744073709551616) (hg : g < 18446744073709551616) (_hh : h < 18446744073709551616) (mode : Int) (ma : na ≤ 9223372036854775807) (mb : nb ≤ 9223372036854775807) (hsa : slim3B na ea = true) (hsb : slim3B nb eb = true) (ok : (!dbad da && !dbad db) = false) (fk : fcmpok f g = false) :
    Calls Tryd.prog 5 #[.agg #[.bool bda, .bool sa, .slice aa na pa, .int .i64 ea], .agg #[.bool bdb, .bool sb, .slice ab nb pb, .int .i64 eb], .int .u64 f, .int .u64 g, .int .u64 h, .int .i64 mode] w fun o w' => o = .returned (.bool true) ∧ Below w.heap.size w w' := by
  have HSla := fun W => Lib.hid (slimDyad3_any W bda sa aa na pa ea ma true hsa)
  have HSlb := fun W => Lib.hid (slimDyad3_any W bdb sb ab nb pb eb mb true hsb)
  have HW := fun W ht => Lib.hid (awakeF_any W ht)
  have Ga := Lib.hid Ha
  have Gb := Lib.hid Hb
  have HC := fun W (h : DyIs W bda sa aa na pa ea da) (h' : DyIs W bdb sb ab nb pb eb db) ht => Lib.hid (dcmp_any W bda sa bdb sb aa ab na nb pa pb ea eb da db h.1 h'.1 ht)
  rw [ok] at HC
  generalize dcmp da db = v0 at *
  have HF := fun W => Lib.hid (fcmp_any W f g hf hg)
  rw [fk] at HF
  generalize fcmpv f g = v3 at *
  clear ok fk Ha Hb hsa hsb hf hg _hh
  generalize (f : Int) = jf at *
  generalize (g : Int) = jg at *
  generalize (h : Int) = jh at *
  go_enter Tryd.func5, Tryd.ntmps5
  go_wp2_with fail
  have I0 := (DyV.made w 28 bda sa (.slice aa na pa) ea).alloc (.cells #[.bool bdb, .bool sb, .slice ab nb pb, .int .i64 eb] 28)
  have I1 := DyV.made' (w.alloc (.cells #[.bool bda, .bool sa, .slice aa na pa, .int .i64 ea] 28)) 28 bdb sb (.slice ab nb pb) eb (n := w.heap.size + 1) (by rw [World.size_alloc])
  have B0 : Below w.heap.size w ((w.alloc (.cells #[.bool bda, .bool sa, .slice aa na pa, .int .i64 ea] 28)).alloc (.cells #[.bool bdb, .bool sb, .slice ab nb pb, .int .i64 eb] 28)) := (by repeat (with_reducible first | refine Below.setCell ?_ (by simp <;> omega) _ | refine Below.alloc ?_ (by simp <;> omega) _ | refine Below.drew ?_ | refine below_drewN ?_ _ | exact Below.refl _ _))
  generalize ((w.alloc (.cells #[.bool bda, .bool sa, .slice aa na pa, .int .i64 ea] 28)).alloc (.cells #[.bool bdb, .bool sb, .slice ab nb pb, .int .i64 eb] 28)) = w0 at I0 I1 B0 ⊢
  have ne01 : ¬ w.heap.size = w.heap.size + 1 := by omega
  have ne10 : ¬ w.heap.size + 1 = w.heap.size := by omega
  generalize hb1 : w.heap.size + 1 = b1 at I1 ne01 ne10 ⊢
  generalize hb0 : w.heap.size = b0 at I0 ne01 ne10 ⊢
  obtain ⟨ac0, ac1, ac2, ac3, ac4, ac5⟩ := I0
  have Va0 := Lib.hid (DyV.mk ac0 ac1 ac2 ac3 ac4 ac5)
  obtain ⟨bc0, bc1, bc2, bc3, bc4, bc5⟩ := I1
  have Vb0 := Lib.hid (DyV.mk bc0 bc1 bc2 bc3 bc4 bc5)
  refine (HSla _).out.mono ?_
  rintro e w1 ⟨rfl, hb1⟩
  have Va1 : DyV w1 b0 bda sa (.slice aa na pa) ea := (by refine DyV.below ?_ hb1; (repeat (with_reducible first | refine DyV.drew ?_ | refine DyV.drewN ?_ _ | refine DyV.alloc ?_ _)); exact Va0.out)
  (try clear ac0 ac1 ac2 ac3 ac4)
  obtain ⟨ac0, ac1, ac2, ac3, ac4, ac5⟩ := Va1
  have Va1 := Lib.hid (DyV.mk ac0 ac1 ac2 ac3 ac4 ac5)
  have Vb1 : DyV w1 b1 bdb sb (.slice ab nb pb) eb := (by refine DyV.below ?_ hb1; (repeat (with_reducible first | refine DyV.drew ?_ | refine DyV.drewN ?_ _ | refine DyV.alloc ?_ _)); exact Vb0.out)
  (try clear bc0 bc1 bc2 bc3 bc4)
  obtain ⟨bc0, bc1, bc2, bc3, bc4, bc5⟩ := Vb1
  have Vb1 := Lib.hid (DyV.mk bc0 bc1 bc2 bc3 bc4 bc5)
  have B1 := below_box (w := w) (by have hszw := (B0).size; repeat (with_reducible first | refine Below.setCell ?_ (by first | omega | (simp <;> omega)) _ | refine Below.alloc ?_ (by first | omega | (simp <;> omega)) _ | refine Below.drew ?_ | refine below_drewN ?_ _ | exact B0)) hb1
  clear hb1
  go_wp2_with fail
  refine (HSlb _).out.mono ?_
  rintro e w2 ⟨rfl, hb2⟩
  have Va2 : DyV w2 b0 bda sa (.slice aa na pa) ea := (by refine DyV.below ?_ hb2; (repeat (with_reducible first | refine DyV.drew ?_ | refine DyV.drewN ?_ _ | refine DyV.alloc ?_ _)); exact Va1.out)
  (try clear ac0 ac1 ac2 ac3 ac4)
  obtain ⟨ac0, ac1, ac2, ac3, ac4, ac5⟩ := Va2
  have Va2 := Lib.hid (DyV.mk ac0 ac1 ac2 ac3 ac4 ac5)
  have Vb2 : DyV w2 b1 bdb sb (.slice ab nb pb) eb := (by refine DyV.below ?_ hb2; (repeat (with_reducible first | refine DyV.drew ?_ | refine DyV.drewN ?_ _ | refine DyV.alloc ?_ _)); exact Vb1.out)
  (try clear bc0 bc1 bc2 bc3 bc4)
  obtain ⟨bc0, bc1, bc2, bc3, bc4, bc5⟩ := Vb2
  have Vb2 := Lib.hid (DyV.mk bc0 bc1 bc2 bc3 bc4 bc5)
  have B2 := below_box (w := w) (by have hszw := (B1).size; repeat (with_reducible first | refine Below.setCell ?_ (by first | omega | (simp <;> omega)) _ | refine Below.alloc ?_ (by first | omega | (simp <;> omega)) _ | refine Below.drew ?_ | refine below_drewN ?_ _ | exact B1)) hb2
  clear hb2
  go_wp2_with fail
  refine (HC _ (Ga.out.below (by have hszw := (B2).size; repeat (with_reducible first | refine Below.setCell ?_ (by first | omega | (simp <;> omega)) _ | refine Below.alloc ?_ (by first | omega | (simp <;> omega)) _ | refine Below.drew ?_ | refine below_drewN ?_ _ | exact B2))) (Gb.out.below (by have hszw := (B2).size; repeat (with_reducible first | refine Below.setCell ?_ (by first | omega | (simp <;> omega)) _ | refine Below.alloc ?_ (by first | omega | (simp <;> omega)) _ | refine Below.drew ?_ | refine below_drewN ?_ _ | exact B2))) (hT.below (by have hszw := (B2).size; repeat (with_reducible first | refine Below.setCell ?_ (by first | omega | (simp <;> omega)) _ | refine Below.alloc ?_ (by first | omega | (simp <;> omega)) _ | refine Below.drew ?_ | refine below_drewN ?_ _ | exact B2)))).out.mono ?_
  rintro e w3 ⟨rfl, hb3⟩
  have Va3 : DyV w3 b0 bda sa (.slice aa na pa) ea := (by refine DyV.below ?_ hb3; (repeat (with_reducible first | refine DyV.drew ?_ | refine DyV.drewN ?_ _ | refine DyV.alloc ?_ _)); exact Va2.out)
  (try clear ac0 ac1 ac2 ac3 ac4)
  obtain ⟨ac0, ac1, ac2, ac3, ac4, ac5⟩ := Va3
  have Va3 := Lib.hid (DyV.mk ac0 ac1 ac2 ac3 ac4 ac5)
  have Vb3 : DyV w3 b1 bdb sb (.slice ab nb pb) eb := (by refine DyV.below ?_ hb3; (repeat (with_reducible first | refine DyV.drew ?_ | refine DyV.drewN ?_ _ | refine DyV.alloc ?_ _)); exact Vb2.out)
  (try clear bc0 bc1 bc2 bc3 bc4)
  obtain ⟨bc0, bc1, bc2, bc3, bc4, bc5⟩ := Vb3
  have Vb3 := Lib.hid (DyV.mk bc0 bc1 bc2 bc3 bc4 bc5)
  have B3 := below_box (w := w) (by have hszw := (B2).size; repeat (with_reducible first | refine Below.setCell ?_ (by first | omega | (simp <;> omega)) _ | refine Below.alloc ?_ (by first | omega | (simp <;> omega)) _ | refine Below.drew ?_ | refine below_drewN ?_ _ | exact B2)) hb3
  clear hb3
  go_wp2_with fail
  refine (HF _).out.mono ?_
  rintro e w4 ⟨rfl, hb4⟩
  have Va4 : DyV w4 b0 bda sa (.slice aa na pa) ea := (by refine DyV.below ?_ hb4; (repeat (with_reducible first | refine DyV.drew ?_ | refine DyV.drewN ?_ _ | refine DyV.alloc ?_ _)); exact Va3.out)
  (try clear ac0 ac1 ac2 ac3 ac4)
  obtain ⟨ac0, ac1, ac2, ac3, ac4, ac5⟩ := Va4
  have Va4 := Lib.hid (DyV.mk ac0 ac1 ac2 ac3 ac4 ac5)
  have Vb4 : DyV w4 b1 bdb sb (.slice ab nb pb) eb := (by refine DyV.below ?_ hb4; (repeat (with_reducible first | refine DyV.drew ?_ | refine DyV.drewN ?_ _ | refine DyV.alloc ?_ _)); exact Vb3.out)
  (try clear bc0 bc1 bc2 bc3 bc4)
  obtain ⟨bc0, bc1, bc2, bc3, bc4, bc5⟩ := Vb4
  have Vb4 := Lib.hid (DyV.mk bc0 bc1 bc2 bc3 bc4 bc5)
  have B4 := below_box (w := w) (by have hszw := (B3).size; repeat (with_reducible first | refine Below.setCell ?_ (by first | omega | (simp <;> omega)) _ | refine Below.alloc ?_ (by first | omega | (simp <;> omega)) _ | refine Below.drew ?_ | refine below_drewN ?_ _ | exact B3)) hb4
  clear hb4
  go_wp2_with fail
  refine (HW _ (hT.below (by have hszw := (B4).size; repeat (with_reducible first | refine Below.setCell ?_ (by first | omega | (simp <;> omega)) _ | refine Below.alloc ?_ (by first | omega | (simp <;> omega)) _ | refine Below.drew ?_ | refine below_drewN ?_ _ | exact B4)))).out.mono ?_
  rintro e w5 ⟨rfl, hb5⟩
  have Va5 : DyV w5 b0 bda sa (.slice aa na pa) ea := (by refine DyV.below ?_ hb5; (repeat (with_reducible first | refine DyV.drew ?_ | refine DyV.drewN ?_ _ | refine DyV.alloc ?_ _)); exact Va4.out)
  (try clear ac0 ac1 ac2 ac3 ac4)
  obtain ⟨ac0, ac1, ac2, ac3, ac4, ac5⟩ := Va5
  have Va5 := Lib.hid (DyV.mk ac0 ac1 ac2 ac3 ac4 ac5)
  have Vb5 : DyV w5 b1 bdb sb (.slice ab nb pb) eb := (by refine DyV.below ?_ hb5; (repeat (with_reducible first | refine DyV.drew ?_ | refine DyV.drewN ?_ _ | refine DyV.alloc ?_ _)); exact Vb4.out)
  (try clear bc0 bc1 bc2 bc3 bc4)
  obtain ⟨bc0, bc1, bc2, bc3, bc4, bc5⟩ := Vb5
  have Vb5 := Lib.hid (DyV.mk bc0 bc1 bc2 bc3 bc4 bc5)
  have B5 := below_box (w := w) (by have hszw := (B4).size; repeat (with_reducible first | refine Below.setCell ?_ (by first | omega | (simp <;> omega)) _ | refine Below.alloc ?_ (by first | omega | (simp <;> omega)) _ | refine Below.drew ?_ | refine below_drewN ?_ _ | exact B4)) hb5
  clear hb5
  go_wp2_with fail
  go_ret
  exact ⟨rfl, (by have hszw := (B5).size; repeat (with_reducible first | refine Below.setCell ?_ (by first | omega | (simp <;> omega)) _ | refine Below.alloc ?_ (by first | omega | (simp <;> omega)) _ | refine Below.drew ?_ | refine below_drewN ?_ _ | exact B5))⟩

set_option maxRecDepth 100000 in
set_option maxHeartbeats 20000000 in
theorem mono_F1_F2 (w : World) (hT : Tab w) (bda sa : Bool) (aa : Option Addr) (na pa : Nat) (ea : Int) (da : Option (Int × Int)) (Ha : DyIs w bda sa aa na pa ea da) (bdb sb : Bool) (ab : Option Addr) (nb pb : Nat) (eb : Int) (db : Option (Int × Int)) (Hb : DyIs w bdb sb ab nb pb eb db) (f g h : Nat) (hf : f < 18446744073709551616) (hg : g < 18446744073709551616) (_hh : h < 18446744073709551616) (mode : Int) (ma : na ≤ 9223372036854775807) (mb : nb ≤ 9223372036854775807) (hsa : slim3B na ea = true) (hsb : slim3B nb eb = true) (ok : (!dbad da && !dbad db) = false) (fk : fcmpok f g = true) (fc : ¬ fcmpv f g ≤ 0) :
    Calls Tryd.prog 5 #[.agg #[.bool bda, .bool sa, .slice aa na pa, .int .i64 ea], .agg #[.bool bdb, .bool sb, .slice ab nb pb, .int .i64 eb], .int .u64 f, .int .u64 g, .int .u64 h, .int .i64 mode] w fun o w' => o = .returned (.bool true) ∧ Below w.heap.size w w' := by
  have HSla := fun W => Lib.hid (slimDyad3_any W bda sa aa na pa ea ma true hsa)
  have HSlb := fun W => Lib.hid (slimDyad3_any W bdb sb ab nb pb eb mb true hsb)
  have HW := fun W ht => Lib.hid (awakeF_any W ht)
  have Ga := Lib.hid Ha
  have Gb := Lib.hid Hb
  have HC := fun W (h : DyIs W bda sa aa na pa ea da) (h' : DyIs W bdb sb ab nb pb eb db) ht => Lib.hid (dcmp_any W bda sa bdb sb aa ab na nb pa pb ea eb da db h.1 h'.1 ht)
  rw [ok] at HC
  generalize dcmp da db = v0 at *
  have HF := fun W => Lib.hid (fcmp_any W f g hf hg)
  rw [fk] at HF
  have d1 : decide (fcmpv f g ≤ 0) = false := by simpa using fc
  generalize fcmpv f g = v3 at *
  clear ok fk fc Ha Hb hsa hsb hf hg _hh
  generalize (f : Int) = jf at *
  generalize (g : Int) = jg at *
  generalize (h : Int) = jh at *
  go_enter Tryd.func5, Tryd.ntmps5
  go_wp2_with fail
  have I0 := (DyV.made w 28 bda sa (.slice aa na pa) ea).alloc (.cells #[.bool bdb, .bool sb, .slice ab nb pb, .int .i64 eb] 28)
  have I1 := DyV.made' (w.alloc (.cells #[.bool bda, .bool sa, .slice aa na pa, .int .i64 ea] 28)) 28 bdb sb (.slice ab nb pb) eb (n := w.heap.size + 1) (by rw [World.size_alloc])
  have B0 : Below w.heap.size w ((w.alloc (.cells #[.bool bda, .bool sa, .slice aa na pa, .int .i64 ea] 28)).alloc (.cells #[.bool bdb, .bool sb, .slice ab nb pb, .int .i64 eb] 28)) := (by repeat (with_reducible first | refine Below.setCell ?_ (by simp <;> omega) _ | refine Below.alloc ?_ (by simp <;> omega) _ | refine Below.drew ?_ | refine below_drewN ?_ _ | exact Below.refl _ _))
  generalize ((w.alloc (.cells #[.bool bda, .bool sa, .slice aa na pa, .int .i64 ea] 28)).alloc (.cells #[.bool bdb, .bool sb, .slice ab nb pb, .int .i64 eb] 28)) = w0 at I0 I1 B0 ⊢
  have ne01 : ¬ w.heap.size = w.heap.size + 1 := by omega
  have ne10 : ¬ w.heap.size + 1 = w.heap.size := by omega
  generalize hb1 : w.heap.size + 1 = b1 at I1 ne01 ne10 ⊢
  generalize hb0 : w.heap.size = b0 at I0 ne01 ne10 ⊢
  obtain ⟨ac0, ac1, ac2, ac3, ac4, ac5⟩ := I0
  have Va0 := Lib.hid (DyV.mk ac0 ac1 ac2 ac3 ac4 ac5)
  obtain ⟨bc0, bc1, bc2, bc3, bc4, bc5⟩ := I1
  have Vb0 := Lib.hid (DyV.mk bc0 bc1 bc2 bc3 bc4 bc5)
  refine (HSla _).out.mono ?_
  rintro e w1 ⟨rfl, hb1⟩
  have Va1 : DyV w1 b0 bda sa (.slice aa na pa) ea := (by refine DyV.below ?_ hb1; (repeat (with_reducible first | refine DyV.drew ?_ | refine DyV.drewN ?_ _ | refine DyV.alloc ?_ _)); exact Va0.out)
  (try clear ac0 ac1 ac2 ac3 ac4)
  obtain ⟨ac0, ac1, ac2, ac3, ac4, ac5⟩ := Va1
  have Va1 := Lib.hid (DyV.mk ac0 ac1 ac2 ac3 ac4 ac5)
  have Vb1 : DyV w1 b1 bdb sb (.slice ab nb pb) eb := (by refine DyV.below ?_ hb1; (repeat (with_reducible first | refine DyV.drew ?_ | refine DyV.drewN ?_ _ | refine DyV.alloc ?_ _)); exact Vb0.out)
  (try clear bc0 bc1 bc2 bc3 bc4)
  obtain ⟨bc0, bc1, bc2, bc3, bc4, bc5⟩ := Vb1
  have Vb1 := Lib.hid (DyV.mk bc0 bc1 bc2 bc3 bc4 bc5)
  have B1 := below_box (w := w) (by have hszw := (B0).size; repeat (with_reducible first | refine Below.setCell ?_ (by first | omega | (simp <;> omega)) _ | refine Below.alloc ?_ (by first | omega | (simp <;> omega)) _ | refine Below.drew ?_ | refine below_drewN ?_ _ | exact B0)) hb1
  clear hb1
  go_wp2_with fail
  refine (HSlb _).out.mono ?_
  rintro e w2 ⟨rfl, hb2⟩
  have Va2 : DyV w2 b0 bda sa (.slice aa na pa) ea := (by refine DyV.below ?_ hb2; (repeat (with_reducible first | refine DyV.drew ?_ | refine DyV.drewN ?_ _ | refine DyV.alloc ?_ _)); exact Va1.out)
  (try clear ac0 ac1 ac2 ac3 ac4)
  obtain ⟨ac0, ac1, ac2, ac3, ac4, ac5⟩ := Va2
  have Va2 := Lib.hid (DyV.mk ac0 ac1 ac2 ac3 ac4 ac5)
  have Vb2 : DyV w2 b1 bdb sb (.slice ab nb pb) eb := (by refine DyV.below ?_ hb2; (repeat (with_reducible first | refine DyV.drew ?_ | refine DyV.drewN ?_ _ | refine DyV.alloc ?_ _)); exact Vb1.out)
  (try clear bc0 bc1 bc2 bc3 bc4)
  obtain ⟨bc0, bc1, bc2, bc3, bc4, bc5⟩ := Vb2
  have Vb2 := Lib.hid (DyV.mk bc0 bc1 bc2 bc3 bc4 bc5)
  have B2 := below_box (w := w) (by have hszw := (B1).size; repeat (with_reducible first | refine Below.setCell ?_ (by first | omega | (simp <;> omega)) _ | refine Below.alloc ?_ (by first | omega | (simp <;> omega)) _ | refine Below.drew ?_ | refine below_drewN ?_ _ | exact B1)) hb2
  clear hb2
  go_wp2_with fail
  refine (HC _ (Ga.out.below (by have hszw := (B2).size; repeat (with_reducible first | refine Below.setCell ?_ (by first | omega | (simp <;> omega)) _ | refine Below.alloc ?_ (by first | omega | (simp <;> omega)) _ | refine Below.drew ?_ | refine below_drewN ?_ _ | exact B2))) (Gb.out.below (by have hszw := (B2).size; repeat (with_reducible first | refine Below.setCell ?_ (by first | omega | (simp <;> omega)) _ | refine Below.alloc ?_ (by first | omega | (simp <;> omega)) _ | refine Below.drew ?_ | refine below_drewN ?_ _ | exact B2))) (hT.below (by have hszw := (B2).size; repeat (with_reducible first | refine Below.setCell ?_ (by first | omega | (simp <;> omega)) _ | refine Below.alloc ?_ (by first | omega | (simp <;> omega)) _ | refine Below.drew ?_ | refine below_drewN ?_ _ | exact B2)))).out.mono ?_
  rintro e w3 ⟨rfl, hb3⟩
  have Va3 : DyV w3 b0 bda sa (.slice aa na pa) ea := (by refine DyV.below ?_ hb3; (repeat (with_reducible first | refine DyV.drew ?_ | refine DyV.drewN ?_ _ | refine DyV.alloc ?_ _)); exact Va2.out)
  (try clear ac0 ac1 ac2 ac3 ac4)
  obtain ⟨ac0, ac1, ac2, ac3, ac4, ac5⟩ := Va3
  have Va3 := Lib.hid (DyV.mk ac0 ac1 ac2 ac3 ac4 ac5)
  have Vb3 : DyV w3 b1 bdb sb (.slice ab nb pb) eb := (by refine DyV.below ?_ hb3; (repeat (with_reducible first | refine DyV.drew ?_ | refine DyV.drewN ?_ _ | refine DyV.alloc ?_ _)); exact Vb2.out)
  (try clear bc0 bc1 bc2 bc3 bc4)
  obtain ⟨bc0, bc1, bc2, bc3, bc4, bc5⟩ := Vb3
  have Vb3 := Lib.hid (DyV.mk bc0 bc1 bc2 bc3 bc4 bc5)
  have B3 := below_box (w := w) (by have hszw := (B2).size; repeat (with_reducible first | refine Below.setCell ?_ (by first | omega | (simp <;> omega)) _ | refine Below.alloc ?_ (by first | omega | (simp <;> omega)) _ | refine Below.drew ?_ | refine below_drewN ?_ _ | exact B2)) hb3
  clear hb3
  go_wp2_with fail
  refine (HF _).out.mono ?_
  rintro e w4 ⟨rfl, hb4⟩
  have Va4 : DyV w4 b0 bda sa (.slice aa na pa) ea := (by refine DyV.below ?_ hb4; (repeat (with_reducible first | refine DyV.drew ?_ | refine DyV.drewN ?_ _ | refine DyV.alloc ?_ _)); exact Va3.out)
  (try clear ac0 ac1 ac2 ac3 ac4)
  obtain ⟨ac0, ac1, ac2, ac3, ac4, ac5⟩ := Va4
  have Va4 := Lib.hid (DyV.mk ac0 ac1 ac2 ac3 ac4 ac5)
  have Vb4 : DyV w4 b1 bdb sb (.slice ab nb pb) eb := (by refine DyV.below ?_ hb4; (repeat (with_reducible first | refine DyV.drew ?_ | refine DyV.drewN ?_ _ | refine DyV.alloc ?_ _)); exact Vb3.out)
  (try clear bc0 bc1 bc2 bc3 bc4)
  obtain ⟨bc0, bc1, bc2, bc3, bc4, bc5⟩ := Vb4
  have Vb4 := Lib.hid (DyV.mk bc0 bc1 bc2 bc3 bc4 bc5)
  have B4 := below_box (w := w) (by have hszw := (B3).size; repeat (with_reducible first | refine Below.setCell ?_ (by first | omega | (simp <;> omega)) _ | refine Below.alloc ?_ (by first | omega | (simp <;> omega)) _ | refine Below.drew ?_ | refine below_drewN ?_ _ | exact B3)) hb4
  clear hb4
  go_wp2_with fail
  refine (HW _ (hT.below (by have hszw := (B4).size; repeat (with_reducible first | refine Below.setCell ?_ (by first | omega | (simp <;> omega)) _ | refine Below.alloc ?_ (by first | omega | (simp <;> omega)) _ | refine Below.drew ?_ | refine below_drewN ?_ _ | exact B4)))).out.mono ?_
  rintro e w5 ⟨rfl, hb5⟩
  have Va5 : DyV w5 b0 bda sa (.slice aa na pa) ea := (by refine DyV.below ?_ hb5; (repeat (with_reducible first | refine DyV.drew ?_ | refine DyV.drewN ?_ _ | refine DyV.alloc ?_ _)); exact Va4.out)
  (try clear ac0 ac1 ac2 ac3 ac4)
  obtain ⟨ac0, ac1, ac2, ac3, ac4, ac5⟩ := Va5
  have Va5 := Lib.hid (DyV.mk ac0 ac1 ac2 ac3 ac4 ac5)
  have Vb5 : DyV w5 b1 bdb sb (.slice ab nb pb) eb := (by refine DyV.below ?_ hb5; (repeat (with_reducible first | refine DyV.drew ?_ | refine DyV.drewN ?_ _ | refine DyV.alloc ?_ _)); exact Vb4.out)
  (try clear bc0 bc1 bc2 bc3 bc4)
  obtain ⟨bc0, bc1, bc2, bc3, bc4, bc5⟩ := Vb5
  have Vb5 := Lib.hid (DyV.mk bc0 bc1 bc2 bc3 bc4 bc5)
  have B5 := below_box (w := w) (by have hszw := (B4).size; repeat (with_reducible first | refine Below.setCell ?_ (by first | omega | (simp <;> omega)) _ | refine Below.alloc ?_ (by first | omega | (simp <;> omega)) _ | refine Below.drew ?_ | refine below_drewN ?_ _ | exact B4)) hb5
  clear hb5
  go_wp2_with fail
  go_ret
  exact ⟨rfl, (by have hszw := (B5).size; repeat (with_reducible first | refine Below.setCell ?_ (by first | omega | (simp <;> omega)) _ | refine Below.alloc ?_ (by first | omega | (simp <;> omega)) _ | refine Below.drew ?_ | refine below_drewN ?_ _ | exact B5))⟩

set_option maxRecDepth 100000 in
set_option maxHeartbeats 20000000 in
theorem mono_F2_Ta (w : World) (hT : Tab w) (bda sa : Bool) (aa : Option Addr) (na pa : Nat) (ea : Int) (da : Option (Int × Int)) (Ha : DyIs w bda sa aa na pa ea da) (bdb sb : Bool) (ab : Option Addr) (nb pb : Nat) (eb : Int) (db : Option (Int × Int)) (Hb : DyIs w bdb sb ab nb pb eb db) (f g h : Nat) (hf : f < 18446744073709551616) (hg : g < 18446744073709551616) (_hh : h < 18446744073709551616) (mode : Int) (ma : na ≤ 9223372036854775807) (mb : nb ≤ 9223372036854775807) (hsa : slim3B na ea = true) (hsb : slim3B nb eb = true) (ok : (!dbad da && !dbad db) = true) (cc : ¬ dcmp da db ≤ 0) (fk : fcmpok f g = true) (fc : fcmpv f g ≤ 0) (k1 : fcmpok (fadd f h mode) (fadd g h mode) = false) :
    Calls Tryd.prog 5 #[.agg #[.bool bda, .bool sa, .slice aa na pa, .int .i64 ea], .agg #[.bool bdb, .bool sb, .slice ab nb pb, .int .i64 eb], .int .u64 f, .int .u64 g, .int .u64 h, .int .i64 mode] w fun o w' => o = .returned (.bool true) ∧ Below w.heap.size w w' := by
  have HSla := fun W => Lib.hid (slimDyad3_any W bda sa aa na pa ea ma true hsa)
  have HSlb := fun W => Lib.hid (slimDyad3_any W bdb sb ab nb pb eb mb true hsb)
  have HW := fun W ht => Lib.hid (awakeF_any W ht)
  have Ga := Lib.hid Ha
  have Gb := Lib.hid Hb
  have HC := fun W (h : DyIs W bda sa aa na pa ea da) (h' : DyIs W bdb sb ab nb pb eb db) ht => Lib.hid (dcmp_any W bda sa bdb sb aa ab na nb pa pb ea eb da db h.1 h'.1 ht)
  rw [ok] at HC
  have c1 : decide (dcmp da db ≤ 0) = false := by simpa using cc
  generalize dcmp da db = v0 at *
  have HF := fun W => Lib.hid (fcmp_any W f g hf hg)
  rw [fk] at HF
  have d1 : decide (fcmpv f g ≤ 0) = true := by simpa using fc
  have HA1 := fun W ht => Lib.hid (wadd_any W f h hf _hh mode ht)
  have HA2 := fun W ht => Lib.hid (wadd_any W g h hg _hh mode ht)
  have HA3 := fun W => Lib.hid (fcmp_any W (fadd f h mode) (fadd g h mode) (fadd_lt hf _hh mode) (fadd_lt hg _hh mode))
  rw [k1] at HA3
  generalize fcmpv (fadd f h mode) (fadd g h mode) = v2 at *
  generalize ((fadd f h mode : Nat) : Int) = i3 at *
  generalize ((fadd g h mode : Nat) : Int) = i4 at *
  generalize fcmpv f g = v3 at *
  clear ok cc fk fc k1 Ha Hb hsa hsb hf hg _hh
  generalize (f : Int) = jf at *
  generalize (g : Int) = jg at *
  generalize (h : Int) = jh at *
  go_enter Tryd.func5, Tryd.ntmps5
  go_wp2_with fail
  have I0 := (DyV.made w 28 bda sa (.slice aa na pa) ea).alloc (.cells #[.bool bdb, .bool sb, .slice ab nb pb, .int .i64 eb] 28)
  have I1 := DyV.made' (w.alloc (.cells #[.bool bda, .bool sa, .slice aa na pa, .int .i64 ea] 28)) 28 bdb sb (.slice ab nb pb) eb (n := w.heap.size + 1) (by rw [World.size_alloc])
  have B0 : Below w.heap.size w ((w.alloc (.cells #[.bool bda, .bool sa, .slice aa na pa, .int .i64 ea] 28)).alloc (.cells #[.bool bdb, .bool sb, .slice ab nb pb, .int .i64 eb] 28)) := (by repeat (with_reducible first | refine Below.setCell ?_ (by simp <;> omega) _ | refine Below.alloc ?_ (by simp <;> omega) _ | refine Below.drew ?_ | refine below_drewN ?_ _ | exact Below.refl _ _))
  generalize ((w.alloc (.cells #[.bool bda, .bool sa, .slice aa na pa, .int .i64 ea] 28)).alloc (.cells #[.bool bdb, .bool sb, .slice ab nb pb, .int .i64 eb] 28)) = w0 at I0 I1 B0 ⊢
  have ne01 : ¬ w.heap.size = w.heap.size + 1 := by omega
  have ne10 : ¬ w.heap.size + 1 = w.heap.size := by omega
  generalize hb1 : w.heap.size + 1 = b1 at I1 ne01 ne10 ⊢
  generalize hb0 : w.heap.size = b0 at I0 ne01 ne10 ⊢
  obtain ⟨ac0, ac1, ac2, ac3, ac4, ac5⟩ := I0
  have Va0 := Lib.hid (DyV.mk ac0 ac1 ac2 ac3 ac4 ac5)
  obtain ⟨bc0, bc1, bc2, bc3, bc4, bc5⟩ := I1
  have Vb0 := Lib.hid (DyV.mk bc0 bc1 bc2 bc3 bc4 bc5)
  refine (HSla _).out.mono ?_
  rintro e w1 ⟨rfl, hb1⟩
  have Va1 : DyV w1 b0 bda sa (.slice aa na pa) ea := (by refine DyV.below ?_ hb1; (repeat (with_reducible first | refine DyV.drew ?_ | refine DyV.drewN ?_ _ | refine DyV.alloc ?_ _)); exact Va0.out)
  (try clear ac0 ac1 ac2 ac3 ac4)
  obtain ⟨ac0, ac1, ac2, ac3, ac4, ac5⟩ := Va1
  have Va1 := Lib.hid (DyV.mk ac0 ac1 ac2 ac3 ac4 ac5)
  have Vb1 : DyV w1 b1 bdb sb (.slice ab nb pb) eb := (by refine DyV.below ?_ hb1; (repeat (with_reducible first | refine DyV.drew ?_ | refine DyV.drewN ?_ _ | refine DyV.alloc ?_ _)); exact Vb0.out)
  (try clear bc0 bc1 bc2 bc3 bc4)
  obtain ⟨bc0, bc1, bc2, bc3, bc4, bc5⟩ := Vb1
  have Vb1 := Lib.hid (DyV.mk bc0 bc1 bc2 bc3 bc4 bc5)
  have B1 := below_box (w := w) (by have hszw := (B0).size; repeat (with_reducible first | refine Below.setCell ?_ (by first | omega | (simp <;> omega)) _ | refine Below.alloc ?_ (by first | omega | (simp <;> omega)) _ | refine Below.drew ?_ | refine below_drewN ?_ _ | exact B0)) hb1
  clear hb1
  go_wp2_with fail
  refine (HSlb _).out.mono ?_
  rintro e w2 ⟨rfl, hb2⟩
  have Va2 : DyV w2 b0 bda sa (.slice aa na pa) ea := (by refine DyV.below ?_ hb2; (repeat (with_reducible first | refine DyV.drew ?_ | refine DyV.drewN ?_ _ | refine DyV.alloc ?_ _)); exact Va1.out)
  (try clear ac0 ac1 ac2 ac3 ac4)
  obtain ⟨ac0, ac1, ac2, ac3, ac4, ac5⟩ := Va2
  have Va2 := Lib.hid (DyV.mk ac0 ac1 ac2 ac3 ac4 ac5)
  have Vb2 : DyV w2 b1 bdb sb (.slice ab nb pb) eb := (by refine DyV.below ?_ hb2; (repeat (with_reducible first | refine DyV.drew ?_ | refine DyV.drewN ?_ _ | refine DyV.alloc ?_ _)); exact Vb1.out)
  (try clear bc0 bc1 bc2 bc3 bc4)
  obtain ⟨bc0, bc1, bc2, bc3, bc4, bc5⟩ := Vb2
  have Vb2 := Lib.hid (DyV.mk bc0 bc1 bc2 bc3 bc4 bc5)
  have B2 := below_box (w := w) (by have hszw := (B1).size; repeat (with_reducible first | refine Below.setCell ?_ (by first | omega | (simp <;> omega)) _ | refine Below.alloc ?_ (by first | omega | (simp <;> omega)) _ | refine Below.drew ?_ | refine below_drewN ?_ _ | exact B1)) hb2
  clear hb2
  go_wp2_with fail
  refine (HC _ (Ga.out.below (by have hszw := (B2).size; repeat (with_reducible first | refine Below.setCell ?_ (by first | omega | (simp <;> omega)) _ | refine Below.alloc ?_ (by first | omega | (simp <;> omega)) _ | refine Below.drew ?_ | refine below_drewN ?_ _ | exact B2))) (Gb.out.below (by have hszw := (B2).size; repeat (with_reducible first | refine Below.setCell ?_ (by first | omega | (simp <;> omega)) _ | refine Below.alloc ?_ (by first | omega | (simp <;> omega)) _ | refine Below.drew ?_ | refine below_drewN ?_ _ | exact B2))) (hT.below (by have hszw := (B2).size; repeat (with_reducible first | refine Below.setCell ?_ (by first | omega | (simp <;> omega)) _ | refine Below.alloc ?_ (by first | omega | (simp <;> omega)) _ | refine Below.drew ?_ | refine below_drewN ?_ _ | exact B2)))).out.mono ?_
  rintro e w3 ⟨rfl, hb3⟩
  have Va3 : DyV w3 b0 bda sa (.slice aa na pa) ea := (by refine DyV.below ?_ hb3; (repeat (with_reducible first | refine DyV.drew ?_ | refine DyV.drewN ?_ _ | refine DyV.alloc ?_ _)); exact Va2.out)
  (try clear ac0 ac1 ac2 ac3 ac4)
  obtain ⟨ac0, ac1, ac2, ac3, ac4, ac5⟩ := Va3
  have Va3 := Lib.hid (DyV.mk ac0 ac1 ac2 ac3 ac4 ac5)
  have Vb3 : DyV w3 b1 bdb sb (.slice ab nb pb) eb := (by refine DyV.below ?_ hb3; (repeat (with_reducible first | refine DyV.drew ?_ | refine DyV.drewN ?_ _ | refine DyV.alloc ?_ _)); exact Vb2.out)
  (try clear bc0 bc1 bc2 bc3 bc4)
  obtain ⟨bc0, bc1, bc2, bc3, bc4, bc5⟩ := Vb3
  have Vb3 := Lib.hid (DyV.mk bc0 bc1 bc2 bc3 bc4 bc5)
  have B3 := below_box (w := w) (by have hszw := (B2).size; repeat (with_reducible first | refine Below.setCell ?_ (by first | omega | (simp <;> omega)) _ | refine Below.alloc ?_ (by first | omega | (simp <;> omega)) _ | refine Below.drew ?_ | refine below_drewN ?_ _ | exact B2)) hb3
  clear hb3
  go_wp2_with fail
  refine (HF _).out.mono ?_
  rintro e w4 ⟨rfl, hb4⟩
  have Va4 : DyV w4 b0 bda sa (.slice aa na pa) ea := (by refine DyV.below ?_ hb4; (repeat (with_reducible first | refine DyV.drew ?_ | refine DyV.drewN ?_ _ | refine DyV.alloc ?_ _)); exact Va3.out)
  (try clear ac0 ac1 ac2 ac3 ac4)
  obtain ⟨ac0, ac1, ac2, ac3, ac4, ac5⟩ := Va4
  have Va4 := Lib.hid (DyV.mk ac0 ac1 ac2 ac3 ac4 ac5)
  have Vb4 : DyV w4 b1 bdb sb (.slice ab nb pb) eb := (by refine DyV.below ?_ hb4; (repeat (with_reducible first | refine DyV.drew ?_ | refine DyV.drewN ?_ _ | refine DyV.alloc ?_ _)); exact Vb3.out)
  (try clear bc0 bc1 bc2 bc3 bc4)
  obtain ⟨bc0, bc1, bc2, bc3, bc4, bc5⟩ := Vb4
  have Vb4 := Lib.hid (DyV.mk bc0 bc1 bc2 bc3 bc4 bc5)
  have B4 := below_box (w := w) (by have hszw := (B3).size; repeat (with_reducible first | refine Below.setCell ?_ (by first | omega | (simp <;> omega)) _ | refine Below.alloc ?_ (by first | omega | (simp <;> omega)) _ | refine Below.drew ?_ | refine below_drewN ?_ _ | exact B3)) hb4
  clear hb4
  go_wp2_with fail
  refine (HA1 _ (hT.below (by have hszw := (B4).size; repeat (with_reducible first | refine Below.setCell ?_ (by first | omega | (simp <;> omega)) _ | refine Below.alloc ?_ (by first | omega | (simp <;> omega)) _ | refine Below.drew ?_ | refine below_drewN ?_ _ | exact B4)))).out.mono ?_
  rintro e w5 ⟨rfl, hb5⟩
  have Va5 : DyV w5 b0 bda sa (.slice aa na pa) ea := (by refine DyV.below ?_ hb5; (repeat (with_reducible first | refine DyV.drew ?_ | refine DyV.drewN ?_ _ | refine DyV.alloc ?_ _)); exact Va4.out)
  (try clear ac0 ac1 ac2 ac3 ac4)
  obtain ⟨ac0, ac1, ac2, ac3, ac4, ac5⟩ := Va5
  have Va5 := Lib.hid (DyV.mk ac0 ac1 ac2 ac3 ac4 ac5)
  have Vb5 : DyV w5 b1 bdb sb (.slice ab nb pb) eb := (by refine DyV.below ?_ hb5; (repeat (with_reducible first | refine DyV.drew ?_ | refine DyV.drewN ?_ _ | refine DyV.alloc ?_ _)); exact Vb4.out)
  (try clear bc0 bc1 bc2 bc3 bc4)
  obtain ⟨bc0, bc1, bc2, bc3, bc4, bc5⟩ := Vb5
  have Vb5 := Lib.hid (DyV.mk bc0 bc1 bc2 bc3 bc4 bc5)
  have B5 := below_box (w := w) (by have hszw := (B4).size; repeat (with_reducible first | refine Below.setCell ?_ (by first | omega | (simp <;> omega)) _ | refine Below.alloc ?_ (by first | omega | (simp <;> omega)) _ | refine Below.drew ?_ | refine below_drewN ?_ _ | exact B4)) hb5
  clear hb5
  go_wp2_with fail
  refine (HA2 _ (hT.below (by have hszw := (B5).size; repeat (with_reducible first | refine Below.setCell ?_ (by first | omega | (simp <;> omega)) _ | refine Below.alloc ?_ (by first | omega | (simp <;> omega)) _ | refine Below.drew ?_ | refine below_drewN ?_ _ | exact B5)))).out.mono ?_
  rintro e w6 ⟨rfl, hb6⟩
  have Va6 : DyV w6 b0 bda sa (.slice aa na pa) ea := (by refine DyV.below ?_ hb6; (repeat (with_reducible first | refine DyV.drew ?_ | refine DyV.drewN ?_ _ | refine DyV.alloc ?_ _)); exact Va5.out)
  (try clear ac0 ac1 ac2 ac3 ac4)
  obtain ⟨ac0, ac1, ac2, ac3, ac4, ac5⟩ := Va6
  have Va6 := Lib.hid (DyV.mk ac0 ac1 ac2 ac3 ac4 ac5)
  have Vb6 : DyV w6 b1 bdb sb (.slice ab nb pb) eb := (by refine DyV.below ?_ hb6; (repeat (with_reducible first | refine DyV.drew ?_ | refine DyV.drewN ?_ _ | refine DyV.alloc ?_ _)); exact Vb5.out)
  (try clear bc0 bc1 bc2 bc3 bc4)
  obtain ⟨bc0, bc1, bc2, bc3, bc4, bc5⟩ := Vb6
  have Vb6 := Lib.hid (DyV.mk bc0 bc1 bc2 bc3 bc4 bc5)
  have B6 := below_box (w := w) (by have hszw := (B5).size; repeat (with_reducible first | refine Below.setCell ?_ (by first | omega | (simp <;> omega)) _ | refine Below.alloc ?_ (by first | omega | (simp <;> omega)) _ | refine Below.drew ?_ | refine below_drewN ?_ _ | exact B5)) hb6
  clear hb6
  go_wp2_with fail
  refine (HA3 _).out.mono ?_
  rintro e w7 ⟨rfl, hb7⟩
  have Va7 : DyV w7 b0 bda sa (.slice aa na pa) ea := (by refine DyV.below ?_ hb7; (repeat (with_reducible first | refine DyV.drew ?_ | refine DyV.drewN ?_ _ | refine DyV.alloc ?_ _)); exact Va6.out)
  (try clear ac0 ac1 ac2 ac3 ac4)
  obtain ⟨ac0, ac1, ac2, ac3, ac4, ac5⟩ := Va7
  have Va7 := Lib.hid (DyV.mk ac0 ac1 ac2 ac3 ac4 ac5)
  have Vb7 : DyV w7 b1 bdb sb (.slice ab nb pb) eb := (by refine DyV.below ?_ hb7; (repeat (with_reducible first | refine DyV.drew ?_ | refine DyV.drewN ?_ _ | refine DyV.alloc ?_ _)); exact Vb6.out)
  (try clear bc0 bc1 bc2 bc3 bc4)
  obtain ⟨bc0, bc1, bc2, bc3, bc4, bc5⟩ := Vb7
  have Vb7 := Lib.hid (DyV.mk bc0 bc1 bc2 bc3 bc4 bc5)
  have B7 := below_box (w := w) (by have hszw := (B6).size; repeat (with_reducible first | refine Below.setCell ?_ (by first | omega | (simp <;> omega)) _ | refine Below.alloc ?_ (by first | omega | (simp <;> omega)) _ | refine Below.drew ?_ | refine below_drewN ?_ _ | exact B6)) hb7
  clear hb7
  go_wp2_with fail
  refine (HW _ (hT.below (by have hszw := (B7).size; repeat (with_reducible first | refine Below.setCell ?_ (by first | omega | (simp <;> omega)) _ | refine Below.alloc ?_ (by first | omega | (simp <;> omega)) _ | refine Below.drew ?_ | refine below_drewN ?_ _ | exact B7)))).out.mono ?_
  rintro e w8 ⟨rfl, hb8⟩
  have Va8 : DyV w8 b0 bda sa (.slice aa na pa) ea := (by refine DyV.below ?_ hb8; (repeat (with_reducible first | refine DyV.drew ?_ | refine DyV.drewN ?_ _ | refine DyV.alloc ?_ _)); exact Va7.out)
  (try clear ac0 ac1 ac2 ac3 ac4)
  obtain ⟨ac0, ac1, ac2, ac3, ac4, ac5⟩ := Va8
  have Va8 := Lib.hid (DyV.mk ac0 ac1 ac2 ac3 ac4 ac5)
  have Vb8 : DyV w8 b1 bdb sb (.slice ab nb pb) eb := (by refine DyV.below ?_ hb8; (repeat (with_reducible first | refine DyV.drew ?_ | refine DyV.drewN ?_ _ | refine DyV.alloc ?_ _)); exact Vb7.out)
  (try clear bc0 bc1 bc2 bc3 bc4)
  obtain ⟨bc0, bc1, bc2, bc3, bc4, bc5⟩ := Vb8
  have Vb8 := Lib.hid (DyV.mk bc0 bc1 bc2 bc3 bc4 bc5)
  have B8 := below_box (w := w) (by have hszw := (B7).size; repeat (with_reducible first | refine Below.setCell ?_ (by first | omega | (simp <;> omega)) _ | refine Below.alloc ?_ (by first | omega | (simp <;> omega)) _ | refine Below.drew ?_ | refine below_drewN ?_ _ | exact B7)) hb8
  clear hb8
  go_wp2_with fail
  go_ret
  exact ⟨rfl, (by have hszw := (B8).size; repeat (with_reducible first | refine Below.setCell ?_ (by first | omega | (simp <;> omega)) _ | refine Below.alloc ?_ (by first | omega | (simp <;> omega)) _ | refine Below.drew ?_ | refine below_drewN ?_ _ | exact B8))⟩

set_option maxRecDepth 100000 in
set_option maxHeartbeats 20000000 in
theorem mono_F2_Tb (w : World) (hT : Tab w) (bda sa : Bool) (aa : Option Addr) (na pa : Nat) (ea : Int) (da : Option (Int × Int)) (Ha : DyIs w bda sa aa na pa ea da) (bdb sb : Bool) (ab : Option Addr) (nb pb : Nat) (eb : Int) (db : Option (Int × Int)) (Hb : DyIs w bdb sb ab nb pb eb db) (f g h : Nat) (hf : f < 18446744073709551616) (hg : g < 18446744073709551616) (_hh : h < 18446744073709551616) (mode : Int) (ma : na ≤ 9223372036854775807) (mb : nb ≤ 9223372036854775807) (hsa : slim3B na ea = true) (hsb : slim3B nb eb = true) (ok : (!dbad da && !dbad db) = true) (cc : ¬ dcmp da db ≤ 0) (fk : fcmpok f g = true) (fc : fcmpv f g ≤ 0) (k1 : fcmpok (fadd f h mode) (fadd g h mode) = true) (k2 : fcmpv (fadd f h mode) (fadd g h mode) ≤ 0) :
    Calls Tryd.prog 5 #[.agg #[.bool bda, .bool sa, .slice aa na pa, .int .i64 ea], .agg #[.bool bdb, .bool sb, .slice ab nb pb, .int .i64 eb], .int .u64 f, .int .u64 g, .int .u64 h, .int .i64 mode] w fun o w' => o = .returned (.bool true) ∧ Below w.heap.size w w' := by
  have HSla := fun W => Lib.hid (slimDyad3_any W bda sa aa na pa ea ma true hsa)
  have HSlb := fun W => Lib.hid (slimDyad3_any W bdb sb ab nb pb eb mb true hsb)
  have HW := fun W ht => Lib.hid (awakeF_any W ht)
  have Ga := Lib.hid Ha
  have Gb := Lib.hid Hb
  have HC := fun W (h : DyIs W bda sa aa na pa ea da) (h' : DyIs W bdb sb ab nb pb eb db) ht => Lib.hid (dcmp_any W bda sa bdb sb aa ab na nb pa pb ea eb da db h.1 h'.1 ht)
  rw [ok] at HC
  have c1 : decide (dcmp da db ≤ 0) = false := by simpa using cc
  generalize dcmp da db = v0 at *
  have HF := fun W => Lib.hid (fcmp_any W f g hf hg)
  rw [fk] at HF
  have d1 : decide (fcmpv f g ≤ 0) = true := by simpa using fc
  have HA1 := fun W ht => Lib.hid (wadd_any W f h hf _hh mode ht)
  have HA2 := fun W ht => Lib.hid (wadd_any W g h hg _hh mode ht)
  have HA3 := fun W => Lib.hid (fcmp_any W (fadd f h mode) (fadd g h mode) (fadd_lt hf _hh mode) (fadd_lt hg _hh mode))
  rw [k1] at HA3
  have d2 : decide (0 < fcmpv (fadd f h mode) (fadd g h mode)) = false := by simp; omega
  generalize fcmpv (fadd f h mode) (fadd g h mode) = v2 at *
  generalize ((fadd f h mode : Nat) : Int) = i3 at *
  generalize ((fadd g h mode : Nat) : Int) = i4 at *
  generalize fcmpv f g = v3 at *
  clear ok cc fk fc k1 k2 Ha Hb hsa hsb hf hg _hh
  generalize (f : Int) = jf at *
  generalize (g : Int) = jg at *
  generalize (h : Int) = jh at *
  go_enter Tryd.func5, Tryd.ntmps5
  go_wp2_with fail
  have I0 := (DyV.made w 28 bda sa (.slice aa na pa) ea).alloc (.cells #[.bool bdb, .bool sb, .slice ab nb pb, .int .i64 eb] 28)
  have I1 := DyV.made' (w.alloc (.cells #[.bool bda, .bool sa, .slice aa na pa, .int .i64 ea] 28)) 28 bdb sb (.slice ab nb pb) eb (n := w.heap.size + 1) (by rw [World.size_alloc])
  have B0 : Below w.heap.size w ((w.alloc (.cells #[.bool bda, .bool sa, .slice aa na pa, .int .i64 ea] 28)).alloc (.cells #[.bool bdb, .bool sb, .slice ab nb pb, .int .i64 eb] 28)) := (by repeat (with_reducible first | refine Below.setCell ?_ (by simp <;> omega) _ | refine Below.alloc ?_ (by simp <;> omega) _ | refine Below.drew ?_ | refine below_drewN ?_ _ | exact Below.refl _ _))
  generalize ((w.alloc (.cells #[.bool bda, .bool sa, .slice aa na pa, .int .i64 ea] 28)).alloc (.cells #[.bool bdb, .bool sb, .slice ab nb pb, .int .i64 eb] 28)) = w0 at I0 I1 B0 ⊢
  have ne01 : ¬ w.heap.size = w.heap.size + 1 := by omega
  have ne10 : ¬ w.heap.size + 1 = w.heap.size := by omega
  generalize hb1 : w.heap.size + 1 = b1 at I1 ne01 ne10 ⊢
  generalize hb0 : w.heap.size = b0 at I0 ne01 ne10 ⊢
  obtain ⟨ac0, ac1, ac2, ac3, ac4, ac5⟩ := I0
  have Va0 := Lib.hid (DyV.mk ac0 ac1 ac2 ac3 ac4 ac5)
  obtain ⟨bc0, bc1, bc2, bc3, bc4, bc5⟩ := I1
  have Vb0 := Lib.hid (DyV.mk bc0 bc1 bc2 bc3 bc4 bc5)
  refine (HSla _).out.mono ?_
  rintro e w1 ⟨rfl, hb1⟩
  have Va1 : DyV w1 b0 bda sa (.slice aa na pa) ea := (by refine DyV.below ?_ hb1; (repeat (with_reducible first | refine DyV.drew ?_ | refine DyV.drewN ?_ _ | refine DyV.alloc ?_ _)); exact Va0.out)
  (try clear ac0 ac1 ac2 ac3 ac4)
  obtain ⟨ac0, ac1, ac2, ac3, ac4, ac5⟩ := Va1
  have Va1 := Lib.hid (DyV.mk ac0 ac1 ac2 ac3 ac4 ac5)
  have Vb1 : DyV w1 b1 bdb sb (.slice ab nb pb) eb := (by refine DyV.below ?_ hb1; (repeat (with_reducible first | refine DyV.drew ?_ | refine DyV.drewN ?_ _ | refine DyV.alloc ?_ _)); exact Vb0.out)
  (try clear bc0 bc1 bc2 bc3 bc4)
  obtain ⟨bc0, bc1, bc2, bc3, bc4, bc5⟩ := Vb1
  have Vb1 := Lib.hid (DyV.mk bc0 bc1 bc2 bc3 bc4 bc5)
  have B1 := below_box (w := w) (by have hszw := (B0).size; repeat (with_reducible first | refine Below.setCell ?_ (by first | omega | (simp <;> omega)) _ | refine Below.alloc ?_ (by first | omega | (simp <;> omega)) _ | refine Below.drew ?_ | refine below_drewN ?_ _ | exact B0)) hb1
  clear hb1
  go_wp2_with fail
  refine (HSlb _).out.mono ?_
  rintro e w2 ⟨rfl, hb2⟩
  have Va2 : DyV w2 b0 bda sa (.slice aa na pa) ea := (by refine DyV.below ?_ hb2; (repeat (with_reducible first | refine DyV.drew ?_ | refine DyV.drewN ?_ _ | refine DyV.alloc ?_ _)); exact Va1.out)
  (try clear ac0 ac1 ac2 ac3 ac4)
  obtain ⟨ac0, ac1, ac2, ac3, ac4, ac5⟩ := Va2
  have Va2 := Lib.hid (DyV.mk ac0 ac1 ac2 ac3 ac4 ac5)
  have Vb2 : DyV w2 b1 bdb sb (.slice ab nb pb) eb := (by refine DyV.below ?_ hb2; (repeat (with_reducible first | refine DyV.drew ?_ | refine DyV.drewN ?_ _ | refine DyV.alloc ?_ _)); exact Vb1.out)
  (try clear bc0 bc1 bc2 bc3 bc4)
  obtain ⟨bc0, bc1, bc2, bc3, bc4, bc5⟩ := Vb2
  have Vb2 := Lib.hid (DyV.mk bc0 bc1 bc2 bc3 bc4 bc5)
  have B2 := below_box (w := w) (by have hszw := (B1).size; repeat (with_reducible first | refine Below.setCell ?_ (by first | omega | (simp <;> omega)) _ | refine Below.alloc ?_ (by first | omega | (simp <;> omega)) _ | refine Below.drew ?_ | refine below_drewN ?_ _ | exact B1)) hb2
  clear hb2
  go_wp2_with fail
  refine (HC _ (Ga.out.below (by have hszw := (B2).size; repeat (with_reducible first | refine Below.setCell ?_ (by first | omega | (simp <;> omega)) _ | refine Below.alloc ?_ (by first | omega | (simp <;> omega)) _ | refine Below.drew ?_ | refine below_drewN ?_ _ | exact B2))) (Gb.out.below (by have hszw := (B2).size; repeat (with_reducible first | refine Below.setCell ?_ (by first | omega | (simp <;> omega)) _ | refine Below.alloc ?_ (by first | omega | (simp <;> omega)) _ | refine Below.drew ?_ | refine below_drewN ?_ _ | exact B2))) (hT.below (by have hszw := (B2).size; repeat (with_reducible first | refine Below.setCell ?_ (by first | omega | (simp <;> omega)) _ | refine Below.alloc ?_ (by first | omega | (simp <;> omega)) _ | refine Below.drew ?_ | refine below_drewN ?_ _ | exact B2)))).out.mono ?_
  rintro e w3 ⟨rfl, hb3⟩
  have Va3 : DyV w3 b0 bda sa (.slice aa na pa) ea := (by refine DyV.below ?_ hb3; (repeat (with_reducible first | refine DyV.drew ?_ | refine DyV.drewN ?_ _ | refine DyV.alloc ?_ _)); exact Va2.out)
  (try clear ac0 ac1 ac2 ac3 ac4)
  obtain ⟨ac0, ac1, ac2, ac3, ac4, ac5⟩ := Va3
  have Va3 := Lib.hid (DyV.mk ac0 ac1 ac2 ac3 ac4 ac5)
  have Vb3 : DyV w3 b1 bdb sb (.slice ab nb pb) eb := (by refine DyV.below ?_ hb3; (repeat (with_reducible first | refine DyV.drew ?_ | refine DyV.drewN ?_ _ | refine DyV.alloc ?_ _)); exact Vb2.out)
  (try clear bc0 bc1 bc2 bc3 bc4)
  obtain ⟨bc0, bc1, bc2, bc3, bc4, bc5⟩ := Vb3
  have Vb3 := Lib.hid (DyV.mk bc0 bc1 bc2 bc3 bc4 bc5)
  have B3 := below_box (w := w) (by have hszw := (B2).size; repeat (with_reducible first | refine Below.setCell ?_ (by first | omega | (simp <;> omega)) _ | refine Below.alloc ?_ (by first | omega | (simp <;> omega)) _ | refine Below.drew ?_ | refine below_drewN ?_ _ | exact B2)) hb3
  clear hb3
  go_wp2_with fail
  refine (HF _).out.mono ?_
  rintro e w4 ⟨rfl, hb4⟩
  have Va4 : DyV w4 b0 bda sa (.slice aa na pa) ea := (by refine DyV.below ?_ hb4; (repeat (with_reducible first | refine DyV.drew ?_ | refine DyV.drewN ?_ _ | refine DyV.alloc ?_ _)); exact Va3.out)
  (try clear ac0 ac1 ac2 ac3 ac4)
  obtain ⟨ac0, ac1, ac2, ac3, ac4, ac5⟩ := Va4
  have Va4 := Lib.hid (DyV.mk ac0 ac1 ac2 ac3 ac4 ac5)
  have Vb4 : DyV w4 b1 bdb sb (.slice ab nb pb) eb := (by refine DyV.below ?_ hb4; (repeat (with_reducible first | refine DyV.drew ?_ | refine DyV.drewN ?_ _ | refine DyV.alloc ?_ _)); exact Vb3.out)
  (try clear bc0 bc1 bc2 bc3 bc4)
  obtain ⟨bc0, bc1, bc2, bc3, bc4, bc5⟩ := Vb4
  have Vb4 := Lib.hid (DyV.mk bc0 bc1 bc2 bc3 bc4 bc5)
  have B4 := below_box (w := w) (by have hszw := (B3).size; repeat (with_reducible first | refine Below.setCell ?_ (by first | omega | (simp <;> omega)) _ | refine Below.alloc ?_ (by first | omega | (simp <;> omega)) _ | refine Below.drew ?_ | refine below_drewN ?_ _ | exact B3)) hb4
  clear hb4
  go_wp2_with fail
  refine (HA1 _ (hT.below (by have hszw := (B4).size; repeat (with_reducible first | refine Below.setCell ?_ (by first | omega | (simp <;> omega)) _ | refine Below.alloc ?_ (by first | omega | (simp <;> omega)) _ | refine Below.drew ?_ | refine below_drewN ?_ _ | exact B4)))).out.mono ?_
  rintro e w5 ⟨rfl, hb5⟩
  have Va5 : DyV w5 b0 bda sa (.slice aa na pa) ea := (by refine DyV.below ?_ hb5; (repeat (with_reducible first | refine DyV.drew ?_ | refine DyV.drewN ?_ _ | refine DyV.alloc ?_ _)); exact Va4.out)
  (try clear ac0 ac1 ac2 ac3 ac4)
  obtain ⟨ac0, ac1, ac2, ac3, ac4, ac5⟩ := Va5
  have Va5 := Lib.hid (DyV.mk ac0 ac1 ac2 ac3 ac4 ac5)
  have Vb5 : DyV w5 b1 bdb sb (.slice ab nb pb) eb := (by refine DyV.below ?_ hb5; (repeat (with_reducible first | refine DyV.drew ?_ | refine DyV.drewN ?_ _ | refine DyV.alloc ?_ _)); exact Vb4.out)
  (try clear bc0 bc1 bc2 bc3 bc4)
  obtain ⟨bc0, bc1, bc2, bc3, bc4, bc5⟩ := Vb5
  have Vb5 := Lib.hid (DyV.mk bc0 bc1 bc2 bc3 bc4 bc5)
  have B5 := below_box (w := w) (by have hszw := (B4).size; repeat (with_reducible first | refine Below.setCell ?_ (by first | omega | (simp <;> omega)) _ | refine Below.alloc ?_ (by first | omega | (simp <;> omega)) _ | refine Below.drew ?_ | refine below_drewN ?_ _ | exact B4)) hb5
  clear hb5
  go_wp2_with fail
  refine (HA2 _ (hT.below (by have hszw := (B5).size; repeat (with_reducible first | refine Below.setCell ?_ (by first | omega | (simp <;> omega)) _ | refine Below.alloc ?_ (by first | omega | (simp <;> omega)) _ | refine Below.drew ?_ | refine below_drewN ?_ _ | exact B5)))).out.mono ?_
  rintro e w6 ⟨rfl, hb6⟩
  have Va6 : DyV w6 b0 bda sa (.slice aa na pa) ea := (by refine DyV.below ?_ hb6; (repeat (with_reducible first | refine DyV.drew ?_ | refine DyV.drewN ?_ _ | refine DyV.alloc ?_ _)); exact Va5.out)
  (try clear ac0 ac1 ac2 ac3 ac4)
  obtain ⟨ac0, ac1, ac2, ac3, ac4, ac5⟩ := Va6
  have Va6 := Lib.hid (DyV.mk ac0 ac1 ac2 ac3 ac4 ac5)
  have Vb6 : DyV w6 b1 bdb sb (.slice ab nb pb) eb := (by refine DyV.below ?_ hb6; (repeat (with_reducible first | refine DyV.drew ?_ | refine DyV.drewN ?_ _ | refine DyV.alloc ?_ _)); exact Vb5.out)
  (try clear bc0 bc1 bc2 bc3 bc4)
  obtain ⟨bc0, bc1, bc2, bc3, bc4, bc5⟩ := Vb6
  have Vb6 := Lib.hid (DyV.mk bc0 bc1 bc2 bc3 bc4 bc5)
  have B6 := below_box (w := w) (by have hszw := (B5).size; repeat (with_reducible first | refine Below.setCell ?_ (by first | omega | (simp <;> omega)) _ | refine Below.alloc ?_ (by first | omega | (simp <;> omega)) _ | refine Below.drew ?_ | refine below_drewN ?_ _ | exact B5)) hb6
  clear hb6
  go_wp2_with fail
  refine (HA3 _).out.mono ?_
  rintro e w7 ⟨rfl, hb7⟩
  have Va7 : DyV w7 b0 bda sa (.slice aa na pa) ea := (by refine DyV.below ?_ hb7; (repeat (with_reducible first | refine DyV.drew ?_ | refine DyV.drewN ?_ _ | refine DyV.alloc ?_ _)); exact Va6.out)
  (try clear ac0 ac1 ac2 ac3 ac4)
  obtain ⟨ac0, ac1, ac2, ac3, ac4, ac5⟩ := Va7
  have Va7 := Lib.hid (DyV.mk ac0 ac1 ac2 ac3 ac4 ac5)
  have Vb7 : DyV w7 b1 bdb sb (.slice ab nb pb) eb := (by refine DyV.below ?_ hb7; (repeat (with_reducible first | refine DyV.drew ?_ | refine DyV.drewN ?_ _ | refine DyV.alloc ?_ _)); exact Vb6.out)
  (try clear bc0 bc1 bc2 bc3 bc4)
  obtain ⟨bc0, bc1, bc2, bc3, bc4, bc5⟩ := Vb7
  have Vb7 := Lib.hid (DyV.mk bc0 bc1 bc2 bc3 bc4 bc5)
  have B7 := below_box (w := w) (by have hszw := (B6).size; repeat (with_reducible first | refine Below.setCell ?_ (by first | omega | (simp <;> omega)) _ | refine Below.alloc ?_ (by first | omega | (simp <;> omega)) _ | refine Below.drew ?_ | refine below_drewN ?_ _ | exact B6)) hb7
  clear hb7
  go_wp2_with fail
  refine (HW _ (hT.below (by have hszw := (B7).size; repeat (with_reducible first | refine Below.setCell ?_ (by first | omega | (simp <;> omega)) _ | refine Below.alloc ?_ (by first | omega | (simp <;> omega)) _ | refine Below.drew ?_ | refine below_drewN ?_ _ | exact B7)))).out.mono ?_
  rintro e w8 ⟨rfl, hb8⟩
  have Va8 : DyV w8 b0 bda sa (.slice aa na pa) ea := (by refine DyV.below ?_ hb8; (repeat (with_reducible first | refine DyV.drew ?_ | refine DyV.drewN ?_ _ | refine DyV.alloc ?_ _)); exact Va7.out)
  (try clear ac0 ac1 ac2 ac3 ac4)
  obtain ⟨ac0, ac1, ac2, ac3, ac4, ac5⟩ := Va8
  have Va8 := Lib.hid (DyV.mk ac0 ac1 ac2 ac3 ac4 ac5)
  have Vb8 : DyV w8 b1 bdb sb (.slice ab nb pb) eb := (by refine DyV.below ?_ hb8; (repeat (with_reducible first | refine DyV.drew ?_ | refine DyV.drewN ?_ _ | refine DyV.alloc ?_ _)); exact Vb7.out)
  (try clear bc0 bc1 bc2 bc3 bc4)
  obtain ⟨bc0, bc1, bc2, bc3, bc4, bc5⟩ := Vb8
  have Vb8 := Lib.hid (DyV.mk bc0 bc1 bc2 bc3 bc4 bc5)
  have B8 := below_box (w := w) (by have hszw := (B7).size; repeat (with_reducible first | refine Below.setCell ?_ (by first | omega | (simp <;> omega)) _ | refine Below.alloc ?_ (by first | omega | (simp <;> omega)) _ | refine Below.drew ?_ | refine below_drewN ?_ _ | exact B7)) hb8
  clear hb8
  go_wp2_with fail
  go_ret
  exact ⟨rfl, (by have hszw := (B8).size; repeat (with_reducible first | refine Below.setCell ?_ (by first | omega | (simp <;> omega)) _ | refine Below.alloc ?_ (by first | omega | (simp <;> omega)) _ | refine Below.drew ?_ | refine below_drewN ?_ _ | exact B8))⟩

set_option maxRecDepth 100000 in
set_option maxHeartbeats 20000000 in
theorem mono_F2_F1 (w : World) (hT : Tab w) (bda sa : Bool) (aa : Option Addr) (na pa : Nat) (ea : Int) (da : Option (Int × Int)) (Ha : DyIs w bda sa aa na pa ea da) (bdb sb : Bool) (ab : Option Addr) (nb pb : Nat) (eb : Int) (db : Option (Int × Int)) (Hb : DyIs w bdb sb ab nb pb eb db) (f g h : Nat) (hf : f < 18446744073709551616) (hg : g < 18446744073709551616) (_hh : h < 18446744073709551616) (mode : Int) (ma : na ≤ 9223372036854775807) (mb : nb ≤ 9223372036854775807) (hsa : slim3B na ea = true) (hsb : slim3B nb eb = true) (ok : (!dbad da && !dbad db) = true) (cc : ¬ dcmp da db ≤ 0) (fk : fcmpok f g = false) :
    Calls Tryd.prog 5 #[.agg #[.bool bda, .bool sa, .slice aa na pa, .int .i64 ea], .agg #[.bool bdb, .bool sb, .slice ab nb pb, .int .i64 eb], .int .u64 f, .int .u64 g, .int .u64 h, .int .i64 mode] w fun o w' => o = .returned (.bool true) ∧ Below w.heap.size w w' := by
  have HSla := fun W => Lib.hid (slimDyad3_any W bda sa aa na pa ea ma true hsa)
  have HSlb := fun W => Lib.hid (slimDyad3_any W bdb sb ab nb pb eb mb true hsb)
  have HW := fun W ht => Lib.hid (awakeF_any W ht)
  have Ga := Lib.hid Ha
  have Gb := Lib.hid Hb
  have HC := fun W (h : DyIs W bda sa aa na pa ea da) (h' : DyIs W bdb sb ab nb pb eb db) ht => Lib.hid (dcmp_any W bda sa bdb sb aa ab na nb pa pb ea eb da db h.1 h'.1 ht)
  rw [ok] at HC
  have c1 : decide (dcmp da db ≤ 0) = false := by simpa using cc
  generalize dcmp da db = v0 at *
  have HF := fun W => Lib.hid (fcmp_any W f g hf hg)
  rw [fk] at HF
  generalize fcmpv f g = v3 at *
  clear ok cc fk Ha Hb hsa hsb hf hg _hh
  generalize (f : Int) = jf at *
  generalize (g : Int) = jg at *
  generalize (h : Int) = jh at *
  go_enter Tryd.func5, Tryd.ntmps5
  go_wp2_with fail
  have I0 := (DyV.made w 28 bda sa (.slice aa na pa) ea).alloc (.cells #[.bool bdb, .bool sb, .slice ab nb pb, .int .i64 eb] 28)
  have I1 := DyV.made' (w.alloc (.cells #[.bool bda, .bool sa, .slice aa na pa, .int .i64 ea] 28)) 28 bdb sb (.slice ab nb pb) eb (n := w.heap.size + 1) (by rw [World.size_alloc])
  have B0 : Below w.heap.size w ((w.alloc (.cells #[.bool bda, .bool sa, .slice aa na pa, .int .i64 ea] 28)).alloc (.cells #[.bool bdb, .bool sb, .slice ab nb pb, .int .i64 eb] 28)) := (by repeat (with_reducible first | refine Below.setCell ?_ (by simp <;> omega) _ | refine Below.alloc ?_ (by simp <;> omega) _ | refine Below.drew ?_ | refine below_drewN ?_ _ | exact Below.refl _ _))
  generalize ((w.alloc (.cells #[.bool bda, .bool sa, .slice aa na pa, .int .i64 ea] 28)).alloc (.cells #[.bool bdb, .bool sb, .slice ab nb pb, .int .i64 eb] 28)) = w0 at I0 I1 B0 ⊢
  have ne01 : ¬ w.heap.size = w.heap.size + 1 := by omega
  have ne10 : ¬ w.heap.size + 1 = w.heap.size := by omega
  generalize hb1 : w.heap.size + 1 = b1 at I1 ne01 ne10 ⊢
  generalize hb0 : w.heap.size = b0 at I0 ne01 ne10 ⊢
  obtain ⟨ac0, ac1, ac2, ac3, ac4, ac5⟩ := I0
  have Va0 := Lib.hid (DyV.mk ac0 ac1 ac2 ac3 ac4 ac5)
  obtain ⟨bc0, bc1, bc2, bc3, bc4, bc5⟩ := I1
  have Vb0 := Lib.hid (DyV.mk bc0 bc1 bc2 bc3 bc4 bc5)
  refine (HSla _).out.mono ?_
  rintro e w1 ⟨rfl, hb1⟩
  have Va1 : DyV w1 b0 bda sa (.slice aa na pa) ea := (by refine DyV.below ?_ hb1; (repeat (with_reducible first | refine DyV.drew ?_ | refine DyV.drewN ?_ _ | refine DyV.alloc ?_ _)); exact Va0.out)
  (try clear ac0 ac1 ac2 ac3 ac4)
  obtain ⟨ac0, ac1, ac2, ac3, ac4, ac5⟩ := Va1
  have Va1 := Lib.hid (DyV.mk ac0 ac1 ac2 ac3 ac4 ac5)
  have Vb1 : DyV w1 b1 bdb sb (.slice ab nb pb) eb := (by refine DyV.below ?_ hb1; (repeat (with_reducible first | refine DyV.drew ?_ | refine DyV.drewN ?_ _ | refine DyV.alloc ?_ _)); exact Vb0.out)
  (try clear bc0 bc1 bc2 bc3 bc4)
  obtain ⟨bc0, bc1, bc2, bc3, bc4, bc5⟩ := Vb1
  have Vb1 := Lib.hid (DyV.mk bc0 bc1 bc2 bc3 bc4 bc5)
  have B1 := below_box (w := w) (by have hszw := (B0).size; repeat (with_reducible first | refine Below.setCell ?_ (by first | omega | (simp <;> omega)) _ | refine Below.alloc ?_ (by first | omega | (simp <;> omega)) _ | refine Below.drew ?_ | refine below_drewN ?_ _ | exact B0)) hb1
  clear hb1
  go_wp2_with fail
  refine (HSlb _).out.mono ?_
  rintro e w2 ⟨rfl, hb2⟩
  have Va2 : DyV w2 b0 bda sa (.slice aa na pa) ea := (by refine DyV.below ?_ hb2; (repeat (with_reducible first | refine DyV.drew ?_ | refine DyV.drewN ?_ _ | refine DyV.alloc ?_ _)); exact Va1.out)
  (try clear ac0 ac1 ac2 ac3 ac4)
  obtain ⟨ac0, ac1, ac2, ac3, ac4, ac5⟩ := Va2
  have Va2 := Lib.hid (DyV.mk ac0 ac1 ac2 ac3 ac4 ac5)
  have Vb2 : DyV w2 b1 bdb sb (.slice ab nb pb) eb := (by refine DyV.below ?_ hb2; (repeat (with_reducible first | refine DyV.drew ?_ | refine DyV.drewN ?_ _ | refine DyV.alloc ?_ _)); exact Vb1.out)
  (try clear bc0 bc1 bc2 bc3 bc4)
  obtain ⟨bc0, bc1, bc2, bc3, bc4, bc5⟩ := Vb2
  have Vb2 := Lib.hid (DyV.mk bc0 bc1 bc2 bc3 bc4 bc5)
  have B2 := below_box (w := w) (by have hszw := (B1).size; repeat (with_reducible first | refine Below.setCell ?_ (by first | omega | (simp <;> omega)) _ | refine Below.alloc ?_ (by first | omega | (simp <;> omega)) _ | refine Below.drew ?_ | refine below_drewN ?_ _ | exact B1)) hb2
  clear hb2
  go_wp2_with fail
  refine (HC _ (Ga.out.below (by have hszw := (B2).size; repeat (with_reducible first | refine Below.setCell ?_ (by first | omega | (simp <;> omega)) _ | refine Below.alloc ?_ (by first | omega | (simp <;> omega)) _ | refine Below.drew ?_ | refine below_drewN ?_ _ | exact B2))) (Gb.out.below (by have hszw := (B2).size; repeat (with_reducible first | refine Below.setCell ?_ (by first | omega | (simp <;> omega)) _ | refine Below.alloc ?_ (by first | omega | (simp <;> omega)) _ | refine Below.drew ?_ | refine below_drewN ?_ _ | exact B2))) (hT.below (by have hszw := (B2).size; repeat (with_reducible first | refine Below.setCell ?_ (by first | omega | (simp <;> omega)) _ | refine Below.alloc ?_ (by first | omega | (simp <;> omega)) _ | refine Below.drew ?_ | refine below_drewN ?_ _ | exact B2)))).out.mono ?_
  rintro e w3 ⟨rfl, hb3⟩
  have Va3 : DyV w3 b0 bda sa (.slice aa na pa) ea := (by refine DyV.below ?_ hb3; (repeat (with_reducible first | refine DyV.drew ?_ | refine DyV.drewN ?_ _ | refine DyV.alloc ?_ _)); exact Va2.out)
  (try clear ac0 ac1 ac2 ac3 ac4)
  obtain ⟨ac0, ac1, ac2, ac3, ac4, ac5⟩ := Va3
  have Va3 := Lib.hid (DyV.mk ac0 ac1 ac2 ac3 ac4 ac5)
  have Vb3 : DyV w3 b1 bdb sb (.slice ab nb pb) eb := (by refine DyV.below ?_ hb3; (repeat (with_reducible first | refine DyV.drew ?_ | refine DyV.drewN ?_ _ | refine DyV.alloc ?_ _)); exact Vb2.out)
  (try clear bc0 bc1 bc2 bc3 bc4)
  obtain ⟨bc0, bc1, bc2, bc3, bc4, bc5⟩ := Vb3
  have Vb3 := Lib.hid (DyV.mk bc0 bc1 bc2 bc3 bc4 bc5)
  have B3 := below_box (w := w) (by have hszw := (B2).size; repeat (with_reducible first | refine Below.setCell ?_ (by first | omega | (simp <;> omega)) _ | refine Below.alloc ?_ (by first | omega | (simp <;> omega)) _ | refine Below.drew ?_ | refine below_drewN ?_ _ | exact B2)) hb3
  clear hb3
  go_wp2_with fail
  refine (HF _).out.mono ?_
  rintro e w4 ⟨rfl, hb4⟩
  have Va4 : DyV w4 b0 bda sa (.slice aa na pa) ea := (by refine DyV.below ?_ hb4; (repeat (with_reducible first | refine DyV.drew ?_ | refine DyV.drewN ?_ _ | refine DyV.alloc ?_ _)); exact Va3.out)
  (try clear ac0 ac1 ac2 ac3 ac4)
  obtain ⟨ac0, ac1, ac2, ac3, ac4, ac5⟩ := Va4
  have Va4 := Lib.hid (DyV.mk ac0 ac1 ac2 ac3 ac4 ac5)
  have Vb4 : DyV w4 b1 bdb sb (.slice ab nb pb) eb := (by refine DyV.below ?_ hb4; (repeat (with_reducible first | refine DyV.drew ?_ | refine DyV.drewN ?_ _ | refine DyV.alloc ?_ _)); exact Vb3.out)
  (try clear bc0 bc1 bc2 bc3 bc4)
  obtain ⟨bc0, bc1, bc2, bc3, bc4, bc5⟩ := Vb4
  have Vb4 := Lib.hid (DyV.mk bc0 bc1 bc2 bc3 bc4 bc5)
  have B4 := below_box (w := w) (by have hszw := (B3).size; repeat (with_reducible first | refine Below.setCell ?_ (by first | omega | (simp <;> omega)) _ | refine Below.alloc ?_ (by first | omega | (simp <;> omega)) _ | refine Below.drew ?_ | refine below_drewN ?_ _ | exact B3)) hb4
  clear hb4
  go_wp2_with fail
  refine (HW _ (hT.below (by have hszw := (B4).size; repeat (with_reducible first | refine Below.setCell ?_ (by first | omega | (simp <;> omega)) _ | refine Below.alloc ?_ (by first | omega | (simp <;> omega)) _ | refine Below.drew ?_ | refine below_drewN ?_ _ | exact B4)))).out.mono ?_
  rintro e w5 ⟨rfl, hb5⟩
  have Va5 : DyV w5 b0 bda sa (.slice aa na pa) ea := (by refine DyV.below ?_ hb5; (repeat (with_reducible first | refine DyV.drew ?_ | refine DyV.drewN ?_ _ | refine DyV.alloc ?_ _)); exact Va4.out)
  (try clear ac0 ac1 ac2 ac3 ac4)
  obtain ⟨ac0, ac1, ac2, ac3, ac4, ac5⟩ := Va5
  have Va5 := Lib.hid (DyV.mk ac0 ac1 ac2 ac3 ac4 ac5)
  have Vb5 : DyV w5 b1 bdb sb (.slice ab nb pb) eb := (by refine DyV.below ?_ hb5; (repeat (with_reducible first | refine DyV.drew ?_ | refine DyV.drewN ?_ _ | refine DyV.alloc ?_ _)); exact Vb4.out)
  (try clear bc0 bc1 bc2 bc3 bc4)
  obtain ⟨bc0, bc1, bc2, bc3, bc4, bc5⟩ := Vb5
  have Vb5 := Lib.hid (DyV.mk bc0 bc1 bc2 bc3 bc4 bc5)
  have B5 := below_box (w := w) (by have hszw := (B4).size; repeat (with_reducible first | refine Below.setCell ?_ (by first | omega | (simp <;> omega)) _ | refine Below.alloc ?_ (by first | omega | (simp <;> omega)) _ | refine Below.drew ?_ | refine below_drewN ?_ _ | exact B4)) hb5
  clear hb5
  go_wp2_with fail
  go_ret
  exact ⟨rfl, (by have hszw := (B5).size; repeat (with_reducible first | refine Below.setCell ?_ (by first | omega | (simp <;> omega)) _ | refine Below.alloc ?_ (by first | omega | (simp <;> omega)) _ | refine Below.drew ?_ | refine below_drewN ?_ _ | exact B5))⟩

set_option maxRecDepth 100000 in
set_option maxHeartbeats 20000000 in
theorem mono_F2_F2 (w : World) (hT : Tab w) (bda sa : Bool) (aa : Option Addr) (na pa : Nat) (ea : Int) (da : Option (Int × Int)) (Ha : DyIs w bda sa aa na pa ea da) (bdb sb : Bool) (ab : Option Addr) (nb pb : Nat) (eb : Int) (db : Option (Int × Int)) (Hb : DyIs w bdb sb ab nb pb eb db) (f g h : Nat) (hf : f < 18446744073709551616) (hg : g < 18446744073709551616) (_hh : h < 18446744073709551616) (mode : Int) (ma : na ≤ 9223372036854775807) (mb : nb ≤ 9223372036854775807) (hsa : slim3B na ea = true) (hsb : slim3B nb eb = true) (ok : (!dbad da && !dbad db) = true) (cc : ¬ dcmp da db ≤ 0) (fk : fcmpok f g = true) (fc : ¬ fcmpv f g ≤ 0) :
    Calls Tryd.prog 5 #[.agg #[.bool bda, .bool sa, .slice aa na pa, .int .i64 ea], .agg #[.bool bdb, .bool sb, .slice ab nb pb, .int .i64 eb], .int .u64 f, .int .u64 g, .int .u64 h, .int .i64 mode] w fun o w' => o = .returned (.bool true) ∧ Below w.heap.size w w' := by
  have HSla := fun W => Lib.hid (slimDyad3_any W bda sa aa na pa ea ma true hsa)
  have HSlb := fun W => Lib.hid (slimDyad3_any W bdb sb ab nb pb eb mb true hsb)
  have HW := fun W ht => Lib.hid (awakeF_any W ht)
  have Ga := Lib.hid Ha
  have Gb := Lib.hid Hb
  have HC := fun W (h : DyIs W bda sa aa na pa ea da) (h' : DyIs W bdb sb ab nb pb eb db) ht => Lib.hid (dcmp_any W bda sa bdb sb aa ab na nb pa pb ea eb da db h.1 h'.1 ht)
  rw [ok] at HC
  have c1 : decide (dcmp da db ≤ 0) = false := by simpa using cc
  generalize dcmp da db = v0 at *
  have HF := fun W => Lib.hid (fcmp_any W f g hf hg)
  rw [fk] at HF
  have d1 : decide (fcmpv f g ≤ 0) = false := by simpa using fc
  generalize fcmpv f g = v3 at *
  clear ok cc fk fc Ha Hb hsa hsb hf hg _hh
  generalize (f : Int) = jf at *
  generalize (g : Int) = jg at *
  generalize (h : Int) = jh at *
  go_enter Tryd.func5, Tryd.ntmps5
  go_wp2_with fail
  have I0 := (DyV.made w 28 bda sa (.slice aa na pa) ea).alloc (.cells #[.bool bdb, .bool sb, .slice ab nb pb, .int .i64 eb] 28)
  have I1 := DyV.made' (w.alloc (.cells #[.bool bda, .bool sa, .slice aa na pa, .int .i64 ea] 28)) 28 bdb sb (.slice ab nb pb) eb (n := w.heap.size + 1) (by rw [World.size_alloc])
  have B0 : Below w.heap.size w ((w.alloc (.cells #[.bool bda, .bool sa, .slice aa na pa, .int .i64 ea] 28)).alloc (.cells #[.bool bdb, .bool sb, .slice ab nb pb, .int .i64 eb] 28)) := (by repeat (with_reducible first | refine Below.setCell ?_ (by simp <;> omega) _ | refine Below.alloc ?_ (by simp <;> omega) _ | refine Below.drew ?_ | refine below_drewN ?_ _ | exact Below.refl _ _))
  generalize ((w.alloc (.cells #[.bool bda, .bool sa, .slice aa na pa, .int .i64 ea] 28)).alloc (.cells #[.bool bdb, .bool sb, .slice ab nb pb, .int .i64 eb] 28)) = w0 at I0 I1 B0 ⊢
  have ne01 : ¬ w.heap.size = w.heap.size + 1 := by omega
  have ne10 : ¬ w.heap.size + 1 = w.heap.size := by omega
  generalize hb1 : w.heap.size + 1 = b1 at I1 ne01 ne10 ⊢
  generalize hb0 : w.heap.size = b0 at I0 ne01 ne10 ⊢
  obtain ⟨ac0, ac1, ac2, ac3, ac4, ac5⟩ := I0
  have Va0 := Lib.hid (DyV.mk ac0 ac1 ac2 ac3 ac4 ac5)
  obtain ⟨bc0, bc1, bc2, bc3, bc4, bc5⟩ := I1
  have Vb0 := Lib.hid (DyV.mk bc0 bc1 bc2 bc3 bc4 bc5)
  refine (HSla _).out.mono ?_
  rintro e w1 ⟨rfl, hb1⟩
  have Va1 : DyV w1 b0 bda sa (.slice aa na pa) ea := (by refine DyV.below ?_ hb1; (repeat (with_reducible first | refine DyV.drew ?_ | refine DyV.drewN ?_ _ | refine DyV.alloc ?_ _)); exact Va0.out)
  (try clear ac0 ac1 ac2 ac3 ac4)
  obtain ⟨ac0, ac1, ac2, ac3, ac4, ac5⟩ := Va1
  have Va1 := Lib.hid (DyV.mk ac0 ac1 ac2 ac3 ac4 ac5)
  have Vb1 : DyV w1 b1 bdb sb (.slice ab nb pb) eb := (by refine DyV.below ?_ hb1; (repeat (with_reducible first | refine DyV.drew ?_ | refine DyV.drewN ?_ _ | refine DyV.alloc ?_ _)); exact Vb0.out)
  (try clear bc0 bc1 bc2 bc3 bc4)
  obtain ⟨bc0, bc1, bc2, bc3, bc4, bc5⟩ := Vb1
  have Vb1 := Lib.hid (DyV.mk bc0 bc1 bc2 bc3 bc4 bc5)
  have B1 := below_box (w := w) (by have hszw := (B0).size; repeat (with_reducible first | refine Below.setCell ?_ (by first | omega | (simp <;> omega)) _ | refine Below.alloc ?_ (by first | omega | (simp <;> omega)) _ | refine Below.drew ?_ | refine below_drewN ?_ _ | exact B0)) hb1
  clear hb1
  go_wp2_with fail
  refine (HSlb _).out.mono ?_
  rintro e w2 ⟨rfl, hb2⟩
  have Va2 : DyV w2 b0 bda sa (.slice aa na pa) ea := (by refine DyV.below ?_ hb2; (repeat (with_reducible first | refine DyV.drew ?_ | refine DyV.drewN ?_ _ | refine DyV.alloc ?_ _)); exact Va1.out)
  (try clear ac0 ac1 ac2 ac3 ac4)
  obtain ⟨ac0, ac1, ac2, ac3, ac4, ac5⟩ := Va2
  have Va2 := Lib.hid (DyV.mk ac0 ac1 ac2 ac3 ac4 ac5)
  have Vb2 : DyV w2 b1 bdb sb (.slice ab nb pb) eb := (by refine DyV.below ?_ hb2; (repeat (with_reducible first | refine DyV.drew ?_ | refine DyV.drewN ?_ _ | refine DyV.alloc ?_ _)); exact Vb1.out)
  (try clear bc0 bc1 bc2 bc3 bc4)
  obtain ⟨bc0, bc1, bc2, bc3, bc4, bc5⟩ := Vb2
  have Vb2 := Lib.hid (DyV.mk bc0 bc1 bc2 bc3 bc4 bc5)
  have B2 := below_box (w := w) (by have hszw := (B1).size; repeat (with_reducible first | refine Below.setCell ?_ (by first | omega | (simp <;> omega)) _ | refine Below.alloc ?_ (by first | omega | (simp <;> omega)) _ | refine Below.drew ?_ | refine below_drewN ?_ _ | exact B1)) hb2
  clear hb2
  go_wp2_with fail
  refine (HC _ (Ga.out.below (by have hszw := (B2).size; repeat (with_reducible first | refine Below.setCell ?_ (by first | omega | (simp <;> omega)) _ | refine Below.alloc ?_ (by first | omega | (simp <;> omega)) _ | refine Below.drew ?_ | refine below_drewN ?_ _ | exact B2))) (Gb.out.below (by have hszw := (B2).size; repeat (with_reducible first | refine Below.setCell ?_ (by first | omega | (simp <;> omega)) _ | refine Below.alloc ?_ (by first | omega | (simp <;> omega)) _ | refine Below.drew ?_ | refine below_drewN ?_ _ | exact B2))) (hT.below (by have hszw := (B2).size; repeat (with_reducible first | refine Below.setCell ?_ (by first | omega | (simp <;> omega)) _ | refine Below.alloc ?_ (by first | omega | (simp <;> omega)) _ | refine Below.drew ?_ | refine below_drewN ?_ _ | exact B2)))).out.mono ?_
  rintro e w3 ⟨rfl, hb3⟩
  have Va3 : DyV w3 b0 bda sa (.slice aa na pa) ea := (by refine DyV.below ?_ hb3; (repeat (with_reducible first | refine DyV.drew ?_ | refine DyV.drewN ?_ _ | refine DyV.alloc ?_ _)); exact Va2.out)
  (try clear ac0 ac1 ac2 ac3 ac4)
  obtain ⟨ac0, ac1, ac2, ac3, ac4, ac5⟩ := Va3
  have Va3 := Lib.hid (DyV.mk ac0 ac1 ac2 ac3 ac4 ac5)
  have Vb3 : DyV w3 b1 bdb sb (.slice ab nb pb) eb := (by refine DyV.below ?_ hb3; (repeat (with_reducible first | refine DyV.drew ?_ | refine DyV.drewN ?_ _ | refine DyV.alloc ?_ _)); exact Vb2.out)
  (try clear bc0 bc1 bc2 bc3 bc4)
  obtain ⟨bc0, bc1, bc2, bc3, bc4, bc5⟩ := Vb3
  have Vb3 := Lib.hid (DyV.mk bc0 bc1 bc2 bc3 bc4 bc5)
  have B3 := below_box (w := w) (by have hszw := (B2).size; repeat (with_reducible first | refine Below.setCell ?_ (by first | omega | (simp <;> omega)) _ | refine Below.alloc ?_ (by first | omega | (simp <;> omega)) _ | refine Below.drew ?_ | refine below_drewN ?_ _ | exact B2)) hb3
  clear hb3
  go_wp2_with fail
  refine (HF _).out.mono ?_
  rintro e w4 ⟨rfl, hb4⟩
  have Va4 : DyV w4 b0 bda sa (.slice aa na pa) ea := (by refine DyV.below ?_ hb4; (repeat (with_reducible first | refine DyV.drew ?_ | refine DyV.drewN ?_ _ | refine DyV.alloc ?_ _)); exact Va3.out)
  (try clear ac0 ac1 ac2 ac3 ac4)
  obtain ⟨ac0, ac1, ac2, ac3, ac4, ac5⟩ := Va4
  have Va4 := Lib.hid (DyV.mk ac0 ac1 ac2 ac3 ac4 ac5)
  have Vb4 : DyV w4 b1 bdb sb (.slice ab nb pb) eb := (by refine DyV.below ?_ hb4; (repeat (with_reducible first | refine DyV.drew ?_ | refine DyV.drewN ?_ _ | refine DyV.alloc ?_ _)); exact Vb3.out)
  (try clear bc0 bc1 bc2 bc3 bc4)
  obtain ⟨bc0, bc1, bc2, bc3, bc4, bc5⟩ := Vb4
  have Vb4 := Lib.hid (DyV.mk bc0 bc1 bc2 bc3 bc4 bc5)
  have B4 := below_box (w := w) (by have hszw := (B3).size; repeat (with_reducible first | refine Below.setCell ?_ (by first | omega | (simp <;> omega)) _ | refine Below.alloc ?_ (by first | omega | (simp <;> omega)) _ | refine Below.drew ?_ | refine below_drewN ?_ _ | exact B3)) hb4
  clear hb4
  go_wp2_with fail
  refine (HW _ (hT.below (by have hszw := (B4).size; repeat (with_reducible first | refine Below.setCell ?_ (by first | omega | (simp <;> omega)) _ | refine Below.alloc ?_ (by first | omega | (simp <;> omega)) _ | refine Below.drew ?_ | refine below_drewN ?_ _ | exact B4)))).out.mono ?_
  rintro e w5 ⟨rfl, hb5⟩
  have Va5 : DyV w5 b0 bda sa (.slice aa na pa) ea := (by refine DyV.below ?_ hb5; (repeat (with_reducible first | refine DyV.drew ?_ | refine DyV.drewN ?_ _ | refine DyV.alloc ?_ _)); exact Va4.out)
  (try clear ac0 ac1 ac2 ac3 ac4)
  obtain ⟨ac0, ac1, ac2, ac3, ac4, ac5⟩ := Va5
  have Va5 := Lib.hid (DyV.mk ac0 ac1 ac2 ac3 ac4 ac5)
  have Vb5 : DyV w5 b1 bdb sb (.slice ab nb pb) eb := (by refine DyV.below ?_ hb5; (repeat (with_reducible first | refine DyV.drew ?_ | refine DyV.drewN ?_ _ | refine DyV.alloc ?_ _)); exact Vb4.out)
  (try clear bc0 bc1 bc2 bc3 bc4)
  obtain ⟨bc0, bc1, bc2, bc3, bc4, bc5⟩ := Vb5
  have Vb5 := Lib.hid (DyV.mk bc0 bc1 bc2 bc3 bc4 bc5)
  have B5 := below_box (w := w) (by have hszw := (B4).size; repeat (with_reducible first | refine Below.setCell ?_ (by first | omega | (simp <;> omega)) _ | refine Below.alloc ?_ (by first | omega | (simp <;> omega)) _ | refine Below.drew ?_ | refine below_drewN ?_ _ | exact B4)) hb5
  clear hb5
  go_wp2_with fail
  go_ret
  exact ⟨rfl, (by have hszw := (B5).size; repeat (with_reducible first | refine Below.setCell ?_ (by first | omega | (simp <;> omega)) _ | refine Below.alloc ?_ (by first | omega | (simp <;> omega)) _ | refine Below.drew ?_ | refine below_drewN ?_ _ | exact B5))⟩

theorem mono_any (w : World) (hT : Tab w) (bda sa : Bool) (aa : Option Addr) (na pa xa : Nat) (ea : Int) (bdb sb : Bool) (ab : Option Addr) (nb pb xb : Nat) (eb : Int) (f g h : Nat) (mode : Int)
    (Ma : Mag w aa na pa xa) (Mb : Mag w ab nb pb xb) (ua : -9223372036854775808 ≤ ea ∧ ea ≤ 9223372036854775807) (ub : -9223372036854775808 ≤ eb ∧ eb ≤ 9223372036854775807)
    (hf : f < 18446744073709551616) (hg : g < 18446744073709551616) (_hh : h < 18446744073709551616) :
    Calls Tryd.prog 5 #[.agg #[.bool bda, .bool sa, .slice aa na pa, .int .i64 ea], .agg #[.bool bdb, .bool sb, .slice ab nb pb, .int .i64 eb], .int .u64 f, .int .u64 g, .int .u64 h, .int .i64 mode] w fun o w' => o = .returned (.bool true) ∧ Below w.heap.size w w' := by
  have ma := Nat.le_trans Ma.fits Ma.lim
  have mb := Nat.le_trans Mb.fits Mb.lim
  cases hsa : slim3B na ea with
  | false => exact mono_na w hT bda sa aa na pa ea bdb sb ab nb pb eb f g h hf hg _hh mode ma mb hsa
  | true =>
  cases hsb : slim3B nb eb with
  | false => exact mono_nb w hT bda sa aa na pa ea bdb sb ab nb pb eb f g h hf hg _hh mode ma mb hsa hsb
  | true =>
    have Ha := dyis_of3 (bd := bda) (s := sa) Ma hsa ua.1 ua.2
    have Hb := dyis_of3 (bd := bdb) (s := sb) Mb hsb ub.1 ub.2
    have Sa := fun m e => slim3_nrm (bd := bda) (s := sa) (x := xa) (m := m) (f := e) hsa Ma.lt
    have Sb := fun m e => slim3_nrm (bd := bdb) (s := sb) (x := xb) (m := m) (f := e) hsb Mb.lt
    generalize nrmB bda (sgn sa xa) ea = da at Ha Sa
    generalize nrmB bdb (sgn sb xb) eb = db at Hb Sb
    have P1 : (!dbad da && !dbad db) = true → dcmp da db ≤ 0 → fcmpok (fround da mode) (fround db mode) = true ∧ fcmpv (fround da mode) (fround db mode) ≤ 0 := by
      intro h1 h2
      rcases dcases da with rfl | ⟨m, e, rfl⟩
      · exact absurd h1 (by simp [dbad])
      · rcases dcases db with rfl | ⟨m', e', rfl⟩
        · exact absurd h1 (by simp [dbad])
        · exact fmono_round (Sa m e rfl) (Sb m' e' rfl) h2 mode
    cases ok : (!dbad da && !dbad db) with
    | false =>
      cases fk : fcmpok f g with
      | false => exact mono_F1_F1 w hT bda sa aa na pa ea da Ha bdb sb ab nb pb eb db Hb f g h hf hg _hh mode ma mb hsa hsb ok fk
      | true =>
        by_cases fc : fcmpv f g ≤ 0
        · cases k1 : fcmpok (fadd f h mode) (fadd g h mode) with
          | false => exact mono_F1_Ta w hT bda sa aa na pa ea da Ha bdb sb ab nb pb eb db Hb f g h hf hg _hh mode ma mb hsa hsb ok fk fc k1
          | true => exact mono_F1_Tb w hT bda sa aa na pa ea da Ha bdb sb ab nb pb eb db Hb f g h hf hg _hh mode ma mb hsa hsb ok fk fc k1 (fmono_add mode fk fc k1)
        · exact mono_F1_F2 w hT bda sa aa na pa ea da Ha bdb sb ab nb pb eb db Hb f g h hf hg _hh mode ma mb hsa hsb ok fk fc
    | true =>
      by_cases cc : dcmp da db ≤ 0
      · obtain ⟨r1, r2⟩ := P1 ok cc
        cases fk : fcmpok f g with
        | false => exact mono_T_F1 w hT bda sa aa na pa ea da Ha bdb sb ab nb pb eb db Hb f g h hf hg _hh mode ma mb hsa hsb ok cc r1 r2 fk
        | true =>
          by_cases fc : fcmpv f g ≤ 0
          · cases k1 : fcmpok (fadd f h mode) (fadd g h mode) with
            | false => exact mono_T_Ta w hT bda sa aa na pa ea da Ha bdb sb ab nb pb eb db Hb f g h hf hg _hh mode ma mb hsa hsb ok cc r1 r2 fk fc k1
            | true => exact mono_T_Tb w hT bda sa aa na pa ea da Ha bdb sb ab nb pb eb db Hb f g h hf hg _hh mode ma mb hsa hsb ok cc r1 r2 fk fc k1 (fmono_add mode fk fc k1)
          · exact mono_T_F2 w hT bda sa aa na pa ea da Ha bdb sb ab nb pb eb db Hb f g h hf hg _hh mode ma mb hsa hsb ok cc r1 r2 fk fc
      · cases fk : fcmpok f g with
        | false => exact mono_F2_F1 w hT bda sa aa na pa ea da Ha bdb sb ab nb pb eb db Hb f g h hf hg _hh mode ma mb hsa hsb ok cc fk
        | true =>
          by_cases fc : fcmpv f g ≤ 0
          · cases k1 : fcmpok (fadd f h mode) (fadd g h mode) with
            | false => exact mono_F2_Ta w hT bda sa aa na pa ea da Ha bdb sb ab nb pb eb db Hb f g h hf hg _hh mode ma mb hsa hsb ok cc fk fc k1
            | true => exact mono_F2_Tb w hT bda sa aa na pa ea da Ha bdb sb ab nb pb eb db Hb f g h hf hg _hh mode ma mb hsa hsb ok cc fk fc k1 (fmono_add mode fk fc k1)
          · exact mono_F2_F2 w hT bda sa aa na pa ea da Ha bdb sb ab nb pb eb db Hb f g h hf hg _hh mode ma mb hsa hsb ok cc fk fc

end Go.Proofs.YtkpglfloddkclaaDoor


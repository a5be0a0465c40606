/-
  Walks: the law DenseAssembles.
-/
import Derived.WalkKit
import Derived.Lib.Hide
import Derived.Deep.QuietTactic
import Derived.Laws.CopyOwn
import Derived.WalkLawsBesides
import Derived.WalkSpells
import Derived.BigQuiet
import Derived.Lib.Strings
import Derived.Lib.Slices
import Derived.Lib.Small
import Derived.Lib.Walk
import Derived.Lib.BitFns
import Derived.Deep.DeepCutAuto
import Derived.Deep.CutBlock
import Derived.Deep.LoopGhost
import Derived.Deep.RegionHeld3
import Derived.ProofKit
import Derived.OpenShut
import Derived.Carry
import Derived.Laws.LoneSync
import Derived.Deep.DeepHandedRow
import Derived.Lib.LaidTab
import Derived.Deep.RegionWith
import Derived.Maps.AppendAt
import Derived.Deep.AppendLies
import Derived.Deep.Grids
import Derived.Deep.RegionLaw
import Derived.Test.YtablcbgeeeboeaaGreatDoorZfBa
import Derived.Test.YtablcbgeeeboeaaGreatDoorZfBb
import Derived.Test.YtablcbgeeeboeaaGreatDoorZfBc
import Derived.Test.YtablcbgeeeboeaaGreatDoorZfBd
import Derived.Test.YtablcbgeeeboeaaGreatDoorZfBe
import Derived.Test.YtablcbgeeeboeaaGreatDoorZfBf
import Derived.Test.YtablcbgeeeboeaaGreatDoorZfBg
import Derived.Test.YtablcbgeeeboeaaGreatDoorZfBh
import Derived.Test.YtablcbgeeeboeaaGreatDoorZfCm
import Derived.Test.YtablcbgeeeboeaaGreatDoorZfCs
import Derived.Test.YtablcbgeeeboeaaGreatDoorZfFP
import Derived.Test.YtablcbgeeeboeaaGreatDoorZfGi
import Derived.Test.YtablcbgeeeboeaaGreatDoorZfGo
import Derived.Test.YtablcbgeeeboeaaGreatDoorZfGq
import Derived.Test.YtablcbgeeeboeaaGreatDoorZfGr
import Derived.Test.YtablcbgeeeboeaaGreatDoorZfGt
import Derived.Test.YtablcbgeeeboeaaGreatDoorZfGu
import Derived.Test.YtablcbgeeeboeaaGreatDoorZfKw
import Derived.Test.YtablcbgeeeboeaaGreatDoorZfNs
import Derived.Test.YtablcbgeeeboeaaGreatDoorZfOpen
import Derived.Test.YtablcbgeeeboeaaGreatDoorZfPFa
import Derived.Test.YtablcbgeeeboeaaGreatDoorZfPFb
import Derived.Test.YtablcbgeeeboeaaGreatDoorZfPFc
import Derived.Test.YtablcbgeeeboeaaGreatDoorZfPb
import Derived.Test.YtablcbgeeeboeaaGreatDoorZfPd
import Derived.Test.YtablcbgeeeboeaaGreatDoorZfPf
import Derived.Test.YtablcbgeeeboeaaGreatDoorZfPh
import Derived.Test.YtablcbgeeeboeaaGreatDoorZfPi
import Derived.Test.YtablcbgeeeboeaaGreatDoorZfPj
import Derived.Test.YtablcbgeeeboeaaGreatDoorZfPk
import Derived.Test.YtablcbgeeeboeaaGreatDoorZfPt
import Derived.Test.YtablcbgeeeboeaaGreatDoorZfPx
import Derived.Test.YtablcbgeeeboeaaGreatDoorZfRa
import Derived.Test.YtablcbgeeeboeaaGreatDoorZfRat
import Derived.Test.YtablcbgeeeboeaaGreatDoorZfRd
import Derived.Test.YtablcbgeeeboeaaGreatDoorZfRe
import Derived.Test.YtablcbgeeeboeaaGreatDoorZfRm
import Derived.Test.YtablcbgeeeboeaaGreatDoorZfRp
import Derived.Test.YtablcbgeeeboeaaGreatDoorZfRq
import Derived.Test.YtablcbgeeeboeaaGreatDoorZfRt
import Derived.Test.YtablcbgeeeboeaaGreatDoorZfRva
import Derived.Test.YtablcbgeeeboeaaGreatDoorZfS3
import Derived.Test.YtablcbgeeeboeaaGreatDoorZfSqt
import Derived.Test.YtablcbgeeeboeaaGreatDoorZfSum
import Derived.Test.YtablcbgeeeboeaaGreatDoorZfSumLaw
import Derived.Test.YtablcbgeeeboeaaGreatDoorZfTd
import Derived.Test.YtablcbgeeeboeaaGreatDoorZfTj
set_option maxRecDepth 100000
set_option maxHeartbeats 40000000
namespace Go.Proofs.YtablcbgeeeboeaaGreatDoor
open Go.RowKit Sp
theorem fld_bad (v s : Bool) (sl : Value) (f : Int) (W : World) : (Instr.field 46 (.agg #[.bool v, .bool s, sl, .int .i64 f]) 0).run Tryz.prog W = .ok (.bool v) W := by kernel_rfl
theorem rvalid_any (w : World) (bd s : Bool) (a : Option Addr) (n cap : Nat) (e : Int) (d : Option (Int × Int)) (hx : DyIs w bd s a n cap e d) (hT : Tab w) :
 Calls Tryz.prog 23 #[.agg #[.bool bd, .bool s, .slice a n cap, .int .i64 e]] w fun o w' => o = .returned (.bool (!dbad d)) ∧ Below w.heap.size w w' := by
 have HF := fld_bad
 have HN := fun W h ht => Lib.hid (@rdnorm_in W bd s a n cap e d h ht)
 go_enter Tryz.func23, Tryz.ntmps23
 go_wp2_with fail
 refine (HN _ (hx.below zbh) (hT.below zbh)).out.mono ?_
 rintro e w1 ⟨a1, c1, rfl, hm1, hb, hf1⟩
 have hbw := below_box (w := w) zbh hb
 go_wp2_with fail
 go_ret
 exact ⟨rfl, (have := Beh.mk hbw; zbh)⟩
end Go.Proofs.YtablcbgeeeboeaaGreatDoor
namespace Go.Proofs.YtablcbgeeeboeaaGreatDoor
open Go.RowKit Sp
end Go.Proofs.YtablcbgeeeboeaaGreatDoor
namespace Go.Proofs.YtablcbgeeeboeaaGreatDoor
open Go.RowKit Sp
end Go.Proofs.YtablcbgeeeboeaaGreatDoor
namespace Go.Proofs.YtablcbgeeeboeaaGreatDoor
open Go.RowKit Sp
theorem dadd_bad (w : World) (bd s bd' s' : Bool) (a a' : Option Addr) (n n' cap cap' : Nat) (e e' : Int) (d d' : Option (Int × Int)) (hx : DyIn w bd s a n cap e d) (hy : DyIn w bd' s' a' n' cap' e' d') (hT : Tab w) (hk : (!dbad d && !dbad d') = false) :
 Calls Tryz.prog 73 #[.agg #[.bool bd, .bool s, .slice a n cap, .int .i64 e], .agg #[.bool bd', .bool s', .slice a' n' cap', .int .i64 e']] w (RetDy w none) := by
 have HN := fun W hx hy ht => Lib.hid (@two_v W bd s bd' s' a a' n n' cap cap' e e' d d' hx hy ht _ _ _ rfl rfl rfl _ _ _ rfl rfl rfl false hk)
 generalize dbad d = b at HN
 generalize dman d = z at HN
 generalize dexp d = f at HN
 generalize dbad d' = b' at HN
 generalize dman d' = z' at HN
 generalize dexp d' = f' at HN
 clear hk
 have e1 : ¬ w.heap.size + 1 = w.heap.size := by omega
 have e2 : ¬ w.heap.size + 1 + 1 = w.heap.size := by omega
 have l2 : w.heap.size < w.heap.size + 1 + 1 := by omega
 have k2 : ¬ w.heap.size = w.heap.size + 1 + 1 := by omega
 have l3 : w.heap.size < w.heap.size + 1 + 1 + 1 := by omega
 have k3 : ¬ w.heap.size = w.heap.size + 1 + 1 + 1 := by omega
 go_enter Tryz.func73, Tryz.ntmps73
 go_wp2_with fail
 refine (HN _ (hx.below zbh) (hy.below zbh) (hT.below zbh)).out.mono ?_
 rintro e w1 ⟨a1, c1, a2, c2, rfl, hm1, hm2, hb, hf1, hf2⟩
 obtain ⟨hc1, hz1⟩ := bcell (hb.mono (show w.heap.size + 3 ≤ _ by simp))
 have hg1 : w.heap.size + 3 ≤ w1.heap.size := by have := hb.size; simpa using this
 have hbw := below_box (w := w) zbh hb
 go_wp2_with fail
 refine (bad_any _).mono ?_
 rintro e w2 ⟨rfl, hb2⟩
 obtain ⟨hc2, hz2⟩ := bcell (hb2.mono (show w.heap.size + 3 ≤ _ by simpa using hg1))
 have hbw2 := below_box (w := w) (have := Beh.mk hbw; zbh) hb2
 clear hbw
 have hbw := hbw2
 go_wp2_with fail
 refine bodyPost_ret (v := .agg #[.bool true, .bool false, .slice none 0 0, .int .i64 0]) (by simp only [results, Tryz.results73]; go_simp) rfl ?_
 exact ret_bad rfl (have := Beh.mk hbw; zbh)
theorem dadd_ok (w : World) (bd s bd' s' : Bool) (a a' : Option Addr) (n n' cap cap' : Nat) (e e' : Int) (z f z' f' : Int) (hx : DyIn w bd s a n cap e (some (z, f))) (hy : DyIn w bd' s' a' n' cap' e' (some (z', f'))) (hT : Tab w) :
 Calls Tryz.prog 73 #[.agg #[.bool bd, .bool s, .slice a n cap, .int .i64 e], .agg #[.bool bd', .bool s', .slice a' n' cap', .int .i64 e']] w (RetDy w (nrm (up z f (min f f') + up z' f' (min f f')) (min f f'))) := by
 have HN := fun W hx hy ht => Lib.hid (@two_v W bd s bd' s' a a' n n' cap cap' e e' (some (z, f)) (some (z', f')) hx hy ht false z f rfl rfl rfl false z' f' rfl rfl rfl true rfl)
 obtain ⟨hb0, hf0, hf1⟩ := isN_bounds hx.isN
 obtain ⟨hb0', hf0', hf1'⟩ := isN_bounds hy.isN
 simp only [dman, dexp, Option.getD_some] at hb0 hf0 hf1 hb0' hf0' hf1'
 have hl := nl_lim (Nat.le_trans hb0 (by omega))
 have hl' := nl_lim (Nat.le_trans hb0' (by omega))
 have HA := fun W b c b' c' h h' => Lib.hid (aligned_any W false false b b' c c' z z' f f' h h' hl hl' (by omega) (by omega) (by omega) (by omega))
 have hx0 : blen (up z f (min f f')).natAbs ≤ 262144 := blen_up_le (by omega) (by omega)
 have hy0 : blen (up z' f' (min f f')).natAbs ≤ 262144 := blen_up_le (by omega) (by omega)
 have hE0 : -65536 ≤ min f f' ∧ min f f' ≤ 65536 := by omega
 generalize up z f (min f f') = x at HA hx0 ⊢
 generalize up z' f' (min f f') = y at HA hy0 ⊢
 generalize min f f' = E at HA hE0 ⊢
 have hlx := nl_lim (Nat.le_trans hx0 (by omega))
 have hly := nl_lim (Nat.le_trans hy0 (by omega))
 have hv0 := Nat.le_trans (bl_add x y) (show _ ≤ 262145 by omega)
 have HC := fun W b c b' c' h h' => Lib.hid (add_z W b b' c c' x y _ rfl h h' hlx hly)
 generalize x + y = v at HC hv0 ⊢
 have HM := fun W b c h ht => Lib.hid (make_z W b c v E _ rfl h ht (by omega) (by omega) (by omega))
 generalize nrm v E = d at HM ⊢
 have e1 : ¬ w.heap.size + 1 = w.heap.size := by omega
 have e2 : ¬ w.heap.size + 1 + 1 = w.heap.size := by omega
 have l2 : w.heap.size < w.heap.size + 1 + 1 := by omega
 have k2 : ¬ w.heap.size = w.heap.size + 1 + 1 := by omega
 have l3 : w.heap.size < w.heap.size + 1 + 1 + 1 := by omega
 have k3 : ¬ w.heap.size = w.heap.size + 1 + 1 + 1 := by omega
 clear hb0 hf0 hf1 hb0' hf0' hf1'
 go_enter Tryz.func73, Tryz.ntmps73
 go_wp2_with fail
 refine (HN _ (hx.below zbh) (hy.below zbh) (hT.below zbh)).out.mono ?_
 rintro e w1 ⟨a1, c1, a2, c2, rfl, hm1, hm2, hb, hf1, hf2⟩
 obtain ⟨hc1, hz1⟩ := bcell (hb.mono (show w.heap.size + 3 ≤ _ by simp))
 have hg1 : w.heap.size + 3 ≤ w1.heap.size := by have := hb.size; simpa using this
 have hfr1 : 0 < nl z.natAbs → w.heap.size + 3 ≤ ab a1 := fun h => by have := hf1 h; simpa using this
 have hfr2 : 0 < nl z'.natAbs → w.heap.size + 3 ≤ ab a2 := fun h => by have := hf2 h; simpa using this
 have hbw := below_box (w := w) zbh hb
 go_wp2_with fail
 refine (HA _ a1 c1 a2 c2 (by repeat (with_reducible first | refine Mag.set ?_ (fun h => by have := hfr1 h; omega) _ _ | refine Mag.drew ?_ | refine Mag.alloc ?_ _ | refine Mag.drewN ?_ _ | refine Mag.below ?_ (Below.drew (Below.refl _ _)) | refine Mag.below ?_ ((Below.refl _ _).alloc (Nat.le_refl _) _) | exact hm1)) (by repeat (with_reducible first | refine Mag.set ?_ (fun h => by have := hfr2 h; omega) _ _ | refine Mag.drew ?_ | refine Mag.alloc ?_ _ | refine Mag.drewN ?_ _ | refine Mag.below ?_ (Below.drew (Below.refl _ _)) | refine Mag.below ?_ ((Below.refl _ _).alloc (Nat.le_refl _) _) | exact hm2))).out.mono ?_
 rintro e w2 ⟨a3, c3, a4, c4, rfl, hm3, hm4, hb2, hf3, hf4⟩
 obtain ⟨hc2, hz2⟩ := bcell (hb2.mono (show w.heap.size + 3 ≤ _ by simpa using hg1))
 have hg2 : w.heap.size + 3 ≤ w2.heap.size := by have := hb2.size; simp at this; omega
 have hbw2 := below_box (w := w) (have := Beh.mk hbw; zbh) hb2
 clear hbw
 have hbw := hbw2
 obtain ⟨o01, o02, o03, o04, o05, o06, o07, o08, o09, o10, o11, o12, o13, o14, o15, o16, o17, o18, o19, o20, o21, o22, o23, o24, o25, o26⟩ := old3 hg2
 have hm3' := hm3
 go_wp2_with fail
 refine (HC _ a3 c3 a4 c4 (Mag.below hm3 zbh) (Mag.below hm4 zbh)).out.mono ?_
 rintro e w3 ⟨a5, c5, rfl, hm5, hb3, hf5⟩
 obtain ⟨hc3, hz3⟩ := bcell (hb3.mono (show w2.heap.size ≤ _ by simp <;> omega))
 have hbw3 := below_box (w := w) (have := Beh.mk hbw; zbh) hb3
 have hg3 : w.heap.size + 3 ≤ w3.heap.size := by have := hb3.size; simp at this; omega
 clear hbw
 have hbw := hbw3
 go_wp2_with fail
 refine (HM _ a5 c5 hm5 (hT.below hbw)).out.mono ?_
 rintro e w4 ⟨a6, c6, rfl, hm6, hb4, hf6⟩
 obtain ⟨hc4, hz4⟩ := bcell (hb4.mono (show w.heap.size + 3 ≤ _ from hg3))
 have hfr6 : 0 < nl (dman d).natAbs → w.heap.size + 3 ≤ ab a6 := fun h => by have := hf6 h; omega
 have hbw4 := below_box (w := w) hbw hb4
 clear hbw
 have hbw := hbw4
 go_wp2_with fail
 refine bodyPost_ret (v := .agg #[.bool (dbad d), .bool (decide (dman d < 0)), .slice a6 (nl (dman d).natAbs) c6, .int .i64 (dexp d)]) (by simp only [results, Tryz.results73]; go_simp) rfl ?_
 exact ⟨a6, c6, rfl, (by repeat (with_reducible first | refine Mag.set ?_ (fun h => by have := hfr6 h; omega) _ _ | refine Mag.drew ?_ | refine Mag.alloc ?_ _ | refine Mag.drewN ?_ _ | refine Mag.below ?_ (Below.drew (Below.refl _ _)) | refine Mag.below ?_ ((Below.refl _ _).alloc (Nat.le_refl _) _) | exact hm6)), (by have hszw := hbw.size; repeat (with_reducible first | refine Below.setCell ?_ (by first | omega | (simp <;> omega)) _ | refine Below.alloc ?_ (by first | omega | (simp <;> omega)) _ | refine Below.drew ?_ | refine below_drewN ?_ _ | exact hbw)), fun h => by have := hfr6 h; omega⟩
theorem dadd_any (w : World) (bd s bd' s' : Bool) (a a' : Option Addr) (n n' cap cap' : Nat) (e e' : Int) (d d' : Option (Int × Int)) (hx : DyIn w bd s a n cap e d) (hy : DyIn w bd' s' a' n' cap' e' d') (hT : Tab w) :
 Calls Tryz.prog 73 #[.agg #[.bool bd, .bool s, .slice a n cap, .int .i64 e], .agg #[.bool bd', .bool s', .slice a' n' cap', .int .i64 e']] w (RetDy w (dadd d d')) := by
 rcases d with _ | ⟨z, f⟩
 · exact dadd_bad w bd s bd' s' a a' n n' cap cap' e e' _ _ hx hy hT rfl
 · rcases d' with _ | ⟨z', f'⟩
   · exact dadd_bad w bd s bd' s' a a' n n' cap cap' e e' _ _ hx hy hT rfl
   · exact dadd_ok w bd s bd' s' a a' n n' cap cap' e e' z f z' f' hx hy hT
end Go.Proofs.YtablcbgeeeboeaaGreatDoor
namespace Go.Proofs.YtablcbgeeeboeaaGreatDoor
open Go.RowKit Sp
end Go.Proofs.YtablcbgeeeboeaaGreatDoor
namespace Go.Proofs.YtablcbgeeeboeaaGreatDoor
open Go.ChangeShapes Go.WideShapes Go.ChangeAt Go.RowKit Sp
structure Bls (w : World) (a : Option Addr) (n cap : Nat) (f : Nat → Bool) : Prop where
 fits : n ≤ cap
 lim : cap ≤ 9223372036854775807
 addr : 0 < n → a = some ⟨ab a, ao a, none⟩
 cell : ∀ i, i < n → w.cell? ⟨ab a, ao a + i, none⟩ = some (.bool (f i))
 old : 0 < n → ab a < w.heap.size
class BZ (W : World) (a : Option Addr) (n c : Nat) (f : outParam (Nat → Bool)) : Prop where out : Bls W a n c f
section
variable {W W' : World} {a : Option Addr} {n c : Nat} {f : Nat → Bool}
theorem Bls.below (h : Bls W a n c f) (hb : Below W.heap.size W W') : Bls W' a n c f :=
 ⟨h.fits, h.lim, h.addr, fun i hi => by rw [hb.cell (p := ⟨ab a, ao a + i, none⟩) (h.old (by omega))]; exact h.cell i hi, fun hn => Nat.lt_of_lt_of_le (h.old hn) hb.size⟩
instance BZ.dr [h : BZ W a n c f] : BZ W.drew a n c f := ⟨h.out.below (Below.refl _ _).drew⟩
instance BZ.dn (q : Nat) [h : BZ W a n c f] : BZ (W.drewN q) a n c f := ⟨h.out.below (below_drewN (Below.refl _ _) _)⟩
instance BZ.al (o : Obj) [h : BZ W a n c f] : BZ (W.alloc o) a n c f := ⟨h.out.below ((Below.refl _ _).alloc (Nat.le_refl _) _)⟩
instance BZ.fr (L : World) [k : From L W] [h : BZ L a n c f] : BZ W a n c f := ⟨h.out.below k.out⟩
end
theorem undBl : Tryz.prog.underlying 60 = some (.slice (Tryz.prog.elem 60)) := by kernel_rfl
theorem sizBl (w : World) : (Go.sizeOf (Tryz.prog.elem 60)).run Tryz.prog w = .ok 1 w := by kernel_rfl
theorem Bls.idx {w : World} {a : Option Addr} {n cap : Nat} {f : Nat → Bool} (h : Bls w a n cap f) (i : Nat) (hi : i < n) (W : World) :
 (Instr.indexAt 60 (.slice a n cap) (.int .i64 i)).run Tryz.prog W = .ok (.pointer (some ⟨ab a, ao a + i, none⟩)) W := by
 have ha := h.addr (by omega)
 generalize ab a = b at *
 generalize ao a = o at *
 subst ha
 rw [run_indexAt_slice _ _ _ _ _ _ _ undBl, if_pos ⟨by omega, by omega⟩, sizBl]
 simp only [Result.andThen, Int.toNat_natCast, Nat.mul_one, Addr.add_lit]
theorem cellsB1 : Tryz.prog.cellsOf 4 = 1 := by kernel_rfl
theorem readBools : Tryz.prog.readableRec 60 = true := by kernel_rfl
theorem rowBools : 60 < Tryz.prog.types.size := of_decide_eq_true (by kernel_rfl)
theorem bools_open {H : Type} {enc : TypeId × Value → H} {W : World} {base : Nat} {sp : Nat → Bool} {hd : Bool} {r : Reach} {b0 : Nat} {v : Value} {d : DataW H} {p : List MemPlace} (hsp : ∀ b, sp b = true)
 (hv : Value.okWide Tryz.prog W r b0 60 v) (h : DataW.Trod enc Tryz.prog W base sp hd 60 v d p) :
 ∃ (a : Option Addr) (n cap : Nat) (f : Nat → Bool), v = .slice a n cap ∧ Bls W a n cap f := by
 obtain rfl : sp = fun _ => true := funext hsp
 obtain ⟨a0, n0, c0, rfl⟩ := okWide_slice Tryz.underlying60 hv
 obtain ⟨fuel, hf⟩ := h
 rcases Go.Deep.open_bools Tryz.underlying60 Tryz.underlying4 cellsB1 hf with ⟨hcs, _⟩ | ⟨a, len, cap, B, hcs, _, hle, hmax, _, hall⟩
 · simp [Value.cells] at hcs
   obtain ⟨rfl, rfl, rfl⟩ := hcs
   exact ⟨none, 0, 0, fun _ => false, rfl, ⟨by omega, by omega, by omega, fun i hi => by omega, by omega⟩⟩
 · simp [Value.cells] at hcs
   obtain ⟨rfl, rfl, rfl⟩ := hcs
   have hspot : 0 < n0 → a.spot = none := fun h0 => by
    obtain ⟨_, _, _, _, hs⟩ := World.shape?_of_cell? (hall 0 (by omega))
    exact hs
   obtain ⟨b, o, q⟩ := a
   refine ⟨_, _, _, B, rfl, ⟨hle, by unfold maxLen at hmax; omega, fun h0 => ?_, fun i hi => ?_, fun h0 => ?_⟩⟩
   · have hq : q = none := hspot h0
     subst hq; rfl
   · have hq : q = none := hspot (by omega)
     subst hq
     have h1 := hall i (by omega)
     rw [Addr.add_lit] at h1
     exact h1
   · exact lt_of_cell2 (hall 0 (by omega))
end Go.Proofs.YtablcbgeeeboeaaGreatDoor
namespace Go.Proofs.YtablcbgeeeboeaaGreatDoor
open Go.RowKit Sp
theorem infI : (Tryz.prog.info? 3).map (fun i => (i.zero, i.size, i.bytes)) = some (some (.int .i64 0), 1, 8) := by kernel_rfl
theorem undIe : Tryz.prog.underlying 62 = some (.slice 3) := by kernel_rfl
theorem app_int2 {ops : Array Oper} {rest : List Oper} {o : Oper} {a : Act} {Q : Exit → Act → World → Prop} {w : World} (hgd : o.guard = none) (s x : Operand)
 (ho : o.op = .call { callee := .builtin .append, args := #[s, x], argTypes := #[62, 62] }) (base : Nat) (v : Value) (n : Nat) (xs : List Value) (hs : a.eval s = v) (g : Nat) (d : Int)
 (hx : a.eval x = .slice (some ⟨g, 0, none⟩) 1 1) (hown : w.ownsRow base 3 1 v n xs) (hcell : w.cell? ⟨g, 0, none⟩ = some (.int .i64 d)) (hn : n ≤ 4398046511104)
 (hbase : base ≤ w.heap.size) (h : ∀ v' w', w'.ownsRow base 3 1 v' (n + 1) (xs ++ [.int .i64 d]) → w.grownBy w' v.ownBlock → (v'.ownBlock = v.ownBlock ∨ v'.ownBlock = some w.heap.size) → wpList Tryz.prog ops Q rest (a.put o.dst v') w') : wpList Tryz.prog ops Q (o :: rest) a w := by
 obtain ⟨i0, hi, hz0, hz1, hz2⟩ := info_parts infI
 refine wpList_append_own_at w hgd s x _ ho base _ i0 (.int .i64 0) 1 8 undIe hi hz0 hz1 hz2 rfl (by decide) v n _ hs hown ⟨g, 0, none⟩ 1 1 [.int .i64 d] hx rfl ?_ ?_ ?_ ?_ hbase ?_
 · intro j u hu
   have : j = 0 := by
    rcases Nat.eq_zero_or_pos j with h | h
    · exact h
    · rw [List.getElem?_eq_none (by simp; omega)] at hu; cases hu
   subst this
   simp at hu; subst hu
   rw [Addr.add_zero']; exact hcell
 · intro u hu; simp at hu; subst hu; rfl
 · unfold maxLen; omega
 · omega
 · intro v' w' h1 h2 _ h4
   exact h v' w' h1 h2 h4
theorem own_cell {w : World} {base : Nat} {v : Value} {k : Nat} {xs : List Value} (h : w.ownsRow base 3 1 v k xs) :
 (k = 0 ∧ v = .slice none 0 0) ∨ ∃ g cap, v = .slice (some ⟨g, 0, none⟩) k cap ∧ base ≤ g ∧ g < w.heap.size ∧ k ≤ cap ∧ cap ≤ 9223372036854775807 ∧ ∀ j, j < k → w.cell? ⟨g, j, none⟩ = xs[j]? := by
 rcases h.2 with ⟨hv, hk⟩ | ⟨g, cap, cur, hv, hbg, hgg, hkc, hcm, hcs, htake⟩
 · left; exact ⟨hk, hv⟩
 · right
   have ho := h
   rw [hv] at ho
   exact ⟨g, cap, hv, hbg, (Array.getElem?_eq_some_iff.1 hgg).1, hkc, by unfold maxLen at hcm; omega, fun j hj => ho.cellAt j (by omega)⟩
end Go.Proofs.YtablcbgeeeboeaaGreatDoor
namespace Go.Proofs.YtablcbgeeeboeaaGreatDoor
open Go.RowKit Sp
theorem icells_get {l : List Nat} {j x : Nat} (h : l[j]? = some x) : (icells l)[j]? = some (.int .i64 (x : Int)) := by unfold icells; rw [List.getElem?_map, h]; rfl
theorem icells_app (l m : List Nat) : icells (l ++ m) = icells l ++ icells m := List.map_append
attribute [local irreducible] Calls
end Go.Proofs.YtablcbgeeeboeaaGreatDoor
namespace Go.Proofs.YtablcbgeeeboeaaGreatDoor
open Go.RowKit Sp
section
variable {P : Program} {ops : Array Oper} {Q : Exit → Act → World → Prop} {md : Region.Mode} {T : World → Prop} {last : List Nat}
theorem stj2 {fuel : Nat} {l : Array Bool} {a : Act} {w : World} (i j : Nat) {o o' : Oper} (ho : ops[i]? = some o := by rfl) (ho' : ops[j]? = some o' := by rfl) (hr : Region.ready md ops l = [i, j] := by kernel_rfl)
 (h : ∀ K : Act → World → Prop, Shut (∀ a' w', (i ∈ last ∨ T w') → wpAnyJ P md ops Q T last fuel (l.setIfInBounds i true) a' w' → K a' w') →
  if Region.wanted o (yielded ops a.tmps) = true then Oper.wp P o a w K Q else K (a.put o.dst undef) w)
 (h' : ∀ K : Act → World → Prop, Shut (∀ a' w', (j ∈ last ∨ T w') → wpAnyJ P md ops Q T last fuel (l.setIfInBounds j true) a' w' → K a' w') →
  if Region.wanted o' (yielded ops a.tmps) = true then Oper.wp P o' a w K Q else K (a.put o'.dst undef) w) : wpAnyJ P md ops Q T last (fuel + 1) l a w := by
 refine ⟨fun h0 => (by rw [hr] at h0; cases h0), fun x hx => ?_⟩
 rw [hr] at hx
 have hx2 : x = i ∨ x = j := by simpa using hx
 rcases hx2 with rfl | rfl
 · exact wpOp_step ho fun K hK => h K fun a' w' h1 h2 => hK a' w' ⟨h1, h2⟩
 · exact wpOp_step ho' fun K hK => h' K fun a' w' h1 h2 => hK a' w' ⟨h1, h2⟩
end
end Go.Proofs.YtablcbgeeeboeaaGreatDoor
namespace Go.Proofs.YtablcbgeeeboeaaGreatDoor
open Go.RowKit Sp
attribute [local irreducible] Calls
theorem rcheck_any_sz (w : World) (r c : Int) (a : Option Addr) (n cap : Nat) (L : Nat → El) (hL : Dys w a n cap L) (hE : szE r c n ≠ 0) :
 Calls Tryz.prog 28 #[.agg #[.int .i64 r, .int .i64 c, .slice a n cap]] w fun o w' => o = .returned (.int .i64 (szE r c n)) ∧ Below w.heap.size w w' := by
 have l1 := hL.lim
 have l2 := hL.fits
 have HS := fun W => Lib.hid (frw (rshape_any W r c n))
 generalize szE r c n = E at *
 clear hL
 go_enter Tryz.func28, Tryz.ntmps28
 go_wp2_with fail
 refine (HS _).out.mono ?_; rintro o w2 ⟨rfl, b2⟩
 go_wp2_with fail
 go_ret
 exact ⟨rfl, zbh⟩
theorem rcheck_any (w : World) (hT : Tab w) (r c : Int) (a : Option Addr) (n cap : Nat) (L : Nat → El) (hL : Dys w a n cap L) (hB : ElB L n) :
 Calls Tryz.prog 28 #[.agg #[.int .i64 r, .int .i64 c, .slice a n cap]] w fun o w' => o = .returned (.int .i64 (chkE r c n (anyBad (fun i => (L i).d) n))) ∧ Below w.heap.size w w' := by
 by_cases hE : szE r c n = 0
 · unfold chkE
   rw [if_pos hE]
   have l1 := hL.lim
   have l2 := hL.fits
   have hb := hL.b
   have HS := fun W => Lib.hid (frw (rshape_any W r c n))
   rw [hE] at HS
   have HV := fun k (hk : k < n) W [i : BI W (L k).a (L k).n (L k).p (L k).x] [Tb W] => Lib.hid (frm (rvalid_any W (L k).bd (L k).s (L k).a (L k).n (L k).p (L k).e _ ⟨⟨_, i.out, by have := (hB k hk).1; omega, (hB k hk).2, (hb k hk).1, (hb k hk).2, rfl⟩, (hB k hk).1⟩ tb))
   haveI HT : Tb w := ⟨hT⟩
   have HD := Lib.hid hL
   obtain ⟨D, hD⟩ : ∃ D, D = fun i => (L i).d := ⟨_, rfl⟩
   have hDk : ∀ k, nrmB (L k).bd (sgn (L k).s (L k).x) (L k).e = D k := fun k => by rw [hD]; rfl
   rw [← hD]
   simp only [hDk] at HV
   obtain ⟨E, hE1⟩ : ∃ E : Int, E = (if anyBad D n then 4 else 0) := ⟨_, rfl⟩
   rw [← hE1]
   have HE := Lib.hid hE1
   clear hE1
   clear hL hE hB hb hD hDk
   go_enter Tryz.func28, Tryz.ntmps28
   go_wp2_with fail
   refine (HS _).out.mono ?_; rintro o w2 ⟨rfl, b2⟩
   go_wp2_with fail
   have hw2 := Lib.hid (show Beh w w2 from inferInstance)
   go_loopw [4] (fun i wr => ∃ k : Nat, k ≤ n ∧ i = .int .i64 k ∧ anyBad D k = false ∧ Below w2.heap.size w2 wr) (fun i _ => n - (intOf i).toNat)
   case atStart => exact ⟨0, by omega, rfl, rfl, Below.refl _ _⟩
   case round =>
    obtain ⟨k, hk, rfl, hz, hbr⟩ := hrel
    haveI bw : From w2 wr := ⟨hbr⟩
    have hs := hbr.size
    have HZ := Lib.hid hz
    clear hbr hz
    by_cases hlt : k < n
    · have hLr := HD.out.below (w' := wr) zbh
      obtain ⟨z0, z1, z2, z3⟩ := hLr.ce hlt
      haveI zm : BI wr (L k).a (L k).n (L k).p (L k).x := ⟨hLr.m k hlt⟩
      have zi := hLr.idx k hlt
      have HVk := HV k hlt
      have HDk := Lib.hid (show dbad (D k) = dbad (D k) from rfl)
      clear hLr HV
      obtain ⟨v, hv⟩ : ∃ v, v = dbad (D k) := ⟨_, rfl⟩
      rw [← hv] at HVk
      have HVV := Lib.hid hv
      clear hv
      cases v with
      | false =>
       go_wp2_with fail
       refine (HVk _).out.mono ?_; rintro o w3 ⟨rfl, b3⟩
       go_wp2_with fail
       go_roundw
       case rel => exact ⟨k + 1, by omega, by go_num, by show (anyBad D k || dbad (D k)) = false; rw [HZ.out, ← HVV.out]; rfl, zbh⟩
       case measure => simp [intOf]; omega
      | true =>
       have e4 := Lib.hid (anyBad_step hlt HVV.out.symm)
       go_wp2_with fail
       refine (HVk _).out.mono ?_; rintro o w3 ⟨rfl, b3⟩
       go_wp2_with fail
       go_ret
       exact ⟨by rw [HE.out, e4.out]; rfl, zbh⟩
    · obtain rfl : k = n := by omega
      go_wp2_with fail
      go_ret
      exact ⟨by rw [HE.out, HZ.out]; rfl, zbh⟩
 · unfold chkE
   rw [if_neg hE]
   exact rcheck_any_sz w r c a n cap L hL hE
end Go.Proofs.YtablcbgeeeboeaaGreatDoor
namespace Go.Proofs.YtablcbgeeeboeaaGreatDoor
open Go.RowKit Sp
section
variable {W W' : World} {a : Option Addr} {n c : Nat} {d d' : Nat → Option (Int × Int)}
theorem dz_nil (W : World) (d : Nat → Option (Int × Int)) : Dz W none 0 0 d :=
 ⟨⟨fun _ => none, fun _ => 0, ⟨by omega, by omega, by omega, fun i hi => by omega, fun i hi => by omega, fun i hi => by omega, fun i hi => by omega, fun i hi => by omega, fun i hi => by omega, by omega⟩⟩, fun i hi => by omega⟩
end
attribute [local irreducible] Calls
theorem gsameb_any (w : World) [Tb w] (r s : Int) (a a' : Option Addr) (n c c' : Nat) (d : Nat → Option (Int × Int)) [hx : DZ w a n c d] [hy : DZ w a' n c' d] :
 Calls Tryz.prog 16 #[.agg #[.int .i64 r, .int .i64 s, .slice a n c], .agg #[.int .i64 r, .int .i64 s, .slice a' n c']] w fun o w' => o = .returned (.bool true) ∧ Below w.heap.size w w' := by
 have l1 := hx.out.fits
 have l2 := hy.out.fits
 have HN := hx.out.N
 have HS := fun k (hk : k < n) W p q p' q' [Tb W] [i : BI W p (nl (dman (d k)).natAbs) q (dman (d k)).natAbs] [j : BI W p' (nl (dman (d k)).natAbs) q' (dman (d k)).natAbs] => Lib.hid (by
  haveI i1 : DS W (dbad (d k)) (decide (dman (d k) < 0)) p (nl (dman (d k)).natAbs) q (dexp (d k)) (d k) := ⟨dys_of (HN k hk) i.out⟩
  haveI i2 : DS W (dbad (d k)) (decide (dman (d k) < 0)) p' (nl (dman (d k)).natAbs) q' (dexp (d k)) (d k) := ⟨dys_of (HN k hk) j.out⟩
  exact frm (gsame_any W (dbad (d k)) (decide (dman (d k) < 0)) (dbad (d k)) (decide (dman (d k) < 0)) p p' (nl (dman (d k)).natAbs) (nl (dman (d k)).natAbs) q q' (dexp (d k)) (dexp (d k)) (d k) (d k) true (by simp)))
 clear HN
 go_enter Tryz.func16, Tryz.ntmps16
 go_wp2_with fail
 have hw2 := Lib.hid (show Beh w ((w.alloc (.cells #[.int .i64 r, .int .i64 s, .slice a n c] 25)).alloc (.cells #[.int .i64 r, .int .i64 s, .slice a' n c'] 25)) from inferInstance)
 have n1 : N3 ((w.alloc (.cells #[.int .i64 r, .int .i64 s, .slice a n c] 25)).alloc (.cells #[.int .i64 r, .int .i64 s, .slice a' n c'] 25)) w.heap.size (.int .i64 r) (.int .i64 s) (.slice a n c) := inferInstance
 have n2 : N3 ((w.alloc (.cells #[.int .i64 r, .int .i64 s, .slice a n c] 25)).alloc (.cells #[.int .i64 r, .int .i64 s, .slice a' n c'] 25)) (w.heap.size + 1) (.int .i64 r) (.int .i64 s) (.slice a' n c') := inferInstance
 haveI t2 : Tb ((w.alloc (.cells #[.int .i64 r, .int .i64 s, .slice a n c] 25)).alloc (.cells #[.int .i64 r, .int .i64 s, .slice a' n c'] 25)) := inferInstance
 haveI x2 : DZ ((w.alloc (.cells #[.int .i64 r, .int .i64 s, .slice a n c] 25)).alloc (.cells #[.int .i64 r, .int .i64 s, .slice a' n c'] 25)) a n c d := inferInstance
 haveI y2 : DZ ((w.alloc (.cells #[.int .i64 r, .int .i64 s, .slice a n c] 25)).alloc (.cells #[.int .i64 r, .int .i64 s, .slice a' n c'] 25)) a' n c' d := inferInstance
 generalize ((w.alloc (.cells #[.int .i64 r, .int .i64 s, .slice a n c] 25)).alloc (.cells #[.int .i64 r, .int .i64 s, .slice a' n c'] 25)) = w2 at *
 haveI b2 : Beh w w2 := hw2.out
 go_loopw [5] (fun i wr => ∃ k : Nat, k ≤ n ∧ i = .int .i64 k ∧ Below w2.heap.size w2 wr) (fun i _ => n - (intOf i).toNat)
 case atStart => exact ⟨0, by omega, rfl, Below.refl _ _⟩
 case round =>
  obtain ⟨k, hk, rfl, hbr⟩ := hrel
  haveI bw : From w2 wr := ⟨hbr⟩
  have hs := hbr.size
  clear hbr
  by_cases hlt : k < n
  · obtain ⟨p1, q1, z0, z1, z2, z3, z4⟩ := (inferInstance : DZ wr a n c d).out.el hlt
    obtain ⟨p2, q2, y0, y1, y2, y3, y4⟩ := (inferInstance : DZ wr a' n c' d).out.el hlt
    have i1 := (inferInstance : DZ wr a n c d).out.idx k hlt
    have i2 := (inferInstance : DZ wr a' n c' d).out.idx k hlt
    have HSk := HS k hlt
    go_wp2_with fail
    first
    | go_region_held3 (fun w' => w'.cell? ⟨w.heap.size, 2, none⟩ = some (.slice a n c) ∧ w'.cell? ⟨w.heap.size + 1, 2, none⟩ = some (.slice a' n c') ∧ w'.cell? ⟨ab a, ao a + k * 4, none⟩ = some (.bool (dbad (d k))) ∧ w'.cell? ⟨ab a, ao a + k * 4 + 1, none⟩ = some (.bool (decide (dman (d k) < 0))) ∧ w'.cell? ⟨ab a, ao a + k * 4 + 2, none⟩ = some (.slice p1 (nl (dman (d k)).natAbs) q1) ∧ w'.cell? ⟨ab a, ao a + k * 4 + 3, none⟩ = some (.int .i64 (dexp (d k))) ∧ w'.cell? ⟨ab a', ao a' + k * 4, none⟩ = some (.bool (dbad (d k))) ∧ w'.cell? ⟨ab a', ao a' + k * 4 + 1, none⟩ = some (.bool (decide (dman (d k) < 0))) ∧ w'.cell? ⟨ab a', ao a' + k * 4 + 2, none⟩ = some (.slice p2 (nl (dman (d k)).natAbs) q2) ∧ w'.cell? ⟨ab a', ao a' + k * 4 + 3, none⟩ = some (.int .i64 (dexp (d k)))) (first | (go_simp; done))
     (first
      | (go_at_call 24; refine (HSk _ _ _ _ _).out.mono ?_; rintro o w3 ⟨rfl, b3⟩)
      | fail)
    | fail "region"
    all_goals (
     go_wp2_with fail
     go_roundw
     case rel => exact ⟨k + 1, by omega, by go_num, zbh⟩
     case measure => simp [intOf]; omega)
  · obtain rfl : k = n := by omega
    go_wp2_with fail
    go_ret
    exact ⟨rfl, zbh⟩
end Go.Proofs.YtablcbgeeeboeaaGreatDoor
namespace Go.Proofs.YtablcbgeeeboeaaGreatDoor
open Go.RowKit Sp
theorem fof_up {X : Nat → Nat} {k y : Nat} : (fun i => if i = k then fof y else fof (X i)) = fun i => fof (if i = k then y else X i) := by funext i; split <;> rfl
theorem fin_zero : Fin' fun _ => 0 := fun _ => ⟨by show 0 < 18446744073709551616; omega, by show ffin 0 = true; decide⟩
attribute [local irreducible] Calls
theorem gblock_any (w : World) [Tb w] (a : Option Addr) (n cap : Nat) (L : Nat → Nat) [hL : FZ w a n cap L] (r c : Nat) (hr : r ≤ 64) (hc : c ≤ 64) (s : Int) :
 Calls Tryz.prog 31 #[.slice a n cap, .int .i64 r, .int .i64 c, .int .i64 s] w fun o w' => ∃ oa oc X, o = .returned (.agg #[.int .i64 r, .int .i64 c, .slice oa (r * c) oc]) ∧ DN w w' oa (r * c) oc (fun i => fof (X i)) ∧ Fin' X ∧ Below w.heap.size w w' := by
 have HW := fun W k (h0 : 0 ≤ k) (hk : k ≤ 1000000) [i : FZ W a n cap L] => Lib.hid (frWd (gword_any W a n cap L i.out k h0 hk))
 have HN := fun W x (hx : x < 18446744073709551616) [Tb W] => Lib.hid (frNu (gnum_any W x hx s tb))
 have HO := fun W y (hy : y < 18446744073709551616) [Tb W] => Lib.hid (frF (r3of_any W y hy tb))
 have hN : ((r : Nat) : Int) * (c : Nat) = ((r * c : Nat) : Int) := (Int.natCast_mul r c).symm
 have hN2 : r * c ≤ 4096 := Nat.mul_le_mul hr hc
 obtain ⟨N, hNe⟩ : ∃ N, N = r * c := ⟨_, rfl⟩
 rw [← hNe] at hN hN2 ⊢
 have hwr : wrap64 ((r : Int) * (c : Int)) = (N : Int) := by rw [hN]; unfold wrap64; omega
 clear hNe
 go_enter Tryz.func31, Tryz.ntmps31
 go_wp2_with fail
 go_loopw [10] (fun i wr => ∃ (k : Nat) (v : Value) (X : Nat → Nat) (A : Nat → Option Addr) (C : Nat → Nat), k ≤ N ∧ i = .int .i64 k ∧ Fin' X ∧ DM wr (w.heap.size + 2) v k (fun i => fof (X i)) A C ∧ N3 wr (w.heap.size + 1) (.int .i64 r) (.int .i64 c) v ∧ N3 wr w.heap.size (.int .i64 0) (.int .i64 0) (.slice none 0 0) ∧ Below w.heap.size w wr ∧ w.heap.size + 2 ≤ wr.heap.size) (fun i _ => N - (intOf i).toNat)
 case atStart => exact ⟨0, .slice none 0 0, fun _ => 0, _, _, by omega, rfl, fin_zero, DM.nil _ _ _, inferInstance, inferInstance, zbh, by simp⟩
 case round =>
  obtain ⟨k, v, X, A, C, hk, rfl, hF, iM, iB, iR, hbr, hsz⟩ := hrel
  haveI bw : From w wr := ⟨hbr⟩
  by_cases hlt : k < N
  · have hw3 : IntKind.i64.wrap (300 + (k : Int)) = 300 + (k : Int) := by rw [IntKind.wrap_i64]; omega
    go_wp2_with fail
    first
    | go_region_law (first
     | (refine step_app_dyad (by rfl) _ _ (by rfl) (w.heap.size + 2) v k (dcells (mcell (fun i => fof (X i)) A C) k) (by rfl) _ (dbad (fof y)) (decide (dman (fof y) < 0)) (.slice a3 (nl (dman (fof y)).natAbs) c3) (dexp (fof y)) (by rfl) (by rfl) (inferInstance : DM (w3.alloc (.cells #[.bool (dbad (fof y)), .bool (decide (dman (fof y) < 0)), .slice a3 (nl (dman (fof y)).natAbs) c3, .int .i64 (dexp (fof y))] 46)) (w.heap.size + 2) v k (fun i => fof (X i)) A C).out.own (by go_simp) (by go_simp) (by go_simp) (by go_simp) (by omega) (by have e1 := b1.out.size; have e2 := b2.out.size; have e3 := b3.out.size; simp at e1 e2 e3 ⊢; omega) ?_; intro g4 cap4 w4 hown4 hg4 hob4; have DM4 : Hid (DM (w3.alloc (.cells #[.bool (dbad (fof y)), .bool (decide (dman (fof y) < 0)), .slice a3 (nl (dman (fof y)).natAbs) c3, .int .i64 (dexp (fof y))] 46)) (w.heap.size + 2) v k (fun i => fof (X i)) A C) := (inferInstance : DM (w3.alloc (.cells #[.bool (dbad (fof y)), .bool (decide (dman (fof y) < 0)), .slice a3 (nl (dman (fof y)).natAbs) c3, .int .i64 (dexp (fof y))] 46)) (w.heap.size + 2) v k (fun i => fof (X i)) A C); haveI iB4 : N3 w4 (w.heap.size + 1) (.int .i64 r) (.int .i64 c) v := N3.own (inferInstance : N3 (w3.alloc (.cells #[.bool (dbad (fof y)), .bool (decide (dman (fof y) < 0)), .slice a3 (nl (dman (fof y)).natAbs) c3, .int .i64 (dexp (fof y))] 46)) (w.heap.size + 1) (.int .i64 r) (.int .i64 c) v) DM4.out (by omega) hg4; haveI iR4 : N3 w4 w.heap.size (.int .i64 0) (.int .i64 0) (.slice none 0 0) := N3.own (inferInstance : N3 (w3.alloc (.cells #[.bool (dbad (fof y)), .bool (decide (dman (fof y) < 0)), .slice a3 (nl (dman (fof y)).natAbs) c3, .int .i64 (dexp (fof y))] 46)) w.heap.size (.int .i64 0) (.int .i64 0) (.slice none 0 0)) DM4.out (by omega) hg4)
     | (go_simp; go_wp2_with (first
      | (go_at_call 26; refine (HW _ (300 + (k : Int)) (by omega) (by omega)).out.mono ?_; rintro o w1 ⟨x, hx, rfl, b1⟩)
      | (go_at_call 25; refine (HN _ x hx).out.mono ?_; rintro o w2 ⟨y, ⟨hy1, hy2, _⟩, rfl, b2⟩)
      | (go_at_call 20; refine (HO _ y hy1).out.mono ?_; rintro o w3 ⟨a3, c3, rfl, i3, b3, f3⟩)
      | fail))
     | fail)
    | fail "region"
    all_goals (
     have e1 := b1.out.size
     have e2 := b2.out.size
     have e3 := b3.out.size
     have e4 := hg4.size
     simp at e1 e2 e3 e4
     have hf : 0 < nl (dman (fof y)).natAbs → w.heap.size + 2 ≤ ab a3 := fun h => by have := f3 h; omega
     have hne : 0 < nl (dman (fof y)).natAbs → some (ab a3) ≠ v.ownBlock := fun h q => by have h1 := (iM.out.own.lt _ q.symm).2; have h2 := f3 h; omega
     have DM5 := DM4.out.app hown4 hg4 hob4 (i3.out.alloc _) hf hne
     rw [fof_up] at DM5
     have B4 : Below w.heap.size w w4 := Below.trans (show Below w.heap.size w (w3.alloc (.cells #[.bool (dbad (fof y)), .bool (decide (dman (fof y) < 0)), .slice a3 (nl (dman (fof y)).natAbs) c3, .int .i64 (dexp (fof y))] 46)) from zbh) ((below_grown DM4.out.out.own hg4 (by simp; omega)).mono (by omega))
     haveI f4 : From w w4 := ⟨B4⟩
     have DM6 := DM5.sen (show w.heap.size + 1 < w.heap.size + 2 by omega) 2 (.slice (some ⟨g4, 0, none⟩) (k + 1) cap4)
     have iB5 := iB4.se2 (.slice (some ⟨g4, 0, none⟩) (k + 1) cap4)
     have iR5 := N3.sen iR4 (show w.heap.size ≠ w.heap.size + 1 by omega) 2 (.slice (some ⟨g4, 0, none⟩) (k + 1) cap4)
     have B5 : Below w.heap.size w (w4.setCell ⟨w.heap.size + 1, 2, none⟩ (.slice (some ⟨g4, 0, none⟩) (k + 1) cap4)) := B4.setCell (by simp) _
     have hs5 : w.heap.size + 2 ≤ (w4.setCell ⟨w.heap.size + 1, 2, none⟩ (.slice (some ⟨g4, 0, none⟩) (k + 1) cap4)).heap.size := by rw [World.size_setCell]; omega
     have HX5 := hF.up (k := k) hy1 hy2
     generalize (w4.setCell ⟨w.heap.size + 1, 2, none⟩ (.slice (some ⟨g4, 0, none⟩) (k + 1) cap4)) = w5 at *
     clear DM4 DM5 hown4 hg4 hob4 iB4 iR4 hf hne
     go_wp2_with fail
     go_roundw
     case rel => exact ⟨k + 1, _, _, _, _, by omega, by go_num, HX5, DM6, iB5, iR5, B5, hs5⟩
     case measure => simp [intOf]; omega)
  · obtain rfl : k = N := by omega
    obtain ⟨oa, oc, rfl, hZ⟩ := iM.out.dz (fun i => isN_fof _)
    clear hZ
    have hl : w.heap.size < w.heap.size + 2 := by omega
    have M6 := ((iM.sen hl 0 (.int .i64 r)).sen hl 1 (.int .i64 c)).sen hl 2 (.slice oa k oc)
    go_wp2_with fail
    refine bodyPost_ret (v := .agg #[.int .i64 r, .int .i64 c, .slice oa k oc]) (by simp only [results, Tryz.results31]; go_simp) rfl ?_
    exact ⟨_, _, X, rfl, ⟨_, _, M6.mono (by omega)⟩, hF, zbh⟩
end Go.Proofs.YtablcbgeeeboeaaGreatDoor
namespace Go.Proofs.YtablcbgeeeboeaaGreatDoor
open Go.RowKit Sp
theorem own_ils {w : World} {base : Nat} {v : Value} {l : List Nat} {n : Nat} (h : w.ownsRow base 3 1 v l.length (icells l)) (hl : l.length = n) : ∃ a cap, v = .slice a n cap ∧ Ils w a n cap (fun t => ((l.getD t 0 : Nat) : Int)) := by
 subst hl
 rcases own_cell h with ⟨h0, rfl⟩ | ⟨g, cap, rfl, hb, hg, hc, hm, hcell⟩
 · rw [h0]; exact ⟨none, 0, rfl, ⟨by omega, by omega, by omega, fun i hi => by omega, by omega⟩⟩
 · exact ⟨_, cap, rfl, ⟨hc, hm, fun _ => rfl, fun i hi => by
    show w.cell? ⟨g, 0 + i, none⟩ = _
    rw [Nat.zero_add]
    refine (hcell i hi).trans (icells_get ?_)
    rw [List.getD_eq_getElem?_getD, List.getElem?_eq_getElem hi]; rfl, fun _ => hg⟩⟩
end Go.Proofs.YtablcbgeeeboeaaGreatDoor
namespace Go.Proofs.YtablcbgeeeboeaaGreatDoor
open Go.RowKit Sp
theorem step_app_u32 {P : Program} {ops : Array Oper} {o : Oper} {a : Act} {K : Act → World → Prop} {Q : Exit → Act → World → Prop} {w : World} {E : Prop} (t e : TypeId)
 (hP : (P.info? e).map (fun i => (i.zero, i.size, i.bytes)) = some (some (.int .u32 0), 1, 4)) (ht : P.underlying t = some (.slice e)) (hgd : o.guard = none) (s x : Operand)
 (ho : o.op = .call { callee := .builtin .append, args := #[s, x], argTypes := #[t, t] }) (base : Nat) (v : Value) (n z : Nat) (hs : a.eval s = v) (g : Nat) (d : Int)
 (hx : a.eval x = .slice (some ⟨g, 0, none⟩) 1 1) (hown : w.ownsRow base e 1 v n (digs z n)) (hcell : w.cell? ⟨g, 0, none⟩ = some (.int .u32 d)) (hd : d = dig z n) (hn : n ≤ 4398046511104)
 (hbase : base ≤ w.heap.size) (h : ∀ v' w', w'.ownsRow base e 1 v' (n + 1) (digs z (n + 1)) → Below base w w' → K (a.put o.dst v') w') :
 if Region.wanted o (yielded ops a.tmps) = true then Oper.wp P o a w K Q else E := by
 have hw : Region.wanted o (yielded ops a.tmps) = true := by simp [Region.wanted, hgd]
 rw [if_pos hw]
 obtain ⟨i0, hi, hz0, hz1, hz2⟩ := info_parts hP
 refine wp_append_own w s x t ho base e i0 (.int .u32 0) 1 4 ht hi hz0 hz1 hz2 rfl (by decide) v n _ hs hown ⟨g, 0, none⟩ 1 1 [.int .u32 d] hx rfl ?_ ?_ ?_ ?_ hbase ?_
 · intro j u hu
   have : j = 0 := by
    rcases Nat.eq_zero_or_pos j with h | h
    · exact h
    · rw [List.getElem?_eq_none (by simp; omega)] at hu; cases hu
   subst this
   simp at hu; subst hu
   rw [Addr.add_zero']; exact hcell
 · intro u hu; simp at hu; subst hu; rfl
 · unfold maxLen; omega
 · omega
 · intro v' w' h1 h2 _
   refine h v' w' ?_ (below_of_owns hown h2 hbase)
   rw [digs_succ, ← hd]; exact h1
theorem own_slice {w : World} {base : Nat} {e : TypeId} {size : Nat} {v : Value} {n : Nat} {xs : List Value} (h : w.ownsRow base e size v n xs) : ∃ a c, v = .slice a n c := by
 rcases h.2 with ⟨rfl, rfl⟩ | ⟨g, cap, cur, rfl, _⟩
 · exact ⟨none, 0, rfl⟩
 · exact ⟨_, _, rfl⟩
theorem BgV.belowB {W W' : World} {b N : Nat} {s : Bool} {sl : Value} (h : BgV W b s sl) (hb : Below N W W') (hN : b < N) : BgV W' b s sl := by
 obtain ⟨c0, c1, c2, c3⟩ := h
 obtain ⟨k0, k1⟩ := bcell hb
 exact ⟨by rw [k0 b 0 hN]; exact c0, by rw [k0 b 1 hN]; exact c1, fun i => by rw [k1 b i hN]; exact c2 i, Nat.lt_of_lt_of_le c3 hb.size⟩
theorem ktwinB_any (w : World) (s : Bool) (a : Option Addr) (n cap x : Nat) (hx : Mag w a n cap x) (hlim : n ≤ 1099511627776) :
 Calls Tryz.prog 118 #[.agg #[.bool s, .slice a n cap]] w fun o w' => ∃ a1 c1, o = .returned (.agg #[.bool s, .slice a1 n c1]) ∧ Mag w' a1 n c1 x ∧ Below w.heap.size w w' ∧ (0 < n → w.heap.size ≤ ab a1) := by
 have l1 := hx.lim
 have l2 := hx.fits
 have HX := Lib.hid hx
 clear hx
 go_enter Tryz.func118, Tryz.ntmps118
 go_wp2_with fail
 have Ip := (((BgV.made' w 44 s (.slice a n cap) (n := w.heap.size) (by rfl)).alloc (.cells #[.bool false, (.slice none 0 0)] 44)).alloc (.cells #[.bool s, (.slice none 0 0)] 44))
 have Ir := ((BgV.made' (w.alloc (.cells #[.bool s, (.slice a n cap)] 44)) 44 false (.slice none 0 0) (n := w.heap.size + 1) (by rw [World.size_alloc])).alloc (.cells #[.bool s, (.slice none 0 0)] 44))
 have Io := (BgV.made' ((w.alloc (.cells #[.bool s, (.slice a n cap)] 44)).alloc (.cells #[.bool false, (.slice none 0 0)] 44)) 44 s (.slice none 0 0) (n := w.heap.size + 1 + 1) (by rw [World.size_alloc, World.size_alloc]))
 have B0 : Below w.heap.size w (((w.alloc (.cells #[.bool s, (.slice a n cap)] 44)).alloc (.cells #[.bool false, (.slice none 0 0)] 44)).alloc (.cells #[.bool s, (.slice none 0 0)] 44)) := (by repeat (with_reducible first | refine Below.setCell ?_ (by simp <;> omega) _ | refine Below.alloc ?_ (by simp <;> omega) _ | refine Below.drew ?_ | refine below_drewN ?_ _ | exact Below.refl _ _))
 have npr : ¬ w.heap.size = w.heap.size + 1 := by omega
 have npo : ¬ w.heap.size = w.heap.size + 1 + 1 := by omega
 have nrp : ¬ w.heap.size + 1 = w.heap.size := by omega
 have nro : ¬ w.heap.size + 1 = w.heap.size + 1 + 1 := by omega
 have nop : ¬ w.heap.size + 1 + 1 = w.heap.size := by omega
 have nor : ¬ w.heap.size + 1 + 1 = w.heap.size + 1 := by omega
 generalize (((w.alloc (.cells #[.bool s, (.slice a n cap)] 44)).alloc (.cells #[.bool false, (.slice none 0 0)] 44)).alloc (.cells #[.bool s, (.slice none 0 0)] 44)) = w0 at Ip Ir Io B0 ⊢
 generalize hb2 : w.heap.size + 1 + 1 = b2 at Io npr npo nrp nro nop nor ⊢
 generalize hb1 : w.heap.size + 1 = b1 at Ir npr npo nrp nro nop nor hb2 ⊢
 generalize hb0 : w.heap.size = b0 at Ip npr npo nrp nro nop nor hb1 ⊢
 obtain ⟨pc0, pc1, pc2, pc3⟩ := Ip
 have Vp0 := Lib.hid (BgV.mk pc0 pc1 pc2 pc3)
 obtain ⟨rc0, rc1, rc2, rc3⟩ := Ir
 have Vr0 := Lib.hid (BgV.mk rc0 rc1 rc2 rc3)
 obtain ⟨oc0, oc1, oc2, oc3⟩ := Io
 have Vo0 := Lib.hid (BgV.mk oc0 oc1 oc2 oc3)
 have hown0 := World.ownsRow_nil w0 w0.heap.size 96 1
 have gp := Vp0.out.lt
 have gr := Vr0.out.lt
 have go' := Vo0.out.lt
 obtain ⟨N, hN⟩ : ∃ N, N = w0.heap.size := ⟨_, rfl⟩
 rw [← hN] at hown0 gp gr go'
 go_loopw [4] (fun i wr => ∃ (k : Nat) (v : Value), k ≤ n ∧ i = .int .i64 k ∧ wr.ownsRow N 96 1 v k (digs x k) ∧ BgV wr b0 s (.slice a n cap) ∧ BgV wr b1 false (.slice none 0 0) ∧ BgV wr b2 s v ∧ Below w.heap.size w wr ∧ N ≤ wr.heap.size) (fun i _ => n - (intOf i).toNat)
 case atStart => exact ⟨0, _, by omega, rfl, hown0, Vp0.out, Vr0.out, Vo0.out, B0, by omega⟩
 case round =>
  clear hown0 pc0 pc1 pc2 pc3 rc0 rc1 rc2 rc3 oc0 oc1 oc2 oc3 Vp0 Vr0 Vo0
  obtain ⟨k, v, hk, rfl, hown, Jp, Jr, Jo, hb, hz⟩ := hrel
  have HJP := Lib.hid Jp
  have HJR := Lib.hid Jr
  have HJO := Lib.hid Jo
  obtain ⟨pc0, pc1, pc2, pc3⟩ := Jp
  obtain ⟨rc0, rc1, rc2, rc3⟩ := Jr
  obtain ⟨oc0, oc1, oc2, oc3⟩ := Jo
  have hx' := HX.out.below hb
  by_cases hlt : k < n
  · have c1 := hx'.cell k hlt
    have i1 := hx'.idx 42 und siz k hlt
    go_wp2_with fail
    first
    | go_region_law (refine step_app_u32 42 96 infU undU rfl _ _ rfl N _ k x rfl _ _ rfl (hown.alloc _) (World.cell?_alloc_new _ _ _ _) rfl (by omega) (by simp; omega) ?_; intro v1 w1 hown1 hb1; obtain ⟨va, vc, rfl⟩ := own_slice hown1; have HP1 := Lib.hid (show BgV w1 b0 s (.slice a n cap) from (by refine BgV.belowB ?_ hb1 gp; (repeat (with_reducible first | refine BgV.drew ?_ | refine BgV.alloc ?_ _)); exact HJP.out)); have HR1 := Lib.hid (show BgV w1 b1 false (.slice none 0 0) from (by refine BgV.belowB ?_ hb1 gr; (repeat (with_reducible first | refine BgV.drew ?_ | refine BgV.alloc ?_ _)); exact HJR.out)); have HO1 : BgV w1 b2 s v := (by refine BgV.belowB ?_ hb1 go'; (repeat (with_reducible first | refine BgV.drew ?_ | refine BgV.alloc ?_ _)); exact HJO.out); clear oc0 oc1 oc2 oc3; obtain ⟨oc0, oc1, oc2, oc3⟩ := HO1)
    | fail "region"
    all_goals (
     go_wp2_with fail
     have hB : Below w.heap.size w w1 := Below.trans (by have hszw := (hb).size; repeat (with_reducible first | refine Below.setCell ?_ (by first | omega | (simp <;> omega)) _ | refine Below.alloc ?_ (by first | omega | (simp <;> omega)) _ | refine Below.drew ?_ | refine below_drewN ?_ _ | exact hb)) (hb1.mono (by omega))
     go_roundw
     case rel => exact ⟨k + 1, _, by omega, by go_num, ownsRow_setCell_below hown1 (by simpa using go') _, HP1.out.set npo 1 _, HR1.out.set nro 1 _, ⟨by go_simp, by go_simp, fun i => by go_simp, by simpa using oc3⟩, (by have hszw := (hB).size; repeat (with_reducible first | refine Below.setCell ?_ (by first | omega | (simp <;> omega)) _ | refine Below.alloc ?_ (by first | omega | (simp <;> omega)) _ | refine Below.drew ?_ | refine below_drewN ?_ _ | exact hB)), by have := hb1.size; (try simp at this); simp; omega⟩
     case measure => simp [intOf]; omega)
  · obtain rfl : k = n := by omega
    obtain ⟨a1, cp1, hv, hm1, hfr⟩ := mag_of_owns hown HX.out.lt
    subst hv
    go_wp2
    refine bodyPost_ret (v := .agg #[.bool s, .slice a1 k cp1]) (by simp only [results, Tryz.results118]; go_simp) rfl ?_
    exact ⟨a1, cp1, rfl, (by repeat (with_reducible first | refine Mag.set ?_ (fun h => by have := hfr h; omega) _ _ | exact hm1)), (by have hszw := (hb).size; repeat (with_reducible first | refine Below.setCell ?_ (by first | omega | (simp <;> omega)) _ | refine Below.alloc ?_ (by first | omega | (simp <;> omega)) _ | refine Below.drew ?_ | refine below_drewN ?_ _ | exact hb)), fun h => by have := hfr h; have := B0.size; omega⟩
theorem ktwinD_any (w : World) (bd s : Bool) (a : Option Addr) (n cap x : Nat) (e : Int) (hx : Mag w a n cap x) (hlim : n ≤ 1099511627776) :
 Calls Tryz.prog 70 #[.agg #[.bool bd, .bool s, .slice a n cap, .int .i64 e]] w fun o w' => ∃ a1 c1, o = .returned (.agg #[.bool bd, .bool s, .slice a1 n c1, .int .i64 e]) ∧ Mag w' a1 n c1 x ∧ Below w.heap.size w w' ∧ (0 < n → w.heap.size ≤ ab a1) := by
 have HB := fun W h => Lib.hid (ktwinB_any W s a n cap x h hlim)
 go_enter Tryz.func70, Tryz.ntmps70
 go_wp2_with fail
 have Ip := ((DyV.made' w 46 bd s (.slice a n cap) e (n := w.heap.size) (by rfl)).alloc (.cells #[.bool false, .bool false, (.slice none 0 0), .int .i64 0] 46))
 have Ir := (DyV.made' (w.alloc (.cells #[.bool bd, .bool s, (.slice a n cap), .int .i64 e] 46)) 46 false false (.slice none 0 0) 0 (n := w.heap.size + 1) (by rw [World.size_alloc]))
 have B0 : Below w.heap.size w ((w.alloc (.cells #[.bool bd, .bool s, (.slice a n cap), .int .i64 e] 46)).alloc (.cells #[.bool false, .bool false, (.slice none 0 0), .int .i64 0] 46)) := (by repeat (with_reducible first | refine Below.setCell ?_ (by simp <;> omega) _ | refine Below.alloc ?_ (by simp <;> omega) _ | refine Below.drew ?_ | refine below_drewN ?_ _ | exact Below.refl _ _))
 have npr : ¬ w.heap.size = w.heap.size + 1 := by omega
 have nrp : ¬ w.heap.size + 1 = w.heap.size := by omega
 generalize ((w.alloc (.cells #[.bool bd, .bool s, (.slice a n cap), .int .i64 e] 46)).alloc (.cells #[.bool false, .bool false, (.slice none 0 0), .int .i64 0] 46)) = w0 at Ip Ir B0 ⊢
 generalize hb1 : w.heap.size + 1 = b1 at Ir npr nrp ⊢
 generalize hb0 : w.heap.size = b0 at Ip npr nrp hb1 ⊢
 obtain ⟨pc0, pc1, pc2, pc3, pc4, pc5⟩ := Ip
 have Vp0 := Lib.hid (DyV.mk pc0 pc1 pc2 pc3 pc4 pc5)
 obtain ⟨rc0, rc1, rc2, rc3, rc4, rc5⟩ := Ir
 have Vr0 := Lib.hid (DyV.mk rc0 rc1 rc2 rc3 rc4 rc5)
 first
 | go_region_with
  (first
   | (go_at_call 118; refine (HB _ (hx.below (by have hszw := (B0).size; repeat (with_reducible first | refine Below.setCell ?_ (by first | omega | (simp <;> omega)) _ | refine Below.alloc ?_ (by first | omega | (simp <;> omega)) _ | refine Below.drew ?_ | refine below_drewN ?_ _ | exact B0)))).out.mono ?_; rintro e w1 ⟨a1, c1, rfl, M11, hb1, hf1⟩; have Vp1 : DyV w1 b0 bd s (.slice a n cap) e := (by refine DyV.below ?_ hb1; (repeat (with_reducible first | refine DyV.drew ?_ | refine DyV.drewN ?_ _ | refine DyV.alloc ?_ _)); exact Vp0.out); (try clear pc0 pc1 pc2 pc3 pc4); obtain ⟨pc0, pc1, pc2, pc3, pc4, pc5⟩ := Vp1; have Vp1 := Lib.hid (DyV.mk pc0 pc1 pc2 pc3 pc4 pc5); have Vr1 : DyV w1 b1 false false (.slice none 0 0) 0 := (by refine DyV.below ?_ hb1; (repeat (with_reducible first | refine DyV.drew ?_ | refine DyV.drewN ?_ _ | refine DyV.alloc ?_ _)); exact Vr0.out); (try clear rc0 rc1 rc2 rc3 rc4); obtain ⟨rc0, rc1, rc2, rc3, rc4, rc5⟩ := Vr1; have Vr1 := Lib.hid (DyV.mk rc0 rc1 rc2 rc3 rc4 rc5); have B1 := below_box (w := w) (by have hszw := (B0).size; repeat (with_reducible first | refine Below.setCell ?_ (by first | omega | (simp <;> omega)) _ | refine Below.alloc ?_ (by first | omega | (simp <;> omega)) _ | refine Below.drew ?_ | refine below_drewN ?_ _ | exact B0)) hb1; have hF1 : 0 < n → w0.heap.size ≤ ab a1 := (fun h => by have hq := hf1 h; (try simp at hq); omega); have fr1p : 0 < n → ab a1 ≠ b0 := (fun h => by have := hF1 h; have := Vp0.out.lt; omega); have fr1r : 0 < n → ab a1 ≠ b1 := (fun h => by have := hF1 h; have := Vr0.out.lt; omega); have fo1 : 0 < n → w.heap.size ≤ ab a1 := (fun h => by have := hF1 h; have := B0.size; omega); clear hF1; clear hb1 hf1)
   | fail)
 | fail "region"
 all_goals go_wp2_with fail
 all_goals (
  refine bodyPost_ret (v := .agg #[.bool bd, .bool s, .slice a1 n c1, .int .i64 e]) (by simp only [results, Tryz.results70]; go_simp) rfl ?_
  exact ⟨a1, c1, rfl, (by repeat (with_reducible first | refine Mag.set ?_ fr1p _ _ | refine Mag.set ?_ fr1r _ _ | refine Mag.drew ?_ | refine Mag.drewN ?_ _ | refine Mag.alloc ?_ _ | exact M11)), (by have hszw := (B1).size; repeat (with_reducible first | refine Below.setCell ?_ (by first | omega | (simp <;> omega)) _ | refine Below.alloc ?_ (by first | omega | (simp <;> omega)) _ | refine Below.drew ?_ | refine below_drewN ?_ _ | exact B1)), fo1⟩)
end Go.Proofs.YtablcbgeeeboeaaGreatDoor
namespace Go.Proofs.YtablcbgeeeboeaaGreatDoor
open Go.RowKit Sp
class IZ (W : World) (a : Option Addr) (n c : Nat) (L : outParam (Nat → Int)) : Prop where out : Ils W a n c L
section
variable {W : World} {a : Option Addr} {n c : Nat} {L : Nat → Int}
instance IZ.dr [h : IZ W a n c L] : IZ W.drew a n c L := ⟨h.out.below (Below.refl _ _).drew⟩
instance IZ.dn (q : Nat) [h : IZ W a n c L] : IZ (W.drewN q) a n c L := ⟨h.out.below (below_drewN (Below.refl _ _) _)⟩
instance IZ.al (o : Obj) [h : IZ W a n c L] : IZ (W.alloc o) a n c L := ⟨h.out.below ((Below.refl _ _).alloc (Nat.le_refl _) _)⟩
instance IZ.fr (L' : World) [k : From L' W] [h : IZ L' a n c L] : IZ W a n c L := ⟨h.out.below k.out⟩
end
def rowOK (A : Nat → Int) (n : Int) (i : Nat) : Bool := decide (0 ≤ A i ∧ A i < n ∧ (i = 0 ∨ A (i - 1) < A i))
def rowsOK (A : Nat → Int) (n : Int) : Nat → Bool
 | 0 => true
 | k + 1 => rowsOK A n k && rowOK A n k
theorem rowsOK_no {A : Nat → Int} {n : Int} {m i : Nat} (hi : i < m) (h : rowOK A n i = false) : rowsOK A n m = false := by
 induction m with
 | zero => omega
 | succ m ih =>
  show (rowsOK A n m && rowOK A n m) = false
  rcases Nat.lt_succ_iff_lt_or_eq.1 hi with h1 | h1
  · rw [ih h1]; rfl
  · rw [← h1, h]; exact Bool.and_false _
theorem rowsOK_at {A : Nat → Int} {n : Int} {m i : Nat} (h : rowsOK A n m = true) (hi : i < m) : 0 ≤ A i ∧ A i < n ∧ (i = 0 ∨ A (i - 1) < A i) := by
 cases hh : rowOK A n i with
 | false => rw [rowsOK_no hi hh] at h; cases h
 | true => exact of_decide_eq_true hh
attribute [local irreducible] Calls
theorem rowsof_any (w : World) (al : Option Addr) (m cl : Nat) (A : Nat → Int) [hA : IZ w al m cl A] (n : Int) :
 Calls Tryz.prog 71 #[.slice al m cl, .int .i64 n] w fun o w' => o = .returned (.bool (rowsOK A n m)) ∧ Below w.heap.size w w' := by
 have l1 := hA.out.lim
 have l2 := hA.out.fits
 obtain ⟨R, hR⟩ : ∃ R, R = rowsOK A n m := ⟨_, rfl⟩
 have HR := Lib.hid hR
 rw [← hR]
 clear hR
 go_enter Tryz.func71, Tryz.ntmps71
 go_wp2_with fail
 go_loopw [9] (fun x wr => ∃ i : Nat, i ≤ m ∧ x = .int .i64 i ∧ rowsOK A n i = true ∧ Below w.heap.size w wr) (fun x _ => m - (intOf x).toNat)
 case atStart => exact ⟨0, by omega, rfl, rfl, zbh⟩
 case round =>
  obtain ⟨i, hi, rfl, hok, hbr⟩ := hrel
  haveI bw : From w wr := ⟨hbr⟩
  have HOK := Lib.hid hok
  clear hok hbr
  by_cases hlt : i < m
  · have k1 := (inferInstance : IZ wr al m cl A).out
    have y1 := k1.idx i hlt
    haveI z1 : CE wr (ab al) (ao al + i) (.int .i64 (A i)) := ⟨k1.cell i hlt, k1.old (by omega)⟩
    cases hh : rowOK A n i with
    | false =>
     have HNO : Hid (R = false) := Lib.hid (by rw [HR.out]; exact rowsOK_no hlt hh)
     have hn : ¬ (0 ≤ A i ∧ A i < n ∧ (i = 0 ∨ A (i - 1) < A i)) := of_decide_eq_false hh
     clear hh
     by_cases h0 : A i < 0
     · generalize A i = x at *
       clear hn k1
       go_wp2_with fail
       go_ret
       exact ⟨by rw [HNO.out]; rfl, zbh⟩
     · by_cases h1 : n ≤ A i
       · generalize A i = x at *
         clear hn k1
         go_wp2_with fail
         go_ret
         exact ⟨by rw [HNO.out]; rfl, zbh⟩
       · have h2 : 0 < i := by omega
         have h3 : A i ≤ A (i - 1) := by omega
         have y2 := k1.idx (i - 1) (by omega)
         haveI z2 : CE wr (ab al) (ao al + (i - 1)) (.int .i64 (A (i - 1))) := ⟨k1.cell _ (by omega), k1.old (by omega)⟩
         rw [show ((i - 1 : Nat) : Int) = (i : Int) - 1 by omega] at y2
         generalize A (i - 1) = x1 at *
         generalize A i = x at *
         generalize i - 1 = i1 at *
         clear hn k1
         go_wp2_with fail
         go_ret
         exact ⟨by rw [HNO.out]; rfl, zbh⟩
    | true =>
     have hy : 0 ≤ A i ∧ A i < n ∧ (i = 0 ∨ A (i - 1) < A i) := of_decide_eq_true hh
     have HN : Hid (rowsOK A n (i + 1) = true) := Lib.hid (by show (rowsOK A n i && rowOK A n i) = true; rw [HOK.out, hh]; rfl)
     clear hh
     have h0 : ¬ A i < 0 := by omega
     have h1 : ¬ n ≤ A i := by omega
     by_cases h2 : i = 0
     · have d2 : decide (0 < i) = false := decide_eq_false (by omega)
       generalize A i = x at *
       clear hy k1 h2
       go_wp2_with fail
       go_roundw
       case rel => exact ⟨i + 1, by omega, by go_num, HN.out, zbh⟩
       case measure => simp [intOf]; omega
     · have h2' : 0 < i := by omega
       have h3 : ¬ A i ≤ A (i - 1) := by omega
       have y2 := k1.idx (i - 1) (by omega)
       haveI z2 : CE wr (ab al) (ao al + (i - 1)) (.int .i64 (A (i - 1))) := ⟨k1.cell _ (by omega), k1.old (by omega)⟩
       rw [show ((i - 1 : Nat) : Int) = (i : Int) - 1 by omega] at y2
       generalize A (i - 1) = x1 at *
       generalize A i = x at *
       generalize i - 1 = i1 at *
       clear hy k1
       go_wp2_with fail
       go_roundw
       case rel => exact ⟨i + 1, by omega, by go_num, HN.out, zbh⟩
       case measure => simp [intOf]; omega
  · have him : i = m := by omega
    subst him
    have HY : Hid (R = true) := Lib.hid (by rw [HR.out]; exact HOK.out)
    go_wp2_with fail
    go_ret
    exact ⟨by rw [HY.out]; rfl, zbh⟩
theorem twind_any (w : World) [Tb w] (a : Option Addr) (n cap : Nat) (d : Nat → Option (Int × Int)) [hx : DZ w a n cap d] (hn : n ≤ 4096) (hd : ∀ i, IsN (d i)) :
 Calls Tryz.prog 32 #[.slice a n cap] w fun o w' => ∃ oa oc, o = .returned (.slice oa n oc) ∧ DZ w' oa n oc d ∧ From w w' := by
 have l1 := hx.out.fits
 have HND := Lib.hid hd
 have HTW := fun W (s : Option (Int × Int)) (hs : IsN s) a c [i1 : BI W a (nl (dman s).natAbs) c (dman s).natAbs] => Lib.hid ((ktwinD_any W (dbad s) (decide (dman s < 0)) a (nl (dman s).natAbs) c (dman s).natAbs (dexp s) i1.out (by have := isN_bounds hs; exact Nat.le_trans (nl_le_blen _) (by omega))).mono fun o w' ⟨a1, c1, h1, h2, h3, h4⟩ => (⟨a1, c1, h1, ⟨h2⟩, ⟨h3⟩, h4⟩ : ∃ a1 c1, o = Ending.returned (.agg #[.bool (dbad s), .bool (decide (dman s < 0)), .slice a1 (nl (dman s).natAbs) c1, .int .i64 (dexp s)]) ∧ BI w' a1 (nl (dman s).natAbs) c1 (dman s).natAbs ∧ From W w' ∧ (0 < nl (dman s).natAbs → W.heap.size ≤ ab a1)))
 clear hd
 go_enter Tryz.func32, Tryz.ntmps32
 go_wp2_with fail
 go_loopw [3, 4] (fun v x wr => ∃ (k : Nat) (A : Nat → Option Addr) (C : Nat → Nat), k ≤ n ∧ x = .int .i64 k ∧ DX wr w.heap.size v k d A C ∧ Below w.heap.size w wr) (fun _ x _ => n - (intOf x).toNat)
 case atStart => exact ⟨0, _, _, by omega, rfl, ⟨(DM.nil w w.heap.size d).out⟩, zbh⟩
 case round =>
  rename Value => tv
  obtain ⟨k, A, C, hk, rfl, iX, hbr⟩ := hrel
  haveI bw : From w wr := ⟨hbr⟩
  have ek := hbr.size
  clear hbr
  obtain ⟨ta, tc, hv9⟩ := own_slice' iX.out.own
  subst hv9
  by_cases hlt : k < n
  · obtain ⟨A1, C1, y0, y1, y2, y3, y4⟩ := (inferInstance : DZ wr a n cap d).out.el hlt
    have k1 := (inferInstance : DZ wr a n cap d).out.idx _ hlt
    have hs := HND.out k
    obtain ⟨dk, hdk⟩ : ∃ dk, d k = dk := ⟨_, rfl⟩
    have HDC := Lib.hid hdk
    rw [hdk] at y0 y1 y2 y3 y4 hs
    have HTk := fun W a c [i1 : BI W a (nl (dman dk).natAbs) c (dman dk).natAbs] => HTW W dk hs a c
    clear hdk hs
    go_wp2_with fail
    refine (HTk _ _ _).out.mono ?_; rintro o w2 ⟨a4, c4, rfl, i4, b4, f4⟩
    have q5 := b4.out.size
    (try simp at q5)
    have AA : Hid (DX (w2.alloc (.cells #[.bool (dbad dk), .bool (decide (dman dk < 0)), .slice a4 (nl (dman dk).natAbs) c4, .int .i64 (dexp dk)] 46)) w.heap.size (.slice ta k tc) k d A C) := Lib.hid inferInstance
    have LL : Hid (Below w.heap.size w (w2.alloc (.cells #[.bool (dbad dk), .bool (decide (dman dk < 0)), .slice a4 (nl (dman dk).natAbs) c4, .int .i64 (dexp dk)] 46))) := Lib.hid zbh
    clear HTk
    go_wp2_with (at_builtin; refine app_dyad rfl _ _ rfl w.heap.size (.slice ta k tc) k (dcells (mcell d A C) k) rfl _ (dbad dk) (decide (dman dk < 0)) (.slice a4 (nl (dman dk).natAbs) c4) (dexp dk) rfl rfl AA.out.out.own (by go_simp) (by go_simp) (by go_simp) (by go_simp) (by omega) (by simp; omega) ?_; intro v6 w6 hown6 hg6 hob6; obtain ⟨o6, c6, rfl⟩ := own_slice' hown6)
    have hne : 0 < nl (dman dk).natAbs → some (ab a4) ≠ Value.ownBlock (.slice ta k tc) := fun h q => by have h1 := (iX.out.own.lt _ q.symm).2; have h2 := f4 h; omega
    have X5 := AA.out.app HDC.out hown6 hg6 hob6 (i4.out.alloc _) hne
    have L5 : Below w.heap.size w w6 := LL.out.trans (below_grown AA.out.out.own hg6 (by simp; omega))
    clear hown6 hg6 hob6 AA LL
    go_wp2_with fail
    go_roundw
    case rel => exact ⟨k + 1, _, _, by omega, by go_num, X5, L5⟩
    case measure => simp [intOf]; omega
  · have hkn : k = n := by omega
    subst hkn
    obtain ⟨oa', oc', hv, hZ⟩ := iX.out.dz HND.out
    injection hv with e1 e2 e3
    subst e1 e3
    haveI iz : DZ wr ta k tc d := ⟨hZ⟩
    clear iX hZ
    go_wp2_with fail
    go_ret
    exact ⟨ta, tc, rfl, inferInstance, ⟨zbh⟩⟩
theorem kdyads_any (w : World) [Tb w] (a a' : Option Addr) (n c c' : Nat) (d : Nat → Option (Int × Int)) [hx : DZ w a n c d] [hy : DZ w a' n c' d] :
 Calls Tryz.prog 35 #[.slice a n c, .slice a' n c'] w fun o w' => o = .returned (.bool true) ∧ Below w.heap.size w w' := by
 have l1 := hx.out.fits
 have l2 := hy.out.fits
 have HK := fun W (s : Option (Int × Int)) b q b' q' [i : BI W b (nl (dman s).natAbs) q (dman s).natAbs] [j : BI W b' (nl (dman s).natAbs) q' (dman s).natAbs] => Lib.hid (frm (kdyad_any W (dbad s) (dbad s) (decide (dman s < 0)) (decide (dman s < 0)) b b' _ _ q q' _ _ (dexp s) (dexp s) i.out j.out rfl rfl true (by rw [dyEq_dec]; simp)))
 go_enter Tryz.func35, Tryz.ntmps35
 go_wp2_with fail
 go_loopw [5] (fun i wr => ∃ k : Nat, k ≤ n ∧ i = .int .i64 k ∧ Below w.heap.size w wr) (fun i _ => n - (intOf i).toNat)
 case atStart => exact ⟨0, by omega, rfl, Below.refl _ _⟩
 case round =>
  obtain ⟨k, hk, rfl, hbr⟩ := hrel
  haveI bw : From w wr := ⟨hbr⟩
  clear hbr
  by_cases hlt : k < n
  · obtain ⟨p1, q1, z0, z1, z2, z3, z4⟩ := (inferInstance : DZ wr a n c d).out.el hlt
    obtain ⟨p2, q2, y0, y1, y2, y3, y4⟩ := (inferInstance : DZ wr a' n c' d).out.el hlt
    have i1 := (inferInstance : DZ wr a n c d).out.idx k hlt
    have i2 := (inferInstance : DZ wr a' n c' d).out.idx k hlt
    generalize d k = dk at *
    go_wp2_with fail
    first
    | go_region_held3 (fun w' => w'.cell? ⟨ab a, ao a + k * 4, none⟩ = some (.bool (dbad dk)) ∧ w'.cell? ⟨ab a, ao a + k * 4 + 1, none⟩ = some (.bool (decide (dman dk < 0))) ∧ w'.cell? ⟨ab a, ao a + k * 4 + 2, none⟩ = some (.slice p1 (nl (dman dk).natAbs) q1) ∧ w'.cell? ⟨ab a, ao a + k * 4 + 3, none⟩ = some (.int .i64 (dexp dk)) ∧ w'.cell? ⟨ab a', ao a' + k * 4, none⟩ = some (.bool (dbad dk)) ∧ w'.cell? ⟨ab a', ao a' + k * 4 + 1, none⟩ = some (.bool (decide (dman dk < 0))) ∧ w'.cell? ⟨ab a', ao a' + k * 4 + 2, none⟩ = some (.slice p2 (nl (dman dk).natAbs) q2) ∧ w'.cell? ⟨ab a', ao a' + k * 4 + 3, none⟩ = some (.int .i64 (dexp dk))) (first | (go_simp; done))
     (first
      | (go_at_call 64; refine (HK _ dk _ _ _ _).out.mono ?_; rintro o w3 ⟨rfl, b3⟩)
      | fail)
    | fail "region"
    all_goals (
     go_wp2_with fail
     go_roundw
     case rel => exact ⟨k + 1, by omega, by go_num, zbh⟩
     case measure => simp [intOf]; omega)
  · obtain rfl : k = n := by omega
    go_wp2_with fail
    go_ret
    exact ⟨rfl, zbh⟩
end Go.Proofs.YtablcbgeeeboeaaGreatDoor
namespace Go.Proofs.YtablcbgeeeboeaaGreatDoor
open Go.RowKit Sp
theorem dbad_ne {d : Option (Int × Int)} (h : d ≠ none) : dbad d = false := by cases d with | none => exact absurd rfl h | some p => rfl
end Go.Proofs.YtablcbgeeeboeaaGreatDoor
namespace Go.Proofs.YtablcbgeeeboeaaGreatDoor
open Go.RowKit Sp
attribute [local irreducible] Calls
theorem r23at_any (w : World) (n : Nat) (c : Int) (ae : Option Addr) (M ce : Nat) (B : Nat → Option (Int × Int)) [hB : DZ w ae M ce B] (i j : Nat) (hn : n ≤ 64) (hi : i < n) (hj : j < n) (hM : M = n * n) :
 Calls Tryz.prog 75 #[.agg #[.int .i64 n, .int .i64 c, .slice ae M ce], .int .i64 i, .int .i64 j] w fun o w' => ∃ a q, o = .returned (.agg #[.bool (dbad (B (j * n + i))), .bool (decide (dman (B (j * n + i)) < 0)), .slice a (nl (dman (B (j * n + i))).natAbs) q, .int .i64 (dexp (B (j * n + i)))]) ∧ Mag w a (nl (dman (B (j * n + i))).natAbs) q (dman (B (j * n + i))).natAbs ∧ Below w.heap.size w w' := by
 have l1 := hB.out.fits
 have P1 : j * n + i < M := by rw [hM]; exact idx_lt hi hj
 have P2 : j * n ≤ 4096 := Nat.mul_le_mul (show j ≤ 64 by omega) hn
 obtain ⟨p, hp⟩ : ∃ p, p = j * n := ⟨_, rfl⟩
 have hN : (j : Int) * (n : Int) = (p : Int) := by rw [hp]; exact (Int.natCast_mul j n).symm
 obtain ⟨A0, C0, z0, z1, z2, z3, z4⟩ := hB.out.el P1
 have y0 := hB.out.idx (j * n + i) P1
 rw [← hp] at z0 z1 z2 z3 z4 y0 P1 P2 ⊢
 rw [show (((p + i : Nat)) : Int) = (p : Int) + (i : Int) by omega] at y0
 generalize B (p + i) = b0 at *
 have Z4 := Lib.hid z4
 clear hp hM
 go_enter Tryz.func75, Tryz.ntmps75
 go_wp2_with fail
 refine bodyPost_ret (v := .agg #[.bool (dbad b0), .bool (decide (dman b0 < 0)), .slice A0 (nl (dman b0).natAbs) C0, .int .i64 (dexp b0)]) (by simp only [results, Tryz.results75]; go_simp) rfl ?_
 exact ⟨A0, C0, rfl, Z4.out.out, zbh⟩
end Go.Proofs.YtablcbgeeeboeaaGreatDoor
namespace Go.Proofs.YtablcbgeeeboeaaGreatDoor
open Go.RowKit Sp
def asP (A : Nat → Int) (n m s : Nat) : Nat := (A (s / m)).toNat * n + (A (s % m)).toNat
def asmE (B C : Nat → Option (Int × Int)) (P : Nat → Nat) : Nat → Nat → Option (Int × Int)
 | 0 => B
 | s + 1 => fun x => if x = P s then dadd (asmE B C P s (P s)) (C s) else asmE B C P s x
def asmOK (B C : Nat → Option (Int × Int)) (P : Nat → Nat) : Nat → Bool
 | 0 => true
 | s + 1 => asmOK B C P s && !dbad (dadd (asmE B C P s (P s)) (C s))
theorem isN_asmE {B C : Nat → Option (Int × Int)} {P : Nat → Nat} (hB : ∀ i, IsN (B i)) (s x : Nat) : IsN (asmE B C P s x) := by
 induction s generalizing x with
 | zero => exact hB x
 | succ s ih =>
  show IsN (if x = P s then dadd (asmE B C P s (P s)) (C s) else asmE B C P s x)
  split
  · exact isN_add _ _
  · exact ih x
theorem asmOK_no {B C : Nat → Option (Int × Int)} {P : Nat → Nat} {n s : Nat} (hs : s < n) (h : dbad (dadd (asmE B C P s (P s)) (C s)) = true) : asmOK B C P n = false := by
 induction n with
 | zero => omega
 | succ n ih =>
  show (asmOK B C P n && !dbad (dadd (asmE B C P n (P n)) (C n))) = false
  rcases Nat.lt_succ_iff_lt_or_eq.1 hs with h1 | h1
  · rw [ih h1]; rfl
  · rw [← h1, h]; exact Bool.and_false _
theorem asP_at {A : Nat → Int} {n m i j : Nat} (hi : i < m) : asP A n m (j * m + i) = (A j).toNat * n + (A i).toNat := by
 unfold asP
 rw [Nat.mul_comm j m, Nat.mul_add_mod, Nat.mod_eq_of_lt hi, Nat.mul_add_div (by omega), Nat.div_eq_of_lt hi, Nat.add_zero]
section
variable {w w' : World} {base g n cap : Nat} {d d' : Nat → Option (Int × Int)} {A : Nat → Option Addr} {C : Nat → Nat}
theorem Dms.cev (h : Dms w base (.slice (some ⟨g, 0, none⟩) n cap) n d A C) {i : Nat} (hi : i < n) :
 OB w g ∧ CE w g (i * 4) (.bool (dbad (d i))) ∧ CE w g (i * 4 + 1) (.bool (decide (dman (d i) < 0))) ∧ CE w g (i * 4 + 2) (.slice (A i) (nl (dman (d i)).natAbs) (C i)) ∧ CE w g (i * 4 + 3) (.int .i64 (dexp (d i))) ∧ BI w (A i) (nl (dman (d i)).natAbs) (C i) (dman (d i)).natAbs := by
 have hl := (h.own.lt g rfl).2
 have hg := dcells_get (mcell d A C) hi
 exact ⟨⟨fun i => h.own.frozenAt i, hl⟩, ⟨(h.own.cellAt _ (by omega)).trans hg.1, hl⟩, ⟨(h.own.cellAt _ (by omega)).trans hg.2.1, hl⟩, ⟨(h.own.cellAt _ (by omega)).trans hg.2.2.1, hl⟩, ⟨(h.own.cellAt _ (by omega)).trans hg.2.2.2, hl⟩, ⟨h.m i hi⟩⟩
theorem DX.put (h : DX w base (.slice (some ⟨g, 0, none⟩) n cap) n d A C) {i : Nat} (hi : i < n) {dk : Option (Int × Int)} {a1 : Option Addr} {c1 : Nat} (hm : BI w a1 (nl (dman dk).natAbs) c1 (dman dk).natAbs) (hne : 0 < nl (dman dk).natAbs → ab a1 ≠ g) (e : ∀ t, t < n → (if t = i then dk else d t) = d' t) :
 DX ((((w.setCell ⟨g, i * 4, none⟩ (.bool (dbad dk))).setCell ⟨g, i * 4 + 1, none⟩ (.bool (decide (dman dk < 0)))).setCell ⟨g, i * 4 + 2, none⟩ (.slice a1 (nl (dman dk).natAbs) c1)).setCell ⟨g, i * 4 + 3, none⟩ (.int .i64 (dexp dk))) base (.slice (some ⟨g, 0, none⟩) n cap) n d' (fun t => if t = i then a1 else A t) (fun t => if t = i then c1 else C t) := ⟨(h.out.put hi hm.out hne).1.congr e⟩
theorem N3.st4 {b : Nat} {x0 x1 x2 : Value} (h : N3 w b x0 x1 x2) (ne : b ≠ g) (o0 o1 o2 o3 : Nat) (y0 y1 y2 y3 : Value) : N3 ((((w.setCell ⟨g, o0, none⟩ y0).setCell ⟨g, o1, none⟩ y1).setCell ⟨g, o2, none⟩ y2).setCell ⟨g, o3, none⟩ y3) b x0 x1 x2 := N3.sen (N3.sen (N3.sen (N3.sen h ne _ _) ne _ _) ne _ _) ne _ _
theorem below_st4 {m : Nat} (h : Below m w w') (hb : m ≤ g) (o0 o1 o2 o3 : Nat) (y0 y1 y2 y3 : Value) : Below m w ((((w'.setCell ⟨g, o0, none⟩ y0).setCell ⟨g, o1, none⟩ y1).setCell ⟨g, o2, none⟩ y2).setCell ⟨g, o3, none⟩ y3) :=
 (((h.setCell (p := ⟨g, o0, none⟩) hb _).setCell (p := ⟨g, o1, none⟩) hb _).setCell (p := ⟨g, o2, none⟩) hb _).setCell (p := ⟨g, o3, none⟩) hb _
theorem size_st4 (o0 o1 o2 o3 : Nat) (y0 y1 y2 y3 : Value) : ((((w'.setCell ⟨g, o0, none⟩ y0).setCell ⟨g, o1, none⟩ y1).setCell ⟨g, o2, none⟩ y2).setCell ⟨g, o3, none⟩ y3).heap.size = w'.heap.size := by rw [World.size_setCell, World.size_setCell, World.size_setCell, World.size_setCell]
theorem N3.put3 {b : Nat} {x0 x1 x2 : Value} (h : N3 w b x0 x1 x2) (y0 y1 y2 : Value) : N3 (((w.setCell ⟨b, 0, none⟩ y0).setCell ⟨b, 1, none⟩ y1).setCell ⟨b, 2, none⟩ y2) b y0 y1 y2 := by
 obtain ⟨c0, c1, c2, c3, c4⟩ := h
 exact ⟨by go_simp, by go_simp, by go_simp, fun i => by go_simp, by simpa using c4⟩
theorem DX.set3 {v : Value} {k : Nat} (h : DX w base v k d A C) {b : Nat} (hv : some b ≠ v.ownBlock) (hA : ∀ i, i < k → 0 < nl (dman (d i)).natAbs → ab (A i) ≠ b) (y0 y1 y2 : Value) : DX (((w.setCell ⟨b, 0, none⟩ y0).setCell ⟨b, 1, none⟩ y1).setCell ⟨b, 2, none⟩ y2) base v k d A C :=
 ⟨h.out.kept (row := some b) (only_set (only_set (only_set (only_refl w b) 0 y0) 1 y1) 2 y2) (Or.inr fun e => hv e.symm) fun i hi hp e => hA i hi hp (Option.some.inj e)⟩
end
def LimF (Q : Nat) (d : Nat → Option (Int × Int)) (A : Nat → Option Addr) (r : Nat) : Prop := ∀ t, t < Q → 0 < nl (dman (d t)).natAbs → ab (A t) ≠ r
theorem LimF.up {Q : Nat} {d d' : Nat → Option (Int × Int)} {A : Nat → Option Addr} {r i : Nat} {dk : Option (Int × Int)} {a1 : Option Addr} (h : LimF Q d A r) (h1 : 0 < nl (dman dk).natAbs → ab a1 ≠ r) (e : ∀ t, t < Q → (if t = i then dk else d t) = d' t) : LimF Q d' (fun t => if t = i then a1 else A t) r := fun t ht hp => by
 rw [← e t ht] at hp
 by_cases he : t = i
 · simp only [if_pos he] at hp ⊢; exact h1 hp
 · simp only [if_neg he] at hp ⊢; exact h t ht hp
theorem LimF.to {Q : Nat} {d d' : Nat → Option (Int × Int)} {A : Nat → Option Addr} {r : Nat} (h : LimF Q d A r) (e : ∀ t, t < Q → d t = d' t) : LimF Q d' A r := fun t ht hp => h t ht (by rw [e t ht]; exact hp)
theorem own_some {w : World} {base : Nat} {a : Option Addr} {n c : Nat} {e : TypeId} {s : Nat} {xs : List Value} (h : w.ownsRow base e s (.slice a n c) n xs) (hn : 0 < n) : ∃ g, a = some ⟨g, 0, none⟩ ∧ base ≤ g ∧ g < w.heap.size ∧ n ≤ c ∧ c ≤ 9223372036854775807 := by
 rcases h.2 with ⟨_, hk⟩ | ⟨g, cap, cur, hv, hbg, hgg, hkc, hcm, _⟩
 · omega
 · injection hv with e1 _ e3
   subst e3
   exact ⟨g, e1, hbg, (Array.getElem?_eq_some_iff.1 hgg).1, hkc, by unfold maxLen at hcm; omega⟩
theorem idxD' (g q N c : Nat) (hq : q < N) (W : World) : (Instr.indexAt 23 (.slice (some ⟨g, 0, none⟩) N c) (.int .i64 ((q : Nat) : Int))).run Tryz.prog W = .ok (.pointer (some ⟨g, q * 4, none⟩)) W := by
 rw [run_indexAt_slice _ _ _ _ _ _ _ undD, if_pos ⟨by omega, by omega⟩, elemD, sizD]
 simp only [Result.andThen, Int.toNat_natCast, Addr.add_lit, Nat.zero_add]
theorem chk_ok {r c : Nat} (hr : r ≤ 64) (hc : c ≤ 64) {B : Nat → Option (Int × Int)} (hB : anyBad B (r * c) = false) : chkE r c (r * c) (anyBad B (r * c)) = 0 := by
 have hsz : szE r c (r * c) = 0 := by unfold szE; rw [if_neg (by omega), if_neg (by omega), if_pos (Int.natCast_mul r c)]
 unfold chkE
 rw [if_pos hsz, hB]; rfl
theorem dz_chk {P : FuncId} {W : World} {r c : Int} {a : Option Addr} {n cap : Nat} {B : Nat → Option (Int × Int)} (hB : DZ W a n cap B)
 (h : ∀ (L : Nat → El), Dys W a n cap L → ElB L n → Calls Tryz.prog P #[.agg #[.int .i64 r, .int .i64 c, .slice a n cap]] W fun o w' => o = .returned (.int .i64 (chkE r c n (anyBad (fun i => (L i).d) n))) ∧ Below W.heap.size W w') :
 Calls Tryz.prog P #[.agg #[.int .i64 r, .int .i64 c, .slice a n cap]] W fun o w' => o = .returned (.int .i64 (chkE r c n (anyBad B n))) ∧ Below W.heap.size W w' := by
 obtain ⟨⟨A, C, h1⟩, h2⟩ := hB.out
 have := h _ h1 (mel_b h2 A C)
 rwa [show anyBad (fun i => (mel B A C i).d) n = anyBad B n from anyBad_congr fun i hi => mel_d (h2 i hi)] at this
instance DX.lit0 (W : World) (base n : Nat) [hb : BG W base] [h : Sz W n] : DX (W.alloc (.cells #[] 46)) base (.slice (some ⟨n, 0, none⟩) 0 0) 0 (fun _ => some (0, 0)) (fun _ => none) (fun _ => 0) := by
 have := h.out
 subst this
 exact ⟨⟨World.ownsRow_lit W #[] 0 hb.out (by unfold maxLen; omega) rfl, fun i hi => by omega, fun i hi => by omega⟩⟩
theorem copy_news {w : World} {a : Option Addr} {m c : Nat} {d : Nat → Option (Int × Int)} {A : Nat → Option Addr} {C : Nat → Nat} (hz : Dys w a m c (mel d A C)) (j : Nat) (u : Value) (h : (dcells (mcell d A C) m)[j]? = some u) :
 w.cell? ((⟨ab a, ao a, none⟩ : Addr).add j) = some u ∧ u.oneCell' = true := by
 have hj : j < m * 4 := by
  rcases Nat.lt_or_ge j (m * 4) with h1 | h1
  · exact h1
  · rw [List.getElem?_eq_none (by rw [dcells_length]; exact h1)] at h; cases h
 obtain ⟨p, b, rfl, hb⟩ : ∃ p b, j = p * 4 + b ∧ b < 4 := ⟨j / 4, j % 4, by omega, by omega⟩
 have g := dcells_get (mcell d A C) (show p < m by omega)
 rw [Addr.add_lit, ← Nat.add_assoc]
 rcases b with _ | _ | _ | _ | b
 · have e := g.1.symm.trans h; injection e with e; subst e; exact ⟨hz.c0 p (by omega), rfl⟩
 · have e := g.2.1.symm.trans h; injection e with e; subst e; exact ⟨hz.c1 p (by omega), rfl⟩
 · have e := g.2.2.1.symm.trans h; injection e with e; subst e; exact ⟨hz.c2 p (by omega), rfl⟩
 · have e := g.2.2.2.symm.trans h; injection e with e; subst e; exact ⟨hz.c3 p (by omega), rfl⟩
 · omega
theorem step_app_copy {ops : Array Oper} {o : Oper} {a : Act} {K : Act → World → Prop} {Q : Exit → Act → World → Prop} {w : World} {E : Prop} (hgd : o.guard = none) (s x : Operand)
 (ho : o.op = .call { callee := .builtin .append, args := #[s, x], argTypes := #[23, 23] }) (base : Nat) (v : Value) (hs : a.eval s = v) {d0 : Nat → Option (Int × Int)} {A0 : Nat → Option Addr} {C0 : Nat → Nat} (h0 : DX w base v 0 d0 A0 C0)
 (src : Option Addr) (m c : Nat) (d : Nat → Option (Int × Int)) (A : Nat → Option Addr) (C : Nat → Nat) (hx : a.eval x = .slice src m c) (hz : Dys w src m c (mel d A C)) (hlo : ∀ i, i < m → 0 < nl (dman (d i)).natAbs → ab (A i) < base) (hm : m ≤ 1048576) (hb : base ≤ w.heap.size)
 (h : ∀ ea ec w', DX w' base (.slice ea m ec) m d A C → w.grownBy w' v.ownBlock → ((Value.slice ea m ec).ownBlock = v.ownBlock ∨ (Value.slice ea m ec).ownBlock = some w.heap.size) → Below base w w' → K (a.put o.dst (.slice ea m ec)) w') :
 if Region.wanted o (yielded ops a.tmps) = true then Oper.wp Tryz.prog o a w K Q else E := by
 have hw : Region.wanted o (yielded ops a.tmps) = true := by simp [Region.wanted, hgd]
 rw [if_pos hw]
 obtain ⟨i0, hi, hz0, hz1, hz2⟩ := info_parts infD
 have hvb : ∀ i, i < m → 0 < nl (dman (d i)).natAbs → some (ab (A i)) ≠ v.ownBlock := fun i hi hp e => by
  have := hlo i hi hp
  have := (h0.out.own.lt _ e.symm).1
  omega
 have fin : ∀ (v' : Value) (w' : World), w'.ownsRow base 46 4 v' m (dcells (mcell d A C) m) → w.grownBy w' v.ownBlock → (v'.ownBlock = v.ownBlock ∨ v'.ownBlock = some w.heap.size) → K (a.put o.dst v') w' := fun v' w' h1 h2 h3 => by
  obtain ⟨ea, ec, rfl⟩ := own_slice' h1
  refine h ea ec w' ⟨⟨h1, fun i hi => mag_grown (hz.m i hi) h2 (hvb i hi), fun i hi hp e => ?_⟩⟩ h2 h3 (below_grown h0.out.own h2 hb)
  rcases h3 with h3 | h3
  · rw [h3] at e; exact hvb i hi hp e
  · rw [h3] at e; injection e with e; have := hlo i hi hp; omega
 have hown := h0.out.own
 have hx0 : dcells (mcell d0 A0 C0) 0 = [] := rfl
 rw [hx0] at hown
 rcases hsr : src with _ | ad
 · have hm0 : m = 0 := by
    rcases Nat.eq_zero_or_pos m with h1 | h1
    · exact h1
    · have := hz.addr h1; rw [hsr] at this; cases this
   subst hm0
   rw [hsr] at hx
   have hrun : (Builtin.append_ #[23, 23] o.type #[v, .slice none 0 c]).run Tryz.prog w = .ok v w := by
    rcases hown.2 with ⟨rfl, _⟩ | ⟨g, cap, cur, rfl, _, _, hnc, _⟩
    · simp [Builtin.append_, run_underlying undD, sizeOf, typeInfo, hi, Builtin.lenOf, Builtin.firstCells]
    · simp [Builtin.append_, run_underlying undD, sizeOf, typeInfo, hi, Builtin.lenOf, Builtin.firstCells, hnc, storeCells]
   unfold Oper.wp execOp
   simp only [ho, resolve, invoke, builtin, Sem.run_bind, Sem.run_pure, Result.andThen_ok, List.map_toArray, List.map_cons, List.map_nil, hs, hx, hrun]
   exact fin v w hown ⟨rfl, rfl, rfl, Nat.le_refl _, fun _ _ _ => rfl⟩ (Or.inl rfl)
 · have had : 0 < m → ad = ⟨ab src, ao src, none⟩ := fun h1 => by have := hz.addr h1; rw [hsr] at this; injection this with this; rw [hsr]; exact this
   rw [hsr] at hx
   obtain ⟨v', w', hr, h2, h3, h4, h5⟩ := run_append_own_at (P := Tryz.prog) w base 23 o.type 46 i0 _ 4 48 undD hi hz0 hz1 hz2 rfl (by decide) v 0 [] hown ad m c (dcells (mcell d A C) m) (by rw [dcells_length]) (fun j u hu => by
    have hm0 : 0 < m := by
     rcases Nat.eq_zero_or_pos m with h1 | h1
     · subst h1; simp [dcells] at hu
     · exact h1
    rw [had hm0]; exact (copy_news hz j u hu).1) (fun u hu => by
    obtain ⟨j, hj⟩ := List.getElem?_of_mem hu
    exact (copy_news hz j u hj).2) (by unfold maxLen; omega) (by omega) hb
   unfold Oper.wp execOp
   simp only [ho, resolve, invoke, builtin, Sem.run_bind, Sem.run_pure, Result.andThen_ok, List.map_toArray, List.map_cons, List.map_nil, hs, hx, hr]
   rw [Nat.zero_add] at h2
   exact fin v' w' h2 h3 h5
theorem N3.gr2 {W W' : World} {b : Nat} {x0 x1 x2 : Value} {row : Option Nat} (h : N3 W b x0 x1 x2) (hg : W.grownBy W' row) (hne : some b ≠ row) : N3 W' b x0 x1 x2 := by
 have hblk := hg.block b h.lt hne
 have hc : ∀ i, W'.cell? ⟨b, i, none⟩ = W.cell? ⟨b, i, none⟩ := fun i => World.cell?_of_block (a := ⟨b, i, none⟩) hblk
 exact ⟨(hc 0).trans h.c0, (hc 1).trans h.c1, (hc 2).trans h.c2, fun i => (World.frozen?_of_block (a := ⟨b, i, none⟩) hblk).trans (h.z i), Nat.lt_of_lt_of_le h.lt hg.size⟩
attribute [local irreducible] Calls
def mps (b : Bool) (x : Nat) : Nat := if b then x else 0
def mpf (b : Bool) : Int := if b then 0 else 233
theorem dasm_main (w : World) [Tb w] (n m : Nat) (hn : n ≤ 64) (hm : m ≤ 64) (ob oc al : Option Addr) (cb cc cl : Nat) (B C : Nat → Option (Int × Int)) (A : Nat → Int) [hB : DZ w ob (n * n) cb B] [hC : DZ w oc (m * m) cc C] [hA : IZ w al m cl A] (hNB : ∀ i, IsN (B i)) (hNC : ∀ i, IsN (C i)) (hbB : anyBad B (n * n) = false) (hbC : anyBad C (m * m) = false) (hrows : rowsOK A n m = true) (ok : Bool) (hok : ok = asmOK B C (asP A n m) (m * m)) :
 Calls Tryz.prog 33 #[.agg #[.int .i64 n, .int .i64 n, .slice ob (n * n) cb], .slice al m cl, .agg #[.int .i64 m, .int .i64 m, .slice oc (m * m) cc]] w fun o w' => ∃ oa ocp, o = .returned (.tuple #[.agg #[.int .i64 (mps ok n : Nat), .int .i64 (mps ok n : Nat), .slice oa (mps ok (n * n)) ocp], .int .i64 (mpf ok)]) ∧ DZ w' oa (mps ok (n * n)) ocp (asmE B C (asP A n m) (m * m)) ∧ From w w' := by
 have HC1 := fun W [i : DZ W ob (n * n) cb B] [Tb W] => Lib.hid (frm (dz_chk i fun L h1 h2 => dcheck_any W tb n n ob (n * n) cb L h1 h2))
 have HC2 := fun W [i : DZ W oc (m * m) cc C] [Tb W] => Lib.hid (frm (dz_chk i fun L h1 h2 => dcheck_any W tb m m oc (m * m) cc L h1 h2))
 rw [chk_ok hn hn hbB] at HC1
 rw [chk_ok hm hm hbC] at HC2
 have HRO := fun W [IZ W al m cl A] => Lib.hid (frm (rowsof_any W al m cl A (n : Int)))
 rw [hrows] at HRO
 obtain ⟨P, hP⟩ : ∃ P, P = asP A n m := ⟨_, rfl⟩
 have HROW : Hid (∀ i, i < m → 0 ≤ A i ∧ A i < n) := Lib.hid fun i hi => ⟨(rowsOK_at hrows hi).1, (rowsOK_at hrows hi).2.1⟩
 have HP : Hid (∀ i j, i < m → P (j * m + i) = (A j).toNat * n + (A i).toNat) := Lib.hid fun i j hi => by rw [hP]; exact asP_at hi
 rw [← hP] at hok ⊢
 have HOK := Lib.hid hok
 have HNB := Lib.hid hNB
 have HNC := Lib.hid hNC
 obtain ⟨Q, hQ⟩ : ∃ Q, Q = n * n := ⟨_, rfl⟩
 obtain ⟨M, hM⟩ : ∃ M, M = m * m := ⟨_, rfl⟩
 have HQ := Lib.hid hQ
 have HM := Lib.hid hM
 have hQ4 : Q ≤ 4096 := by rw [hQ]; exact Nat.mul_le_mul hn hn
 rw [← hQ] at HC1 ⊢
 rw [← hM] at HC2 ⊢
 haveI dB : DZ w ob Q cb B := by rw [hQ]; exact hB
 haveI dC : DZ w oc M cc C := by rw [hM]; exact hC
 have hmk := fun W => mkD_run Q (by omega) W
 have hlB := dB.out.fits
 clear hP hok hrows hQ hM hbB hbC hNB hNC hB hC
 go_enter Tryz.func33, Tryz.ntmps33
 go_wp2_with fail
 refine (HC1 _).out.mono ?_; rintro o w1 ⟨rfl, b1⟩
 go_wp2_with fail
 refine (HC2 _).out.mono ?_; rintro o w2' ⟨rfl, b2⟩
 have e1 := b1.out.size
 have e2 := b2.out.size
 simp at e1
 clear HC1 HC2
 go_wp2_with fail
 refine (HRO _).out.mono ?_; rintro o w2 ⟨rfl, b3⟩
 have e3 := b3.out.size
 (try simp at e3)
 clear HRO
 go_wp2_with fail
 go_cut [10] (fun vb wx => ∃ (bo : Nat) (ea : Option Addr) (ec : Nat) (A' : Nat → Option Addr) (C' : Nat → Nat), vb = .pointer (some ⟨bo, 0, none⟩) ∧ DX wx w2.heap.size (.slice ea Q ec) Q (fun _ => some (0, 0)) A' C' ∧ N3 wx bo (.int .i64 n) (.int .i64 n) (.slice ea Q ec) ∧ some bo ≠ ((.slice ea Q ec) : Value).ownBlock ∧ w2.heap.size ≤ bo ∧ Below w2.heap.size w2 wx ∧ LimF Q (fun _ => some (0, 0)) A' (w.heap.size + 1 + 1))
 case first =>
  refine bgj (fun w' => Below w2.heap.size w2 w') [10] (by kernel_rfl) (zbh) (fun hHeld => ?_)
  simp only [List.size_toArray, List.length_cons, List.length_nil, Nat.reduceAdd, Array.replicate_succ, Array.replicate_zero, List.push_toArray, List.nil_append, List.cons_append]
  refine tkj 0 54 ?_ [1, 8, 10] (hy := ?_) (hS := zbh) (h := ?_)
  rotate_left
  · intro w hSw; haveI : From w2 w := ⟨hSw⟩; go_simp; (try with_reducible rfl)
  refine tkj 1 55 ?_ [8, 10] (hy := ?_) (hS := zbh) (h := ?_)
  rotate_left
  · intro w hSw; haveI : From w2 w := ⟨hSw⟩; go_simp; (try with_reducible rfl)
  refine tkj 2 56 ?_ [3, 8, 10] (hy := ?_) (hS := zbh) (h := ?_)
  rotate_left
  · intro w hSw; haveI : From w2 w := ⟨hSw⟩; go_simp; (try with_reducible rfl)
  refine tkj 3 57 ?_ [8, 10] (hy := ?_) (hS := zbh) (h := ?_)
  rotate_left
  · intro w hSw; haveI : From w2 w := ⟨hSw⟩; go_simp; (try with_reducible rfl)
  refine tkj 4 58 ?_ [5, 6, 7, 8, 10] (hy := ?_) (hS := zbh) (h := ?_)
  rotate_left
  · intro w hSw; haveI : From w2 w := ⟨hSw⟩; go_simp; (try with_reducible rfl)
  refine tkj 5 59 ?_ [6, 7, 8, 10] (hy := ?_) (hS := zbh) (h := ?_)
  rotate_left
  · intro w hSw; haveI : From w2 w := ⟨hSw⟩; go_simp; (try with_reducible rfl)
  refine tkj 6 60 ?_ [7, 8, 10] (hy := ?_) (hS := zbh) (h := ?_)
  rotate_left
  · intro w hSw; haveI : From w2 w := ⟨hSw⟩; go_simp; (try with_reducible rfl)
  refine stj2 7 9 (h := fun K hK => ?_) (h' := fun K hK => ?_)
  · go_simp
    refine hK.out _ _ (Or.inr zbh) ?_
    clear hK K
    try simp only [List.setIfInBounds_toArray, List.set_cons_zero, List.set_cons_succ]
    refine tkj 8 62 ?_ [10] (hy := ?_) (hS := zbh) (h := ?_)
    rotate_left
    · intro w hSw; haveI : From w2 w := ⟨hSw⟩; go_simp; (try with_reducible rfl)
    refine stj 9 (h := fun K hK => ?_)
    go_simp
    refine hK.out _ _ (Or.inr zbh) ?_
    clear hK K
    try simp only [List.setIfInBounds_toArray, List.set_cons_zero, List.set_cons_succ]
    refine stj 10 (h := fun K hK => ?_)
    go_simp
    refine hK.out _ _ (Or.inl (by decide)) ?_
    clear hK K
    try simp only [List.setIfInBounds_toArray, List.set_cons_zero, List.set_cons_succ]
    refine enj (by kernel_rfl) ?_ _
    haveI X0 : DX (w2.alloc (.cells (madeCells #[.bool false, .bool false, .slice none 0 0, .int .i64 0] (Q * 4)) 46)) w2.heap.size (.slice (some ⟨w2.heap.size, 0, none⟩) Q Q) Q (fun _ => some (0, 0)) (fun _ => none) (fun _ => 0) := ⟨mkD_own Q (by omega) w2 w2.heap.size (Nat.le_refl _) rfl⟩
    have X1 : DX (((w2.alloc (.cells (madeCells #[.bool false, .bool false, .slice none 0 0, .int .i64 0] (Q * 4)) 46)).alloc (.cells #[.int .i64 n, .int .i64 n, .slice (some ⟨w2.heap.size, 0, none⟩) Q Q] 25)).drew) w2.heap.size (.slice (some ⟨w2.heap.size, 0, none⟩) Q Q) Q (fun _ => some (0, 0)) (fun _ => none) (fun _ => 0) := inferInstance
    have N1 : N3 (((w2.alloc (.cells (madeCells #[.bool false, .bool false, .slice none 0 0, .int .i64 0] (Q * 4)) 46)).alloc (.cells #[.int .i64 n, .int .i64 n, .slice (some ⟨w2.heap.size, 0, none⟩) Q Q] 25)).drew) (w2.heap.size + 1) (.int .i64 n) (.int .i64 n) (.slice (some ⟨w2.heap.size, 0, none⟩) Q Q) := inferInstance
    have L2 : Below w2.heap.size w2 (((w2.alloc (.cells (madeCells #[.bool false, .bool false, .slice none 0 0, .int .i64 0] (Q * 4)) 46)).alloc (.cells #[.int .i64 n, .int .i64 n, .slice (some ⟨w2.heap.size, 0, none⟩) Q Q] 25)).drew) := zbh
    go_wp2_with fail
    go_meet
    exact ⟨w2.heap.size + 1, some ⟨w2.heap.size, 0, none⟩, Q, _, _, rfl, X1, N1, by simp [Value.ownBlock], Nat.le_succ _, L2, fun t _ h => absurd (show 0 < nl (dman (some ((0 : Int), (0 : Int)))).natAbs from h) (by decide)⟩
  · go_simp
    refine hK.out _ _ (Or.inr zbh) ?_
    clear hK K
    try simp only [List.setIfInBounds_toArray, List.set_cons_zero, List.set_cons_succ]
    refine stj 7 (h := fun K hK => ?_)
    go_simp
    refine hK.out _ _ (Or.inr zbh) ?_
    clear hK K
    try simp only [List.setIfInBounds_toArray, List.set_cons_zero, List.set_cons_succ]
    refine tkj 8 62 ?_ [10] (hy := ?_) (hS := zbh) (h := ?_)
    rotate_left
    · intro w hSw; haveI : From w2 w := ⟨hSw⟩; go_simp; (try with_reducible rfl)
    refine stj 10 (h := fun K hK => ?_)
    go_simp
    refine hK.out _ _ (Or.inl (by decide)) ?_
    clear hK K
    try simp only [List.setIfInBounds_toArray, List.set_cons_zero, List.set_cons_succ]
    refine enj (by kernel_rfl) ?_ _
    haveI X0 : DX ((w2.alloc (.cells #[.int .i64 n, .int .i64 n, .slice (some ⟨w2.heap.size + 1, 0, none⟩) Q Q] 25)).alloc (.cells (madeCells #[.bool false, .bool false, .slice none 0 0, .int .i64 0] (Q * 4)) 46)) w2.heap.size (.slice (some ⟨w2.heap.size + 1, 0, none⟩) Q Q) Q (fun _ => some (0, 0)) (fun _ => none) (fun _ => 0) := ⟨mkD_own Q (by omega) (w2.alloc (.cells #[.int .i64 n, .int .i64 n, .slice (some ⟨w2.heap.size + 1, 0, none⟩) Q Q] 25)) w2.heap.size (by simp) (by simp)⟩
    have X1 : DX (((w2.alloc (.cells #[.int .i64 n, .int .i64 n, .slice (some ⟨w2.heap.size + 1, 0, none⟩) Q Q] 25)).alloc (.cells (madeCells #[.bool false, .bool false, .slice none 0 0, .int .i64 0] (Q * 4)) 46)).drew) w2.heap.size (.slice (some ⟨w2.heap.size + 1, 0, none⟩) Q Q) Q (fun _ => some (0, 0)) (fun _ => none) (fun _ => 0) := inferInstance
    have N1 : N3 (((w2.alloc (.cells #[.int .i64 n, .int .i64 n, .slice (some ⟨w2.heap.size + 1, 0, none⟩) Q Q] 25)).alloc (.cells (madeCells #[.bool false, .bool false, .slice none 0 0, .int .i64 0] (Q * 4)) 46)).drew) w2.heap.size (.int .i64 n) (.int .i64 n) (.slice (some ⟨w2.heap.size + 1, 0, none⟩) Q Q) := inferInstance
    have L2 : Below w2.heap.size w2 (((w2.alloc (.cells #[.int .i64 n, .int .i64 n, .slice (some ⟨w2.heap.size + 1, 0, none⟩) Q Q] 25)).alloc (.cells (madeCells #[.bool false, .bool false, .slice none 0 0, .int .i64 0] (Q * 4)) 46)).drew) := zbh
    go_wp2_with fail
    go_meet
    exact ⟨w2.heap.size, some ⟨w2.heap.size + 1, 0, none⟩, Q, _, _, rfl, X1, N1, by simp [Value.ownBlock], Nat.le_refl _, L2, fun t _ h => absurd (show 0 < nl (dman (some ((0 : Int), (0 : Int)))).natAbs from h) (by decide)⟩
 case rest =>
  obtain ⟨bo, ea, ec, A0, C0, rfl, iX, iO, hbo, hb0, hcb, hL0⟩ := hcut
  rename World => wb
  have iA : N3 wb (w.heap.size) (.int .i64 n) (.int .i64 n) (.slice ob Q cb) := N3.below (inferInstance : N3 w2 (w.heap.size) (.int .i64 n) (.int .i64 n) (.slice ob Q cb)) hcb
  have iC : N3 wb (w.heap.size + 1) (.int .i64 m) (.int .i64 m) (.slice oc M cc) := N3.below (inferInstance : N3 w2 (w.heap.size + 1) (.int .i64 m) (.int .i64 m) (.slice oc M cc)) hcb
  have iR : N3 wb (w.heap.size + 1 + 1) (.int .i64 0) (.int .i64 0) (.slice none 0 0) := N3.below (inferInstance : N3 w2 (w.heap.size + 1 + 1) (.int .i64 0) (.int .i64 0) (.slice none 0 0)) hcb
  have hwb : Below w.heap.size w wb := Below.trans (show Below w.heap.size w w2 from zbh) (hcb.mono (by omega))
  have hlb := iO.lt
  haveI fwb : From w wb := ⟨hwb⟩
  clear hcb
  go_wp2_with fail
  go_loopw [66] (fun x wr => ∃ (i : Nat), i ≤ Q ∧ x = .int .i64 i ∧ ∃ (A' : Nat → Option Addr) (C' : Nat → Nat), DX wr w2.heap.size (.slice ea Q ec) Q (fun t => if t < i then B t else some (0, 0)) A' C' ∧ N3 wr bo (.int .i64 n) (.int .i64 n) (.slice ea Q ec) ∧ Below w2.heap.size wb wr ∧ Below w.heap.size w wr ∧ wb.heap.size ≤ wr.heap.size ∧ LimF Q (fun t => if t < i then B t else some (0, 0)) A' (w.heap.size + 1 + 1)) (fun x _ => Q - (intOf x).toNat)
  case atStart => exact ⟨0, by omega, rfl, A0, C0, iX, iO, Below.refl _ _, hwb, Nat.le_refl _, hL0⟩
  case round =>
   obtain ⟨i, hi, rfl, A', C', iX', iO', hbb, hbr, hsz, hlf⟩ := hrel
   haveI bw : From w wr := ⟨hbr⟩
   haveI iA' := N3.lo iA hbb (by omega)
   haveI iC' := N3.lo iC hbb (by omega)
   haveI iR' := N3.lo iR hbb (by omega)
   by_cases hlt : i < Q
   · obtain ⟨g, hg, hg0, hg1, hgc, hgl⟩ := own_some iX'.out.own (by omega)
     have hbg : bo ≠ g := fun e => hbo (by rw [hg, e]; rfl)
     have HDC : Hid (∀ t, t < Q → (if t = i then B i else if t < i then B t else some (0, 0)) = if t < i + 1 then B t else some (0, 0)) := Lib.hid fun t ht => by
      by_cases h1 : t = i
      · subst h1; rw [if_pos rfl, if_pos (by omega)]
      · rw [if_neg h1]
        by_cases h2 : t < i
        · rw [if_pos h2, if_pos (by omega)]
        · rw [if_neg h2, if_neg (by omega)]
     have k1 := (inferInstance : DZ wr ob Q cb B).out.idx i hlt
     obtain ⟨A1, C1, y0, y1, y2, y3, y4⟩ := (inferInstance : DZ wr ob Q cb B).out.el hlt
     have hN := HNB.out i
     generalize B i = dk at HDC y0 y1 y2 y3 y4 hN
     have HNk := fun W a c [i1 : BI W a (nl (dman dk).natAbs) c (dman dk).natAbs] [Tb W] => Lib.hid (frF (dNorm_d W (dyin_of hN i1.out) tb))
     have xi := idxD' g i Q ec hlt
     subst hg
     obtain ⟨ob1, z0, z1, z2, z3, _⟩ := iX'.out.cev hlt
     generalize (if i < i then B i else some ((0 : Int), (0 : Int))) = d0 at z0 z1 z2 z3
     go_wp2_with fail
     have q1 : DX (wr.alloc (.cells #[.bool (dbad dk), .bool (decide (dman dk < 0)), .slice A1 (nl (dman dk).natAbs) C1, .int .i64 (dexp dk)] 46)) w2.heap.size (.slice (some ⟨g, 0, none⟩) Q ec) Q (fun t => if t < i then B t else some (0, 0)) A' C' := inferInstance
     have q2 : N3 (wr.alloc (.cells #[.bool (dbad dk), .bool (decide (dman dk < 0)), .slice A1 (nl (dman dk).natAbs) C1, .int .i64 (dexp dk)] 46)) bo (.int .i64 n) (.int .i64 n) (.slice (some ⟨g, 0, none⟩) Q ec) := inferInstance
     have q3 : DB (wr.alloc (.cells #[.bool (dbad dk), .bool (decide (dman dk < 0)), .slice A1 (nl (dman dk).natAbs) C1, .int .i64 (dexp dk)] 46)) wr.heap.size (dbad dk) (decide (dman dk < 0)) (.slice A1 (nl (dman dk).natAbs) C1) (dexp dk) := inferInstance
     have q4 : BI (wr.alloc (.cells #[.bool (dbad dk), .bool (decide (dman dk < 0)), .slice A1 (nl (dman dk).natAbs) C1, .int .i64 (dexp dk)] 46)) A1 (nl (dman dk).natAbs) C1 (dman dk).natAbs := inferInstance
     have q5 : Tb (wr.alloc (.cells #[.bool (dbad dk), .bool (decide (dman dk < 0)), .slice A1 (nl (dman dk).natAbs) C1, .int .i64 (dexp dk)] 46)) := inferInstance
     have q6 : Beh w (wr.alloc (.cells #[.bool (dbad dk), .bool (decide (dman dk < 0)), .slice A1 (nl (dman dk).natAbs) C1, .int .i64 (dexp dk)] 46)) := inferInstance
     have q7 : Beh wr (wr.alloc (.cells #[.bool (dbad dk), .bool (decide (dman dk < 0)), .slice A1 (nl (dman dk).natAbs) C1, .int .i64 (dexp dk)] 46)) := inferInstance
     have q8 : OB (wr.alloc (.cells #[.bool (dbad dk), .bool (decide (dman dk < 0)), .slice A1 (nl (dman dk).natAbs) C1, .int .i64 (dexp dk)] 46)) g := inferInstance
     have v0 : CE (wr.alloc (.cells #[.bool (dbad dk), .bool (decide (dman dk < 0)), .slice A1 (nl (dman dk).natAbs) C1, .int .i64 (dexp dk)] 46)) g (i * 4) (.bool (dbad d0)) := inferInstance
     have v1 : CE (wr.alloc (.cells #[.bool (dbad dk), .bool (decide (dman dk < 0)), .slice A1 (nl (dman dk).natAbs) C1, .int .i64 (dexp dk)] 46)) g (i * 4 + 1) (.bool (decide (dman d0 < 0))) := inferInstance
     have v2 : CE (wr.alloc (.cells #[.bool (dbad dk), .bool (decide (dman dk < 0)), .slice A1 (nl (dman dk).natAbs) C1, .int .i64 (dexp dk)] 46)) g (i * 4 + 2) (.slice (A' i) (nl (dman d0).natAbs) (C' i)) := inferInstance
     have v3 : CE (wr.alloc (.cells #[.bool (dbad dk), .bool (decide (dman dk < 0)), .slice A1 (nl (dman dk).natAbs) C1, .int .i64 (dexp dk)] 46)) g (i * 4 + 3) (.int .i64 (dexp d0)) := inferInstance
     generalize (wr.alloc (.cells #[.bool (dbad dk), .bool (decide (dman dk < 0)), .slice A1 (nl (dman dk).natAbs) C1, .int .i64 (dexp dk)] 46)) = wq at *
     generalize wr.heap.size = bd at q3
     clear z0 z1 z2 z3 y0 y1 y2 y3 y4 ob1
     refine bgj (fun w' => Below wq.heap.size wq w') [6] (by kernel_rfl) (zbh) (fun hHeld => ?_)
     simp only [List.size_toArray, List.length_cons, List.length_nil, Nat.reduceAdd, Array.replicate_succ, Array.replicate_zero, List.push_toArray, List.nil_append, List.cons_append]
     refine tkj 0 71 ?_ [1, 5, 6] (hy := ?_) (hS := zbh) (h := ?_)
     rotate_left
     · intro w hSw; haveI : From wq w := ⟨hSw⟩; go_simp; (try with_reducible rfl)
     refine tkj 1 72 ?_ [5, 6] (hy := ?_) (hS := zbh) (h := ?_)
     rotate_left
     · intro w hSw; haveI : From wq w := ⟨hSw⟩; go_simp; (try with_reducible rfl)
     refine tkj 2 73 ?_ [5, 6] (hy := ?_) (hS := zbh) (h := ?_)
     rotate_left
     · intro w hSw; haveI : From wq w := ⟨hSw⟩; go_simp; (try with_reducible rfl)
     refine tkj 3 74 ?_ [4, 5, 6] (hy := ?_) (hS := zbh) (h := ?_)
     rotate_left
     · intro w hSw; haveI : From wq w := ⟨hSw⟩; go_simp; (try with_reducible rfl)
     refine stj 4 (h := fun K hK => ?_)
     go_simp
     go_at_call 72; refine (HNk _ _ _).out.mono ?_; rintro o z1 ⟨a3, c3, rfl, i3, b3, f3⟩
     go_simp
     refine hK.out _ _ (Or.inr zbh) ?_
     clear hK K
     try simp only [List.setIfInBounds_toArray, List.set_cons_zero, List.set_cons_succ]
     refine tkj 5 76 ?_ [6] (hy := ?_) (hS := zbh) (h := ?_)
     rotate_left
     · intro w hSw; haveI : From wq w := ⟨hSw⟩; go_simp; (try with_reducible rfl)
     refine stj 6 (h := fun K hK => ?_)
     go_simp
     refine hK.out _ _ (Or.inl (by decide)) ?_
     clear hK K
     try simp only [List.setIfInBounds_toArray, List.set_cons_zero, List.set_cons_succ]
     refine enj (by kernel_rfl) ?_ _
     have e3 := b3.out.size
     have e7 := q7.out.size
     simp at e3
     have nf : 0 < nl (dman dk).natAbs → ab a3 ≠ g := fun h => by have := f3 h; simp at this; omega
     have X4 : DX z1 w2.heap.size (.slice (some ⟨g, 0, none⟩) Q ec) Q (fun t => if t < i then B t else some (0, 0)) A' C' := inferInstance
     have X5 := X4.put hlt i3 nf HDC.out
     have O4 : N3 z1 bo (.int .i64 n) (.int .i64 n) (.slice (some ⟨g, 0, none⟩) Q ec) := inferInstance
     have O5 := N3.st4 O4 hbg (i * 4) (i * 4 + 1) (i * 4 + 2) (i * 4 + 3) (.bool (dbad dk)) (.bool (decide (dman dk < 0))) (.slice a3 (nl (dman dk).natAbs) c3) (.int .i64 (dexp dk))
     have L4 : Below w2.heap.size wb z1 := hbb.trans ((show Below wr.heap.size wr z1 from q7.out.trans ((show Below wq.heap.size wq z1 from zbh).mono e7)).mono (by omega))
     have L5 := below_st4 L4 hg0 (i * 4) (i * 4 + 1) (i * 4 + 2) (i * 4 + 3) (.bool (dbad dk)) (.bool (decide (dman dk < 0))) (.slice a3 (nl (dman dk).natAbs) c3) (.int .i64 (dexp dk))
     have M4 : Below w.heap.size w z1 := zbh
     have M5 := below_st4 M4 (show w.heap.size ≤ g by omega) (i * 4) (i * 4 + 1) (i * 4 + 2) (i * 4 + 3) (.bool (dbad dk)) (.bool (decide (dman dk < 0))) (.slice a3 (nl (dman dk).natAbs) c3) (.int .i64 (dexp dk))
     have S5 : wb.heap.size ≤ ((((z1.setCell ⟨g, i * 4, none⟩ (.bool (dbad dk))).setCell ⟨g, i * 4 + 1, none⟩ (.bool (decide (dman dk < 0)))).setCell ⟨g, i * 4 + 2, none⟩ (.slice a3 (nl (dman dk).natAbs) c3)).setCell ⟨g, i * 4 + 3, none⟩ (.int .i64 (dexp dk))).heap.size := by rw [size_st4]; omega
     have F5 := hlf.up (a1 := a3) (r := w.heap.size + 1 + 1) (fun h => by have := f3 h; simp at this; omega) HDC.out
     generalize ((((z1.setCell ⟨g, i * 4, none⟩ (.bool (dbad dk))).setCell ⟨g, i * 4 + 1, none⟩ (.bool (decide (dman dk < 0)))).setCell ⟨g, i * 4 + 2, none⟩ (.slice a3 (nl (dman dk).natAbs) c3)).setCell ⟨g, i * 4 + 3, none⟩ (.int .i64 (dexp dk))) = u1 at *
     clear X4 O4 L4 M4 q1 q2 q3 q4 q8 v0 v1 v2 v3
     go_wp2_with fail
     go_roundw
     case rel => exact ⟨i + 1, by omega, by go_num, _, _, X5, O5, L5, M5, S5, F5⟩
     case measure => simp [intOf]; omega
   · have hiQ : Q = i := by omega
     have iX5 : DX wr w2.heap.size (.slice ea Q ec) Q (asmE B C P 0) A' C' := ⟨iX'.out.congr fun t ht => by show (if t < i then B t else some (0, 0)) = B t; rw [if_pos (by omega)]⟩
     have hlf5 : LimF Q (asmE B C P 0) A' (w.heap.size + 1 + 1) := hlf.to fun t ht => by show (if t < i then B t else some (0, 0)) = B t; rw [if_pos (by omega)]
     subst hiQ
     clear iX' hlf
     rename World => wc
     go_wp2_with fail
     go_loopw [80] (fun x wr => ∃ (j : Nat), j ≤ m ∧ x = .int .i64 j ∧ asmOK B C P (j * m) = true ∧ ∃ (A' : Nat → Option Addr) (C' : Nat → Nat), DX wr w2.heap.size (.slice ea Q ec) Q (asmE B C P (j * m)) A' C' ∧ N3 wr bo (.int .i64 n) (.int .i64 n) (.slice ea Q ec) ∧ Below w2.heap.size wb wr ∧ Below w.heap.size w wr ∧ wb.heap.size ≤ wr.heap.size ∧ LimF Q (asmE B C P (j * m)) A' (w.heap.size + 1 + 1)) (fun x _ => m - (intOf x).toNat)
     case atStart => exact ⟨0, by omega, rfl, by rw [Nat.zero_mul]; rfl, A', C', by rw [Nat.zero_mul]; exact iX5, iO', hbb, bw.out, hsz, by rw [Nat.zero_mul]; exact hlf5⟩
     case round =>
      clear iX5 iO' hbb bw hsz hlf5 iA' iC' iR'
      obtain ⟨j, hj, rfl, hal, A', C', iX', iO', hbb, hbr, hsz, hlf⟩ := hrel
      by_cases hltj : j < m
      · obtain ⟨q, hq⟩ : ∃ q, q = j * m := ⟨_, rfl⟩
        have hq1 : q + m ≤ M := by rw [hq, HM.out]; have := Nat.mul_le_mul_right m (show j + 1 ≤ m by omega); rwa [Nat.add_mul, Nat.one_mul] at this
        have hM4 : M ≤ 4096 := by rw [HM.out]; exact Nat.mul_le_mul hm hm
        have l2 : (j : Int) * (m : Int) = (q : Int) := by rw [hq]; exact (Int.natCast_mul _ _).symm
        have HQJ := Lib.hid hq
        rw [← hq] at hal iX' hlf
        have HAL0 := Lib.hid hal
        have HBJ := HROW.out j hltj
        obtain ⟨pj, hpj⟩ : ∃ pj, pj = (A j).toNat := ⟨_, rfl⟩
        have hAj : A j = (pj : Int) := by omega
        have hpn : pj < n := by omega
        obtain ⟨K, hK⟩ : ∃ K, K = pj * n := ⟨_, rfl⟩
        have l3 : (pj : Int) * (n : Int) = (K : Int) := by rw [hK]; exact (Int.natCast_mul _ _).symm
        have hKQ : K + n ≤ Q := by rw [hK, HQ.out]; have := Nat.mul_le_mul_right n (show pj + 1 ≤ n by omega); rwa [Nat.add_mul, Nat.one_mul] at this
        have HPJ : Hid (∀ i, i < m → P (q + i) = K + (A i).toNat) := Lib.hid fun i hi => by rw [hq, HP.out i j hi, hK, hpj]
        have HAJ := Lib.hid hAj
        haveI bw0 : From w wr := ⟨hbr⟩
        haveI iA' := N3.lo iA hbb (by omega)
        haveI iC' := N3.lo iC hbb (by omega)
        haveI iR' := N3.lo iR hbb (by omega)
        clear hq hal hK hpj hAj HBJ
        go_wp2_with fail
        go_loopw [85] (fun x wr => ∃ (i : Nat), i ≤ m ∧ x = .int .i64 i ∧ asmOK B C P (q + i) = true ∧ ∃ (A' : Nat → Option Addr) (C' : Nat → Nat), DX wr w2.heap.size (.slice ea Q ec) Q (asmE B C P (q + i)) A' C' ∧ N3 wr bo (.int .i64 n) (.int .i64 n) (.slice ea Q ec) ∧ Below w2.heap.size wb wr ∧ Below w.heap.size w wr ∧ wb.heap.size ≤ wr.heap.size ∧ LimF Q (asmE B C P (q + i)) A' (w.heap.size + 1 + 1)) (fun x _ => m - (intOf x).toNat)
        case atStart => exact ⟨0, by omega, rfl, HAL0.out, A', C', iX', iO', hbb, hbr, hsz, hlf⟩
        case round =>
         clear iX' iO' hbb hbr hsz hlf bw0 iA' iC' iR' HAL0
         obtain ⟨i, hi, rfl, hal, A', C', iX', iO', hbb, hbr, hsz, hlf⟩ := hrel
         have HAL := Lib.hid hal
         clear hal
         haveI bw : From w wr := ⟨hbr⟩
         haveI iA' := N3.lo iA hbb (by omega)
         haveI iC' := N3.lo iC hbb (by omega)
         haveI iR' := N3.lo iR hbb (by omega)
         by_cases hlti : i < m
         · have HBI := HROW.out i hlti
           obtain ⟨pi, hpi⟩ : ∃ pi, pi = (A i).toNat := ⟨_, rfl⟩
           have hAi : A i = (pi : Int) := by omega
           have hpin : pi < n := by omega
           have hPX : P (q + i) = K + pi := by rw [HPJ.out i hlti, hpi]
           have hKp : K + pi < Q := by omega
           have k1 := (inferInstance : IZ wr al m cl A).out
           have y1 := k1.idx j hltj
           have y2 := k1.idx i hlti
           haveI t1 : CE wr (ab al) (ao al + j) (.int .i64 (pj : Int)) := ⟨by rw [← HAJ.out]; exact k1.cell j hltj, k1.old (by omega)⟩
           haveI t2 : CE wr (ab al) (ao al + i) (.int .i64 (pi : Int)) := ⟨by rw [← hAi]; exact k1.cell i hlti, k1.old (by omega)⟩
           obtain ⟨g, hg, hg0, hg1, hgc, hgl⟩ := own_some iX'.out.own (by omega)
           have hbg : bo ≠ g := fun e => hbo (by rw [hg, e]; rfl)
           have xi := idxD' g (K + pi) Q ec hKp
           rw [show (((K + pi : Nat)) : Int) = (K : Int) + (pi : Int) by omega] at xi
           have yc := (inferInstance : DZ wr oc M cc C).out.idx (q + i) (by omega)
           rw [show (((q + i : Nat)) : Int) = (q : Int) + (i : Int) by omega] at yc
           obtain ⟨A2, C2, u0, u1', u2, u3, u4⟩ := (inferInstance : DZ wr oc M cc C).out.el (i := q + i) (by omega)
           have HNc := Lib.hid (HNC.out (q + i))
           obtain ⟨dc, hdc⟩ : ∃ dc, C (q + i) = dc := ⟨_, rfl⟩
           rw [hdc] at u0 u1' u2 u3 u4 HNc
           have HN0 := Lib.hid (isN_asmE (C := C) (P := P) HNB.out (q + i) (K + pi))
           obtain ⟨dk0, hd0⟩ : ∃ dk0, asmE B C P (q + i) (K + pi) = dk0 := ⟨_, rfl⟩
           subst hg
           obtain ⟨ob1, z0, z1', z2', z3, z4⟩ := iX'.out.cev hKp
           rw [hd0] at z0 z1' z2' z3 z4 HN0
           obtain ⟨dk, hdk⟩ : ∃ dk, dadd dk0 dc = dk := ⟨_, rfl⟩
           have HNk : Hid (IsN dk) := Lib.hid (by rw [← hdk]; exact isN_add _ _)
           have HDC : Hid (∀ t, t < Q → (if t = K + pi then dk else asmE B C P (q + i) t) = asmE B C P (q + i + 1) t) := Lib.hid fun t _ => by
            show _ = if t = P (q + i) then dadd (asmE B C P (q + i) (P (q + i))) (C (q + i)) else asmE B C P (q + i) t
            rw [hPX, hd0, hdc, hdk]
           have HDV : Hid (asmE B C P (q + i + 1) (K + pi) = dk) := Lib.hid (by rw [← HDC.out _ hKp, if_pos rfl])
           have HST : Hid (asmOK B C P (q + i + 1) = !dbad dk) := Lib.hid (by show (asmOK B C P (q + i) && !dbad (dadd (asmE B C P (q + i) (P (q + i))) (C (q + i)))) = _; rw [HAL.out, hPX, hd0, hdc, hdk]; rfl)
           have HBD : Hid (dbad dk = true → asmOK B C P M = false) := Lib.hid fun h => asmOK_no (s := q + i) (by omega) (by rw [hPX, hd0, hdc, hdk]; exact h)
           have HAD := fun W a c a' c' [i1 : BI W a (nl (dman dk0).natAbs) c (dman dk0).natAbs] [i2 : BI W a' (nl (dman dc).natAbs) c' (dman dc).natAbs] [Tb W] => Lib.hid (frF (dadd_any W _ _ _ _ a a' _ _ c c' _ _ dk0 dc (dyin_of HN0.out i1.out) (dyin_of HNc.out i2.out) tb))
           rw [hdk] at HAD
           have HVs := fun W a c [i1 : BI W a (nl (dman dk).natAbs) c (dman dk).natAbs] [Tb W] => Lib.hid (frm (by
            have hb := isN_bounds HNk.out
            have h := dvalid_any W (dbad dk) (decide (dman dk < 0)) a (nl (dman dk).natAbs) c (dman dk).natAbs (dexp dk) i1.out (Nat.le_trans (nl_le_blen _) (by omega)) tb (by omega) (tz_lim (by omega)) (by omega) (by omega)
            rwa [show nrmB (dbad dk) (sgn (decide (dman dk < 0)) (dman dk).natAbs) (dexp dk) = dk from by rw [sgn_self]; exact isN_self HNk.out] at h))
           have x1 : IntKind.i64.wrap (K : Int) = (K : Int) := by rw [IntKind.wrap_i64]; omega
           have x2 : IntKind.i64.wrap ((K : Int) + (pi : Int)) = (K : Int) + (pi : Int) := by rw [IntKind.wrap_i64]; omega
           have x3 : IntKind.i64.wrap (q : Int) = (q : Int) := by rw [IntKind.wrap_i64]; omega
           have x4 : IntKind.i64.wrap ((q : Int) + (i : Int)) = (q : Int) + (i : Int) := by rw [IntKind.wrap_i64]; omega
           clear hpi hAi hPX hdc hd0 hdk k1 HBI
           go_wp2_with fail
           go_quiet (fail)
           go_wp2_with fail
           refine bgj (fun w' => Below wr.heap.size wr w') [20] (by kernel_rfl) (zbh) (fun hHeld => ?_)
           simp only [List.size_toArray, List.length_cons, List.length_nil, Nat.reduceAdd, Array.replicate_succ, Array.replicate_zero, List.push_toArray, List.nil_append, List.cons_append]
           refine tkj 0 100 ?_ [1, 19, 20] (hy := ?_) (hS := zbh) (h := ?_)
           rotate_left
           · intro w hSw; haveI : From wr w := ⟨hSw⟩; go_simp; (try with_reducible rfl)
           refine tkj 1 101 ?_ [19, 20] (hy := ?_) (hS := zbh) (h := ?_)
           rotate_left
           · intro w hSw; haveI : From wr w := ⟨hSw⟩; go_simp; (try with_reducible rfl)
           refine tkj 2 102 ?_ [19, 20] (hy := ?_) (hS := zbh) (h := ?_)
           rotate_left
           · intro w hSw; haveI : From wr w := ⟨hSw⟩; go_simp; (try with_reducible rfl)
           refine tkj 3 103 ?_ [4, 6, 7, 18, 19, 20] (hy := ?_) (hS := zbh) (h := ?_)
           rotate_left
           · intro w hSw; haveI : From wr w := ⟨hSw⟩; go_simp; (try with_reducible rfl)
           refine tkj 4 104 ?_ [6, 7, 18, 19, 20] (hy := ?_) (hS := zbh) (h := ?_)
           rotate_left
           · intro w hSw; haveI : From wr w := ⟨hSw⟩; go_simp; (try with_reducible rfl)
           refine tkj 5 105 ?_ [6, 7, 18, 19, 20] (hy := ?_) (hS := zbh) (h := ?_)
           rotate_left
           · intro w hSw; haveI : From wr w := ⟨hSw⟩; go_simp; (try with_reducible rfl)
           refine tkj 6 106 ?_ [7, 18, 19, 20] (hy := ?_) (hS := zbh) (h := ?_)
           rotate_left
           · intro w hSw; haveI : From wr w := ⟨hSw⟩; go_simp; (try with_reducible rfl)
           refine tkj 7 107 ?_ [18, 19, 20] (hy := ?_) (hS := zbh) (h := ?_)
           rotate_left
           · intro w hSw; haveI : From wr w := ⟨hSw⟩; go_simp; (try with_reducible rfl)
           refine tkj 8 108 ?_ [9, 16, 17, 18, 19, 20] (hy := ?_) (hS := zbh) (h := ?_)
           rotate_left
           · intro w hSw; haveI : From wr w := ⟨hSw⟩; go_simp; (try with_reducible rfl)
           refine tkj 9 109 ?_ [16, 17, 18, 19, 20] (hy := ?_) (hS := zbh) (h := ?_)
           rotate_left
           · intro w hSw; haveI : From wr w := ⟨hSw⟩; go_simp; (try with_reducible rfl)
           refine tkj 10 110 ?_ [13, 15, 16, 17, 18, 19, 20] (hy := ?_) (hS := zbh) (h := ?_)
           rotate_left
           · intro w hSw; haveI : From wr w := ⟨hSw⟩; go_simp; (try with_reducible rfl)
           refine tkj 11 111 ?_ [12, 13, 15, 16, 17, 18, 19, 20] (hy := ?_) (hS := zbh) (h := ?_)
           rotate_left
           · intro w hSw; haveI : From wr w := ⟨hSw⟩; go_simp; (try with_reducible rfl)
           refine tkj 12 112 ?_ [13, 15, 16, 17, 18, 19, 20] (hy := ?_) (hS := zbh) (h := ?_)
           rotate_left
           · intro w hSw; haveI : From wr w := ⟨hSw⟩; go_simp; (try with_reducible rfl)
           refine tkj 13 113 ?_ [15, 16, 17, 18, 19, 20] (hy := ?_) (hS := zbh) (h := ?_)
           rotate_left
           · intro w hSw; haveI : From wr w := ⟨hSw⟩; go_simp; (try with_reducible rfl)
           refine tkj 14 114 ?_ [15, 16, 17, 18, 19, 20] (hy := ?_) (hS := zbh) (h := ?_)
           rotate_left
           · intro w hSw; haveI : From wr w := ⟨hSw⟩; go_simp; (try with_reducible rfl)
           refine tkj 15 115 ?_ [16, 17, 18, 19, 20] (hy := ?_) (hS := zbh) (h := ?_)
           rotate_left
           · intro w hSw; haveI : From wr w := ⟨hSw⟩; go_simp; (try with_reducible rfl)
           refine tkj 16 116 ?_ [17, 18, 19, 20] (hy := ?_) (hS := zbh) (h := ?_)
           rotate_left
           · intro w hSw; haveI : From wr w := ⟨hSw⟩; go_simp; (try with_reducible rfl)
           refine tkj 17 117 ?_ [18, 19, 20] (hy := ?_) (hS := zbh) (h := ?_)
           rotate_left
           · intro w hSw; haveI : From wr w := ⟨hSw⟩; go_simp; (try with_reducible rfl)
           refine stj 18 (h := fun K hK => ?_)
           go_simp
           go_at_call 73; refine (HAD _ _ _ _ _).out.mono ?_; rintro o z1 ⟨a3, c3, rfl, i3, b3, f3⟩
           go_simp
           refine hK.out _ _ (Or.inr zbh) ?_
           clear hK K
           try simp only [List.setIfInBounds_toArray, List.set_cons_zero, List.set_cons_succ]
           refine tkj 19 119 ?_ [20] (hy := ?_) (hS := zbh) (h := ?_)
           rotate_left
           · intro w hSw; haveI : From wr w := ⟨hSw⟩; go_simp; (try with_reducible rfl)
           refine stj 20 (h := fun K hK => ?_)
           go_simp
           refine hK.out _ _ (Or.inl (by decide)) ?_
           clear hK K
           try simp only [List.setIfInBounds_toArray, List.set_cons_zero, List.set_cons_succ]
           refine enj (by kernel_rfl) ?_ _
           have e3 : wr.heap.size ≤ z1.heap.size := @Beh.size wr z1 inferInstance
           have nf : 0 < nl (dman dk).natAbs → ab a3 ≠ g := fun h => by have := Nat.le_trans (@Beh.size wr _ inferInstance) (f3 h); omega
           have X4 : DX z1 w2.heap.size (.slice (some ⟨g, 0, none⟩) Q ec) Q (asmE B C P (q + i)) A' C' := inferInstance
           have X5 := X4.put hKp i3 nf HDC.out
           have O4 : N3 z1 bo (.int .i64 n) (.int .i64 n) (.slice (some ⟨g, 0, none⟩) Q ec) := inferInstance
           have O5 := N3.st4 O4 hbg ((K + pi) * 4) ((K + pi) * 4 + 1) ((K + pi) * 4 + 2) ((K + pi) * 4 + 3) (.bool (dbad dk)) (.bool (decide (dman dk < 0))) (.slice a3 (nl (dman dk).natAbs) c3) (.int .i64 (dexp dk))
           have L4 : Below w2.heap.size wb z1 := hbb.trans ((show Below wr.heap.size wr z1 from zbh).mono (by omega))
           have L5 := below_st4 L4 hg0 ((K + pi) * 4) ((K + pi) * 4 + 1) ((K + pi) * 4 + 2) ((K + pi) * 4 + 3) (.bool (dbad dk)) (.bool (decide (dman dk < 0))) (.slice a3 (nl (dman dk).natAbs) c3) (.int .i64 (dexp dk))
           have M4 : Below w.heap.size w z1 := zbh
           have M5 := below_st4 M4 (show w.heap.size ≤ g by omega) ((K + pi) * 4) ((K + pi) * 4 + 1) ((K + pi) * 4 + 2) ((K + pi) * 4 + 3) (.bool (dbad dk)) (.bool (decide (dman dk < 0))) (.slice a3 (nl (dman dk).natAbs) c3) (.int .i64 (dexp dk))
           have S5 : wb.heap.size ≤ ((((z1.setCell ⟨g, (K + pi) * 4, none⟩ (.bool (dbad dk))).setCell ⟨g, (K + pi) * 4 + 1, none⟩ (.bool (decide (dman dk < 0)))).setCell ⟨g, (K + pi) * 4 + 2, none⟩ (.slice a3 (nl (dman dk).natAbs) c3)).setCell ⟨g, (K + pi) * 4 + 3, none⟩ (.int .i64 (dexp dk))).heap.size := by rw [size_st4]; omega
           have F5 := hlf.up (a1 := a3) (r := w.heap.size + 1 + 1) (fun h => by have := Nat.le_trans (@Beh.size wr _ inferInstance) (f3 h); omega) HDC.out
           generalize ((((z1.setCell ⟨g, (K + pi) * 4, none⟩ (.bool (dbad dk))).setCell ⟨g, (K + pi) * 4 + 1, none⟩ (.bool (decide (dman dk < 0)))).setCell ⟨g, (K + pi) * 4 + 2, none⟩ (.slice a3 (nl (dman dk).natAbs) c3)).setCell ⟨g, (K + pi) * 4 + 3, none⟩ (.int .i64 (dexp dk))) = u1 at *
           clear X4 O4 L4 M4 z0 z1' z2' z3 z4 u0 u1' u2 u3 u4 ob1 iX' iO' hbb hbr bw iA' iC' iR' t1 t2 i3 b3 f3 HAD hlf
           haveI f5 : From w u1 := ⟨M5⟩
           obtain ⟨ob1, z0, z1', z2', z3, z4⟩ := X5.out.cev hKp
           rw [HDV.out] at z0 z1' z2' z3 z4
           simp only [↓reduceIte] at z2' z4
           haveI iR5 := N3.lo iR L5 (by omega)
           by_cases hb : dbad dk = true
           · have hk : ok = false := by rw [HOK.out, ← HM.out]; exact HBD.out hb
             rw [hb] at HVs
             simp only [hb] at z0
             subst hk
             clear HBD HST HOK
             go_wp2_with fail
             refine (HVs _ _ _).out.mono ?_; rintro o v2 ⟨rfl, b2'⟩
             have L6 : Below w.heap.size w v2 := zbh
             clear HVs
             go_wp2_with fail
             refine bodyPost_ret (v := .tuple #[.agg #[.int .i64 0, .int .i64 0, .slice none 0 0], .int .i64 233]) (by simp only [results, Tryz.results33]; go_simp) rfl ?_
             exact ⟨none, 0, rfl, ⟨dz_nil _ _⟩, ⟨((L6.setCell (p := ⟨w.heap.size + 1 + 1, 0, none⟩) (by show w.heap.size ≤ w.heap.size + 1 + 1; omega) _).setCell (p := ⟨w.heap.size + 1 + 1, 1, none⟩) (by show w.heap.size ≤ w.heap.size + 1 + 1; omega) _).setCell (p := ⟨w.heap.size + 1 + 1, 2, none⟩) (by show w.heap.size ≤ w.heap.size + 1 + 1; omega) _⟩⟩
           · have hb' : dbad dk = false := by simpa using hb
             have HST2 : Hid (asmOK B C P (q + i + 1) = true) := Lib.hid (by rw [HST.out, hb']; rfl)
             rw [hb'] at HVs
             simp only [hb'] at z0
             clear HBD HST hb hb'
             go_wp2_with fail
             refine (HVs _ _ _).out.mono ?_; rintro o v2 ⟨rfl, b2'⟩
             have X6 : DX v2 w2.heap.size (.slice (some ⟨g, 0, none⟩) Q ec) Q (asmE B C P (q + i + 1)) _ _ := inferInstance
             have O6 : N3 v2 bo (.int .i64 n) (.int .i64 n) (.slice (some ⟨g, 0, none⟩) Q ec) := inferInstance
             have L6 : Below w2.heap.size wb v2 := L5.trans ((show Below u1.heap.size u1 v2 from zbh).mono (by omega))
             have M6 : Below w.heap.size w v2 := zbh
             have S6 : wb.heap.size ≤ v2.heap.size := Nat.le_trans S5 (@Beh.size u1 v2 inferInstance)
             clear HVs
             go_wp2_with fail
             go_roundw
             case rel => exact ⟨i + 1, by omega, by go_num, HST2.out, _, _, X6, O6, L6, M6, S6, F5⟩
             case measure => simp [intOf]; omega
         · have him : i = m := by omega
           have hjm : (j + 1) * m = q + i := by rw [Nat.add_mul, Nat.one_mul, ← HQJ.out, him]
           have HA2 : Hid (asmOK B C P ((j + 1) * m) = true) := Lib.hid (by rw [hjm]; exact HAL.out)
           rw [← hjm] at iX' hlf
           clear him hjm
           go_wp2_with fail
           go_roundw
           case rel => exact ⟨j + 1, by omega, by go_num, HA2.out, A', C', iX', iO', hbb, hbr, hsz, hlf⟩
           case measure => simp [intOf]; omega
      · have hjm : j = m := by omega
        have hk : ok = true := by rw [HOK.out]; rw [hjm] at hal; exact hal
        have hmm : j * m = m * m := by rw [hjm]
        rw [hmm] at iX' hlf
        subst hk
        haveI bw : From w wr := ⟨hbr⟩
        haveI iR' := N3.lo iR hbb (by omega)
        have X6 := DX.set3 iX' (b := w.heap.size + 1 + 1) (own_ne iX'.out.own (by omega)) hlf (.int .i64 n) (.int .i64 n) (.slice ea Q ec)
        obtain ⟨oa', oc', hv', hZ⟩ := X6.out.dz (fun t => isN_asmE (C := C) (P := P) HNB.out (m * m) t)
        injection hv' with v1 v2 v3
        rw [← HM.out] at hZ
        have L6 := ((hbr.setCell (p := ⟨w.heap.size + 1 + 1, 0, none⟩) (by show w.heap.size ≤ w.heap.size + 1 + 1; omega) (.int .i64 n)).setCell (p := ⟨w.heap.size + 1 + 1, 1, none⟩) (by show w.heap.size ≤ w.heap.size + 1 + 1; omega) (.int .i64 n)).setCell (p := ⟨w.heap.size + 1 + 1, 2, none⟩) (by show w.heap.size ≤ w.heap.size + 1 + 1; omega) (.slice ea Q ec)
        clear hjm hmm hal X6
        go_wp2_with fail
        refine bodyPost_ret (v := .tuple #[.agg #[.int .i64 n, .int .i64 n, (.slice ea Q ec)], .int .i64 0]) (by simp only [results, Tryz.results33]; go_simp) rfl ?_
        subst v1 v3
        exact ⟨_, _, rfl, ⟨hZ⟩, ⟨L6⟩⟩
theorem rasm_main (w : World) [Tb w] (n m : Nat) (hn : n ≤ 64) (hm : m ≤ 64) (ob oc al : Option Addr) (cb cc cl : Nat) (B C : Nat → Option (Int × Int)) (A : Nat → Int) [hB : DZ w ob (n * n) cb B] [hC : DZ w oc (m * m) cc C] [hA : IZ w al m cl A] (hNB : ∀ i, IsN (B i)) (hNC : ∀ i, IsN (C i)) (hbB : anyBad B (n * n) = false) (hbC : anyBad C (m * m) = false) (hrows : rowsOK A n m = true) (ok : Bool) (hok : ok = asmOK B C (asP A n m) (m * m)) :
 Calls Tryz.prog 34 #[.agg #[.int .i64 n, .int .i64 n, .slice ob (n * n) cb], .slice al m cl, .agg #[.int .i64 m, .int .i64 m, .slice oc (m * m) cc]] w fun o w' => ∃ oa ocp, o = .returned (.tuple #[.agg #[.int .i64 (mps ok n : Nat), .int .i64 (mps ok n : Nat), .slice oa (mps ok (n * n)) ocp], .int .i64 (mpf ok)]) ∧ DZ w' oa (mps ok (n * n)) ocp (asmE B C (asP A n m) (m * m)) ∧ From w w' := by
 have HC1 := fun W [i : DZ W ob (n * n) cb B] [Tb W] => Lib.hid (frm (dz_chk i fun L h1 h2 => rcheck_any W tb n n ob (n * n) cb L h1 h2))
 have HC2 := fun W [i : DZ W oc (m * m) cc C] [Tb W] => Lib.hid (frm (dz_chk i fun L h1 h2 => rcheck_any W tb m m oc (m * m) cc L h1 h2))
 rw [chk_ok hn hn hbB] at HC1
 rw [chk_ok hm hm hbC] at HC2
 obtain ⟨P, hP⟩ : ∃ P, P = asP A n m := ⟨_, rfl⟩
 have HROW : Hid (∀ i, i < m → 0 ≤ A i ∧ A i < n) := Lib.hid fun i hi => ⟨(rowsOK_at hrows hi).1, (rowsOK_at hrows hi).2.1⟩
 have HRW : Hid (∀ i, i < m → 0 ≤ A i ∧ A i < n ∧ (i = 0 ∨ A (i - 1) < A i)) := Lib.hid fun i hi => rowsOK_at hrows hi
 have HP : Hid (∀ i j, i < m → P (j * m + i) = (A j).toNat * n + (A i).toNat) := Lib.hid fun i j hi => by rw [hP]; exact asP_at hi
 rw [← hP] at hok ⊢
 have HOK := Lib.hid hok
 have HNB := Lib.hid hNB
 have HNC := Lib.hid hNC
 obtain ⟨Q, hQ⟩ : ∃ Q, Q = n * n := ⟨_, rfl⟩
 obtain ⟨M, hM⟩ : ∃ M, M = m * m := ⟨_, rfl⟩
 have HQ := Lib.hid hQ
 have HM := Lib.hid hM
 have hQ4 : Q ≤ 4096 := by rw [hQ]; exact Nat.mul_le_mul hn hn
 rw [← hQ] at HC1 ⊢
 rw [← hM] at HC2 ⊢
 haveI dB : DZ w ob Q cb B := by rw [hQ]; exact hB
 haveI dC : DZ w oc M cc C := by rw [hM]; exact hC
 have hlB := dB.out.fits
 obtain ⟨AB, CB, hdb⟩ := dB.out.ex
 have hlw : ∀ i, i < Q → 0 < nl (dman (B i)).natAbs → ab (AB i) < w.heap.size := fun i hi hp => (hdb.m i hi).old hp
 have HLW := Lib.hid hlw
 have HLF : Hid (LimF Q B AB (w.heap.size + 1 + 1)) := Lib.hid fun t ht hp => by have := hlw t ht hp; omega
 have HDB := Lib.hid hdb
 clear hP hok hrows hQ hM hbB hbC hNB hNC hB hC hdb hlw
 go_enter Tryz.func34, Tryz.ntmps34
 go_wp2_with fail
 refine (HC1 _).out.mono ?_; rintro o w1 ⟨rfl, b1⟩
 go_wp2_with fail
 refine (HC2 _).out.mono ?_; rintro o w2' ⟨rfl, b2⟩
 have e1 := b1.out.size
 have e2 := b2.out.size
 simp at e1
 clear HC1 HC2
 go_wp2_with fail
 go_loopw [10] (fun x wr => ∃ i : Nat, i ≤ m ∧ x = .int .i64 i ∧ Below w2'.heap.size w2' wr) (fun x _ => m - (intOf x).toNat)
 case atStart => exact ⟨0, by omega, rfl, zbh⟩
 case round =>
  obtain ⟨i, hi, rfl, hbr⟩ := hrel
  haveI bw : From w2' wr := ⟨hbr⟩
  by_cases hlt : i < m
  · have hy := HRW.out i hlt
    have k1 := (inferInstance : IZ wr al m cl A).out
    have y1 := k1.idx i hlt
    haveI z1 : CE wr (ab al) (ao al + i) (.int .i64 (A i)) := ⟨k1.cell i hlt, k1.old (by omega)⟩
    have d0 : decide (A i < 0) = false := decide_eq_false (by omega)
    have d1 : decide ((n : Int) ≤ A i) = false := decide_eq_false (by omega)
    by_cases h2 : i = 0
    · have d2 : decide (0 < i) = false := decide_eq_false (by omega)
      have d2' : decide ((0 : Int) < (i : Int)) = false := decide_eq_false (by omega)
      generalize A i = x at *
      clear hy k1 h2
      go_wp2_with fail
      go_quiet (fail)
      all_goals (
       go_wp2_with fail
       go_roundw
       case rel => exact ⟨i + 1, by omega, by go_num, zbh⟩
       case measure => simp [intOf]; omega)
    · have d2 : decide (0 < i) = true := decide_eq_true (by omega)
      have d2' : decide ((0 : Int) < (i : Int)) = true := decide_eq_true (by omega)
      have d3 : decide (A i ≤ A (i - 1)) = false := decide_eq_false (by omega)
      have y2 := k1.idx (i - 1) (by omega)
      haveI z2 : CE wr (ab al) (ao al + (i - 1)) (.int .i64 (A (i - 1))) := ⟨k1.cell _ (by omega), k1.old (by omega)⟩
      rw [show ((i - 1 : Nat) : Int) = (i : Int) - 1 by omega] at y2
      have x9 : IntKind.i64.wrap ((i : Int) - 1) = (i : Int) - 1 := by rw [IntKind.wrap_i64]; omega
      generalize A (i - 1) = x1 at *
      generalize A i = x at *
      generalize i - 1 = i1 at *
      clear hy k1 h2
      go_wp2_with fail
      go_quiet (fail)
      all_goals (
       go_wp2_with fail
       go_roundw
       case rel => exact ⟨i + 1, by omega, by go_num, zbh⟩
       case measure => simp [intOf]; omega)
  · have him : i = m := by omega
    rename World => w2
    have e3 := hbr.size
    haveI G2 : BG w2 w2.heap.size := ⟨Nat.le_refl _⟩
    clear hbr him
    have HLO : Hid (∀ i, i < Q → 0 < nl (dman (B i)).natAbs → ab (AB i) < w2.heap.size) := Lib.hid fun i hi hp => by have := HLW.out i hi hp; omega
    go_wp2_with fail
    go_cut [11] (fun vb wx => ∃ (bo : Nat) (ea : Option Addr) (ec : Nat) (A' : Nat → Option Addr) (C' : Nat → Nat), vb = .pointer (some ⟨bo, 0, none⟩) ∧ DX wx w2.heap.size (.slice ea Q ec) Q B A' C' ∧ N3 wx bo (.int .i64 n) (.int .i64 n) (.slice ea Q ec) ∧ some bo ≠ ((.slice ea Q ec) : Value).ownBlock ∧ w2.heap.size ≤ bo ∧ Below w2.heap.size w2 wx ∧ LimF Q B A' (w.heap.size + 1 + 1))
    case first =>
     refine bgj (fun w' => Below w2.heap.size w2 w') [10] (by kernel_rfl) ((by exact zbh)) (fun hHeld => ?_)
     simp only [List.size_toArray, List.length_cons, List.length_nil, Nat.reduceAdd, Array.replicate_succ, Array.replicate_zero, List.push_toArray, List.nil_append, List.cons_append]
     refine tkj 0 84 ?_ [1, 8, 10] (hy := ?_) (hS := (by exact zbh)) (h := ?_)
     rotate_left
     · intro w hSw; haveI : From w2 w := ⟨hSw⟩; go_simp; (try with_reducible rfl)
     refine tkj 1 85 ?_ [8, 10] (hy := ?_) (hS := (by exact zbh)) (h := ?_)
     rotate_left
     · intro w hSw; haveI : From w2 w := ⟨hSw⟩; go_simp; (try with_reducible rfl)
     refine tkj 2 86 ?_ [3, 8, 10] (hy := ?_) (hS := (by exact zbh)) (h := ?_)
     rotate_left
     · intro w hSw; haveI : From w2 w := ⟨hSw⟩; go_simp; (try with_reducible rfl)
     refine tkj 3 87 ?_ [8, 10] (hy := ?_) (hS := (by exact zbh)) (h := ?_)
     rotate_left
     · intro w hSw; haveI : From w2 w := ⟨hSw⟩; go_simp; (try with_reducible rfl)
     refine tkj 5 89 ?_ [6, 7, 8, 10] (hy := ?_) (hS := (by exact zbh)) (h := ?_)
     rotate_left
     · intro w hSw; haveI : From w2 w := ⟨hSw⟩; go_simp; (try with_reducible rfl)
     refine tkj 6 90 ?_ [7, 8, 10] (hy := ?_) (hS := (by exact zbh)) (h := ?_)
     rotate_left
     · intro w hSw; haveI : From w2 w := ⟨hSw⟩; go_simp; (try with_reducible rfl)
     refine stj2 4 9 (h := fun K hK => ?_) (h' := fun K hK => ?_)
     · go_simp
       refine hK.out _ _ (Or.inr (by exact zbh)) ?_
       clear hK K
       try simp only [List.setIfInBounds_toArray, List.set_cons_zero, List.set_cons_succ]
       refine stj2 7 9 (h := fun K hK => ?_) (h' := fun K hK => ?_)
       · refine step_app_copy (by rfl) _ _ (by rfl) w2.heap.size (.slice (some ⟨w2.heap.size, 0, none⟩) 0 0) (by rfl) (by exact inferInstance) ob Q cb B AB CB (by rfl) (HDB.out.below (by exact zbh)) HLO.out (by omega) (by exact BG.out) ?_
         intro ea ec w6 hX6 hg6 hob6 hB6
         haveI f6 : From w2 w6 := ⟨Below.trans (show Below w2.heap.size w2 _ from zbh) hB6⟩
         have hW6 := hB6.size
         have HSB := Lib.hid hob6
         simp at hW6
         clear hg6 hob6 hB6
         refine hK.out _ _ (Or.inr (by exact zbh)) ?_
         clear hK K
         try simp only [Act.put, List.setIfInBounds_toArray, List.set_cons_zero, List.set_cons_succ]
         refine tkj 8 92 ?_ [10] (hy := ?_) (hS := (by exact zbh)) (h := ?_)
         rotate_left
         · intro w hSw; haveI : From w2 w := ⟨hSw⟩; go_simp; (try with_reducible rfl)
         refine stj 9 (h := fun K hK => ?_)
         go_simp
         refine hK.out _ _ (Or.inr (by exact zbh)) ?_
         clear hK K
         try simp only [List.setIfInBounds_toArray, List.set_cons_zero, List.set_cons_succ]
         refine stj 10 (h := fun K hK => ?_)
         go_simp
         refine hK.out _ _ (Or.inl (by decide)) ?_
         clear hK K
         try simp only [List.setIfInBounds_toArray, List.set_cons_zero, List.set_cons_succ]
         refine enj (by kernel_rfl) ?_ _
         go_wp2_with fail
         go_meet
         exact ⟨w6.heap.size, ea, ec, AB, CB, rfl, (by exact inferInstance), (by exact inferInstance), fun e => Nat.lt_irrefl _ (hX6.out.own.lt _ e.symm).2, by omega, (by exact zbh), HLF.out⟩
       · go_simp
         refine hK.out _ _ (Or.inr (by exact zbh)) ?_
         clear hK K
         try simp only [List.setIfInBounds_toArray, List.set_cons_zero, List.set_cons_succ]
         refine stj 7 (h := fun K hK => ?_)
         refine step_app_copy (by rfl) _ _ (by rfl) w2.heap.size (.slice (some ⟨w2.heap.size, 0, none⟩) 0 0) (by rfl) (by exact inferInstance) ob Q cb B AB CB (by rfl) (HDB.out.below (by exact zbh)) HLO.out (by omega) (by exact BG.out) ?_
         intro ea ec w6 hX6 hg6 hob6 hB6
         haveI f6 : From w2 w6 := ⟨Below.trans (show Below w2.heap.size w2 _ from zbh) hB6⟩
         have hW6 := hB6.size
         have N6 : N3 w6 (w2.heap.size + 1) (.int .i64 0) (.int .i64 0) (.slice none 0 0) := N3.gr2 (by exact inferInstance) hg6 (by simp [Value.ownBlock])
         haveI := N6
         have HSB := Lib.hid hob6
         simp at hW6
         clear hg6 hob6 hB6
         refine hK.out _ _ (Or.inr (by exact zbh)) ?_
         clear hK K
         try simp only [Act.put, List.setIfInBounds_toArray, List.set_cons_zero, List.set_cons_succ]
         refine tkj 8 92 ?_ [10] (hy := ?_) (hS := (by exact zbh)) (h := ?_)
         rotate_left
         · intro w hSw; haveI : From w2 w := ⟨hSw⟩; go_simp; (try with_reducible rfl)
         refine stj 10 (h := fun K hK => ?_)
         go_simp
         refine hK.out _ _ (Or.inl (by decide)) ?_
         clear hK K
         try simp only [List.setIfInBounds_toArray, List.set_cons_zero, List.set_cons_succ]
         refine enj (by kernel_rfl) ?_ _
         have hv6 : some (w2.heap.size + 1) ≠ (Value.slice ea Q ec).ownBlock := by
          rcases HSB.out with h | h
          · rw [h]; simp [Value.ownBlock]
          · rw [h]; simp; try omega
         have X7 := hX6.set3 (b := w2.heap.size + 1) hv6 (fun t ht hp => by have := HLO.out t ht hp; omega) (.int .i64 n) (.int .i64 n) (.slice ea Q ec)
         have N7 := N3.put3 N6 (.int .i64 n) (.int .i64 n) (.slice ea Q ec)
         have L7 := ((f6.out.setCell (p := ⟨w2.heap.size + 1, 0, none⟩) (by show w2.heap.size ≤ w2.heap.size + 1; omega) (.int .i64 n)).setCell (p := ⟨w2.heap.size + 1, 1, none⟩) (by show w2.heap.size ≤ w2.heap.size + 1; omega) (.int .i64 n)).setCell (p := ⟨w2.heap.size + 1, 2, none⟩) (by show w2.heap.size ≤ w2.heap.size + 1; omega) (.slice ea Q ec)
         go_wp2_with fail
         go_meet
         exact ⟨w2.heap.size + 1, ea, ec, _, _, rfl, X7, N7, hv6, by omega, L7, HLF.out⟩
     · go_simp
       refine hK.out _ _ (Or.inr (by exact zbh)) ?_
       clear hK K
       try simp only [List.setIfInBounds_toArray, List.set_cons_zero, List.set_cons_succ]
       refine stj 4 (h := fun K hK => ?_)
       go_simp
       refine hK.out _ _ (Or.inr (by exact zbh)) ?_
       clear hK K
       try simp only [List.setIfInBounds_toArray, List.set_cons_zero, List.set_cons_succ]
       refine stj 7 (h := fun K hK => ?_)
       refine step_app_copy (by rfl) _ _ (by rfl) w2.heap.size (.slice (some ⟨w2.heap.size + 1, 0, none⟩) 0 0) (by rfl) (by exact inferInstance) ob Q cb B AB CB (by rfl) (HDB.out.below (by exact zbh)) HLO.out (by omega) (by exact BG.out) ?_
       intro ea ec w6 hX6 hg6 hob6 hB6
       haveI f6 : From w2 w6 := ⟨Below.trans (show Below w2.heap.size w2 _ from zbh) hB6⟩
       have hW6 := hB6.size
       have N6 : N3 w6 (w2.heap.size) (.int .i64 0) (.int .i64 0) (.slice none 0 0) := N3.gr2 (by exact inferInstance) hg6 (by simp [Value.ownBlock])
       haveI := N6
       have HSB := Lib.hid hob6
       simp at hW6
       clear hg6 hob6 hB6
       refine hK.out _ _ (Or.inr (by exact zbh)) ?_
       clear hK K
       try simp only [Act.put, List.setIfInBounds_toArray, List.set_cons_zero, List.set_cons_succ]
       refine tkj 8 92 ?_ [10] (hy := ?_) (hS := (by exact zbh)) (h := ?_)
       rotate_left
       · intro w hSw; haveI : From w2 w := ⟨hSw⟩; go_simp; (try with_reducible rfl)
       refine stj 10 (h := fun K hK => ?_)
       go_simp
       refine hK.out _ _ (Or.inl (by decide)) ?_
       clear hK K
       try simp only [List.setIfInBounds_toArray, List.set_cons_zero, List.set_cons_succ]
       refine enj (by kernel_rfl) ?_ _
       have hv6 : some (w2.heap.size) ≠ (Value.slice ea Q ec).ownBlock := by
        rcases HSB.out with h | h
        · rw [h]; simp [Value.ownBlock]
        · rw [h]; simp; try omega
       have X7 := hX6.set3 (b := w2.heap.size) hv6 (fun t ht hp => by have := HLO.out t ht hp; omega) (.int .i64 n) (.int .i64 n) (.slice ea Q ec)
       have N7 := N3.put3 N6 (.int .i64 n) (.int .i64 n) (.slice ea Q ec)
       have L7 := ((f6.out.setCell (p := ⟨w2.heap.size, 0, none⟩) (by show w2.heap.size ≤ w2.heap.size; omega) (.int .i64 n)).setCell (p := ⟨w2.heap.size, 1, none⟩) (by show w2.heap.size ≤ w2.heap.size; omega) (.int .i64 n)).setCell (p := ⟨w2.heap.size, 2, none⟩) (by show w2.heap.size ≤ w2.heap.size; omega) (.slice ea Q ec)
       go_wp2_with fail
       go_meet
       exact ⟨w2.heap.size, ea, ec, _, _, rfl, X7, N7, hv6, by omega, L7, HLF.out⟩
    case rest =>
     obtain ⟨bo, ea, ec, A', C', rfl, iX5, iO', hbo, hb0, hcb, hlf5⟩ := hcut
     rename World => wb
     have iA : N3 wb (w.heap.size) (.int .i64 n) (.int .i64 n) (.slice ob Q cb) := N3.below (inferInstance : N3 w2 (w.heap.size) (.int .i64 n) (.int .i64 n) (.slice ob Q cb)) hcb
     have iC : N3 wb (w.heap.size + 1) (.int .i64 m) (.int .i64 m) (.slice oc M cc) := N3.below (inferInstance : N3 w2 (w.heap.size + 1) (.int .i64 m) (.int .i64 m) (.slice oc M cc)) hcb
     have iR : N3 wb (w.heap.size + 1 + 1) (.int .i64 0) (.int .i64 0) (.slice none 0 0) := N3.below (inferInstance : N3 w2 (w.heap.size + 1 + 1) (.int .i64 0) (.int .i64 0) (.slice none 0 0)) hcb
     have hwb : Below w.heap.size w wb := Below.trans (show Below w.heap.size w w2 from zbh) (hcb.mono (by omega))
     have hlb := iO'.lt
     haveI bw : From w wb := ⟨hwb⟩
     have hbb : Below w2.heap.size wb wb := Below.refl _ _
     have hsz : wb.heap.size ≤ wb.heap.size := Nat.le_refl _
     haveI iA' := iA
     haveI iC' := iC
     haveI iR' := iR
     clear hcb hwb
     go_wp2_with fail
     go_loopw [12] (fun x wr => ∃ (j : Nat), j ≤ m ∧ x = .int .i64 j ∧ asmOK B C P (j * m) = true ∧ ∃ (A' : Nat → Option Addr) (C' : Nat → Nat), DX wr w2.heap.size (.slice ea Q ec) Q (asmE B C P (j * m)) A' C' ∧ N3 wr bo (.int .i64 n) (.int .i64 n) (.slice ea Q ec) ∧ Below w2.heap.size wb wr ∧ Below w.heap.size w wr ∧ wb.heap.size ≤ wr.heap.size ∧ LimF Q (asmE B C P (j * m)) A' (w.heap.size + 1 + 1)) (fun x _ => m - (intOf x).toNat)
     case atStart => exact ⟨0, by omega, rfl, by rw [Nat.zero_mul]; rfl, A', C', by rw [Nat.zero_mul]; exact iX5, iO', hbb, bw.out, hsz, by rw [Nat.zero_mul]; exact hlf5⟩
     case round =>
      clear iX5 iO' hbb bw hsz hlf5 iA' iC' iR'
      obtain ⟨j, hj, rfl, hal, A', C', iX', iO', hbb, hbr, hsz, hlf⟩ := hrel
      by_cases hltj : j < m
      · obtain ⟨q, hq⟩ : ∃ q, q = j * m := ⟨_, rfl⟩
        have hq1 : q + m ≤ M := by rw [hq, HM.out]; have := Nat.mul_le_mul_right m (show j + 1 ≤ m by omega); rwa [Nat.add_mul, Nat.one_mul] at this
        have hM4 : M ≤ 4096 := by rw [HM.out]; exact Nat.mul_le_mul hm hm
        have l2 : (j : Int) * (m : Int) = (q : Int) := by rw [hq]; exact (Int.natCast_mul _ _).symm
        have HQJ := Lib.hid hq
        rw [← hq] at hal iX' hlf
        have HAL0 := Lib.hid hal
        have HBJ := HROW.out j hltj
        obtain ⟨pj, hpj⟩ : ∃ pj, pj = (A j).toNat := ⟨_, rfl⟩
        have hAj : A j = (pj : Int) := by omega
        have hpn : pj < n := by omega
        obtain ⟨K, hK⟩ : ∃ K, K = pj * n := ⟨_, rfl⟩
        have l3 : (pj : Int) * (n : Int) = (K : Int) := by rw [hK]; exact (Int.natCast_mul _ _).symm
        have hKQ : K + n ≤ Q := by rw [hK, HQ.out]; have := Nat.mul_le_mul_right n (show pj + 1 ≤ n by omega); rwa [Nat.add_mul, Nat.one_mul] at this
        have HPJ : Hid (∀ i, i < m → P (q + i) = K + (A i).toNat) := Lib.hid fun i hi => by rw [hq, HP.out i j hi, hK, hpj]
        have HAJ := Lib.hid hAj
        haveI bw0 : From w wr := ⟨hbr⟩
        haveI iA' := N3.lo iA hbb (by omega)
        haveI iC' := N3.lo iC hbb (by omega)
        haveI iR' := N3.lo iR hbb (by omega)
        clear hq hal hK hpj hAj HBJ
        go_wp2_with fail
        go_loopw [13] (fun x wr => ∃ (i : Nat), i ≤ m ∧ x = .int .i64 i ∧ asmOK B C P (q + i) = true ∧ ∃ (A' : Nat → Option Addr) (C' : Nat → Nat), DX wr w2.heap.size (.slice ea Q ec) Q (asmE B C P (q + i)) A' C' ∧ N3 wr bo (.int .i64 n) (.int .i64 n) (.slice ea Q ec) ∧ Below w2.heap.size wb wr ∧ Below w.heap.size w wr ∧ wb.heap.size ≤ wr.heap.size ∧ LimF Q (asmE B C P (q + i)) A' (w.heap.size + 1 + 1)) (fun x _ => m - (intOf x).toNat)
        case atStart => exact ⟨0, by omega, rfl, HAL0.out, A', C', iX', iO', hbb, hbr, hsz, hlf⟩
        case round =>
         clear iX' iO' hbb hbr hsz hlf bw0 iA' iC' iR' HAL0
         obtain ⟨i, hi, rfl, hal, A', C', iX', iO', hbb, hbr, hsz, hlf⟩ := hrel
         have HAL := Lib.hid hal
         clear hal
         haveI bw : From w wr := ⟨hbr⟩
         haveI iA' := N3.lo iA hbb (by omega)
         haveI iC' := N3.lo iC hbb (by omega)
         haveI iR' := N3.lo iR hbb (by omega)
         by_cases hlti : i < m
         · have HBI := HROW.out i hlti
           obtain ⟨pi, hpi⟩ : ∃ pi, pi = (A i).toNat := ⟨_, rfl⟩
           have hAi : A i = (pi : Int) := by omega
           have hpin : pi < n := by omega
           have hPX : P (q + i) = K + pi := by rw [HPJ.out i hlti, hpi]
           have hKp : K + pi < Q := by omega
           have k1 := (inferInstance : IZ wr al m cl A).out
           have y1 := k1.idx j hltj
           have y2 := k1.idx i hlti
           haveI t1 : CE wr (ab al) (ao al + j) (.int .i64 (pj : Int)) := ⟨by rw [← HAJ.out]; exact k1.cell j hltj, k1.old (by omega)⟩
           haveI t2 : CE wr (ab al) (ao al + i) (.int .i64 (pi : Int)) := ⟨by rw [← hAi]; exact k1.cell i hlti, k1.old (by omega)⟩
           obtain ⟨g, hg, hg0, hg1, hgc, hgl⟩ := own_some iX'.out.own (by omega)
           have hbg : bo ≠ g := fun e => hbo (by rw [hg, e]; rfl)
           have xi := idxD' g (K + pi) Q ec hKp
           rw [show (((K + pi : Nat)) : Int) = (K : Int) + (pi : Int) by omega] at xi
           have yc := (inferInstance : DZ wr oc M cc C).out.idx (q + i) (by omega)
           rw [show (((q + i : Nat)) : Int) = (q : Int) + (i : Int) by omega] at yc
           obtain ⟨A2, C2, u0, u1', u2, u3, u4⟩ := (inferInstance : DZ wr oc M cc C).out.el (i := q + i) (by omega)
           have HNc := Lib.hid (HNC.out (q + i))
           obtain ⟨dc, hdc⟩ : ∃ dc, C (q + i) = dc := ⟨_, rfl⟩
           rw [hdc] at u0 u1' u2 u3 u4 HNc
           have HN0 := Lib.hid (isN_asmE (C := C) (P := P) HNB.out (q + i) (K + pi))
           obtain ⟨dk0, hd0⟩ : ∃ dk0, asmE B C P (q + i) (K + pi) = dk0 := ⟨_, rfl⟩
           subst hg
           obtain ⟨ob1, z0, z1', z2', z3, z4⟩ := iX'.out.cev hKp
           rw [hd0] at z0 z1' z2' z3 z4 HN0
           obtain ⟨dk, hdk⟩ : ∃ dk, dadd dk0 dc = dk := ⟨_, rfl⟩
           have HNk : Hid (IsN dk) := Lib.hid (by rw [← hdk]; exact isN_add _ _)
           have HDC : Hid (∀ t, t < Q → (if t = K + pi then dk else asmE B C P (q + i) t) = asmE B C P (q + i + 1) t) := Lib.hid fun t _ => by
            show _ = if t = P (q + i) then dadd (asmE B C P (q + i) (P (q + i))) (C (q + i)) else asmE B C P (q + i) t
            rw [hPX, hd0, hdc, hdk]
           have HDV : Hid (asmE B C P (q + i + 1) (K + pi) = dk) := Lib.hid (by rw [← HDC.out _ hKp, if_pos rfl])
           have HST : Hid (asmOK B C P (q + i + 1) = !dbad dk) := Lib.hid (by show (asmOK B C P (q + i) && !dbad (dadd (asmE B C P (q + i) (P (q + i))) (C (q + i)))) = _; rw [HAL.out, hPX, hd0, hdc, hdk]; rfl)
           have HBD : Hid (dbad dk = true → asmOK B C P M = false) := Lib.hid fun h => asmOK_no (s := q + i) (by omega) (by rw [hPX, hd0, hdc, hdk]; exact h)
           have HAD := fun W a c a' c' [i1 : BI W a (nl (dman dk0).natAbs) c (dman dk0).natAbs] [i2 : BI W a' (nl (dman dc).natAbs) c' (dman dc).natAbs] [Tb W] => Lib.hid (frF (rdadd_any W _ _ _ _ a a' _ _ c c' _ _ dk0 dc (dys_of HN0.out i1.out) (dys_of HNc.out i2.out) tb))
           have HAT := fun W [iC : DZ W oc M cc C] => Lib.hid ((r23at_any W m (m : Int) oc M cc C i j hm hlti hltj HM.out).mono fun o w' ⟨a, q', h1, h2, h3⟩ => (⟨a, q', h1, ⟨h2.below h3⟩, ⟨h3⟩⟩ : ∃ a q', o = Ending.returned (.agg #[.bool (dbad (C (j * m + i))), .bool (decide (dman (C (j * m + i)) < 0)), .slice a (nl (dman (C (j * m + i))).natAbs) q', .int .i64 (dexp (C (j * m + i)))]) ∧ BI w' a (nl (dman (C (j * m + i))).natAbs) q' (dman (C (j * m + i))).natAbs ∧ From W w'))
           rw [← HQJ.out, hdc] at HAT
           rw [hdk] at HAD
           have HVs := fun W a c [i1 : BI W a (nl (dman dk).natAbs) c (dman dk).natAbs] [Tb W] => Lib.hid (frm (rvalid_any W (dbad dk) (decide (dman dk < 0)) a _ c (dexp dk) dk (dys_of HNk.out i1.out) tb))
           have x1 : IntKind.i64.wrap (K : Int) = (K : Int) := by rw [IntKind.wrap_i64]; omega
           have x2 : IntKind.i64.wrap ((K : Int) + (pi : Int)) = (K : Int) + (pi : Int) := by rw [IntKind.wrap_i64]; omega
           have x3 : IntKind.i64.wrap (q : Int) = (q : Int) := by rw [IntKind.wrap_i64]; omega
           have x4 : IntKind.i64.wrap ((q : Int) + (i : Int)) = (q : Int) + (i : Int) := by rw [IntKind.wrap_i64]; omega
           clear hpi hAi hPX hdc hd0 hdk k1 HBI
           go_wp2_with fail
           go_quiet (fail)
           go_wp2_with fail
           refine bgj (fun w' => Below wr.heap.size wr w') [14] (by kernel_rfl) (zbh) (fun hHeld => ?_)
           simp only [List.size_toArray, List.length_cons, List.length_nil, Nat.reduceAdd, Array.replicate_succ, Array.replicate_zero, List.push_toArray, List.nil_append, List.cons_append]
           refine tkj 0 117 ?_ [1, 13, 14] (hy := ?_) (hS := zbh) (h := ?_)
           rotate_left
           · intro w hSw; haveI : From wr w := ⟨hSw⟩; go_simp; (try with_reducible rfl)
           refine tkj 1 118 ?_ [13, 14] (hy := ?_) (hS := zbh) (h := ?_)
           rotate_left
           · intro w hSw; haveI : From wr w := ⟨hSw⟩; go_simp; (try with_reducible rfl)
           refine tkj 2 119 ?_ [13, 14] (hy := ?_) (hS := zbh) (h := ?_)
           rotate_left
           · intro w hSw; haveI : From wr w := ⟨hSw⟩; go_simp; (try with_reducible rfl)
           refine tkj 3 120 ?_ [4, 6, 7, 12, 13, 14] (hy := ?_) (hS := zbh) (h := ?_)
           rotate_left
           · intro w hSw; haveI : From wr w := ⟨hSw⟩; go_simp; (try with_reducible rfl)
           refine tkj 4 121 ?_ [6, 7, 12, 13, 14] (hy := ?_) (hS := zbh) (h := ?_)
           rotate_left
           · intro w hSw; haveI : From wr w := ⟨hSw⟩; go_simp; (try with_reducible rfl)
           refine tkj 5 122 ?_ [6, 7, 12, 13, 14] (hy := ?_) (hS := zbh) (h := ?_)
           rotate_left
           · intro w hSw; haveI : From wr w := ⟨hSw⟩; go_simp; (try with_reducible rfl)
           refine tkj 6 123 ?_ [7, 12, 13, 14] (hy := ?_) (hS := zbh) (h := ?_)
           rotate_left
           · intro w hSw; haveI : From wr w := ⟨hSw⟩; go_simp; (try with_reducible rfl)
           refine tkj 7 124 ?_ [12, 13, 14] (hy := ?_) (hS := zbh) (h := ?_)
           rotate_left
           · intro w hSw; haveI : From wr w := ⟨hSw⟩; go_simp; (try with_reducible rfl)
           refine tkj 8 125 ?_ [11, 12, 13, 14] (hy := ?_) (hS := zbh) (h := ?_)
           rotate_left
           · intro w hSw; haveI : From wr w := ⟨hSw⟩; go_simp; (try with_reducible rfl)
           refine tkj 9 126 ?_ [11, 12, 13, 14] (hy := ?_) (hS := zbh) (h := ?_)
           rotate_left
           · intro w hSw; haveI : From wr w := ⟨hSw⟩; go_simp; (try with_reducible rfl)
           refine tkj 10 127 ?_ [11, 12, 13, 14] (hy := ?_) (hS := zbh) (h := ?_)
           rotate_left
           · intro w hSw; haveI : From wr w := ⟨hSw⟩; go_simp; (try with_reducible rfl)
           refine stj 11 (h := fun K hK => ?_)
           go_simp
           go_at_call 75; refine (HAT _).out.mono ?_; rintro o z0' ⟨a2, c2, rfl, i2, b2'⟩
           go_simp
           refine hK.out _ _ (Or.inr zbh) ?_
           clear hK K
           try simp only [List.setIfInBounds_toArray, List.set_cons_zero, List.set_cons_succ]
           refine stj 12 (h := fun K hK => ?_)
           go_simp
           go_at_call 74; refine (HAD _ _ _ _ _).out.mono ?_; rintro o z1 ⟨a3, c3, rfl, i3, b3, f3⟩
           go_simp
           refine hK.out _ _ (Or.inr zbh) ?_
           clear hK K
           try simp only [List.setIfInBounds_toArray, List.set_cons_zero, List.set_cons_succ]
           refine tkj 13 130 ?_ [14] (hy := ?_) (hS := zbh) (h := ?_)
           rotate_left
           · intro w hSw; haveI : From wr w := ⟨hSw⟩; go_simp; (try with_reducible rfl)
           refine stj 14 (h := fun K hK => ?_)
           go_simp
           refine hK.out _ _ (Or.inl (by decide)) ?_
           clear hK K
           try simp only [List.setIfInBounds_toArray, List.set_cons_zero, List.set_cons_succ]
           refine enj (by kernel_rfl) ?_ _
           have e3 : wr.heap.size ≤ z1.heap.size := @Beh.size wr z1 inferInstance
           have nf : 0 < nl (dman dk).natAbs → ab a3 ≠ g := fun h => by have := Nat.le_trans (@Beh.size wr _ inferInstance) (f3 h); omega
           have X4 : DX z1 w2.heap.size (.slice (some ⟨g, 0, none⟩) Q ec) Q (asmE B C P (q + i)) A' C' := inferInstance
           have X5 := X4.put hKp i3 nf HDC.out
           have O4 : N3 z1 bo (.int .i64 n) (.int .i64 n) (.slice (some ⟨g, 0, none⟩) Q ec) := inferInstance
           have O5 := N3.st4 O4 hbg ((K + pi) * 4) ((K + pi) * 4 + 1) ((K + pi) * 4 + 2) ((K + pi) * 4 + 3) (.bool (dbad dk)) (.bool (decide (dman dk < 0))) (.slice a3 (nl (dman dk).natAbs) c3) (.int .i64 (dexp dk))
           have L4 : Below w2.heap.size wb z1 := hbb.trans ((show Below wr.heap.size wr z1 from zbh).mono (by omega))
           have L5 := below_st4 L4 hg0 ((K + pi) * 4) ((K + pi) * 4 + 1) ((K + pi) * 4 + 2) ((K + pi) * 4 + 3) (.bool (dbad dk)) (.bool (decide (dman dk < 0))) (.slice a3 (nl (dman dk).natAbs) c3) (.int .i64 (dexp dk))
           have M4 : Below w.heap.size w z1 := zbh
           have M5 := below_st4 M4 (show w.heap.size ≤ g by omega) ((K + pi) * 4) ((K + pi) * 4 + 1) ((K + pi) * 4 + 2) ((K + pi) * 4 + 3) (.bool (dbad dk)) (.bool (decide (dman dk < 0))) (.slice a3 (nl (dman dk).natAbs) c3) (.int .i64 (dexp dk))
           have S5 : wb.heap.size ≤ ((((z1.setCell ⟨g, (K + pi) * 4, none⟩ (.bool (dbad dk))).setCell ⟨g, (K + pi) * 4 + 1, none⟩ (.bool (decide (dman dk < 0)))).setCell ⟨g, (K + pi) * 4 + 2, none⟩ (.slice a3 (nl (dman dk).natAbs) c3)).setCell ⟨g, (K + pi) * 4 + 3, none⟩ (.int .i64 (dexp dk))).heap.size := by rw [size_st4]; omega
           have F5 := hlf.up (a1 := a3) (r := w.heap.size + 1 + 1) (fun h => by have := Nat.le_trans (@Beh.size wr _ inferInstance) (f3 h); omega) HDC.out
           generalize ((((z1.setCell ⟨g, (K + pi) * 4, none⟩ (.bool (dbad dk))).setCell ⟨g, (K + pi) * 4 + 1, none⟩ (.bool (decide (dman dk < 0)))).setCell ⟨g, (K + pi) * 4 + 2, none⟩ (.slice a3 (nl (dman dk).natAbs) c3)).setCell ⟨g, (K + pi) * 4 + 3, none⟩ (.int .i64 (dexp dk))) = u1 at *
           clear X4 O4 L4 M4 z0 z1' z2' z3 z4 u0 u1' u2 u3 u4 ob1 iX' iO' hbb hbr bw iA' iC' iR' t1 t2 i3 b3 f3 HAD hlf
           haveI f5 : From w u1 := ⟨M5⟩
           obtain ⟨ob1, z0, z1', z2', z3, z4⟩ := X5.out.cev hKp
           rw [HDV.out] at z0 z1' z2' z3 z4
           simp only [↓reduceIte] at z2' z4
           haveI iR5 := N3.lo iR L5 (by omega)
           by_cases hb : dbad dk = true
           · have hk : ok = false := by rw [HOK.out, ← HM.out]; exact HBD.out hb
             rw [hb] at HVs
             simp only [hb] at z0
             subst hk
             clear HBD HST HOK
             go_wp2_with fail
             refine (HVs _ _ _).out.mono ?_; rintro o v2 ⟨rfl, b2'⟩
             have L6 : Below w.heap.size w v2 := zbh
             clear HVs
             go_wp2_with fail
             refine bodyPost_ret (v := .tuple #[.agg #[.int .i64 0, .int .i64 0, .slice none 0 0], .int .i64 233]) (by simp only [results, Tryz.results34]; go_simp) rfl ?_
             exact ⟨none, 0, rfl, ⟨dz_nil _ _⟩, ⟨((L6.setCell (p := ⟨w.heap.size + 1 + 1, 0, none⟩) (by show w.heap.size ≤ w.heap.size + 1 + 1; omega) _).setCell (p := ⟨w.heap.size + 1 + 1, 1, none⟩) (by show w.heap.size ≤ w.heap.size + 1 + 1; omega) _).setCell (p := ⟨w.heap.size + 1 + 1, 2, none⟩) (by show w.heap.size ≤ w.heap.size + 1 + 1; omega) _⟩⟩
           · have hb' : dbad dk = false := by simpa using hb
             have HST2 : Hid (asmOK B C P (q + i + 1) = true) := Lib.hid (by rw [HST.out, hb']; rfl)
             rw [hb'] at HVs
             simp only [hb'] at z0
             clear HBD HST hb hb'
             go_wp2_with fail
             refine (HVs _ _ _).out.mono ?_; rintro o v2 ⟨rfl, b2'⟩
             have X6 : DX v2 w2.heap.size (.slice (some ⟨g, 0, none⟩) Q ec) Q (asmE B C P (q + i + 1)) _ _ := inferInstance
             have O6 : N3 v2 bo (.int .i64 n) (.int .i64 n) (.slice (some ⟨g, 0, none⟩) Q ec) := inferInstance
             have L6 : Below w2.heap.size wb v2 := L5.trans ((show Below u1.heap.size u1 v2 from zbh).mono (by omega))
             have M6 : Below w.heap.size w v2 := zbh
             have S6 : wb.heap.size ≤ v2.heap.size := Nat.le_trans S5 (@Beh.size u1 v2 inferInstance)
             clear HVs
             go_wp2_with fail
             go_roundw
             case rel => exact ⟨i + 1, by omega, by go_num, HST2.out, _, _, X6, O6, L6, M6, S6, F5⟩
             case measure => simp [intOf]; omega
         · have him : i = m := by omega
           have hjm : (j + 1) * m = q + i := by rw [Nat.add_mul, Nat.one_mul, ← HQJ.out, him]
           have HA2 : Hid (asmOK B C P ((j + 1) * m) = true) := Lib.hid (by rw [hjm]; exact HAL.out)
           rw [← hjm] at iX' hlf
           clear him hjm
           go_wp2_with fail
           go_roundw
           case rel => exact ⟨j + 1, by omega, by go_num, HA2.out, A', C', iX', iO', hbb, hbr, hsz, hlf⟩
           case measure => simp [intOf]; omega
      · have hjm : j = m := by omega
        have hk : ok = true := by rw [HOK.out]; rw [hjm] at hal; exact hal
        have hmm : j * m = m * m := by rw [hjm]
        rw [hmm] at iX' hlf
        subst hk
        haveI bw : From w wr := ⟨hbr⟩
        haveI iR' := N3.lo iR hbb (by omega)
        have X6 := DX.set3 iX' (b := w.heap.size + 1 + 1) (own_ne iX'.out.own (by omega)) hlf (.int .i64 n) (.int .i64 n) (.slice ea Q ec)
        obtain ⟨oa', oc', hv', hZ⟩ := X6.out.dz (fun t => isN_asmE (C := C) (P := P) HNB.out (m * m) t)
        injection hv' with v1 v2 v3
        rw [← HM.out] at hZ
        have L6 := ((hbr.setCell (p := ⟨w.heap.size + 1 + 1, 0, none⟩) (by show w.heap.size ≤ w.heap.size + 1 + 1; omega) (.int .i64 n)).setCell (p := ⟨w.heap.size + 1 + 1, 1, none⟩) (by show w.heap.size ≤ w.heap.size + 1 + 1; omega) (.int .i64 n)).setCell (p := ⟨w.heap.size + 1 + 1, 2, none⟩) (by show w.heap.size ≤ w.heap.size + 1 + 1; omega) (.slice ea Q ec)
        clear hjm hmm hal X6
        go_wp2_with fail
        refine bodyPost_ret (v := .tuple #[.agg #[.int .i64 n, .int .i64 n, (.slice ea Q ec)], .int .i64 0]) (by simp only [results, Tryz.results34]; go_simp) rfl ?_
        subst v1 v3
        exact ⟨_, _, rfl, ⟨hZ⟩, ⟨L6⟩⟩
end Go.Proofs.YtablcbgeeeboeaaGreatDoor
set_option maxRecDepth 100000
set_option maxHeartbeats 40000000
namespace Go.Proofs.YtablcbgeeeboeaaGreatDoor
open Go.RowKit Sp
theorem bl_add3 (M N : Int) : blen (M + N).natAbs ≤ max (blen M.natAbs) (blen N.natAbs) + 1 :=
 Nat.le_trans (blen_mono (Int.natAbs_add_le M N)) (blen_add_le _ _)
def sumP (c : Nat → Int) (P : Nat → Nat) : Nat → Nat → Int
 | 0, _ => 0
 | s + 1, x => sumP c P s x + if x = P s then c s else 0
theorem asmE_val {B C : Nat → Option (Int × Int)} {P : Nat → Nat} {b c : Nat → Int} {T : Nat} (hB : ∀ x, B x = nrm (b x) (-1074) ∧ blen (b x).natAbs ≤ T) (hC : ∀ x, C x = nrm (c x) (-1074) ∧ blen (c x).natAbs ≤ T) (s : Nat) (hs : T + s ≤ 4000) :
 (∀ x, asmE B C P s x = nrm (b x + sumP c P s x) (-1074) ∧ blen (b x + sumP c P s x).natAbs ≤ T + s) ∧ asmOK B C P s = true := by
 induction s with
 | zero => exact ⟨fun x => by show B x = nrm (b x + 0) _ ∧ blen (b x + 0).natAbs ≤ T + 0; rw [Int.add_zero]; exact hB x, rfl⟩
 | succ s ih =>
  obtain ⟨h1, h2⟩ := ih (by omega)
  have v1 : nrm (b (P s) + sumP c P s (P s)) (-1074) ≠ none := nrm_valid (by omega) (by have := (h1 (P s)).2; omega)
  have v2 : nrm (c s) (-1074) ≠ none := nrm_valid (by omega) (by have := (hC s).2; omega)
  have hs1 : dadd (asmE B C P s (P s)) (C s) = nrm (b (P s) + sumP c P s (P s) + c s) (-1074) := by rw [(h1 (P s)).1, (hC s).1, dadd_nrm _ _ _ v1 v2]
  have hb : blen (b (P s) + sumP c P s (P s) + c s).natAbs ≤ T + (s + 1) := by
   have := bl_add3 (b (P s) + sumP c P s (P s)) (c s)
   have := (h1 (P s)).2
   have := (hC s).2
   omega
  refine ⟨fun x => ?_, ?_⟩
  · show (if x = P s then _ else asmE B C P s x) = nrm (b x + (sumP c P s x + if x = P s then c s else 0)) (-1074) ∧ blen (b x + (sumP c P s x + if x = P s then c s else 0)).natAbs ≤ _
    by_cases e : x = P s
    · subst e
      rw [if_pos rfl, if_pos rfl, ← Int.add_assoc]
      exact ⟨hs1, hb⟩
    · rw [if_neg e, if_neg e, Int.add_zero]
      exact ⟨(h1 x).1, by have := (h1 x).2; omega⟩
  · show (asmOK B C P s && !dbad (dadd (asmE B C P s (P s)) (C s))) = true
    rw [h2, hs1, dbad_ne (nrm_valid (by omega) (by omega))]; rfl
theorem noBad {d : Nat → Option (Int × Int)} {b : Nat → Int} {T : Nat} (h : ∀ x, d x = nrm (b x) (-1074) ∧ blen (b x).natAbs ≤ T) (hT : T ≤ 4000) (n : Nat) : anyBad d n = false := by
 cases hb : anyBad d n with
 | false => rfl
 | true =>
  obtain ⟨i, _, h2⟩ := (anyBad_iff d n).1 hb
  rw [(h i).1, dbad_ne (nrm_valid (by omega) (by have := (h i).2; omega))] at h2; cases h2
theorem fof_val {X : Nat → Nat} (h : Fin' X) (x : Nat) : fof (X x) = nrm (fz (X x)) (-1074) ∧ blen (fz (X x)).natAbs ≤ 2098 := ⟨fof_fin (h x).2, blen_fz (h x).2⟩
theorem asm_swap {B C D : Nat → Option (Int × Int)} {P : Nat → Nat} {b c d : Nat → Int} {s : Nat} (hB : ∀ x, B x = nrm (b x) (-1074) ∧ blen (b x).natAbs ≤ 2098) (hC : ∀ x, C x = nrm (c x) (-1074) ∧ blen (c x).natAbs ≤ 2098) (hD : ∀ x, D x = nrm (d x) (-1074) ∧ blen (d x).natAbs ≤ 2098) (hs : s ≤ 100) :
 asmOK B C P s = true ∧ asmOK B D P s = true ∧ asmOK (asmE B C P s) D P s = true ∧ asmOK (asmE B D P s) C P s = true ∧ (∀ n, anyBad (asmE B C P s) n = false) ∧ (∀ n, anyBad (asmE B D P s) n = false) ∧ asmE (asmE B D P s) C P s = asmE (asmE B C P s) D P s := by
 have up : ∀ {E : Nat → Option (Int × Int)} {e : Nat → Int}, (∀ x, E x = nrm (e x) (-1074) ∧ blen (e x).natAbs ≤ 2098) → ∀ x, E x = nrm (e x) (-1074) ∧ blen (e x).natAbs ≤ 2098 + s := fun h x => ⟨(h x).1, by have := (h x).2; omega⟩
 obtain ⟨h1, o1⟩ := asmE_val (P := P) hB hC s (by omega)
 obtain ⟨h2, o2⟩ := asmE_val (P := P) hB hD s (by omega)
 obtain ⟨h3, o3⟩ := asmE_val (P := P) h1 (up hD) s (by omega)
 obtain ⟨h4, o4⟩ := asmE_val (P := P) h2 (up hC) s (by omega)
 refine ⟨o1, o2, o3, o4, noBad h1 (by omega), noBad h2 (by omega), ?_⟩
 funext x
 rw [(h3 x).1, (h4 x).1]
 congr 1
 omega
def pk (f : Nat → Bool) : Nat → List Nat
 | 0 => []
 | i + 1 => if f i then pk f i ++ [i] else pk f i
theorem pk_len (f : Nat → Bool) (i : Nat) : (pk f i).length ≤ i := by
 induction i with
 | zero => exact Nat.le_refl _
 | succ i ih =>
  show (if f i then pk f i ++ [i] else pk f i).length ≤ _
  split
  · rw [List.length_append]; show _ + 1 ≤ _; omega
  · omega
theorem pk_yes {f : Nat → Bool} {i : Nat} (h : f i = true) : pk f (i + 1) = pk f i ++ [i] := if_pos h
theorem pk_no {f : Nat → Bool} {i : Nat} (h : f i = false) : pk f (i + 1) = pk f i := if_neg (by rw [h]; exact Bool.false_ne_true)
theorem pk_ok (f : Nat → Bool) (i : Nat) : ∀ t, t < (pk f i).length → (pk f i).getD t 0 < i ∧ (t = 0 ∨ (pk f i).getD (t - 1) 0 < (pk f i).getD t 0) := by
 induction i with
 | zero => intro t ht; exact absurd ht (Nat.not_lt_zero t)
 | succ i ih =>
  intro t ht
  cases hf : f i with
  | false =>
   rw [pk_no hf] at ht ⊢
   have := ih t ht
   exact ⟨by omega, this.2⟩
  | true =>
   rw [pk_yes hf] at ht ⊢
   rw [List.length_append] at ht
   have ht : t < (pk f i).length + 1 := ht
   have lo : ∀ k, k < (pk f i).length → (pk f i ++ [i]).getD k 0 = (pk f i).getD k 0 := fun k hk => by
    rw [List.getD_eq_getElem?_getD, List.getD_eq_getElem?_getD, List.getElem?_append_left hk]
   by_cases h : t < (pk f i).length
   · have h1 := ih t h
     rw [lo t h]
     refine ⟨by omega, ?_⟩
     rcases h1.2 with h2 | h2
     · exact Or.inl h2
     · exact Or.inr (by rw [lo (t - 1) (by omega)]; exact h2)
   · have e : t = (pk f i).length := by omega
     have hi : (pk f i ++ [i]).getD t 0 = i := by
      rw [e, List.getD_eq_getElem?_getD, List.getElem?_append_right (Nat.le_refl _), Nat.sub_self]; rfl
     rw [hi]
     refine ⟨by omega, ?_⟩
     rcases Nat.eq_zero_or_pos t with h2 | h2
     · exact Or.inl h2
     · exact Or.inr (by rw [lo (t - 1) (by omega)]; exact (ih (t - 1) (by omega)).1)
theorem pk_rows (f : Nat → Bool) {i n : Nat} (h : i ≤ n) : ∀ m, m ≤ (pk f i).length → rowsOK (fun t => (((pk f i).getD t 0 : Nat) : Int)) n m = true := by
 intro m
 induction m with
 | zero => intro _; rfl
 | succ m ih =>
  intro hm
  show (rowsOK _ _ m && rowOK _ _ m) = true
  rw [ih (by omega)]
  have h1 := pk_ok f i m (by omega)
  refine (Bool.true_and _).trans (decide_eq_true ⟨Int.natCast_nonneg _, by show (((pk f i).getD m 0 : Nat) : Int) < n; omega, ?_⟩)
  rcases h1.2 with h2 | h2
  · exact Or.inl h2
  · exact Or.inr (by show (((pk f i).getD (m - 1) 0 : Nat) : Int) < (((pk f i).getD m 0 : Nat) : Int); omega)
theorem elemU8b : Tryz.prog.elem 22 = 39 := by kernel_rfl
theorem undU8b : Tryz.prog.underlying 22 = some (.slice 39) := by kernel_rfl
theorem sizU8b (w : World) : (Go.sizeOf 39).run Tryz.prog w = .ok 1 w := by kernel_rfl
theorem Fls.takesB {w : World} {a : Option Addr} {n cap : Nat} {L : Nat → Nat} (h : Fls w a n cap L) (k : Nat) (hk : k ≤ n) : Fls w (if cap = 0 then a else a.map (·.add (0 * 1))) k cap L := by
 have hl := h.lim
 have hf := h.fits
 by_cases h0 : k = 0
 · subst h0
   exact ⟨by omega, by omega, by omega, fun i hi => by omega, fun i hi => by omega, by omega⟩
 · have ha := h.addr (by omega)
   have e : (if cap = 0 then a else a.map (·.add (0 * 1))) = a := by
    rw [if_neg (by omega), ha]; simp [Addr.add]
   rw [e]
   exact ⟨by omega, by omega, fun _ => ha, fun i hi => h.cell i (by omega), fun i hi => h.b i (by omega), fun _ => h.old (by omega)⟩
attribute [local irreducible] Calls
theorem dasms_any (w : World) [Tb w] (a : Option Addr) (n0 cap : Nat) (L : Nat → Nat) [hL : FZ w a n0 cap L] (n1 sty : Int) (ap : Option Addr) (np cp : Nat) (f : Nat → Bool) [hP : BZ w ap np cp f] :
 Calls Tryz.prog 8 #[.slice a n0 cap, .int .i64 n1, .int .i64 sty, .slice ap np cp] w fun o w' => o = .returned (.bool true) ∧ Below w.heap.size w w' := by
 have HAW := fun W [Tb W] => Lib.hid (frm (awake23_any W))
 obtain ⟨k, hk, hk7⟩ := pl_nat n1 7 (by omega)
 have HM := fun W => Lib.hid (gmod_any W n1 7 (by omega) (by omega))
 rw [show ((7 : Nat) : Int) = 7 from rfl] at hk
 rw [hk] at HM
 clear hk
 have l1 := hL.out.lim
 have l2 := hL.out.fits
 have l3 := hP.out.lim
 have l4 := hP.out.fits
 have HBB := fun W [Tb W] [FZ W a n0 cap L] => Lib.hid ((gblock_any W a n0 cap L k k (by omega) (by omega) sty).mono fun o w' ⟨oa, oc, X, h1, h2, h3, h4⟩ => (⟨oa, oc, X, h1, ⟨h2.dz fun i => isN_fof _⟩, h3, ⟨h4⟩⟩ : ∃ (oa : Option Addr) (oc : Nat) (X : Nat → Nat), o = Ending.returned (.agg #[.int .i64 k, .int .i64 k, .slice oa (k * k) oc]) ∧ DZ w' oa (k * k) oc (fun i => fof (X i)) ∧ Fin' X ∧ From W w'))
 obtain ⟨K, hK⟩ : ∃ K, K = n0 / 2 := ⟨_, rfl⟩
 have hKn : K ≤ n0 := by omega
 have hKd : Int.tdiv (n0 : Int) 2 = (K : Int) := by rw [Int.tdiv_eq_ediv_of_nonneg (by omega)]; omega
 have hKe : (n0 : Int) / 2 = (K : Int) := by omega
 have hKw : IntKind.i64.wrap (K : Int) = (K : Int) := by rw [IntKind.wrap_i64]; omega
 clear hK
 obtain ⟨a3, ha3⟩ : ∃ z, (if cap = 0 then a else a.map (·.add (0 * 1))) = z := ⟨_, rfl⟩
 have HS3 : ∀ W, (Instr.slice 22 (.slice a n0 cap) none (some (.int .i64 K)) none).run Tryz.prog W = .ok (.slice a3 K cap) W := fun W => by
  rw [run_slice_h W 22 a n0 cap (by rw [elemU8b]; exact undU8b) .i64 (K : Int) (by omega) (by omega), elemU8b, sizU8b]
  simp only [Result.andThen, sliced, Int.toNat_natCast, Nat.sub_zero, ha3]
 have HT3 : ∀ W, (Instr.sliceAt 22 (.slice a n0 cap) none (some (.int .i64 K)) none).run Tryz.prog W = .ok (.slice a3 K cap) W := fun W => by
  rw [run_sliceAt_slice W 22 _ _ _ _ (by rw [elemU8b]; exact undU8b)]; exact HS3 W
 haveI hL3 : FZ w a3 K cap L := ⟨by rw [← ha3]; exact hL.out.takesB K hKn⟩
 clear ha3
 go_enter Tryz.func8, Tryz.ntmps8
 go_wp2_with fail
 refine (HM _).out.mono ?_; rintro o z1 ⟨rfl, rfl⟩
 go_wp2_with fail
 refine (HBB _).out.mono ?_; rintro o w1 ⟨oa, oc, X, rfl, iB, hX, b1⟩
 clear HM HBB
 go_wp2_with fail
 have n1' : N3 (w1.alloc (.cells #[.int .i64 k, .int .i64 k, .slice oa (k * k) oc] 25)) w1.heap.size (.int .i64 k) (.int .i64 k) (.slice oa (k * k) oc) := inferInstance
 have n2' : DZ (w1.alloc (.cells #[.int .i64 k, .int .i64 k, .slice oa (k * k) oc] 25)) oa (k * k) oc (fun i => fof (X i)) := inferInstance
 have n3' : Below w.heap.size w (w1.alloc (.cells #[.int .i64 k, .int .i64 k, .slice oa (k * k) oc] 25)) := zbh
 generalize (w1.alloc (.cells #[.int .i64 k, .int .i64 k, .slice oa (k * k) oc] 25)) = wb at *
 haveI fwb : From w wb := ⟨n3'⟩
 clear n3' b1 iB
 have hlb := n1'.lt
 generalize w1.heap.size = bb at *
 go_loopw [10, 11] (fun v x wr => ∃ i : Nat, i ≤ k ∧ i ≤ np ∧ x = .int .i64 i ∧ wr.ownsRow wb.heap.size 3 1 v (pk f i).length (icells (pk f i)) ∧ Below wb.heap.size wb wr) (fun _ x _ => k - (intOf x).toNat)
 case atStart => exact ⟨0, by omega, by omega, rfl, World.ownsRow_nil _ _ _ _, Below.refl _ _⟩
 case round =>
  obtain ⟨i, hi, hin, rfl, ho, hbr⟩ := hrel
  haveI bw : From wb wr := ⟨hbr⟩
  have hsz := hbr.size
  have hle := pk_len f i
  by_cases hc : i < k ∧ i < np
  · obtain ⟨c1, c2⟩ := hc
    have k1 := (inferInstance : BZ wr ap np cp f).out
    have y1 := k1.idx i c2
    haveI z1 : CE wr (ab ap) (ao ap + i) (.bool (f i)) := ⟨k1.cell i c2, k1.old (by omega)⟩
    clear k1
    cases hf : f i with
    | false =>
     rw [hf] at z1
     have HPK := Lib.hid (pk_no hf)
     clear hf
     go_wp2_with fail
     go_roundw
     case rel => exact ⟨i + 1, by omega, by omega, by go_num, by rw [HPK.out]; exact ho, hbr⟩
     case measure => simp [intOf]; omega
    | true =>
     rw [hf] at z1
     have HPK := Lib.hid (pk_yes hf)
     clear hf
     have HO := Lib.hid ho
     have ho2 := ho.alloc (.cells #[.int .i64 i] 3)
     have HO2 := Lib.hid ho2
     obtain ⟨va, vc, hv9⟩ := own_slice' ho
     obtain ⟨q, hq⟩ : ∃ q, q = (pk f i).length := ⟨_, rfl⟩
     rw [← hq] at hv9 HO2 hle
     have HQ := Lib.hid hq
     subst hv9
     clear ho ho2 hq
     go_wp2_with (at_builtin; refine app_int2 rfl _ _ rfl wb.heap.size (.slice va q vc) q (icells (pk f i)) rfl _ (i : Int) rfl HO2.out (by go_simp) (by omega) (by simp; omega) ?_; intro v5 w5 hown5 hg5 hob5; obtain ⟨o5, c5, rfl⟩ := own_slice' hown5)
     have L5 : Below wb.heap.size wb w5 := Below.trans (show Below wb.heap.size wb (wr.alloc (.cells #[.int .i64 i] 3)) from zbh) (below_grown HO2.out hg5 (by simp; omega))
     have hown6 : w5.ownsRow wb.heap.size 3 1 (.slice o5 (q + 1) c5) (pk f (i + 1)).length (icells (pk f (i + 1))) := by rw [HPK.out, icells_app, List.length_append, ← HQ.out]; exact hown5
     clear hown5 hg5 hob5 HO2
     go_wp2_with fail
     go_roundw
     case rel => exact ⟨i + 1, by omega, by omega, by go_num, hown6, L5⟩
     case measure => simp [intOf]; omega
  · have HEX : Hid (¬ i < k ∨ (i < k ∧ ¬ i < np)) := Lib.hid (by omega)
    obtain ⟨al, cl, hv9, hA⟩ := own_ils ho rfl
    obtain ⟨m, hm⟩ : ∃ m, m = (pk f i).length := ⟨_, rfl⟩
    have hmk : m ≤ k := by omega
    have HROW : Hid (rowsOK (fun t => (((pk f i).getD t 0 : Nat) : Int)) k m = true) := Lib.hid (pk_rows f hi m (by omega))
    rw [← hm] at hv9 hA
    obtain ⟨A, hAA⟩ : ∃ A : Nat → Int, A = fun t => (((pk f i).getD t 0 : Nat) : Int) := ⟨_, rfl⟩
    rw [← hAA] at hA HROW
    haveI iA : IZ wr al m cl A := ⟨hA⟩
    subst hv9
    have hfits := hA.fits
    have hlim := hA.lim
    clear ho hm hA hAA hle hc
    have HBC := fun W [Tb W] [FZ W a3 K cap L] => Lib.hid ((gblock_any W a3 K cap L m m (by omega) (by omega) sty).mono fun o w' ⟨oa, oc, X, h1, h2, h3, h4⟩ => (⟨oa, oc, X, h1, ⟨h2.dz fun i => isN_fof _⟩, h3, ⟨h4⟩⟩ : ∃ (oa : Option Addr) (oc : Nat) (X : Nat → Nat), o = Ending.returned (.agg #[.int .i64 m, .int .i64 m, .slice oa (m * m) oc]) ∧ DZ w' oa (m * m) oc (fun i => fof (X i)) ∧ Fin' X ∧ From W w'))
    have HBD := fun W [Tb W] [FZ W a n0 cap L] => Lib.hid ((gblock_any W a n0 cap L m m (by omega) (by omega) 1).mono fun o w' ⟨oa, oc, X, h1, h2, h3, h4⟩ => (⟨oa, oc, X, h1, ⟨h2.dz fun i => isN_fof _⟩, h3, ⟨h4⟩⟩ : ∃ (oa : Option Addr) (oc : Nat) (X : Nat → Nat), o = Ending.returned (.agg #[.int .i64 m, .int .i64 m, .slice oa (m * m) oc]) ∧ DZ w' oa (m * m) oc (fun i => fof (X i)) ∧ Fin' X ∧ From W w'))
    have key : ∀ Q : Prop, (¬ i < k → Q) → (i < k → ¬ i < np → Q) → Q := fun Q h1 h2 => by
     rcases HEX.out with h | ⟨h, h'⟩
     · exact h1 h
     · exact h2 h h'
    clear HEX
    refine key _ (fun e1 => ?_) (fun e1 e2 => ?_)
    all_goals (
     clear key
     go_wp2_with fail
     refine (HBC _).out.mono ?_; rintro o wc1 ⟨oc', cc, Y, rfl, fC, hY, b2⟩
     clear HBC
     go_wp2_with fail
     refine (HBD _).out.mono ?_; rintro o wd ⟨od, cd, Z, rfl, fD, hZ, b3'⟩
     clear HBD
     haveI fC' : DZ wd oc' (m * m) cc (fun i => fof (Y i)) := inferInstance
     haveI iB' : DZ wd oa (k * k) oc (fun i => fof (X i)) := inferInstance
     clear n2' fC
     obtain ⟨o1, o2, o3, o4, g1, g2, hsw⟩ := asm_swap (P := asP A k m) (s := m * m) (fof_val hX) (fof_val hY) (fof_val hZ) (Nat.le_trans (Nat.mul_le_mul (show m ≤ 6 by omega) (show m ≤ 6 by omega)) (by omega))
     have gB := noBad (fof_val hX) (by omega) (k * k)
     have gC := noBad (fof_val hY) (by omega) (m * m)
     have gD := noBad (fof_val hZ) (by omega) (m * m)
     obtain ⟨B, hBB⟩ : ∃ B, B = fun i => fof (X i) := ⟨_, rfl⟩
     obtain ⟨C, hCC⟩ : ∃ C, C = fun i => fof (Y i) := ⟨_, rfl⟩
     obtain ⟨D, hDD⟩ : ∃ D, D = fun i => fof (Z i) := ⟨_, rfl⟩
     have NB' : ∀ i, IsN (B i) := fun i => by rw [hBB]; exact isN_fof _
     have NC' : ∀ i, IsN (C i) := fun i => by rw [hCC]; exact isN_fof _
     have ND' : ∀ i, IsN (D i) := fun i => by rw [hDD]; exact isN_fof _
     rw [← hBB, ← hCC] at o1
     rw [← hBB, ← hDD] at o2
     rw [← hBB, ← hCC, ← hDD] at o3 o4 hsw
     rw [← hBB, ← hCC] at g1
     rw [← hBB, ← hDD] at g2
     rw [← hBB] at gB iB'
     rw [← hCC] at gC fC'
     rw [← hDD] at gD fD
     have HX1 := fun W [Tb W] [DZ W oa (k * k) oc B] [DZ W oc' (m * m) cc C] [IZ W al m cl A] => Lib.hid (dasm_main W k m (by omega) (by omega) oa oc' al oc cc cl B C A NB' NC' gB gC HROW.out true o1.symm)
     have HX2 := fun W [Tb W] [DZ W oa (k * k) oc B] [DZ W oc' (m * m) cc C] [IZ W al m cl A] => Lib.hid (rasm_main W k m (by omega) (by omega) oa oc' al oc cc cl B C A NB' NC' gB gC HROW.out true o1.symm)
     have HX3 := fun W x cx [Tb W] [DZ W x (k * k) cx (asmE B C (asP A k m) (m * m))] [DZ W od (m * m) cd D] [IZ W al m cl A] => Lib.hid (dasm_main W k m (by omega) (by omega) x od al cx cd cl (asmE B C (asP A k m) (m * m)) D A (fun i => isN_asmE NB' _ _) ND' (g1 _) gD HROW.out true o3.symm)
     have HX4 := fun W [Tb W] [DZ W oa (k * k) oc B] [DZ W od (m * m) cd D] [IZ W al m cl A] => Lib.hid (dasm_main W k m (by omega) (by omega) oa od al oc cd cl B D A NB' ND' gB gD HROW.out true o2.symm)
     have HX5 := fun W x cx [Tb W] [DZ W x (k * k) cx (asmE B D (asP A k m) (m * m))] [DZ W oc' (m * m) cc C] [IZ W al m cl A] => Lib.hid (dasm_main W k m (by omega) (by omega) x oc' al cx cc cl (asmE B D (asP A k m) (m * m)) C A (fun i => isN_asmE NB' _ _) NC' (g2 _) gC HROW.out true o4.symm)
     rw [hsw] at HX5
     have HTW := fun W [Tb W] [DZ W oa (k * k) oc B] => Lib.hid (twind_any W oa (k * k) oc B (Nat.le_trans (Nat.mul_le_mul (show k ≤ 6 by omega) (show k ≤ 6 by omega)) (by omega)) NB')
     have HDS := fun W x cx [Tb W] [DZ W oa (k * k) oc B] [DZ W x (k * k) cx B] => Lib.hid (frm (kdyads_any W oa x (k * k) oc cx B))
     have HSB := fun W (d : Nat → Option (Int × Int)) x cx y cy [Tb W] [DZ W x (k * k) cx d] [DZ W y (k * k) cy d] => Lib.hid (frm (gsameb_any W k k x y (k * k) cx cy d))
     simp only [mps, mpf, if_true] at HX1 HX2 HX3 HX4 HX5
     generalize asmE (asmE B C (asP A k m) (m * m)) D (asP A k m) (m * m) = E3 at *
     generalize asmE B C (asP A k m) (m * m) = E1 at *
     generalize asmE B D (asP A k m) (m * m) = E2 at *
     generalize k * k = Q at *
     generalize m * m = M at *
     clear o1 o2 o3 o4 g1 g2 hsw gB gC gD hBB hCC hDD NB' NC' ND' hX hY hZ
     go_wp2_with fail
     refine (HTW _).out.mono ?_; rintro o w3 ⟨ta, tc, rfl, it, b3⟩
     go_wp2_with fail
     refine (HX1 _).out.mono ?_; rintro o w4 ⟨xa, xc, rfl, ix, b4⟩
     go_wp2_with fail
     refine (HX2 _).out.mono ?_; rintro o w5 ⟨ya, yc, rfl, iy, b5⟩
     go_wp2_with fail
     refine (HSB _ E1 _ _ _ _).out.mono ?_; rintro o w6 ⟨rfl, b6⟩
     go_wp2_with fail
     refine (HDS _ _ _).out.mono ?_; rintro o w7 ⟨rfl, b7⟩
     go_wp2_with fail
     refine (HX3 _ _ _).out.mono ?_; rintro o w8 ⟨ga, gc, rfl, ig, b8⟩
     go_wp2_with fail
     refine (HX4 _).out.mono ?_; rintro o w9 ⟨ua, uc, rfl, iu, b9⟩
     go_wp2_with fail
     refine (HX5 _ _ _).out.mono ?_; rintro o w10 ⟨va, vc, rfl, iv, b10⟩
     go_wp2_with fail
     refine (HSB _ E3 _ _ _ _).out.mono ?_; rintro o w11 ⟨rfl, b11⟩
     go_wp2_with fail
     refine (HAW _).out.mono ?_; rintro o w12 ⟨rfl, b12⟩
     go_wp2_with fail
     go_ret
     exact ⟨rfl, zbh⟩)
theorem dasms_all (w : World) (hT : Tab w) (a : Option Addr) (n0 cap : Nat) (L : Nat → Nat) (hL : Fls w a n0 cap L) (n1 sty : Int) (ap : Option Addr) (np cp : Nat) (f : Nat → Bool) (hP : Bls w ap np cp f) :
 Calls Tryz.prog 8 #[.slice a n0 cap, .int .i64 n1, .int .i64 sty, .slice ap np cp] w fun o w' => o = .returned (.bool true) ∧ Below w.heap.size w w' := by
 haveI : Tb w := ⟨hT⟩
 haveI : FZ w a n0 cap L := ⟨hL⟩
 haveI : BZ w ap np cp f := ⟨hP⟩
 exact dasms_any w a n0 cap L n1 sty ap np cp f
end Go.Proofs.YtablcbgeeeboeaaGreatDoor

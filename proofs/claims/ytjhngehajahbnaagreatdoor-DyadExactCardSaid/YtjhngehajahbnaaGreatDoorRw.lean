/-
  Walks: sparsekit: TwinBig, TwinDyad.
-/
import Derived.Test.YtjhngehajahbnaaGreatDoorRq
import Derived.Test.YtjhngehajahbnaaGreatDoorBe
namespace Go.Proofs.YtjhngehajahbnaaGreatDoor
open Go.RowKit Sp

theorem step_app_u32 {P : Program} {ops : Array Oper} {o : Oper} {a : Act} {K : Act → World → Prop} {Q : Exit → Act → World → Prop} {w : World} {E : Prop} (t e : TypeId)
    (hP : (P.info? e).map (fun i => (i.zero, i.size, i.bytes)) = some (some (.int .u32 0), 1, 4)) (ht : P.underlying t = some (.slice e)) (hgd : o.guard = none) (s x : Operand)
    (ho : o.op = .call { callee := .builtin .append, args := #[s, x], argTypes := #[t, t] }) (base : Nat) (v : Value) (n z : Nat) (hs : a.eval s = v) (g : Nat) (d : Int)
    (hx : a.eval x = .slice (some ⟨g, 0, none⟩) 1 1) (hown : w.ownsRow base e 1 v n (digs z n)) (hcell : w.cell? ⟨g, 0, none⟩ = some (.int .u32 d)) (hd : d = dig z n) (hn : n ≤ 4398046511104)
    (hbase : base ≤ w.heap.size) (h : ∀ v' w', w'.ownsRow base e 1 v' (n + 1) (digs z (n + 1)) → Below base w w' → K (a.put o.dst v') w') :
    if Region.wanted o (yielded ops a.tmps) = true then Oper.wp P o a w K Q else E := by
  have hw : Region.wanted o (yielded ops a.tmps) = true := by simp [Region.wanted, hgd]
  rw [if_pos hw]
  obtain ⟨i0, hi, hz0, hz1, hz2⟩ := info_parts hP
  refine wp_append_own w s x t ho base e i0 (.int .u32 0) 1 4 ht hi hz0 hz1 hz2 rfl (by decide) v n _ hs hown ⟨g, 0, none⟩ 1 1 [.int .u32 d] hx rfl ?_ ?_ ?_ ?_ hbase ?_
  · intro j u hu
    have : j = 0 := by
      rcases Nat.eq_zero_or_pos j with h | h
      · exact h
      · rw [List.getElem?_eq_none (by simp; omega)] at hu; cases hu
    subst this
    simp at hu; subst hu
    rw [Addr.add_zero']; exact hcell
  · intro u hu; simp at hu; subst hu; rfl
  · unfold maxLen; omega
  · omega
  · intro v' w' h1 h2 _
    refine h v' w' ?_ (below_of_owns hown h2 hbase)
    rw [digs_succ, ← hd]; exact h1
theorem own_slice {w : World} {base : Nat} {e : TypeId} {size : Nat} {v : Value} {n : Nat} {xs : List Value} (h : w.ownsRow base e size v n xs) : ∃ a c, v = .slice a n c := by
  rcases h.2 with ⟨rfl, rfl⟩ | ⟨g, cap, cur, rfl, _⟩
  · exact ⟨none, 0, rfl⟩
  · exact ⟨_, _, rfl⟩
theorem BgV.belowB {W W' : World} {b N : Nat} {s : Bool} {sl : Value} (h : BgV W b s sl) (hb : Below N W W') (hN : b < N) : BgV W' b s sl := by
  obtain ⟨c0, c1, c2, c3⟩ := h
  obtain ⟨k0, k1⟩ := bcell hb
  exact ⟨by rw [k0 b 0 hN]; exact c0, by rw [k0 b 1 hN]; exact c1, fun i => by rw [k1 b i hN]; exact c2 i, Nat.lt_of_lt_of_le c3 hb.size⟩

set_option maxRecDepth 100000 in
set_option maxHeartbeats 2000000 in
theorem ktwinB_any (w : World) (s : Bool) (a : Option Addr) (n cap x : Nat) (hx : Mag w a n cap x) (hlim : n ≤ 1099511627776) :
    Calls Tryz.prog 62 #[.agg #[.bool s, .slice a n cap]] w fun o w' => ∃ a1 c1, o = .returned (.agg #[.bool s, .slice a1 n c1]) ∧ Mag w' a1 n c1 x ∧ Below w.heap.size w w' ∧ (0 < n → w.heap.size ≤ ab a1) := by
  have l1 := hx.lim
  have l2 := hx.fits
  have HX := Lib.hid hx
  clear hx
  go_enter Tryz.func62, Tryz.ntmps62
  go_wp2_with fail
  have Ip := (((BgV.made' w 24 s (.slice a n cap) (n := w.heap.size) (by rfl)).alloc (.cells #[.bool false, (.slice none 0 0)] 24)).alloc (.cells #[.bool s, (.slice none 0 0)] 24))
  have Ir := ((BgV.made' (w.alloc (.cells #[.bool s, (.slice a n cap)] 24)) 24 false (.slice none 0 0) (n := w.heap.size + 1) (by rw [World.size_alloc])).alloc (.cells #[.bool s, (.slice none 0 0)] 24))
  have Io := (BgV.made' ((w.alloc (.cells #[.bool s, (.slice a n cap)] 24)).alloc (.cells #[.bool false, (.slice none 0 0)] 24)) 24 s (.slice none 0 0) (n := w.heap.size + 1 + 1) (by rw [World.size_alloc, World.size_alloc]))
  have B0 : Below w.heap.size w (((w.alloc (.cells #[.bool s, (.slice a n cap)] 24)).alloc (.cells #[.bool false, (.slice none 0 0)] 24)).alloc (.cells #[.bool s, (.slice none 0 0)] 24)) := (by repeat (with_reducible first | refine Below.setCell ?_ (by simp <;> omega) _ | refine Below.alloc ?_ (by simp <;> omega) _ | refine Below.drew ?_ | refine below_drewN ?_ _ | exact Below.refl _ _))
  have npr : ¬ w.heap.size = w.heap.size + 1 := by omega
  have npo : ¬ w.heap.size = w.heap.size + 1 + 1 := by omega
  have nrp : ¬ w.heap.size + 1 = w.heap.size := by omega
  have nro : ¬ w.heap.size + 1 = w.heap.size + 1 + 1 := by omega
  have nop : ¬ w.heap.size + 1 + 1 = w.heap.size := by omega
  have nor : ¬ w.heap.size + 1 + 1 = w.heap.size + 1 := by omega
  generalize (((w.alloc (.cells #[.bool s, (.slice a n cap)] 24)).alloc (.cells #[.bool false, (.slice none 0 0)] 24)).alloc (.cells #[.bool s, (.slice none 0 0)] 24)) = w0 at Ip Ir Io B0 ⊢
  generalize hb2 : w.heap.size + 1 + 1 = b2 at Io npr npo nrp nro nop nor ⊢
  generalize hb1 : w.heap.size + 1 = b1 at Ir npr npo nrp nro nop nor hb2 ⊢
  generalize hb0 : w.heap.size = b0 at Ip npr npo nrp nro nop nor hb1 ⊢
  obtain ⟨pc0, pc1, pc2, pc3⟩ := Ip
  have Vp0 := Lib.hid (BgV.mk pc0 pc1 pc2 pc3)
  obtain ⟨rc0, rc1, rc2, rc3⟩ := Ir
  have Vr0 := Lib.hid (BgV.mk rc0 rc1 rc2 rc3)
  obtain ⟨oc0, oc1, oc2, oc3⟩ := Io
  have Vo0 := Lib.hid (BgV.mk oc0 oc1 oc2 oc3)
  have hown0 := World.ownsRow_nil w0 w0.heap.size 48 1
  have gp := Vp0.out.lt
  have gr := Vr0.out.lt
  have go' := Vo0.out.lt
  obtain ⟨N, hN⟩ : ∃ N, N = w0.heap.size := ⟨_, rfl⟩
  rw [← hN] at hown0 gp gr go'
  go_loopw [4] (fun i wr => ∃ (k : Nat) (v : Value), k ≤ n ∧ i = .int .i64 k ∧ wr.ownsRow N 48 1 v k (digs x k) ∧ BgV wr b0 s (.slice a n cap) ∧ BgV wr b1 false (.slice none 0 0) ∧ BgV wr b2 s v ∧ Below w.heap.size w wr ∧ N ≤ wr.heap.size) (fun i _ => n - (intOf i).toNat)
  case atStart => exact ⟨0, _, by omega, rfl, hown0, Vp0.out, Vr0.out, Vo0.out, B0, by omega⟩
  case round =>
    clear hown0 pc0 pc1 pc2 pc3 rc0 rc1 rc2 rc3 oc0 oc1 oc2 oc3 Vp0 Vr0 Vo0
    obtain ⟨k, v, hk, rfl, hown, Jp, Jr, Jo, hb, hz⟩ := hrel
    have HJP := Lib.hid Jp
    have HJR := Lib.hid Jr
    have HJO := Lib.hid Jo
    obtain ⟨pc0, pc1, pc2, pc3⟩ := Jp
    obtain ⟨rc0, rc1, rc2, rc3⟩ := Jr
    obtain ⟨oc0, oc1, oc2, oc3⟩ := Jo
    have hx' := HX.out.below hb
    by_cases hlt : k < n
    · have c1 := hx'.cell k hlt
      have i1 := hx'.idx 22 und siz k hlt
      go_wp2_with fail
      first
      | go_region_law (refine step_app_u32 22 48 infU undU rfl _ _ rfl N _ k x rfl _ _ rfl (hown.alloc _) (World.cell?_alloc_new _ _ _ _) rfl (by omega) (by simp; omega) ?_; intro v1 w1 hown1 hb1; obtain ⟨va, vc, rfl⟩ := own_slice hown1; have HP1 := Lib.hid (show BgV w1 b0 s (.slice a n cap) from (by refine BgV.belowB ?_ hb1 gp; (repeat (with_reducible first | refine BgV.drew ?_ | refine BgV.alloc ?_ _)); exact HJP.out)); have HR1 := Lib.hid (show BgV w1 b1 false (.slice none 0 0) from (by refine BgV.belowB ?_ hb1 gr; (repeat (with_reducible first | refine BgV.drew ?_ | refine BgV.alloc ?_ _)); exact HJR.out)); have HO1 : BgV w1 b2 s v := (by refine BgV.belowB ?_ hb1 go'; (repeat (with_reducible first | refine BgV.drew ?_ | refine BgV.alloc ?_ _)); exact HJO.out); clear oc0 oc1 oc2 oc3; obtain ⟨oc0, oc1, oc2, oc3⟩ := HO1)
      | fail "region"
      all_goals (
        go_wp2_with fail
        have hB : Below w.heap.size w w1 := Below.trans (by have hszw := (hb).size; repeat (with_reducible first | refine Below.setCell ?_ (by first | omega | (simp <;> omega)) _ | refine Below.alloc ?_ (by first | omega | (simp <;> omega)) _ | refine Below.drew ?_ | refine below_drewN ?_ _ | exact hb)) (hb1.mono (by omega))
        go_roundw
        case rel => exact ⟨k + 1, _, by omega, by go_num, ownsRow_setCell_below hown1 (by simpa using go') _, HP1.out.set npo 1 _, HR1.out.set nro 1 _, ⟨by go_simp, by go_simp, fun i => by go_simp, by simpa using oc3⟩, (by have hszw := (hB).size; repeat (with_reducible first | refine Below.setCell ?_ (by first | omega | (simp <;> omega)) _ | refine Below.alloc ?_ (by first | omega | (simp <;> omega)) _ | refine Below.drew ?_ | refine below_drewN ?_ _ | exact hB)), by have := hb1.size; (try simp at this); simp; omega⟩
        case measure => simp [intOf]; omega)
    · obtain rfl : k = n := by omega
      obtain ⟨a1, cp1, hv, hm1, hfr⟩ := mag_of_owns hown HX.out.lt
      subst hv
      go_wp2
      refine bodyPost_ret (v := .agg #[.bool s, .slice a1 k cp1]) (by simp only [results, Tryz.results62]; go_simp) rfl ?_
      exact ⟨a1, cp1, rfl, (by repeat (with_reducible first | refine Mag.set ?_ (fun h => by have := hfr h; omega) _ _ | exact hm1)), (by have hszw := (hb).size; repeat (with_reducible first | refine Below.setCell ?_ (by first | omega | (simp <;> omega)) _ | refine Below.alloc ?_ (by first | omega | (simp <;> omega)) _ | refine Below.drew ?_ | refine below_drewN ?_ _ | exact hb)), fun h => by have := hfr h; have := B0.size; omega⟩

set_option maxRecDepth 100000 in
set_option maxHeartbeats 2000000 in
theorem ktwinD_any (w : World) (bd s : Bool) (a : Option Addr) (n cap x : Nat) (e : Int) (hx : Mag w a n cap x) (hlim : n ≤ 1099511627776) :
    Calls Tryz.prog 14 #[.agg #[.bool bd, .bool s, .slice a n cap, .int .i64 e]] w fun o w' => ∃ a1 c1, o = .returned (.agg #[.bool bd, .bool s, .slice a1 n c1, .int .i64 e]) ∧ Mag w' a1 n c1 x ∧ Below w.heap.size w w' ∧ (0 < n → w.heap.size ≤ ab a1) := by
  have HB := fun W h => Lib.hid (ktwinB_any W s a n cap x h hlim)
  go_enter Tryz.func14, Tryz.ntmps14
  go_wp2_with fail
  have Ip := ((DyV.made' w 26 bd s (.slice a n cap) e (n := w.heap.size) (by rfl)).alloc (.cells #[.bool false, .bool false, (.slice none 0 0), .int .i64 0] 26))
  have Ir := (DyV.made' (w.alloc (.cells #[.bool bd, .bool s, (.slice a n cap), .int .i64 e] 26)) 26 false false (.slice none 0 0) 0 (n := w.heap.size + 1) (by rw [World.size_alloc]))
  have B0 : Below w.heap.size w ((w.alloc (.cells #[.bool bd, .bool s, (.slice a n cap), .int .i64 e] 26)).alloc (.cells #[.bool false, .bool false, (.slice none 0 0), .int .i64 0] 26)) := (by repeat (with_reducible first | refine Below.setCell ?_ (by simp <;> omega) _ | refine Below.alloc ?_ (by simp <;> omega) _ | refine Below.drew ?_ | refine below_drewN ?_ _ | exact Below.refl _ _))
  have npr : ¬ w.heap.size = w.heap.size + 1 := by omega
  have nrp : ¬ w.heap.size + 1 = w.heap.size := by omega
  generalize ((w.alloc (.cells #[.bool bd, .bool s, (.slice a n cap), .int .i64 e] 26)).alloc (.cells #[.bool false, .bool false, (.slice none 0 0), .int .i64 0] 26)) = w0 at Ip Ir B0 ⊢
  generalize hb1 : w.heap.size + 1 = b1 at Ir npr nrp ⊢
  generalize hb0 : w.heap.size = b0 at Ip npr nrp hb1 ⊢
  obtain ⟨pc0, pc1, pc2, pc3, pc4, pc5⟩ := Ip
  have Vp0 := Lib.hid (DyV.mk pc0 pc1 pc2 pc3 pc4 pc5)
  obtain ⟨rc0, rc1, rc2, rc3, rc4, rc5⟩ := Ir
  have Vr0 := Lib.hid (DyV.mk rc0 rc1 rc2 rc3 rc4 rc5)
  first
  | go_region_with
      (first
        | (go_at_call 62; refine (HB _ (hx.below (by have hszw := (B0).size; repeat (with_reducible first | refine Below.setCell ?_ (by first | omega | (simp <;> omega)) _ | refine Below.alloc ?_ (by first | omega | (simp <;> omega)) _ | refine Below.drew ?_ | refine below_drewN ?_ _ | exact B0)))).out.mono ?_; rintro e w1 ⟨a1, c1, rfl, M11, hb1, hf1⟩; have Vp1 : DyV w1 b0 bd s (.slice a n cap) e := (by refine DyV.below ?_ hb1; (repeat (with_reducible first | refine DyV.drew ?_ | refine DyV.drewN ?_ _ | refine DyV.alloc ?_ _)); exact Vp0.out); (try clear pc0 pc1 pc2 pc3 pc4); obtain ⟨pc0, pc1, pc2, pc3, pc4, pc5⟩ := Vp1; have Vp1 := Lib.hid (DyV.mk pc0 pc1 pc2 pc3 pc4 pc5); have Vr1 : DyV w1 b1 false false (.slice none 0 0) 0 := (by refine DyV.below ?_ hb1; (repeat (with_reducible first | refine DyV.drew ?_ | refine DyV.drewN ?_ _ | refine DyV.alloc ?_ _)); exact Vr0.out); (try clear rc0 rc1 rc2 rc3 rc4); obtain ⟨rc0, rc1, rc2, rc3, rc4, rc5⟩ := Vr1; have Vr1 := Lib.hid (DyV.mk rc0 rc1 rc2 rc3 rc4 rc5); have B1 := below_box (w := w) (by have hszw := (B0).size; repeat (with_reducible first | refine Below.setCell ?_ (by first | omega | (simp <;> omega)) _ | refine Below.alloc ?_ (by first | omega | (simp <;> omega)) _ | refine Below.drew ?_ | refine below_drewN ?_ _ | exact B0)) hb1; have hF1 : 0 < n → w0.heap.size ≤ ab a1 := (fun h => by have hq := hf1 h; (try simp at hq); omega); have fr1p : 0 < n → ab a1 ≠ b0 := (fun h => by have := hF1 h; have := Vp0.out.lt; omega); have fr1r : 0 < n → ab a1 ≠ b1 := (fun h => by have := hF1 h; have := Vr0.out.lt; omega); have fo1 : 0 < n → w.heap.size ≤ ab a1 := (fun h => by have := hF1 h; have := B0.size; omega); clear hF1; clear hb1 hf1)
        | fail)
  | fail "region"
  all_goals go_wp2_with fail
  all_goals (
    refine bodyPost_ret (v := .agg #[.bool bd, .bool s, .slice a1 n c1, .int .i64 e]) (by simp only [results, Tryz.results14]; go_simp) rfl ?_
    exact ⟨a1, c1, rfl, (by repeat (with_reducible first | refine Mag.set ?_ fr1p _ _ | refine Mag.set ?_ fr1r _ _ | refine Mag.drew ?_ | refine Mag.drewN ?_ _ | refine Mag.alloc ?_ _ | exact M11)), (by have hszw := (B1).size; repeat (with_reducible first | refine Below.setCell ?_ (by first | omega | (simp <;> omega)) _ | refine Below.alloc ?_ (by first | omega | (simp <;> omega)) _ | refine Below.drew ?_ | refine below_drewN ?_ _ | exact B1)), fo1⟩)

set_option maxRecDepth 100000 in
set_option maxHeartbeats 2000000 in
theorem limbs_same (w : World) (a a' : Option Addr) (n cap cap' x : Nat) (hx : Mag w a n cap x) (hy : Mag w a' n cap' x) :
    Calls Tryz.prog 80 #[.slice a n cap, .slice a' n cap'] w fun e w' => e = .returned (.bool true) ∧ ∃ q, w' = w.drewN q := by
  have l1 := hx.lim
  have l2 := hy.lim
  have l3 := hx.fits
  have l4 := hy.fits
  go_enter Tryz.func80, Tryz.ntmps80
  go_wp2
  go_loopw [5] (fun t wr => ∃ k : Nat, k ≤ n ∧ t = .int .i64 k ∧ ∃ q, wr = w.drewN q) (fun t _ => n - (intOf t).toNat)
  case atStart => exact ⟨0, Nat.zero_le _, rfl, 0, rfl⟩
  case round =>
    obtain ⟨k, hk, rfl, q, rfl⟩ := hrel
    by_cases h0 : k < n
    · have c1 := hx.cell k h0
      have c2 := hy.cell k h0
      have i1 := hx.idx 22 und siz k h0
      have i2 := hy.idx 22 und siz k h0
      go_wp2
      go_quiet (fail)
      go_wp2
      go_roundw
      case rel => exact ⟨k + 1, by omega, by go_num, _, rfl⟩
      case measure => simp [intOf]; omega
    · obtain rfl : k = n := by omega
      go_wp2
      go_ret
      exact ⟨rfl, _, rfl⟩

set_option maxRecDepth 100000 in
set_option maxHeartbeats 2000000 in
theorem kbig_same (w : World) (s : Bool) (a a' : Option Addr) (n cap cap' x : Nat) (hx : Mag w a n cap x) (hy : Mag w a' n cap' x) :
    Calls Tryz.prog 39 #[.agg #[.bool s, .slice a n cap], .agg #[.bool s, .slice a' n cap']] w fun e w' => e = .returned (.bool true) ∧ Below w.heap.size w w' := by
  have e1 : ¬ w.heap.size + 1 = w.heap.size := by omega
  have HL := fun W h h' => Lib.hid (limbs_same W a a' n cap cap' x h h')
  have hs : (s == s) = true := by simp
  go_enter Tryz.func39, Tryz.ntmps39
  go_wp2_with fail
  refine (HL _ (hx.below (by repeat (with_reducible first | refine Below.setCell ?_ (by simp <;> omega) _ | refine Below.alloc ?_ (by simp <;> omega) _ | refine Below.drew ?_ | refine below_drewN ?_ _ | exact Below.refl _ _))) (hy.below (by repeat (with_reducible first | refine Below.setCell ?_ (by simp <;> omega) _ | refine Below.alloc ?_ (by simp <;> omega) _ | refine Below.drew ?_ | refine below_drewN ?_ _ | exact Below.refl _ _)))).out.mono ?_
  rintro e w1 ⟨rfl, q, rfl⟩
  go_wp2_with fail
  go_ret
  exact ⟨rfl, (by repeat (with_reducible first | refine Below.setCell ?_ (by simp <;> omega) _ | refine Below.alloc ?_ (by simp <;> omega) _ | refine Below.drew ?_ | refine below_drewN ?_ _ | exact Below.refl _ _))⟩

set_option maxRecDepth 100000 in
set_option maxHeartbeats 2000000 in
theorem kdyad_same (w : World) (b s : Bool) (a a' : Option Addr) (n cap cap' x : Nat) (f : Int) (hx : Mag w a n cap x) (hy : Mag w a' n cap' x) :
    Calls Tryz.prog 7 #[.agg #[.bool b, .bool s, .slice a n cap, .int .i64 f], .agg #[.bool b, .bool s, .slice a' n cap', .int .i64 f]] w fun e w' => e = .returned (.bool true) ∧ Below w.heap.size w w' := by
  have e1 : ¬ w.heap.size + 1 = w.heap.size := by omega
  have HL := fun W h h' => Lib.hid (kbig_same W s a a' n cap cap' x h h')
  have hs : (b == b) = true := by simp
  have hf : (f == f) = true := by simp
  go_enter Tryz.func7, Tryz.ntmps7
  go_wp2_with fail
  refine (HL _ (hx.below (by repeat (with_reducible first | refine Below.setCell ?_ (by simp <;> omega) _ | refine Below.alloc ?_ (by simp <;> omega) _ | refine Below.drew ?_ | refine below_drewN ?_ _ | exact Below.refl _ _))) (hy.below (by repeat (with_reducible first | refine Below.setCell ?_ (by simp <;> omega) _ | refine Below.alloc ?_ (by simp <;> omega) _ | refine Below.drew ?_ | refine below_drewN ?_ _ | exact Below.refl _ _)))).out.mono ?_
  rintro e w1 ⟨rfl, hb1⟩
  have hbw := below_box (w := w) (by repeat (with_reducible first | refine Below.setCell ?_ (by simp <;> omega) _ | refine Below.alloc ?_ (by simp <;> omega) _ | refine Below.drew ?_ | refine below_drewN ?_ _ | exact Below.refl _ _)) hb1
  go_wp2_with fail
  go_ret
  exact ⟨rfl, (by have hszw := hbw.size; repeat (with_reducible first | refine Below.setCell ?_ (by first | omega | (simp <;> omega)) _ | refine Below.alloc ?_ (by first | omega | (simp <;> omega)) _ | refine Below.drew ?_ | refine below_drewN ?_ _ | exact hbw))⟩

end Go.Proofs.YtjhngehajahbnaaGreatDoor


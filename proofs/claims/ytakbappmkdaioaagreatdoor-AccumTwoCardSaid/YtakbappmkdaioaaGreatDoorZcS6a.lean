/-
  Walks: the reference of accum: rest, TwoSum, TwoMul.
-/
import Derived.Test.YtakbappmkdaioaaGreatDoorZcS3f
import Derived.Test.YtakbappmkdaioaaGreatDoorZcKA
namespace Go.Proofs.YtakbappmkdaioaaGreatDoor
open Go.RowKit Sp

set_option maxRecDepth 100000 in
set_option maxHeartbeats 20000000 in
theorem rrest_any (w : World) (hT : Tab w) (d : Option (Int × Int)) (hN : IsN d) (a : Option Addr) (c : Nat) (hx : Mag w a (nl (dman d).natAbs) c (dman d).natAbs) :
    Calls Tryz.prog 147 #[.agg #[.bool (dbad d), .bool (decide (dman d < 0)), .slice a (nl (dman d).natAbs) c, .int .i64 (dexp d)]] w fun o w' => o = .returned (.tuple #[.int .u64 (fround d 0 : Nat), .bool ((!dbad (fof (fround d 0)) && !dbad d) && decide (dcmp (fof (fround d 0)) d = 0))]) ∧ Below w.heap.size w w' := by
  have HR := fun W h ht => Lib.hid (r3round_any W (dbad d) (decide (dman d < 0)) a (nl (dman d).natAbs) c (dexp d) 0 d (dyis_n hN h) ht)
  have hl : fround d 0 < 18446744073709551616 := fround_lt2 d 0
  have HOt := fun W ht => Lib.hid (r3of_any W (fround d 0) hl ht)
  have N2 := isN_fof (fround d 0)
  have HC := fun W b1 q1 (h1 : Mag W b1 (nl (dman (fof (fround d 0))).natAbs) q1 (dman (fof (fround d 0))).natAbs) h ht => Lib.hid (rdcmp_any W _ _ (dbad d) (decide (dman d < 0)) _ a _ (nl (dman d).natAbs) _ c _ (dexp d) _ d (dyis_n N2 h1) (dyis_n hN h) ht)
  obtain ⟨ok, hok⟩ : ∃ ok, ok = (!dbad (fof (fround d 0)) && !dbad d) := ⟨_, rfl⟩
  obtain ⟨v, hv⟩ : ∃ v, v = dcmp (fof (fround d 0)) d := ⟨_, rfl⟩
  rw [← hok, ← hv] at HC
  have hv0 : (v == 0) = decide (v = 0) := by rw [Bool.eq_iff_iff]; simp
  rw [← hok, ← hv]
  clear hok hv hl N2 hN
  generalize fof (fround d 0) = dt at *
  generalize ((fround d 0 : Nat) : Int) = tt at *
  cases ok
  · go_enter Tryz.func147, Tryz.ntmps147
    go_wp2_with fail
    have Ix := (DyV.made' w 26 (dbad d) (decide (dman d < 0)) (.slice a (nl (dman d).natAbs) c) (dexp d) (n := w.heap.size) (by rfl))
    have B0 : Below w.heap.size w (w.alloc (.cells #[.bool (dbad d), .bool (decide (dman d < 0)), (.slice a (nl (dman d).natAbs) c), .int .i64 (dexp d)] 26)) := zbh
    generalize (w.alloc (.cells #[.bool (dbad d), .bool (decide (dman d < 0)), (.slice a (nl (dman d).natAbs) c), .int .i64 (dexp d)] 26)) = w0 at Ix B0 ⊢
    generalize hb0 : w.heap.size = b0 at Ix ⊢
    obtain ⟨xc0, xc1, xc2, xc3, xc4, xc5⟩ := Ix
    have Vx0 := Lib.hid (DyV.mk xc0 xc1 xc2 xc3 xc4 xc5)
    refine (HR _ (hx.below (have := Beh.mk B0; zbh)) (hT.below (have := Beh.mk B0; zbh))).out.mono ?_
    rintro e w1 ⟨rfl, hb1⟩
    have Vx1 : DyV w1 b0 (dbad d) (decide (dman d < 0)) (.slice a (nl (dman d).natAbs) c) (dexp d) := (Vx0.out.on.below hb1)
    (try clear xc0 xc1 xc2 xc3 xc4)
    obtain ⟨xc0, xc1, xc2, xc3, xc4, xc5⟩ := Vx1
    have Vx1 := Lib.hid (DyV.mk xc0 xc1 xc2 xc3 xc4 xc5)
    have B1 := below_box (w := w) (have := Beh.mk B0; zbh) hb1
    clear hb1
    go_wp2_with fail
    first
    | go_region_held3 (fun w' => w'.cell? ⟨b0, 0, none⟩ = some (.bool (dbad d)) ∧ w'.cell? ⟨b0, 1, none⟩ = some (.bool (decide (dman d < 0))) ∧ w'.cell? ⟨b0, 2, none⟩ = some ((.slice a (nl (dman d).natAbs) c)) ∧ w'.cell? ⟨b0, 3, none⟩ = some (.int .i64 (dexp d))) (first | (go_keep; done) | (go_simp; done))
        (first
          | (go_at_call 187; have xx := B2; refine (HC _ a2 c2 M22.on (hx.below (have := Beh.mk B2; zbh)) (hT.below (have := Beh.mk B2; zbh))).out.mono ?_; rintro e w3 ⟨rfl, hb3⟩; have Vx3 : DyV w3 b0 (dbad d) (decide (dman d < 0)) (.slice a (nl (dman d).natAbs) c) (dexp d) := (Vx2.out.on.below hb3); (try clear xc0 xc1 xc2 xc3 xc4); obtain ⟨xc0, xc1, xc2, xc3, xc4, xc5⟩ := Vx3; have Vx3 := Lib.hid (DyV.mk xc0 xc1 xc2 xc3 xc4 xc5); have M23 : Mag w3 a2 (nl (dman dt).natAbs) c2 (dman dt).natAbs := Mag.below M22.on hb3; have B3 := below_box (w := w) (have := Beh.mk B2; zbh) hb3; clear hb3)
          | (go_at_call 61; have xx := B1; refine (HOt _ (hT.below (have := Beh.mk B1; zbh))).out.mono ?_; rintro e w2 ⟨a2, c2, rfl, M22, hb2, hf2⟩; have Vx2 : DyV w2 b0 (dbad d) (decide (dman d < 0)) (.slice a (nl (dman d).natAbs) c) (dexp d) := (Vx1.out.on.below hb2); (try clear xc0 xc1 xc2 xc3 xc4); obtain ⟨xc0, xc1, xc2, xc3, xc4, xc5⟩ := Vx2; have Vx2 := Lib.hid (DyV.mk xc0 xc1 xc2 xc3 xc4 xc5); have B2 := below_box (w := w) (have := Beh.mk B1; zbh) hb2; have hF2 : 0 < (nl (dman dt).natAbs) → w1.heap.size ≤ ab a2 := (fun h => by have hq := hf2 h; (try simp at hq); omega); have fr2x : 0 < (nl (dman dt).natAbs) → ab a2 ≠ b0 := (fun h => by have := hF2 h; have := Vx1.out.lt; omega); have fo2 : 0 < (nl (dman dt).natAbs) → w.heap.size ≤ ab a2 := (fun h => by have := hF2 h; have := B1.size; omega); clear hF2; clear hb2 hf2)
          | fail)
    | fail "region"
    all_goals (
      go_wp2_with fail
      refine bodyPost_ret (v := .tuple #[.int .u64 tt, .bool (false && decide (v = 0))]) (by simp only [results, Tryz.results147]; go_simp) rfl ?_
      exact ⟨rfl, (have := Beh.mk B3; zbh)⟩)
  · go_enter Tryz.func147, Tryz.ntmps147
    go_wp2_with fail
    have Ix := (DyV.made' w 26 (dbad d) (decide (dman d < 0)) (.slice a (nl (dman d).natAbs) c) (dexp d) (n := w.heap.size) (by rfl))
    have B0 : Below w.heap.size w (w.alloc (.cells #[.bool (dbad d), .bool (decide (dman d < 0)), (.slice a (nl (dman d).natAbs) c), .int .i64 (dexp d)] 26)) := zbh
    generalize (w.alloc (.cells #[.bool (dbad d), .bool (decide (dman d < 0)), (.slice a (nl (dman d).natAbs) c), .int .i64 (dexp d)] 26)) = w0 at Ix B0 ⊢
    generalize hb0 : w.heap.size = b0 at Ix ⊢
    obtain ⟨xc0, xc1, xc2, xc3, xc4, xc5⟩ := Ix
    have Vx0 := Lib.hid (DyV.mk xc0 xc1 xc2 xc3 xc4 xc5)
    refine (HR _ (hx.below (have := Beh.mk B0; zbh)) (hT.below (have := Beh.mk B0; zbh))).out.mono ?_
    rintro e w1 ⟨rfl, hb1⟩
    have Vx1 : DyV w1 b0 (dbad d) (decide (dman d < 0)) (.slice a (nl (dman d).natAbs) c) (dexp d) := (Vx0.out.on.below hb1)
    (try clear xc0 xc1 xc2 xc3 xc4)
    obtain ⟨xc0, xc1, xc2, xc3, xc4, xc5⟩ := Vx1
    have Vx1 := Lib.hid (DyV.mk xc0 xc1 xc2 xc3 xc4 xc5)
    have B1 := below_box (w := w) (have := Beh.mk B0; zbh) hb1
    clear hb1
    go_wp2_with fail
    first
    | go_region_held3 (fun w' => w'.cell? ⟨b0, 0, none⟩ = some (.bool (dbad d)) ∧ w'.cell? ⟨b0, 1, none⟩ = some (.bool (decide (dman d < 0))) ∧ w'.cell? ⟨b0, 2, none⟩ = some ((.slice a (nl (dman d).natAbs) c)) ∧ w'.cell? ⟨b0, 3, none⟩ = some (.int .i64 (dexp d))) (first | (go_keep; done) | (go_simp; done))
        (first
          | (go_at_call 187; have xx := B2; refine (HC _ a2 c2 M22.on (hx.below (have := Beh.mk B2; zbh)) (hT.below (have := Beh.mk B2; zbh))).out.mono ?_; rintro e w3 ⟨rfl, hb3⟩; have Vx3 : DyV w3 b0 (dbad d) (decide (dman d < 0)) (.slice a (nl (dman d).natAbs) c) (dexp d) := (Vx2.out.on.below hb3); (try clear xc0 xc1 xc2 xc3 xc4); obtain ⟨xc0, xc1, xc2, xc3, xc4, xc5⟩ := Vx3; have Vx3 := Lib.hid (DyV.mk xc0 xc1 xc2 xc3 xc4 xc5); have M23 : Mag w3 a2 (nl (dman dt).natAbs) c2 (dman dt).natAbs := Mag.below M22.on hb3; have B3 := below_box (w := w) (have := Beh.mk B2; zbh) hb3; clear hb3)
          | (go_at_call 61; have xx := B1; refine (HOt _ (hT.below (have := Beh.mk B1; zbh))).out.mono ?_; rintro e w2 ⟨a2, c2, rfl, M22, hb2, hf2⟩; have Vx2 : DyV w2 b0 (dbad d) (decide (dman d < 0)) (.slice a (nl (dman d).natAbs) c) (dexp d) := (Vx1.out.on.below hb2); (try clear xc0 xc1 xc2 xc3 xc4); obtain ⟨xc0, xc1, xc2, xc3, xc4, xc5⟩ := Vx2; have Vx2 := Lib.hid (DyV.mk xc0 xc1 xc2 xc3 xc4 xc5); have B2 := below_box (w := w) (have := Beh.mk B1; zbh) hb2; have hF2 : 0 < (nl (dman dt).natAbs) → w1.heap.size ≤ ab a2 := (fun h => by have hq := hf2 h; (try simp at hq); omega); have fr2x : 0 < (nl (dman dt).natAbs) → ab a2 ≠ b0 := (fun h => by have := hF2 h; have := Vx1.out.lt; omega); have fo2 : 0 < (nl (dman dt).natAbs) → w.heap.size ≤ ab a2 := (fun h => by have := hF2 h; have := B1.size; omega); clear hF2; clear hb2 hf2)
          | fail)
    | fail "region"
    all_goals (
      go_wp2_with fail
      refine bodyPost_ret (v := .tuple #[.int .u64 tt, .bool (true && decide (v = 0))]) (by simp only [results, Tryz.results147]; go_simp) rfl ?_
      exact ⟨rfl, (have := Beh.mk B3; zbh)⟩)

theorem frestok_parts {s : Nat} {x : Option (Int × Int)} (h : frestok s x = true) : dbad x = false ∧ dbad (fof s) = false := by
  unfold frestok at h
  simp only [Bool.and_eq_true, Bool.not_eq_true'] at h
  have h1 := h.1.2
  cases x with
  | none => cases h1
  | some p =>
    cases hs : fof s with
    | none => rw [hs] at h1; obtain ⟨z, f⟩ := p; cases h1
    | some q => exact ⟨rfl, rfl⟩
theorem ffin_of_some {f : Nat} (h : dbad (fof f) = false) : ffin f = true := by
  cases hf : ffin f with
  | true => rfl
  | false => rw [fof_not hf] at h; cases h
theorem rest_fin_s {s : Nat} {x : Option (Int × Int)} (h : frestok s x = true) : ffin s = true := ffin_of_some (frestok_parts h).2
theorem rest_fin_l_dadd {s a b : Nat} (h : frestok s (dadd (fof a) (fof b)) = true) : ffin a = true := by
  refine ffin_of_some ?_
  have h1 := (frestok_parts h).1
  cases ha : fof a with
  | none => rw [ha] at h1; cases h1
  | some p => rfl
theorem rest_fin_r_dadd {s a b : Nat} (h : frestok s (dadd (fof a) (fof b)) = true) : ffin b = true := by
  refine ffin_of_some ?_
  have h1 := (frestok_parts h).1
  cases hb : fof b with
  | none =>
    rw [hb] at h1
    cases ha : fof a with
    | none => rw [ha] at h1; cases h1
    | some p => rw [ha] at h1; obtain ⟨z, f⟩ := p; cases h1
  | some p => rfl
theorem rest_fin_l_dmul {s a b : Nat} (h : frestok s (dmul (fof a) (fof b)) = true) : ffin a = true := by
  refine ffin_of_some ?_
  have h1 := (frestok_parts h).1
  cases ha : fof a with
  | none => rw [ha] at h1; cases h1
  | some p => rfl
theorem rest_fin_r_dmul {s a b : Nat} (h : frestok s (dmul (fof a) (fof b)) = true) : ffin b = true := by
  refine ffin_of_some ?_
  have h1 := (frestok_parts h).1
  cases hb : fof b with
  | none =>
    rw [hb] at h1
    cases ha : fof a with
    | none => rw [ha] at h1; cases h1
    | some p => rw [ha] at h1; obtain ⟨z, f⟩ := p; cases h1
  | some p => rfl
set_option maxRecDepth 100000 in
set_option maxHeartbeats 20000000 in
theorem rtwosum_na (w : World) (hT : Tab w) (a b : Nat) (ha : a < 18446744073709551616) (hb : b < 18446744073709551616) (fa : ffin a = false) :
    Calls Tryz.prog 24 #[.int .u64 a, .int .u64 b] w fun o w' => o = .returned (.tuple #[.int .u64 0, .int .u64 0, .bool false]) ∧ Below w.heap.size w w' := by
  have HA := fun W ht => Lib.hid (r3add_any W a b ha hb 0 ht)
  have HFa := fun W => Lib.hid (rfin_any W a)
  have HFb := fun W => Lib.hid (rfin_any W b)
  have HFs := fun W => Lib.hid (rfin_any W (fadd a b 0))
  rw [fa] at HFa
  clear fa
  generalize ((fadd a b 0 : Nat) : Int) = V at *
  go_enter Tryz.func24, Tryz.ntmps24
  go_wp2_with fail
  have B0 : Below w.heap.size w w := Below.refl _ _
  refine (HA _ hT).out.mono ?_
  rintro e w1 ⟨rfl, hb1⟩
  have B1 := below_box (w := w) (have := Beh.mk B0; zbh) hb1
  clear hb1
  (try clear xx)
  (try clear B0)
  go_wp2_with fail
  refine (HFa _).out.mono ?_; rintro e w9 ⟨rfl, rfl⟩; go_wp2_with fail
  refine bodyPost_ret (v := .tuple #[.int .u64 0, .int .u64 0, .bool false]) (by simp only [results, Tryz.results24]; go_simp) rfl ?_
  exact ⟨rfl, (have := Beh.mk B1; zbh)⟩

set_option maxRecDepth 100000 in
set_option maxHeartbeats 20000000 in
theorem rtwosum_nb (w : World) (hT : Tab w) (a b : Nat) (ha : a < 18446744073709551616) (hb : b < 18446744073709551616) (fa : ffin a = true) (fb : ffin b = false) :
    Calls Tryz.prog 24 #[.int .u64 a, .int .u64 b] w fun o w' => o = .returned (.tuple #[.int .u64 0, .int .u64 0, .bool false]) ∧ Below w.heap.size w w' := by
  have HA := fun W ht => Lib.hid (r3add_any W a b ha hb 0 ht)
  have HFa := fun W => Lib.hid (rfin_any W a)
  have HFb := fun W => Lib.hid (rfin_any W b)
  have HFs := fun W => Lib.hid (rfin_any W (fadd a b 0))
  rw [fa] at HFa
  rw [fb] at HFb
  clear fa fb
  generalize ((fadd a b 0 : Nat) : Int) = V at *
  go_enter Tryz.func24, Tryz.ntmps24
  go_wp2_with fail
  have B0 : Below w.heap.size w w := Below.refl _ _
  refine (HA _ hT).out.mono ?_
  rintro e w1 ⟨rfl, hb1⟩
  have B1 := below_box (w := w) (have := Beh.mk B0; zbh) hb1
  clear hb1
  (try clear xx)
  (try clear B0)
  go_wp2_with fail
  refine (HFa _).out.mono ?_; rintro e w9 ⟨rfl, rfl⟩; go_wp2_with fail
  refine (HFb _).out.mono ?_; rintro e w9 ⟨rfl, rfl⟩; go_wp2_with fail
  refine bodyPost_ret (v := .tuple #[.int .u64 0, .int .u64 0, .bool false]) (by simp only [results, Tryz.results24]; go_simp) rfl ?_
  exact ⟨rfl, (have := Beh.mk B1; zbh)⟩

set_option maxRecDepth 100000 in
set_option maxHeartbeats 20000000 in
theorem rtwosum_ns (w : World) (hT : Tab w) (a b : Nat) (ha : a < 18446744073709551616) (hb : b < 18446744073709551616) (fa : ffin a = true) (fb : ffin b = true) (fs : ffin (fadd a b 0) = false) :
    Calls Tryz.prog 24 #[.int .u64 a, .int .u64 b] w fun o w' => o = .returned (.tuple #[.int .u64 0, .int .u64 0, .bool false]) ∧ Below w.heap.size w w' := by
  have HA := fun W ht => Lib.hid (r3add_any W a b ha hb 0 ht)
  have HFa := fun W => Lib.hid (rfin_any W a)
  have HFb := fun W => Lib.hid (rfin_any W b)
  have HFs := fun W => Lib.hid (rfin_any W (fadd a b 0))
  rw [fa] at HFa
  rw [fb] at HFb
  rw [fs] at HFs
  clear fa fb fs
  generalize ((fadd a b 0 : Nat) : Int) = V at *
  go_enter Tryz.func24, Tryz.ntmps24
  go_wp2_with fail
  have B0 : Below w.heap.size w w := Below.refl _ _
  refine (HA _ hT).out.mono ?_
  rintro e w1 ⟨rfl, hb1⟩
  have B1 := below_box (w := w) (have := Beh.mk B0; zbh) hb1
  clear hb1
  (try clear xx)
  (try clear B0)
  go_wp2_with fail
  refine (HFa _).out.mono ?_; rintro e w9 ⟨rfl, rfl⟩; go_wp2_with fail
  refine (HFb _).out.mono ?_; rintro e w9 ⟨rfl, rfl⟩; go_wp2_with fail
  refine (HFs _).out.mono ?_; rintro e w9 ⟨rfl, rfl⟩; go_wp2_with fail
  refine bodyPost_ret (v := .tuple #[.int .u64 0, .int .u64 0, .bool false]) (by simp only [results, Tryz.results24]; go_simp) rfl ?_
  exact ⟨rfl, (have := Beh.mk B1; zbh)⟩

set_option maxRecDepth 100000 in
set_option maxHeartbeats 20000000 in
theorem rtwosum_ok (w : World) (hT : Tab w) (a b : Nat) (ha : a < 18446744073709551616) (hb : b < 18446744073709551616) (fa : ffin a = true) (fb : ffin b = true) (fs : ffin (fadd a b 0) = true) (fr : frestok (fadd a b 0) (dadd (fof a) (fof b)) = true) :
    Calls Tryz.prog 24 #[.int .u64 a, .int .u64 b] w fun o w' => o = .returned (.tuple #[.int .u64 (fadd a b 0 : Nat), .int .u64 (frest (fadd a b 0) (dadd (fof a) (fof b)) : Nat), .bool true]) ∧ Below w.heap.size w w' := by
  have HA := fun W ht => Lib.hid (r3add_any W a b ha hb 0 ht)
  have HFa := fun W => Lib.hid (rfin_any W a)
  have HFb := fun W => Lib.hid (rfin_any W b)
  have HFs := fun W => Lib.hid (rfin_any W (fadd a b 0))
  rw [fa] at HFa
  rw [fb] at HFb
  rw [fs] at HFs
  have hl : (fadd a b 0) < 18446744073709551616 := fadd_lt2 ha hb 0
  have HOa := fun W ht => Lib.hid (r3of_any W a ha ht)
  have HOb := fun W ht => Lib.hid (r3of_any W b hb ht)
  have HOs := fun W ht => Lib.hid (r3of_any W (fadd a b 0) hl ht)
  have Na := isN_fof a
  have Nb := isN_fof b
  have Ns := isN_fof (fadd a b 0)
  have Nx : IsN (dadd (fof a) (fof b)) := isN_add _ _
  have HD := fun W b1 q1 b2 q2 (h1 : Mag W b1 (nl (dman (fof a)).natAbs) q1 (dman (fof a)).natAbs) (h2 : Mag W b2 (nl (dman (fof b)).natAbs) q2 (dman (fof b)).natAbs) ht => Lib.hid (rdadd_any W _ _ _ _ _ _ _ _ _ _ _ _ _ _ (dyis_n Na h1) (dyis_n Nb h2) ht)
  have HS := fun W b1 q1 b2 q2 (h1 : Mag W b1 (nl (dman (dadd (fof a) (fof b))).natAbs) q1 (dman (dadd (fof a) (fof b))).natAbs) (h2 : Mag W b2 (nl (dman (fof (fadd a b 0))).natAbs) q2 (dman (fof (fadd a b 0))).natAbs) ht => Lib.hid (show Calls Tryz.prog 148 #[.agg #[.bool (dbad (dadd (fof a) (fof b))), .bool (decide (dman (dadd (fof a) (fof b)) < 0)), .slice b1 (nl (dman (dadd (fof a) (fof b))).natAbs) q1, .int .i64 (dexp (dadd (fof a) (fof b)))], .agg #[.bool (dbad (fof (fadd a b 0))), .bool (decide (dman (fof (fadd a b 0)) < 0)), .slice b2 (nl (dman (fof (fadd a b 0))).natAbs) q2, .int .i64 (dexp (fof (fadd a b 0)))]] W (RetDy W (dadd (dadd (fof a) (fof b)) (dneg (fof (fadd a b 0))))) from rdsub_any W _ _ _ _ _ _ _ _ _ _ _ _ _ _ (dyis_n Nx h1) (dyis_n Ns h2) ht)
  have HR := fun W b1 q1 (h1 : Mag W b1 (nl (dman (dadd (dadd (fof a) (fof b)) (dneg (fof (fadd a b 0))))).natAbs) q1 (dman (dadd (dadd (fof a) (fof b)) (dneg (fof (fadd a b 0))))).natAbs) ht => Lib.hid (show Calls Tryz.prog 147 #[.agg #[.bool (dbad (dadd (dadd (fof a) (fof b)) (dneg (fof (fadd a b 0))))), .bool (decide (dman (dadd (dadd (fof a) (fof b)) (dneg (fof (fadd a b 0)))) < 0)), .slice b1 (nl (dman (dadd (dadd (fof a) (fof b)) (dneg (fof (fadd a b 0))))).natAbs) q1, .int .i64 (dexp (dadd (dadd (fof a) (fof b)) (dneg (fof (fadd a b 0)))))]] W fun o w' => o = .returned (.tuple #[.int .u64 (frest (fadd a b 0) (dadd (fof a) (fof b)) : Nat), .bool (frestok (fadd a b 0) (dadd (fof a) (fof b)))]) ∧ Below W.heap.size W w' from rrest_any W ht (dadd (dadd (fof a) (fof b)) (dneg (fof (fadd a b 0)))) (isN_rest _ _) b1 q1 h1)
  rw [fr] at HR
  clear fa fb fs fr hl Na Nb Ns Nx
  generalize dadd (dadd (fof a) (fof b)) (dneg (fof (fadd a b 0))) = y at *
  generalize (dadd (fof a) (fof b)) = dx at *
  generalize fof (fadd a b 0) = ds at *
  generalize ((frest (fadd a b 0) dx : Nat) : Int) = R at *
  generalize ((fadd a b 0 : Nat) : Int) = V at *
  generalize fof a = da at *
  generalize fof b = db at *
  go_enter Tryz.func24, Tryz.ntmps24
  go_wp2_with fail
  have B0 : Below w.heap.size w w := Below.refl _ _
  refine (HA _ hT).out.mono ?_
  rintro e w1 ⟨rfl, hb1⟩
  have B1 := below_box (w := w) (have := Beh.mk B0; zbh) hb1
  clear hb1
  (try clear xx)
  (try clear B0)
  go_wp2_with fail
  refine (HFa _).out.mono ?_; rintro e w9 ⟨rfl, rfl⟩; go_wp2_with fail
  refine (HFb _).out.mono ?_; rintro e w9 ⟨rfl, rfl⟩; go_wp2_with fail
  refine (HFs _).out.mono ?_; rintro e w9 ⟨rfl, rfl⟩; go_wp2_with fail
  refine (HOa _ (hT.below (have := Beh.mk B1; zbh))).out.mono ?_
  rintro e w2 ⟨a1, c1, rfl, M12, hb2, hf2⟩
  have B2 := below_box (w := w) (have := Beh.mk B1; zbh) hb2
  clear hb2 hf2
  (try clear xx)
  (try clear B1)
  go_wp2_with fail
  refine (HOb _ (hT.below (have := Beh.mk B2; zbh))).out.mono ?_
  rintro e w3 ⟨a2, c2, rfl, M23, hb3, hf3⟩
  have M13 : Mag w3 a1 (nl (dman da).natAbs) c1 (dman da).natAbs := Mag.below M12.on hb3
  have B3 := below_box (w := w) (have := Beh.mk B2; zbh) hb3
  clear hb3 hf3
  (try clear xx)
  (try clear M12)
  (try clear B2)
  go_wp2_with fail
  refine (HD _ a1 c1 a2 c2 M13.on M23.on (hT.below (have := Beh.mk B3; zbh))).out.mono ?_
  rintro e w4 ⟨a3, c3, rfl, M34, hb4, hf4⟩
  have M14 : Mag w4 a1 (nl (dman da).natAbs) c1 (dman da).natAbs := Mag.below M13.on hb4
  have M24 : Mag w4 a2 (nl (dman db).natAbs) c2 (dman db).natAbs := Mag.below M23.on hb4
  have B4 := below_box (w := w) (have := Beh.mk B3; zbh) hb4
  clear hb4 hf4
  (try clear xx)
  (try clear M13)
  (try clear M23)
  (try clear B3)
  go_wp2_with fail
  refine (HOs _ (hT.below (have := Beh.mk B4; zbh))).out.mono ?_
  rintro e w5 ⟨a4, c4, rfl, M45, hb5, hf5⟩
  have M35 : Mag w5 a3 (nl (dman dx).natAbs) c3 (dman dx).natAbs := Mag.below M34.on hb5
  have B5 := below_box (w := w) (have := Beh.mk B4; zbh) hb5
  clear hb5 hf5
  (try clear xx)
  (try clear M34)
  (try clear B4)
  go_wp2_with fail
  refine (HS _ a3 c3 a4 c4 M35.on M45.on (hT.below (have := Beh.mk B5; zbh))).out.mono ?_
  rintro e w6 ⟨a5, c5, rfl, M56, hb6, hf6⟩
  have M36 : Mag w6 a3 (nl (dman dx).natAbs) c3 (dman dx).natAbs := Mag.below M35.on hb6
  have M46 : Mag w6 a4 (nl (dman ds).natAbs) c4 (dman ds).natAbs := Mag.below M45.on hb6
  have B6 := below_box (w := w) (have := Beh.mk B5; zbh) hb6
  clear hb6 hf6
  (try clear xx)
  (try clear M35)
  (try clear M45)
  (try clear B5)
  go_wp2_with fail
  refine (HR _ a5 c5 M56.on (hT.below (have := Beh.mk B6; zbh))).out.mono ?_
  rintro e w7 ⟨rfl, hb7⟩
  have M37 : Mag w7 a3 (nl (dman dx).natAbs) c3 (dman dx).natAbs := Mag.below M36.on hb7
  have M47 : Mag w7 a4 (nl (dman ds).natAbs) c4 (dman ds).natAbs := Mag.below M46.on hb7
  have M57 : Mag w7 a5 (nl (dman y).natAbs) c5 (dman y).natAbs := Mag.below M56.on hb7
  have B7 := below_box (w := w) (have := Beh.mk B6; zbh) hb7
  clear hb7
  (try clear xx)
  (try clear M36)
  (try clear M46)
  (try clear M56)
  (try clear B6)
  go_wp2_with fail
  refine bodyPost_ret (v := .tuple #[.int .u64 V, .int .u64 R, .bool true]) (by simp only [results, Tryz.results24]; go_simp) rfl ?_
  exact ⟨rfl, (have := Beh.mk B7; zbh)⟩

set_option maxRecDepth 100000 in
set_option maxHeartbeats 20000000 in
theorem rtwosum_no (w : World) (hT : Tab w) (a b : Nat) (ha : a < 18446744073709551616) (hb : b < 18446744073709551616) (fa : ffin a = true) (fb : ffin b = true) (fs : ffin (fadd a b 0) = true) (fr : frestok (fadd a b 0) (dadd (fof a) (fof b)) = false) :
    Calls Tryz.prog 24 #[.int .u64 a, .int .u64 b] w fun o w' => o = .returned (.tuple #[.int .u64 0, .int .u64 0, .bool false]) ∧ Below w.heap.size w w' := by
  have HA := fun W ht => Lib.hid (r3add_any W a b ha hb 0 ht)
  have HFa := fun W => Lib.hid (rfin_any W a)
  have HFb := fun W => Lib.hid (rfin_any W b)
  have HFs := fun W => Lib.hid (rfin_any W (fadd a b 0))
  rw [fa] at HFa
  rw [fb] at HFb
  rw [fs] at HFs
  have hl : (fadd a b 0) < 18446744073709551616 := fadd_lt2 ha hb 0
  have HOa := fun W ht => Lib.hid (r3of_any W a ha ht)
  have HOb := fun W ht => Lib.hid (r3of_any W b hb ht)
  have HOs := fun W ht => Lib.hid (r3of_any W (fadd a b 0) hl ht)
  have Na := isN_fof a
  have Nb := isN_fof b
  have Ns := isN_fof (fadd a b 0)
  have Nx : IsN (dadd (fof a) (fof b)) := isN_add _ _
  have HD := fun W b1 q1 b2 q2 (h1 : Mag W b1 (nl (dman (fof a)).natAbs) q1 (dman (fof a)).natAbs) (h2 : Mag W b2 (nl (dman (fof b)).natAbs) q2 (dman (fof b)).natAbs) ht => Lib.hid (rdadd_any W _ _ _ _ _ _ _ _ _ _ _ _ _ _ (dyis_n Na h1) (dyis_n Nb h2) ht)
  have HS := fun W b1 q1 b2 q2 (h1 : Mag W b1 (nl (dman (dadd (fof a) (fof b))).natAbs) q1 (dman (dadd (fof a) (fof b))).natAbs) (h2 : Mag W b2 (nl (dman (fof (fadd a b 0))).natAbs) q2 (dman (fof (fadd a b 0))).natAbs) ht => Lib.hid (show Calls Tryz.prog 148 #[.agg #[.bool (dbad (dadd (fof a) (fof b))), .bool (decide (dman (dadd (fof a) (fof b)) < 0)), .slice b1 (nl (dman (dadd (fof a) (fof b))).natAbs) q1, .int .i64 (dexp (dadd (fof a) (fof b)))], .agg #[.bool (dbad (fof (fadd a b 0))), .bool (decide (dman (fof (fadd a b 0)) < 0)), .slice b2 (nl (dman (fof (fadd a b 0))).natAbs) q2, .int .i64 (dexp (fof (fadd a b 0)))]] W (RetDy W (dadd (dadd (fof a) (fof b)) (dneg (fof (fadd a b 0))))) from rdsub_any W _ _ _ _ _ _ _ _ _ _ _ _ _ _ (dyis_n Nx h1) (dyis_n Ns h2) ht)
  have HR := fun W b1 q1 (h1 : Mag W b1 (nl (dman (dadd (dadd (fof a) (fof b)) (dneg (fof (fadd a b 0))))).natAbs) q1 (dman (dadd (dadd (fof a) (fof b)) (dneg (fof (fadd a b 0))))).natAbs) ht => Lib.hid (show Calls Tryz.prog 147 #[.agg #[.bool (dbad (dadd (dadd (fof a) (fof b)) (dneg (fof (fadd a b 0))))), .bool (decide (dman (dadd (dadd (fof a) (fof b)) (dneg (fof (fadd a b 0)))) < 0)), .slice b1 (nl (dman (dadd (dadd (fof a) (fof b)) (dneg (fof (fadd a b 0))))).natAbs) q1, .int .i64 (dexp (dadd (dadd (fof a) (fof b)) (dneg (fof (fadd a b 0)))))]] W fun o w' => o = .returned (.tuple #[.int .u64 (frest (fadd a b 0) (dadd (fof a) (fof b)) : Nat), .bool (frestok (fadd a b 0) (dadd (fof a) (fof b)))]) ∧ Below W.heap.size W w' from rrest_any W ht (dadd (dadd (fof a) (fof b)) (dneg (fof (fadd a b 0)))) (isN_rest _ _) b1 q1 h1)
  rw [fr] at HR
  clear fa fb fs fr hl Na Nb Ns Nx
  generalize dadd (dadd (fof a) (fof b)) (dneg (fof (fadd a b 0))) = y at *
  generalize (dadd (fof a) (fof b)) = dx at *
  generalize fof (fadd a b 0) = ds at *
  generalize ((frest (fadd a b 0) dx : Nat) : Int) = R at *
  generalize ((fadd a b 0 : Nat) : Int) = V at *
  generalize fof a = da at *
  generalize fof b = db at *
  go_enter Tryz.func24, Tryz.ntmps24
  go_wp2_with fail
  have B0 : Below w.heap.size w w := Below.refl _ _
  refine (HA _ hT).out.mono ?_
  rintro e w1 ⟨rfl, hb1⟩
  have B1 := below_box (w := w) (have := Beh.mk B0; zbh) hb1
  clear hb1
  (try clear xx)
  (try clear B0)
  go_wp2_with fail
  refine (HFa _).out.mono ?_; rintro e w9 ⟨rfl, rfl⟩; go_wp2_with fail
  refine (HFb _).out.mono ?_; rintro e w9 ⟨rfl, rfl⟩; go_wp2_with fail
  refine (HFs _).out.mono ?_; rintro e w9 ⟨rfl, rfl⟩; go_wp2_with fail
  refine (HOa _ (hT.below (have := Beh.mk B1; zbh))).out.mono ?_
  rintro e w2 ⟨a1, c1, rfl, M12, hb2, hf2⟩
  have B2 := below_box (w := w) (have := Beh.mk B1; zbh) hb2
  clear hb2 hf2
  (try clear xx)
  (try clear B1)
  go_wp2_with fail
  refine (HOb _ (hT.below (have := Beh.mk B2; zbh))).out.mono ?_
  rintro e w3 ⟨a2, c2, rfl, M23, hb3, hf3⟩
  have M13 : Mag w3 a1 (nl (dman da).natAbs) c1 (dman da).natAbs := Mag.below M12.on hb3
  have B3 := below_box (w := w) (have := Beh.mk B2; zbh) hb3
  clear hb3 hf3
  (try clear xx)
  (try clear M12)
  (try clear B2)
  go_wp2_with fail
  refine (HD _ a1 c1 a2 c2 M13.on M23.on (hT.below (have := Beh.mk B3; zbh))).out.mono ?_
  rintro e w4 ⟨a3, c3, rfl, M34, hb4, hf4⟩
  have M14 : Mag w4 a1 (nl (dman da).natAbs) c1 (dman da).natAbs := Mag.below M13.on hb4
  have M24 : Mag w4 a2 (nl (dman db).natAbs) c2 (dman db).natAbs := Mag.below M23.on hb4
  have B4 := below_box (w := w) (have := Beh.mk B3; zbh) hb4
  clear hb4 hf4
  (try clear xx)
  (try clear M13)
  (try clear M23)
  (try clear B3)
  go_wp2_with fail
  refine (HOs _ (hT.below (have := Beh.mk B4; zbh))).out.mono ?_
  rintro e w5 ⟨a4, c4, rfl, M45, hb5, hf5⟩
  have M35 : Mag w5 a3 (nl (dman dx).natAbs) c3 (dman dx).natAbs := Mag.below M34.on hb5
  have B5 := below_box (w := w) (have := Beh.mk B4; zbh) hb5
  clear hb5 hf5
  (try clear xx)
  (try clear M34)
  (try clear B4)
  go_wp2_with fail
  refine (HS _ a3 c3 a4 c4 M35.on M45.on (hT.below (have := Beh.mk B5; zbh))).out.mono ?_
  rintro e w6 ⟨a5, c5, rfl, M56, hb6, hf6⟩
  have M36 : Mag w6 a3 (nl (dman dx).natAbs) c3 (dman dx).natAbs := Mag.below M35.on hb6
  have M46 : Mag w6 a4 (nl (dman ds).natAbs) c4 (dman ds).natAbs := Mag.below M45.on hb6
  have B6 := below_box (w := w) (have := Beh.mk B5; zbh) hb6
  clear hb6 hf6
  (try clear xx)
  (try clear M35)
  (try clear M45)
  (try clear B5)
  go_wp2_with fail
  refine (HR _ a5 c5 M56.on (hT.below (have := Beh.mk B6; zbh))).out.mono ?_
  rintro e w7 ⟨rfl, hb7⟩
  have M37 : Mag w7 a3 (nl (dman dx).natAbs) c3 (dman dx).natAbs := Mag.below M36.on hb7
  have M47 : Mag w7 a4 (nl (dman ds).natAbs) c4 (dman ds).natAbs := Mag.below M46.on hb7
  have M57 : Mag w7 a5 (nl (dman y).natAbs) c5 (dman y).natAbs := Mag.below M56.on hb7
  have B7 := below_box (w := w) (have := Beh.mk B6; zbh) hb7
  clear hb7
  (try clear xx)
  (try clear M36)
  (try clear M46)
  (try clear M56)
  (try clear B6)
  go_wp2_with fail
  refine bodyPost_ret (v := .tuple #[.int .u64 0, .int .u64 0, .bool false]) (by simp only [results, Tryz.results24]; go_simp) rfl ?_
  exact ⟨rfl, (have := Beh.mk B7; zbh)⟩

theorem rtwosum_any (w : World) (hT : Tab w) (a b : Nat) (ha : a < 18446744073709551616) (hb : b < 18446744073709551616) :
    Calls Tryz.prog 24 #[.int .u64 a, .int .u64 b] w fun o w' => o = .returned (.tuple #[.int .u64 (rstS (fadd a b 0) (dadd (fof a) (fof b)) : Nat), .int .u64 (rstT (fadd a b 0) (dadd (fof a) (fof b)) : Nat), .bool (frestok (fadd a b 0) (dadd (fof a) (fof b)))]) ∧ Below w.heap.size w w' := by
  cases fr : frestok (fadd a b 0) (dadd (fof a) (fof b)) with
  | true =>
    have fa : ffin a = true := rest_fin_l_dadd fr
    have fb : ffin b = true := rest_fin_r_dadd fr
    have fs : ffin (fadd a b 0) = true := rest_fin_s fr
    unfold rstS rstT; rw [fr]; exact rtwosum_ok w hT a b ha hb fa fb fs fr
  | false =>
    unfold rstS rstT; rw [fr]
    cases fa : ffin a with
    | false => exact rtwosum_na w hT a b ha hb fa
    | true =>
      cases fb : ffin b with
      | false => exact rtwosum_nb w hT a b ha hb fa fb
      | true =>
        cases fs : ffin (fadd a b 0) with
        | false => exact rtwosum_ns w hT a b ha hb fa fb fs
        | true => exact rtwosum_no w hT a b ha hb fa fb fs fr
set_option maxRecDepth 100000 in
set_option maxHeartbeats 20000000 in
theorem rtwomul_na (w : World) (hT : Tab w) (a b : Nat) (ha : a < 18446744073709551616) (hb : b < 18446744073709551616) (fa : ffin a = false) :
    Calls Tryz.prog 26 #[.int .u64 a, .int .u64 b] w fun o w' => o = .returned (.tuple #[.int .u64 0, .int .u64 0, .bool false]) ∧ Below w.heap.size w w' := by
  have HA := fun W ht => Lib.hid (r3mul_any W a b ha hb 0 ht)
  have HFa := fun W => Lib.hid (rfin_any W a)
  have HFb := fun W => Lib.hid (rfin_any W b)
  have HFs := fun W => Lib.hid (rfin_any W (fmul a b 0))
  rw [fa] at HFa
  clear fa
  generalize ((fmul a b 0 : Nat) : Int) = V at *
  go_enter Tryz.func26, Tryz.ntmps26
  go_wp2_with fail
  have B0 : Below w.heap.size w w := Below.refl _ _
  refine (HA _ hT).out.mono ?_
  rintro e w1 ⟨rfl, hb1⟩
  have B1 := below_box (w := w) (have := Beh.mk B0; zbh) hb1
  clear hb1
  (try clear xx)
  (try clear B0)
  go_wp2_with fail
  refine (HFa _).out.mono ?_; rintro e w9 ⟨rfl, rfl⟩; go_wp2_with fail
  refine bodyPost_ret (v := .tuple #[.int .u64 0, .int .u64 0, .bool false]) (by simp only [results, Tryz.results26]; go_simp) rfl ?_
  exact ⟨rfl, (have := Beh.mk B1; zbh)⟩

set_option maxRecDepth 100000 in
set_option maxHeartbeats 20000000 in
theorem rtwomul_nb (w : World) (hT : Tab w) (a b : Nat) (ha : a < 18446744073709551616) (hb : b < 18446744073709551616) (fa : ffin a = true) (fb : ffin b = false) :
    Calls Tryz.prog 26 #[.int .u64 a, .int .u64 b] w fun o w' => o = .returned (.tuple #[.int .u64 0, .int .u64 0, .bool false]) ∧ Below w.heap.size w w' := by
  have HA := fun W ht => Lib.hid (r3mul_any W a b ha hb 0 ht)
  have HFa := fun W => Lib.hid (rfin_any W a)
  have HFb := fun W => Lib.hid (rfin_any W b)
  have HFs := fun W => Lib.hid (rfin_any W (fmul a b 0))
  rw [fa] at HFa
  rw [fb] at HFb
  clear fa fb
  generalize ((fmul a b 0 : Nat) : Int) = V at *
  go_enter Tryz.func26, Tryz.ntmps26
  go_wp2_with fail
  have B0 : Below w.heap.size w w := Below.refl _ _
  refine (HA _ hT).out.mono ?_
  rintro e w1 ⟨rfl, hb1⟩
  have B1 := below_box (w := w) (have := Beh.mk B0; zbh) hb1
  clear hb1
  (try clear xx)
  (try clear B0)
  go_wp2_with fail
  refine (HFa _).out.mono ?_; rintro e w9 ⟨rfl, rfl⟩; go_wp2_with fail
  refine (HFb _).out.mono ?_; rintro e w9 ⟨rfl, rfl⟩; go_wp2_with fail
  refine bodyPost_ret (v := .tuple #[.int .u64 0, .int .u64 0, .bool false]) (by simp only [results, Tryz.results26]; go_simp) rfl ?_
  exact ⟨rfl, (have := Beh.mk B1; zbh)⟩

set_option maxRecDepth 100000 in
set_option maxHeartbeats 20000000 in
theorem rtwomul_ns (w : World) (hT : Tab w) (a b : Nat) (ha : a < 18446744073709551616) (hb : b < 18446744073709551616) (fa : ffin a = true) (fb : ffin b = true) (fs : ffin (fmul a b 0) = false) :
    Calls Tryz.prog 26 #[.int .u64 a, .int .u64 b] w fun o w' => o = .returned (.tuple #[.int .u64 0, .int .u64 0, .bool false]) ∧ Below w.heap.size w w' := by
  have HA := fun W ht => Lib.hid (r3mul_any W a b ha hb 0 ht)
  have HFa := fun W => Lib.hid (rfin_any W a)
  have HFb := fun W => Lib.hid (rfin_any W b)
  have HFs := fun W => Lib.hid (rfin_any W (fmul a b 0))
  rw [fa] at HFa
  rw [fb] at HFb
  rw [fs] at HFs
  clear fa fb fs
  generalize ((fmul a b 0 : Nat) : Int) = V at *
  go_enter Tryz.func26, Tryz.ntmps26
  go_wp2_with fail
  have B0 : Below w.heap.size w w := Below.refl _ _
  refine (HA _ hT).out.mono ?_
  rintro e w1 ⟨rfl, hb1⟩
  have B1 := below_box (w := w) (have := Beh.mk B0; zbh) hb1
  clear hb1
  (try clear xx)
  (try clear B0)
  go_wp2_with fail
  refine (HFa _).out.mono ?_; rintro e w9 ⟨rfl, rfl⟩; go_wp2_with fail
  refine (HFb _).out.mono ?_; rintro e w9 ⟨rfl, rfl⟩; go_wp2_with fail
  refine (HFs _).out.mono ?_; rintro e w9 ⟨rfl, rfl⟩; go_wp2_with fail
  refine bodyPost_ret (v := .tuple #[.int .u64 0, .int .u64 0, .bool false]) (by simp only [results, Tryz.results26]; go_simp) rfl ?_
  exact ⟨rfl, (have := Beh.mk B1; zbh)⟩

set_option maxRecDepth 100000 in
set_option maxHeartbeats 20000000 in
theorem rtwomul_ok (w : World) (hT : Tab w) (a b : Nat) (ha : a < 18446744073709551616) (hb : b < 18446744073709551616) (fa : ffin a = true) (fb : ffin b = true) (fs : ffin (fmul a b 0) = true) (fr : frestok (fmul a b 0) (dmul (fof a) (fof b)) = true) :
    Calls Tryz.prog 26 #[.int .u64 a, .int .u64 b] w fun o w' => o = .returned (.tuple #[.int .u64 (fmul a b 0 : Nat), .int .u64 (frest (fmul a b 0) (dmul (fof a) (fof b)) : Nat), .bool true]) ∧ Below w.heap.size w w' := by
  have HA := fun W ht => Lib.hid (r3mul_any W a b ha hb 0 ht)
  have HFa := fun W => Lib.hid (rfin_any W a)
  have HFb := fun W => Lib.hid (rfin_any W b)
  have HFs := fun W => Lib.hid (rfin_any W (fmul a b 0))
  rw [fa] at HFa
  rw [fb] at HFb
  rw [fs] at HFs
  have hl : (fmul a b 0) < 18446744073709551616 := fmul_lt2 a b 0
  have HOa := fun W ht => Lib.hid (r3of_any W a ha ht)
  have HOb := fun W ht => Lib.hid (r3of_any W b hb ht)
  have HOs := fun W ht => Lib.hid (r3of_any W (fmul a b 0) hl ht)
  have Na := isN_fof a
  have Nb := isN_fof b
  have Ns := isN_fof (fmul a b 0)
  have Nx : IsN (dmul (fof a) (fof b)) := isN_mul _ _
  have HD := fun W b1 q1 b2 q2 (h1 : Mag W b1 (nl (dman (fof a)).natAbs) q1 (dman (fof a)).natAbs) (h2 : Mag W b2 (nl (dman (fof b)).natAbs) q2 (dman (fof b)).natAbs) ht => Lib.hid (rdmul_any W _ _ _ _ _ _ _ _ _ _ _ _ _ _ (dyis_n Na h1) (dyis_n Nb h2) ht)
  have HS := fun W b1 q1 b2 q2 (h1 : Mag W b1 (nl (dman (dmul (fof a) (fof b))).natAbs) q1 (dman (dmul (fof a) (fof b))).natAbs) (h2 : Mag W b2 (nl (dman (fof (fmul a b 0))).natAbs) q2 (dman (fof (fmul a b 0))).natAbs) ht => Lib.hid (show Calls Tryz.prog 148 #[.agg #[.bool (dbad (dmul (fof a) (fof b))), .bool (decide (dman (dmul (fof a) (fof b)) < 0)), .slice b1 (nl (dman (dmul (fof a) (fof b))).natAbs) q1, .int .i64 (dexp (dmul (fof a) (fof b)))], .agg #[.bool (dbad (fof (fmul a b 0))), .bool (decide (dman (fof (fmul a b 0)) < 0)), .slice b2 (nl (dman (fof (fmul a b 0))).natAbs) q2, .int .i64 (dexp (fof (fmul a b 0)))]] W (RetDy W (dadd (dmul (fof a) (fof b)) (dneg (fof (fmul a b 0))))) from rdsub_any W _ _ _ _ _ _ _ _ _ _ _ _ _ _ (dyis_n Nx h1) (dyis_n Ns h2) ht)
  have HR := fun W b1 q1 (h1 : Mag W b1 (nl (dman (dadd (dmul (fof a) (fof b)) (dneg (fof (fmul a b 0))))).natAbs) q1 (dman (dadd (dmul (fof a) (fof b)) (dneg (fof (fmul a b 0))))).natAbs) ht => Lib.hid (show Calls Tryz.prog 147 #[.agg #[.bool (dbad (dadd (dmul (fof a) (fof b)) (dneg (fof (fmul a b 0))))), .bool (decide (dman (dadd (dmul (fof a) (fof b)) (dneg (fof (fmul a b 0)))) < 0)), .slice b1 (nl (dman (dadd (dmul (fof a) (fof b)) (dneg (fof (fmul a b 0))))).natAbs) q1, .int .i64 (dexp (dadd (dmul (fof a) (fof b)) (dneg (fof (fmul a b 0)))))]] W fun o w' => o = .returned (.tuple #[.int .u64 (frest (fmul a b 0) (dmul (fof a) (fof b)) : Nat), .bool (frestok (fmul a b 0) (dmul (fof a) (fof b)))]) ∧ Below W.heap.size W w' from rrest_any W ht (dadd (dmul (fof a) (fof b)) (dneg (fof (fmul a b 0)))) (isN_rest _ _) b1 q1 h1)
  rw [fr] at HR
  clear fa fb fs fr hl Na Nb Ns Nx
  generalize dadd (dmul (fof a) (fof b)) (dneg (fof (fmul a b 0))) = y at *
  generalize (dmul (fof a) (fof b)) = dx at *
  generalize fof (fmul a b 0) = ds at *
  generalize ((frest (fmul a b 0) dx : Nat) : Int) = R at *
  generalize ((fmul a b 0 : Nat) : Int) = V at *
  generalize fof a = da at *
  generalize fof b = db at *
  go_enter Tryz.func26, Tryz.ntmps26
  go_wp2_with fail
  have B0 : Below w.heap.size w w := Below.refl _ _
  refine (HA _ hT).out.mono ?_
  rintro e w1 ⟨rfl, hb1⟩
  have B1 := below_box (w := w) (have := Beh.mk B0; zbh) hb1
  clear hb1
  (try clear xx)
  (try clear B0)
  go_wp2_with fail
  refine (HFa _).out.mono ?_; rintro e w9 ⟨rfl, rfl⟩; go_wp2_with fail
  refine (HFb _).out.mono ?_; rintro e w9 ⟨rfl, rfl⟩; go_wp2_with fail
  refine (HFs _).out.mono ?_; rintro e w9 ⟨rfl, rfl⟩; go_wp2_with fail
  refine (HOa _ (hT.below (have := Beh.mk B1; zbh))).out.mono ?_
  rintro e w2 ⟨a1, c1, rfl, M12, hb2, hf2⟩
  have B2 := below_box (w := w) (have := Beh.mk B1; zbh) hb2
  clear hb2 hf2
  (try clear xx)
  (try clear B1)
  go_wp2_with fail
  refine (HOb _ (hT.below (have := Beh.mk B2; zbh))).out.mono ?_
  rintro e w3 ⟨a2, c2, rfl, M23, hb3, hf3⟩
  have M13 : Mag w3 a1 (nl (dman da).natAbs) c1 (dman da).natAbs := Mag.below M12.on hb3
  have B3 := below_box (w := w) (have := Beh.mk B2; zbh) hb3
  clear hb3 hf3
  (try clear xx)
  (try clear M12)
  (try clear B2)
  go_wp2_with fail
  refine (HD _ a1 c1 a2 c2 M13.on M23.on (hT.below (have := Beh.mk B3; zbh))).out.mono ?_
  rintro e w4 ⟨a3, c3, rfl, M34, hb4, hf4⟩
  have M14 : Mag w4 a1 (nl (dman da).natAbs) c1 (dman da).natAbs := Mag.below M13.on hb4
  have M24 : Mag w4 a2 (nl (dman db).natAbs) c2 (dman db).natAbs := Mag.below M23.on hb4
  have B4 := below_box (w := w) (have := Beh.mk B3; zbh) hb4
  clear hb4 hf4
  (try clear xx)
  (try clear M13)
  (try clear M23)
  (try clear B3)
  go_wp2_with fail
  refine (HOs _ (hT.below (have := Beh.mk B4; zbh))).out.mono ?_
  rintro e w5 ⟨a4, c4, rfl, M45, hb5, hf5⟩
  have M35 : Mag w5 a3 (nl (dman dx).natAbs) c3 (dman dx).natAbs := Mag.below M34.on hb5
  have B5 := below_box (w := w) (have := Beh.mk B4; zbh) hb5
  clear hb5 hf5
  (try clear xx)
  (try clear M34)
  (try clear B4)
  go_wp2_with fail
  refine (HS _ a3 c3 a4 c4 M35.on M45.on (hT.below (have := Beh.mk B5; zbh))).out.mono ?_
  rintro e w6 ⟨a5, c5, rfl, M56, hb6, hf6⟩
  have M36 : Mag w6 a3 (nl (dman dx).natAbs) c3 (dman dx).natAbs := Mag.below M35.on hb6
  have M46 : Mag w6 a4 (nl (dman ds).natAbs) c4 (dman ds).natAbs := Mag.below M45.on hb6
  have B6 := below_box (w := w) (have := Beh.mk B5; zbh) hb6
  clear hb6 hf6
  (try clear xx)
  (try clear M35)
  (try clear M45)
  (try clear B5)
  go_wp2_with fail
  refine (HR _ a5 c5 M56.on (hT.below (have := Beh.mk B6; zbh))).out.mono ?_
  rintro e w7 ⟨rfl, hb7⟩
  have M37 : Mag w7 a3 (nl (dman dx).natAbs) c3 (dman dx).natAbs := Mag.below M36.on hb7
  have M47 : Mag w7 a4 (nl (dman ds).natAbs) c4 (dman ds).natAbs := Mag.below M46.on hb7
  have M57 : Mag w7 a5 (nl (dman y).natAbs) c5 (dman y).natAbs := Mag.below M56.on hb7
  have B7 := below_box (w := w) (have := Beh.mk B6; zbh) hb7
  clear hb7
  (try clear xx)
  (try clear M36)
  (try clear M46)
  (try clear M56)
  (try clear B6)
  go_wp2_with fail
  refine bodyPost_ret (v := .tuple #[.int .u64 V, .int .u64 R, .bool true]) (by simp only [results, Tryz.results26]; go_simp) rfl ?_
  exact ⟨rfl, (have := Beh.mk B7; zbh)⟩

set_option maxRecDepth 100000 in
set_option maxHeartbeats 20000000 in
theorem rtwomul_no (w : World) (hT : Tab w) (a b : Nat) (ha : a < 18446744073709551616) (hb : b < 18446744073709551616) (fa : ffin a = true) (fb : ffin b = true) (fs : ffin (fmul a b 0) = true) (fr : frestok (fmul a b 0) (dmul (fof a) (fof b)) = false) :
    Calls Tryz.prog 26 #[.int .u64 a, .int .u64 b] w fun o w' => o = .returned (.tuple #[.int .u64 0, .int .u64 0, .bool false]) ∧ Below w.heap.size w w' := by
  have HA := fun W ht => Lib.hid (r3mul_any W a b ha hb 0 ht)
  have HFa := fun W => Lib.hid (rfin_any W a)
  have HFb := fun W => Lib.hid (rfin_any W b)
  have HFs := fun W => Lib.hid (rfin_any W (fmul a b 0))
  rw [fa] at HFa
  rw [fb] at HFb
  rw [fs] at HFs
  have hl : (fmul a b 0) < 18446744073709551616 := fmul_lt2 a b 0
  have HOa := fun W ht => Lib.hid (r3of_any W a ha ht)
  have HOb := fun W ht => Lib.hid (r3of_any W b hb ht)
  have HOs := fun W ht => Lib.hid (r3of_any W (fmul a b 0) hl ht)
  have Na := isN_fof a
  have Nb := isN_fof b
  have Ns := isN_fof (fmul a b 0)
  have Nx : IsN (dmul (fof a) (fof b)) := isN_mul _ _
  have HD := fun W b1 q1 b2 q2 (h1 : Mag W b1 (nl (dman (fof a)).natAbs) q1 (dman (fof a)).natAbs) (h2 : Mag W b2 (nl (dman (fof b)).natAbs) q2 (dman (fof b)).natAbs) ht => Lib.hid (rdmul_any W _ _ _ _ _ _ _ _ _ _ _ _ _ _ (dyis_n Na h1) (dyis_n Nb h2) ht)
  have HS := fun W b1 q1 b2 q2 (h1 : Mag W b1 (nl (dman (dmul (fof a) (fof b))).natAbs) q1 (dman (dmul (fof a) (fof b))).natAbs) (h2 : Mag W b2 (nl (dman (fof (fmul a b 0))).natAbs) q2 (dman (fof (fmul a b 0))).natAbs) ht => Lib.hid (show Calls Tryz.prog 148 #[.agg #[.bool (dbad (dmul (fof a) (fof b))), .bool (decide (dman (dmul (fof a) (fof b)) < 0)), .slice b1 (nl (dman (dmul (fof a) (fof b))).natAbs) q1, .int .i64 (dexp (dmul (fof a) (fof b)))], .agg #[.bool (dbad (fof (fmul a b 0))), .bool (decide (dman (fof (fmul a b 0)) < 0)), .slice b2 (nl (dman (fof (fmul a b 0))).natAbs) q2, .int .i64 (dexp (fof (fmul a b 0)))]] W (RetDy W (dadd (dmul (fof a) (fof b)) (dneg (fof (fmul a b 0))))) from rdsub_any W _ _ _ _ _ _ _ _ _ _ _ _ _ _ (dyis_n Nx h1) (dyis_n Ns h2) ht)
  have HR := fun W b1 q1 (h1 : Mag W b1 (nl (dman (dadd (dmul (fof a) (fof b)) (dneg (fof (fmul a b 0))))).natAbs) q1 (dman (dadd (dmul (fof a) (fof b)) (dneg (fof (fmul a b 0))))).natAbs) ht => Lib.hid (show Calls Tryz.prog 147 #[.agg #[.bool (dbad (dadd (dmul (fof a) (fof b)) (dneg (fof (fmul a b 0))))), .bool (decide (dman (dadd (dmul (fof a) (fof b)) (dneg (fof (fmul a b 0)))) < 0)), .slice b1 (nl (dman (dadd (dmul (fof a) (fof b)) (dneg (fof (fmul a b 0))))).natAbs) q1, .int .i64 (dexp (dadd (dmul (fof a) (fof b)) (dneg (fof (fmul a b 0)))))]] W fun o w' => o = .returned (.tuple #[.int .u64 (frest (fmul a b 0) (dmul (fof a) (fof b)) : Nat), .bool (frestok (fmul a b 0) (dmul (fof a) (fof b)))]) ∧ Below W.heap.size W w' from rrest_any W ht (dadd (dmul (fof a) (fof b)) (dneg (fof (fmul a b 0)))) (isN_rest _ _) b1 q1 h1)
  rw [fr] at HR
  clear fa fb fs fr hl Na Nb Ns Nx
  generalize dadd (dmul (fof a) (fof b)) (dneg (fof (fmul a b 0))) = y at *
  generalize (dmul (fof a) (fof b)) = dx at *
  generalize fof (fmul a b 0) = ds at *
  generalize ((frest (fmul a b 0) dx : Nat) : Int) = R at *
  generalize ((fmul a b 0 : Nat) : Int) = V at *
  generalize fof a = da at *
  generalize fof b = db at *
  go_enter Tryz.func26, Tryz.ntmps26
  go_wp2_with fail
  have B0 : Below w.heap.size w w := Below.refl _ _
  refine (HA _ hT).out.mono ?_
  rintro e w1 ⟨rfl, hb1⟩
  have B1 := below_box (w := w) (have := Beh.mk B0; zbh) hb1
  clear hb1
  (try clear xx)
  (try clear B0)
  go_wp2_with fail
  refine (HFa _).out.mono ?_; rintro e w9 ⟨rfl, rfl⟩; go_wp2_with fail
  refine (HFb _).out.mono ?_; rintro e w9 ⟨rfl, rfl⟩; go_wp2_with fail
  refine (HFs _).out.mono ?_; rintro e w9 ⟨rfl, rfl⟩; go_wp2_with fail
  refine (HOa _ (hT.below (have := Beh.mk B1; zbh))).out.mono ?_
  rintro e w2 ⟨a1, c1, rfl, M12, hb2, hf2⟩
  have B2 := below_box (w := w) (have := Beh.mk B1; zbh) hb2
  clear hb2 hf2
  (try clear xx)
  (try clear B1)
  go_wp2_with fail
  refine (HOb _ (hT.below (have := Beh.mk B2; zbh))).out.mono ?_
  rintro e w3 ⟨a2, c2, rfl, M23, hb3, hf3⟩
  have M13 : Mag w3 a1 (nl (dman da).natAbs) c1 (dman da).natAbs := Mag.below M12.on hb3
  have B3 := below_box (w := w) (have := Beh.mk B2; zbh) hb3
  clear hb3 hf3
  (try clear xx)
  (try clear M12)
  (try clear B2)
  go_wp2_with fail
  refine (HD _ a1 c1 a2 c2 M13.on M23.on (hT.below (have := Beh.mk B3; zbh))).out.mono ?_
  rintro e w4 ⟨a3, c3, rfl, M34, hb4, hf4⟩
  have M14 : Mag w4 a1 (nl (dman da).natAbs) c1 (dman da).natAbs := Mag.below M13.on hb4
  have M24 : Mag w4 a2 (nl (dman db).natAbs) c2 (dman db).natAbs := Mag.below M23.on hb4
  have B4 := below_box (w := w) (have := Beh.mk B3; zbh) hb4
  clear hb4 hf4
  (try clear xx)
  (try clear M13)
  (try clear M23)
  (try clear B3)
  go_wp2_with fail
  refine (HOs _ (hT.below (have := Beh.mk B4; zbh))).out.mono ?_
  rintro e w5 ⟨a4, c4, rfl, M45, hb5, hf5⟩
  have M35 : Mag w5 a3 (nl (dman dx).natAbs) c3 (dman dx).natAbs := Mag.below M34.on hb5
  have B5 := below_box (w := w) (have := Beh.mk B4; zbh) hb5
  clear hb5 hf5
  (try clear xx)
  (try clear M34)
  (try clear B4)
  go_wp2_with fail
  refine (HS _ a3 c3 a4 c4 M35.on M45.on (hT.below (have := Beh.mk B5; zbh))).out.mono ?_
  rintro e w6 ⟨a5, c5, rfl, M56, hb6, hf6⟩
  have M36 : Mag w6 a3 (nl (dman dx).natAbs) c3 (dman dx).natAbs := Mag.below M35.on hb6
  have M46 : Mag w6 a4 (nl (dman ds).natAbs) c4 (dman ds).natAbs := Mag.below M45.on hb6
  have B6 := below_box (w := w) (have := Beh.mk B5; zbh) hb6
  clear hb6 hf6
  (try clear xx)
  (try clear M35)
  (try clear M45)
  (try clear B5)
  go_wp2_with fail
  refine (HR _ a5 c5 M56.on (hT.below (have := Beh.mk B6; zbh))).out.mono ?_
  rintro e w7 ⟨rfl, hb7⟩
  have M37 : Mag w7 a3 (nl (dman dx).natAbs) c3 (dman dx).natAbs := Mag.below M36.on hb7
  have M47 : Mag w7 a4 (nl (dman ds).natAbs) c4 (dman ds).natAbs := Mag.below M46.on hb7
  have M57 : Mag w7 a5 (nl (dman y).natAbs) c5 (dman y).natAbs := Mag.below M56.on hb7
  have B7 := below_box (w := w) (have := Beh.mk B6; zbh) hb7
  clear hb7
  (try clear xx)
  (try clear M36)
  (try clear M46)
  (try clear M56)
  (try clear B6)
  go_wp2_with fail
  refine bodyPost_ret (v := .tuple #[.int .u64 0, .int .u64 0, .bool false]) (by simp only [results, Tryz.results26]; go_simp) rfl ?_
  exact ⟨rfl, (have := Beh.mk B7; zbh)⟩

theorem rtwomul_any (w : World) (hT : Tab w) (a b : Nat) (ha : a < 18446744073709551616) (hb : b < 18446744073709551616) :
    Calls Tryz.prog 26 #[.int .u64 a, .int .u64 b] w fun o w' => o = .returned (.tuple #[.int .u64 (rstS (fmul a b 0) (dmul (fof a) (fof b)) : Nat), .int .u64 (rstT (fmul a b 0) (dmul (fof a) (fof b)) : Nat), .bool (frestok (fmul a b 0) (dmul (fof a) (fof b)))]) ∧ Below w.heap.size w w' := by
  cases fr : frestok (fmul a b 0) (dmul (fof a) (fof b)) with
  | true =>
    have fa : ffin a = true := rest_fin_l_dmul fr
    have fb : ffin b = true := rest_fin_r_dmul fr
    have fs : ffin (fmul a b 0) = true := rest_fin_s fr
    unfold rstS rstT; rw [fr]; exact rtwomul_ok w hT a b ha hb fa fb fs fr
  | false =>
    unfold rstS rstT; rw [fr]
    cases fa : ffin a with
    | false => exact rtwomul_na w hT a b ha hb fa
    | true =>
      cases fb : ffin b with
      | false => exact rtwomul_nb w hT a b ha hb fa fb
      | true =>
        cases fs : ffin (fmul a b 0) with
        | false => exact rtwomul_ns w hT a b ha hb fa fb fs
        | true => exact rtwomul_no w hT a b ha hb fa fb fs fr

end Go.Proofs.YtakbappmkdaioaaGreatDoor


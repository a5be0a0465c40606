/-
  Walks: the law DyadSums.
  Walks: the laws' helpers: awake, one1.
  Walks: package dyad: Sum.
-/
import Derived.Test.YtjhngehajahbnaaDoorDys
import Derived.Test.YtjhngehajahbnaaDoorSumLaw
import Derived.Test.YtjhngehajahbnaaDoorOpb
import Derived.Test.YtjhngehajahbnaaDoorQuo
import Derived.Test.YtjhngehajahbnaaDoorKit
import Derived.Test.YtjhngehajahbnaaDoorSl
import Derived.Test.YtjhngehajahbnaaDoorRsum
namespace Go.Proofs.YtjhngehajahbnaaDoor
open Go.RowKit Sp

/-- the cells of a normal form in memory -/
def ncell (d : Nat → Option (Int × Int)) (A : Nat → Option Addr) (C : Nat → Nat) (i : Nat) : Value × Value × Value × Value :=
  (.bool false, .bool (decide (dman (d i) < 0)), .slice (A i) (nl (dman (d i)).natAbs) (C i), .int .i64 (dexp (d i)))
/-- what the call has appended: normal forms, in memory of its own -/
structure Nms (w : World) (base : Nat) (v : Value) (k : Nat) (d : Nat → Option (Int × Int)) (A : Nat → Option Addr) (C : Nat → Nat) : Prop where
  own : w.ownsRow base 27 4 v k (dcells (ncell d A C) k)
  m : ∀ i, i < k → Mag w (A i) (nl (dman (d i)).natAbs) (C i) (dman (d i)).natAbs
  ap : ∀ i, i < k → 0 < nl (dman (d i)).natAbs → some (ab (A i)) ≠ v.ownBlock
theorem ownsRow_below {w w' : World} {base : Nat} {e : TypeId} {size : Nat} {v : Value} {n : Nat} {xs : List Value} (h : w.ownsRow base e size v n xs) (hb : Below w.heap.size w w') : w'.ownsRow base e size v n xs := by
  refine h.kept (row := none) ⟨hb.os, hb.tape, hb.output, hb.size, fun k hk _ => hb.block k hk⟩ ?_
  cases ho : v.ownBlock with
  | none => exact .inl rfl
  | some g => exact .inr (by simp)
theorem Nms.below {w w' : World} {base : Nat} {v : Value} {k : Nat} {d : Nat → Option (Int × Int)} {A : Nat → Option Addr} {C : Nat → Nat} (h : Nms w base v k d A C) (hb : Below w.heap.size w w') : Nms w' base v k d A C :=
  ⟨ownsRow_below h.own hb, fun i hi => (h.m i hi).below hb, h.ap⟩
/-- one more -/
theorem Nms.app {w w' : World} {base : Nat} {v v' : Value} {k : Nat} {d : Nat → Option (Int × Int)} {A : Nat → Option Addr} {C : Nat → Nat} {a1 : Option Addr} {c1 : Nat} (h : Nms w base v k d A C)
    (ho : w'.ownsRow base 27 4 v' (k + 1) (dcells (ncell d A C) k ++ [.bool false, .bool (decide (dman (d k) < 0)), .slice a1 (nl (dman (d k)).natAbs) c1, .int .i64 (dexp (d k))]))
    (hg : w.grownBy w' v.ownBlock) (hv : v'.ownBlock = v.ownBlock ∨ v'.ownBlock = some w.heap.size) (hm : Mag w a1 (nl (dman (d k)).natAbs) c1 (dman (d k)).natAbs) (hne : 0 < nl (dman (d k)).natAbs → some (ab a1) ≠ v.ownBlock) :
    Nms w' base v' (k + 1) d (fun i => if i = k then a1 else A i) (fun i => if i = k then c1 else C i) := by
  have hap : ∀ (x : Option Addr) (n : Nat), (0 < n → ab x < w.heap.size) → (0 < n → some (ab x) ≠ v.ownBlock) → 0 < n → some (ab x) ≠ v'.ownBlock := fun x n h1 h2 h3 h4 => by
    rcases hv with hv | hv
    · rw [hv] at h4; exact h2 h3 h4
    · rw [hv] at h4; injection h4 with h4; have := h1 h3; omega
  refine ⟨?_, fun i hi => ?_, fun i hi => ?_⟩
  · have e1 : dcells (ncell d (fun i => if i = k then a1 else A i) (fun i => if i = k then c1 else C i)) k = dcells (ncell d A C) k := dcells_congr fun i hi => by
      unfold ncell; simp only [if_neg (show ¬ i = k by omega)]
    simp only [dcells]
    rw [e1]
    unfold ncell
    simp only [if_pos]
    exact ho
  · by_cases hk : i = k
    · subst hk; simp only [if_pos]; exact mag_grown hm hg hne
    · simp only [if_neg hk]; exact mag_grown (h.m i (by omega)) hg (h.ap i (by omega))
  · by_cases hk : i = k
    · subst hk; simp only [if_pos]; exact hap _ _ hm.old hne
    · simp only [if_neg hk]; exact hap _ _ (h.m i (by omega)).old (h.ap i (by omega))
/-- read as a list -/
theorem Nms.dys {w : World} {base : Nat} {v : Value} {k : Nat} {d : Nat → Option (Int × Int)} {A : Nat → Option Addr} {C : Nat → Nat} (h : Nms w base v k d A C) (hd : ∀ i, IsN (d i)) :
    ∃ a cap, v = .slice a k cap ∧ Dys w a k cap (fun i => ⟨false, decide (dman (d i) < 0), A i, nl (dman (d i)).natAbs, C i, dexp (d i), (dman (d i)).natAbs⟩) := by
  have hbd : ∀ i, i < k → -9223372036854775808 ≤ dexp (d i) ∧ dexp (d i) ≤ 9223372036854775807 := fun i _ => by have := isN_bounds (hd i); omega
  rcases h.own.2 with ⟨hv, hk⟩ | ⟨g, cap, cur, hv, hbg, hgg, hkc, hcm, hcs, htake⟩
  · subst hk
    exact ⟨none, 0, hv, ⟨by omega, by omega, by omega, fun i hi => by omega, fun i hi => by omega, fun i hi => by omega, fun i hi => by omega, fun i hi => by omega, fun i hi => by omega, by omega⟩⟩
  · have ho := h.own
    rw [hv] at ho
    have hc : ∀ j, j < k * 4 → w.cell? ⟨g, j, none⟩ = (dcells (ncell d A C) k)[j]? := fun j hj => ho.cellAt j hj
    refine ⟨some ⟨g, 0, none⟩, cap, hv, hkc, by unfold maxLen at hcm; omega, fun _ => rfl, fun i hi => ?_, fun i hi => ?_, fun i hi => ?_, fun i hi => ?_, h.m, hbd, fun _ => (Array.getElem?_eq_some_iff.1 hgg).1⟩
    · rw [ab_some, ao_some, Nat.zero_add, hc _ (by omega)]; exact (dcells_get _ hi).1
    · rw [ab_some, ao_some, Nat.zero_add, hc _ (by omega)]; exact (dcells_get _ hi).2.1
    · rw [ab_some, ao_some, Nat.zero_add, hc _ (by omega)]; exact (dcells_get _ hi).2.2.1
    · rw [ab_some, ao_some, Nat.zero_add, hc _ (by omega)]; exact (dcells_get _ hi).2.2.2
theorem DyV.grown {w w' : World} {b : Nat} {v s : Bool} {sl : Value} {f : Int} {row : Option Nat} (h : DyV w b v s sl f) (hg : w.grownBy w' row) (hne : some b ≠ row) : DyV w' b v s sl f := by
  have hbk := hg.block b h.lt hne
  have e1 : ∀ i, w'.cell? ⟨b, i, none⟩ = w.cell? ⟨b, i, none⟩ := fun i => World.cell?_of_block (a := ⟨b, i, none⟩) hbk
  have e2 : ∀ i, w'.frozen? ⟨b, i, none⟩ = w.frozen? ⟨b, i, none⟩ := fun i => World.frozen?_of_block (a := ⟨b, i, none⟩) hbk
  exact ⟨(e1 _).trans h.c0, (e1 _).trans h.c1, (e1 _).trans h.c2, (e1 _).trans h.c3, fun i => (e2 _).trans (h.z i), Nat.lt_of_lt_of_le h.lt hg.size⟩

set_option maxRecDepth 100000 in
set_option maxHeartbeats 2000000 in
theorem dsum_any (w : World) (hT : Tab w) (a : Option Addr) (n cap : Nat) (L : Nat → El) (hL : Dys w a n cap L) (hn : n ≤ 1048576) (hs : ∀ i, i < n → (L i).n ≤ 1099511627776 ∧ blen (L i).x ≤ 1048576) :
    Calls Tryd.prog 19 #[.slice a n cap] w (RetDy w (dsum (fun i => (L i).d) n)) := by
  have l1 := hL.lim
  have l2 := hL.fits
  obtain ⟨d, hd⟩ : ∃ d, d = fun i => (L i).d := ⟨_, rfl⟩
  have hdi : ∀ i, d i = (L i).d := fun i => by rw [hd]
  rw [← hd]
  have hNd : ∀ i, IsN (d i) := fun i => by rw [hdi]; exact isN_nrmB _ _ _
  have HN := fun (k : Nat) (hk : k < n) W (h : Mag W (L k).a (L k).n (L k).p (L k).x) ht => Lib.hid (@norm_in W (L k).bd (L k).s (L k).a (L k).n (L k).p (L k).e (d k) ⟨_, h, (hs k hk).1, (hs k hk).2, (hL.b k hk).1, (hL.b k hk).2, (hdi k).symm⟩ ht)
  have HB := fun W => Lib.hid (bad_any W)
  have HLL := Lib.hid hL
  have HND := Lib.hid hNd
  clear hL hs hd hdi hNd
  go_enter Tryd.func19, Tryd.ntmps19
  go_wp2_with fail
  have I0 := DyV.made w 27 false false (.slice none 0 0) 0
  have B0 : Below w.heap.size w (w.alloc (.cells #[.bool false, .bool false, .slice none 0 0, .int .i64 0] 27)) := (by repeat (with_reducible first | refine Below.setCell ?_ (by simp <;> omega) _ | refine Below.alloc ?_ (by simp <;> omega) _ | refine Below.drew ?_ | refine below_drewN ?_ _ | exact Below.refl _ _))
  have hown0 := World.ownsRow_nil (w.alloc (.cells #[.bool false, .bool false, .slice none 0 0, .int .i64 0] 27)) (w.heap.size + 1) 27 4
  have hsz : w.heap.size + 1 ≤ (w.alloc (.cells #[.bool false, .bool false, .slice none 0 0, .int .i64 0] 27)).heap.size := by rw [World.size_alloc]; omega
  generalize (w.alloc (.cells #[.bool false, .bool false, .slice none 0 0, .int .i64 0] 27)) = w0 at I0 B0 hown0 hsz ⊢
  go_loopw [3, 4, 14] (fun v e i wr => ∃ (k : Nat) (A : Nat → Option Addr) (C : Nat → Nat), k ≤ n ∧ i = .int .i64 k ∧ e = .int .i64 (mnE d k) ∧ anyBad d k = false ∧ Nms wr (w.heap.size + 1) v k d A C ∧ DyV wr w.heap.size false false (.slice none 0 0) 0 ∧ Below w.heap.size w wr ∧ w.heap.size + 1 ≤ wr.heap.size) (fun _ _ i _ => n - (intOf i).toNat)
  case atStart => exact ⟨0, fun _ => none, fun _ => 0, by omega, rfl, rfl, rfl, ⟨hown0, fun i hi => by omega, fun i hi => by omega⟩, I0, B0, hsz⟩
  case round =>
    clear hown0 I0 B0 hsz
    obtain ⟨k, A, C, hk, rfl, rfl, hbad, hN, V0, hb, hsz⟩ := hrel
    have HBAD := Lib.hid hbad
    have HNM := Lib.hid hN
    clear hbad hN
    by_cases hlt : k < n
    · have hL' := HLL.out.below hb
      have k0 := hL'.c0 k hlt
      have k1 := hL'.c1 k hlt
      have k2 := hL'.c2 k hlt
      have k3 := hL'.c3 k hlt
      have i1 := hL'.idx k hlt
      have mk := hL'.m k hlt
      have HNk := HN k hlt
      generalize hE : L k = E at k0 k1 k2 k3 mk HNk
      obtain ⟨dk, hdk⟩ : ∃ dk, dk = d k := ⟨_, rfl⟩
      rw [← hdk] at HNk
      have HDK := Lib.hid hdk
      clear hL' hE hdk
      have VV := Lib.hid V0
      obtain ⟨p0, p1, p2, p3, p4, p5⟩ := V0
      go_wp2_with fail
      refine (HNk _ (mk.alloc _) (hT.below (hb.alloc (by omega) _))).out.mono ?_
      rintro e w1 ⟨a1, c1, rfl, m1, hb1, hf1⟩
      have hb2 := below_box (w := w) (hb.alloc (by omega) (.cells #[.bool E.bd, .bool E.s, .slice E.a E.n E.p, .int .i64 E.e] 27)) hb1
      have V1 := (VV.out.alloc (.cells #[.bool E.bd, .bool E.s, .slice E.a E.n E.p, .int .i64 E.e] 27)).below hb1
      have hs1 : wr.heap.size + 1 ≤ w1.heap.size := by have := hb1.size; simpa using this
      cases hbd : dbad dk with
      | true =>
        have hany : anyBad d n = true := (anyBad_iff d n).2 ⟨k, hlt, by rw [← HDK.out]; exact hbd⟩
        have e0 : dsum d n = none := by unfold dsum; rw [hany]; rfl
        have VV1 := Lib.hid V1
        obtain ⟨p0, p1, p2, p3, p4, p5⟩ := V1
        go_wp2_with fail
        refine (HB _).out.mono ?_
        rintro e w2 ⟨rfl, hb3⟩
        have hb4 := below_box (w := w) (hb2.alloc (by omega) (.cells #[.bool true, .bool (decide (dman dk < 0)), .slice a1 (nl (dman dk).natAbs) c1, .int .i64 (dexp dk)] 27)) hb3
        have V2 := (VV1.out.alloc (.cells #[.bool true, .bool (decide (dman dk < 0)), .slice a1 (nl (dman dk).natAbs) c1, .int .i64 (dexp dk)] 27)).below hb3
        clear p0 p1 p2 p3 p4 p5
        obtain ⟨p0, p1, p2, p3, p4, p5⟩ := V2
        go_wp2_with fail
        refine bodyPost_ret (v := .agg #[.bool true, .bool false, .slice none 0 0, .int .i64 0]) (by simp only [results, Tryd.results19]; go_simp) rfl ?_
        rw [e0]
        exact ⟨none, 0, rfl, Mag.nil _, (by have hszw := (hb4).size; repeat (with_reducible first | refine Below.setCell ?_ (by first | omega | (simp <;> omega)) _ | refine Below.alloc ?_ (by first | omega | (simp <;> omega)) _ | refine Below.drew ?_ | refine below_drewN ?_ _ | exact hb4)), nl0⟩
      | false =>
        have N1 : Nms w1 (w.heap.size + 1) u3 k d A C := (HNM.out.below ((Below.refl _ _).alloc (Nat.le_refl _) (.cells #[.bool E.bd, .bool E.s, .slice E.a E.n E.p, .int .i64 E.e] 27))).below hb1
        have N2 : Nms (w1.alloc (.cells #[.bool false, .bool (decide (dman dk < 0)), .slice a1 (nl (dman dk).natAbs) c1, .int .i64 (dexp dk)] 27)) (w.heap.size + 1) u3 k d A C := N1.below ((Below.refl _ _).alloc (Nat.le_refl _) _)
        have V2 := V1.alloc (.cells #[.bool false, .bool (decide (dman dk < 0)), .slice a1 (nl (dman dk).natAbs) c1, .int .i64 (dexp dk)] 27)
        have VV2 := Lib.hid V2
        have M2 : Mag (w1.alloc (.cells #[.bool false, .bool (decide (dman dk < 0)), .slice a1 (nl (dman dk).natAbs) c1, .int .i64 (dexp dk)] 27)) a1 (nl (dman dk).natAbs) c1 (dman dk).natAbs := m1.alloc _
        have hne : 0 < nl (dman dk).natAbs → some (ab a1) ≠ u3.ownBlock := fun h0 h1 => by
          have h2 := (HNM.out.own.lt (ab a1) h1.symm).2
          have h3 := hf1 h0
          rw [World.size_alloc] at h3; omega
        have hbw2 : Below w.heap.size w (w1.alloc (.cells #[.bool false, .bool (decide (dman dk < 0)), .slice a1 (nl (dman dk).natAbs) c1, .int .i64 (dexp dk)] 27)) := hb2.alloc (by omega) _
        have hs2 : w.heap.size + 1 ≤ (w1.alloc (.cells #[.bool false, .bool (decide (dman dk < 0)), .slice a1 (nl (dman dk).natAbs) c1, .int .i64 (dexp dk)] 27)).heap.size := by rw [World.size_alloc]; omega
        clear p0 p1 p2 p3 p4 p5
        obtain ⟨p0, p1, p2, p3, p4, p5⟩ := V1
        have hmn : min (mnE d k) (dexp dk) = mnE d (k + 1) := by rw [HDK.out]; rfl
        have hbk : anyBad d (k + 1) = false := by
          show (anyBad d k || dbad (d k)) = false
          rw [HBAD.out, ← HDK.out, hbd]; rfl
        go_wp2_with (at_builtin; refine app_dyad rfl _ _ rfl (w.heap.size + 1) _ k _ rfl _ false (decide (dman dk < 0)) (.slice a1 (nl (dman dk).natAbs) c1) (dexp dk) rfl rfl (N2.own.alloc (.cells #[.bool false, .bool (decide (dman dk < 0)), .slice a1 (nl (dman dk).natAbs) c1, .int .i64 (dexp dk)] 27)) (by go_simp) (by go_simp) (by go_simp) (by go_simp) (by omega) (by rw [World.size_alloc]; omega) ?_; intro v3 w3 hown3 hg3 hob3)
        have N3 : Nms ((w1.alloc (.cells #[.bool false, .bool (decide (dman dk < 0)), .slice a1 (nl (dman dk).natAbs) c1, .int .i64 (dexp dk)] 27)).alloc (.cells #[.bool false, .bool (decide (dman dk < 0)), .slice a1 (nl (dman dk).natAbs) c1, .int .i64 (dexp dk)] 27)) (w.heap.size + 1) _ k d A C := N2.below ((Below.refl _ _).alloc (Nat.le_refl _) _)
        have hdk := HDK.out
        clear HDK
        subst hdk
        have N4 := N3.app hown3 hg3 hob3 (M2.alloc _) hne
        have V4 : DyV w3 w.heap.size false false (.slice none 0 0) 0 := by
          refine DyV.grown (VV2.out.alloc _) hg3 (fun h => ?_)
          have := (HNM.out.own.lt w.heap.size h.symm).1; omega
        have hB4 : Below w.heap.size w w3 := Below.trans (hbw2.alloc (Nat.le_trans (Nat.le_succ _) hs2) _) (Below.mono (below_grown N3.own hg3 (by rw [World.size_alloc]; exact Nat.le_trans hs2 (Nat.le_succ _))) (Nat.le_succ _))
        have hs4 : w.heap.size + 1 ≤ w3.heap.size := by have h9 := hg3.size; rw [World.size_alloc, World.size_alloc] at h9; omega
        go_roundw
        case rel => exact ⟨k + 1, _, _, by omega, by go_num, by rw [← hmn], hbk, N4, V4, hB4, hs4⟩
        case measure => simp [intOf]; omega
    · obtain rfl : k = n := by omega
      have hmn0 := mnE_le0 d k
      obtain ⟨oa, ocap, hv, hD⟩ := HNM.out.dys HND.out
      subst hv
      obtain ⟨wo, hwo⟩ : ∃ wo, wo = wr := ⟨_, rfl⟩
      subst hwo
      have HND2 := HND.out
      have hmn1 := mnE_ge d HND.out k
      have hEk : ∀ i, i < k → mnE d k ≤ dexp (d i) := fun i hi => mnE_le d hi
      have hSb : ∀ j, j ≤ k → blen (smE d (mnE d k) j).natAbs ≤ 131100 := fun j hj => smE_blen d HND.out hmn1 (by omega) (fun i hi => hEk i (by omega))
      have HMk := fun W b c h ht => Lib.hid (make_z W b c (smE d (mnE d k) k) (mnE d k) (dsum d k) (by unfold dsum; rw [HBAD.out]; rfl) h ht (by have := hSb k (Nat.le_refl _); omega) (by omega) (by omega))
      have HEK := Lib.hid hEk
      have HSB := Lib.hid hSb
      obtain ⟨E, hE⟩ : ∃ E, E = mnE d k := ⟨_, rfl⟩
      rw [← hE] at HMk HEK HSB hmn0 hmn1 ⊢
      have HD := Lib.hid hD
      have VV := Lib.hid V0
      clear hE hD HND2 V0 hEk hSb
      go_wp2_with fail
      have Is := BgV.made wo 25 false (.slice none 0 0)
      have hr0 : Below wo.heap.size wo (wo.alloc (.cells #[.bool false, .slice none 0 0] 25)) := (Below.refl _ _).alloc (Nat.le_refl _) _
      generalize (wo.alloc (.cells #[.bool false, .slice none 0 0] 25)) = ws at Is hr0 ⊢
      generalize hz9 : wo.heap.size = z9 at Is hr0 ⊢
      go_loopw [37] (fun i wr => ∃ (j : Nat) (S : Int) (aS : Option Addr) (cS : Nat), j ≤ k ∧ i = .int .i64 j ∧ S = smE d E j ∧ BgV wr z9 (decide (S < 0)) (.slice aS (nl S.natAbs) cS) ∧ Mag wr aS (nl S.natAbs) cS S.natAbs ∧ Below z9 wo wr) (fun i _ => k - (intOf i).toNat)
      case atStart => exact ⟨0, 0, none, 0, by omega, rfl, rfl, Is, Mag.nil _, hr0⟩
      case round =>
        clear Is hr0
        obtain ⟨j, S, aS, cS, hj, rfl, hS, hI, MS, hr⟩ := hrel
        have HS := Lib.hid hS
        clear hS
        have hr' := hr
        rw [← hz9] at hr'
        by_cases hlt : j < k
        · have hD' := HD.out.below hr'
          have k0 := hD'.c0 j hlt
          have k1 := hD'.c1 j hlt
          have k2 := hD'.c2 j hlt
          have k3 := hD'.c3 j hlt
          have i1 := hD'.idx j hlt
          have MA := hD'.m j hlt
          have hej := HEK.out j hlt
          have hbj := isN_bounds (HND.out j)
          have hlj : nl (dman (d j)).natAbs ≤ 1099511627776 := nl_lim (by omega)
          have HLf := fun W h => Lib.hid (left_any W (decide (dman (d j) < 0)) (A j) (nl (dman (d j)).natAbs) (C j) (dman (d j)).natAbs (dexp (d j) - E) h hlj (by omega) (by omega))
          obtain ⟨u, hu⟩ : ∃ u, u = up (dman (d j)) (dexp (d j)) E := ⟨_, rfl⟩
          have eu : shl (sgn (decide (dman (d j) < 0)) (dman (d j)).natAbs) (dexp (d j) - E) = u := by
            rw [sgn_self, hu]; unfold shl up; rw [if_pos (by omega)]
          rw [eu] at HLf
          have hub : blen u.natAbs ≤ 131072 := by rw [hu]; exact blen_dy (HND.out j) hmn1 hej
          have hSb := HSB.out j hj
          rw [← HS.out] at hSb
          obtain ⟨S', hS'⟩ : ∃ S', S' = S + u := ⟨_, rfl⟩
          have HAd := fun W b b' c c' h h' => Lib.hid (add_z W b b' c c' S u S' hS' h h' (nl_lim (by omega)) (nl_lim (by omega)))
          have hS2 : S' = smE d E (j + 1) := by rw [hS', HS.out, hu]; rfl
          have HS2 := Lib.hid hS2
          have hwr : IntKind.i64.wrap (dexp (d j) - E) = dexp (d j) - E := by rw [IntKind.wrap_i64]; omega
          have hbw : Below w.heap.size w wr := hb.trans (hr'.mono hb.size)
          have VI := Lib.hid hI
          clear hD' hu eu hub hSb hS' hS2 hbj hr'
          obtain ⟨sc0, sc1, sc2, sc3⟩ := hI
          go_wp2_with fail
          have B0 : Below w.heap.size w (wr.alloc (.cells #[.bool false, .bool (decide (dman (d j) < 0)), .slice (A j) (nl (dman (d j)).natAbs) (C j), .int .i64 (dexp (d j))] 27)) := hbw.alloc hbw.size _
          have Vs0 := Lib.hid (VI.out.alloc (.cells #[.bool false, .bool (decide (dman (d j) < 0)), .slice (A j) (nl (dman (d j)).natAbs) (C j), .int .i64 (dexp (d j))] 27))
          have Vt0 := Lib.hid (DyV.made wr 27 false (decide (dman (d j) < 0)) (.slice (A j) (nl (dman (d j)).natAbs) (C j)) (dexp (d j)))
          have MS0 := MS.alloc (.cells #[.bool false, .bool (decide (dman (d j) < 0)), .slice (A j) (nl (dman (d j)).natAbs) (C j), .int .i64 (dexp (d j))] 27)
          have MA0 := MA.alloc (.cells #[.bool false, .bool (decide (dman (d j) < 0)), .slice (A j) (nl (dman (d j)).natAbs) (C j), .int .i64 (dexp (d j))] 27)
          have hBz0 : Below z9 wo (wr.alloc (.cells #[.bool false, .bool (decide (dman (d j) < 0)), .slice (A j) (nl (dman (d j)).natAbs) (C j), .int .i64 (dexp (d j))] 27)) := hr.alloc (by have := hr.size; omega) _
          have hzz : z9 ≠ wr.heap.size := by have := VI.out.lt; omega
          generalize (wr.alloc (.cells #[.bool false, .bool (decide (dman (d j) < 0)), .slice (A j) (nl (dman (d j)).natAbs) (C j), .int .i64 (dexp (d j))] 27)) = w0 at B0 Vs0 Vt0 MS0 MA0 hBz0 ⊢
          generalize wr.heap.size = z11 at Vt0 hzz ⊢
          clear sc0 sc1 sc2 sc3 k0 k1 k2 k3 i1 MS MA VI hbw hr
          have Us := Vs0.out
          have Ut := Vt0.out
          obtain ⟨sc0, sc1, sc2, sc3⟩ := Us
          obtain ⟨tc0, tc1, tc2, tc3, tc4, tc5⟩ := Ut
          have hzz' : ¬ z11 = z9 := fun h => hzz h.symm
          have hzz2 : ¬ z9 = z11 := hzz
          first
          | go_region_with (first
              | (go_at_call 43; have xx := B1; refine (HAd _ aS au cS cu (by repeat (with_reducible first | refine Mag.set ?_ (fun h => by have := MS1 h; omega) _ _ | refine Mag.drew ?_ | refine Mag.alloc ?_ _ | refine Mag.drewN ?_ _ | refine Mag.below ?_ (Below.drew (Below.refl _ _)) | refine Mag.below ?_ ((Below.refl _ _).alloc (Nat.le_refl _) _) | exact MS1)) (by repeat (with_reducible first | refine Mag.set ?_ (fun h => by have := Mu1 h; omega) _ _ | refine Mag.drew ?_ | refine Mag.alloc ?_ _ | refine Mag.drewN ?_ _ | refine Mag.below ?_ (Below.drew (Below.refl _ _)) | refine Mag.below ?_ ((Below.refl _ _).alloc (Nat.le_refl _) _) | exact Mu1))).out.mono ?_; rintro e w2 ⟨av, cv, rfl, Mv2, hb2', hf2⟩; have hb2 := hb2'; have Vs2 : BgV w2 z9 (decide (S < 0)) (.slice aS (nl S.natAbs) cS) := (by refine BgV.below ?_ hb2; (repeat (with_reducible first | refine BgV.drew ?_ | refine BgV.drewN ?_ _ | refine BgV.alloc ?_ _)); exact Vs1.out); obtain ⟨sc0, sc1, sc2, sc3⟩ := Vs2; have Vs2 := Lib.hid (BgV.mk sc0 sc1 sc2 sc3); have Vt2 : DyV w2 z11 false (decide (dman (d j) < 0)) (.slice (A j) (nl (dman (d j)).natAbs) (C j)) (dexp (d j)) := (by refine DyV.below ?_ hb2; (repeat (with_reducible first | refine DyV.drew ?_ | refine DyV.drewN ?_ _ | refine DyV.alloc ?_ _)); exact Vt1.out); obtain ⟨tc0, tc1, tc2, tc3, tc4, tc5⟩ := Vt2; have Vt2 := Lib.hid (DyV.mk tc0 tc1 tc2 tc3 tc4 tc5); have B2 := below_box (w := w) (by have hszw := (B1).size; repeat (with_reducible first | refine Below.setCell ?_ (by first | omega | (simp <;> omega)) _ | refine Below.alloc ?_ (by first | omega | (simp <;> omega)) _ | refine Below.drew ?_ | refine below_drewN ?_ _ | exact B1)) hb2; have hsz1 := hBz1.size; have hBz2 : Below z9 wo w2 := Below.trans (by have hszw := (hBz1).size; repeat (with_reducible first | refine Below.setCell ?_ (by first | omega | (simp <;> omega)) _ | refine Below.alloc ?_ (by first | omega | (simp <;> omega)) _ | refine Below.drew ?_ | refine below_drewN ?_ _ | exact hBz1)) (hb2.mono (by first | exact Nat.le_refl _ | (simp; done) | omega | (simp <;> omega))); have hf3 : 0 < nl S'.natAbs → z9 < ab av := (fun h => by have := hf2 h; (try simp at this); have := Vs1.out.lt; omega); clear hb2 hb2')
              | (go_at_call 48; refine (HLf _ (by repeat (with_reducible first | refine Mag.set ?_ (fun h => by have := MA0 h; omega) _ _ | refine Mag.drew ?_ | refine Mag.alloc ?_ _ | refine Mag.drewN ?_ _ | refine Mag.below ?_ (Below.drew (Below.refl _ _)) | refine Mag.below ?_ ((Below.refl _ _).alloc (Nat.le_refl _) _) | exact MA0))).out.mono ?_; rintro e w1 ⟨au, cu, rfl, Mu1, hb1, hf1⟩; have Vs1 : BgV w1 z9 (decide (S < 0)) (.slice aS (nl S.natAbs) cS) := (by refine BgV.below ?_ hb1; (repeat (with_reducible first | refine BgV.drew ?_ | refine BgV.drewN ?_ _ | refine BgV.alloc ?_ _)); exact Vs0.out); obtain ⟨sc0, sc1, sc2, sc3⟩ := Vs1; have Vs1 := Lib.hid (BgV.mk sc0 sc1 sc2 sc3); have Vt1 : DyV w1 z11 false (decide (dman (d j) < 0)) (.slice (A j) (nl (dman (d j)).natAbs) (C j)) (dexp (d j)) := (by refine DyV.below ?_ hb1; (repeat (with_reducible first | refine DyV.drew ?_ | refine DyV.drewN ?_ _ | refine DyV.alloc ?_ _)); exact Vt0.out); obtain ⟨tc0, tc1, tc2, tc3, tc4, tc5⟩ := Vt1; have Vt1 := Lib.hid (DyV.mk tc0 tc1 tc2 tc3 tc4 tc5); have MS1 : Mag w1 aS (nl S.natAbs) cS S.natAbs := Mag.below (by repeat (with_reducible first | refine Mag.set ?_ (fun h => by have := MS0 h; omega) _ _ | refine Mag.drew ?_ | refine Mag.alloc ?_ _ | refine Mag.drewN ?_ _ | refine Mag.below ?_ (Below.drew (Below.refl _ _)) | refine Mag.below ?_ ((Below.refl _ _).alloc (Nat.le_refl _) _) | exact MS0)) hb1; have B1 := below_box (w := w) (by have hszw := (B0).size; repeat (with_reducible first | refine Below.setCell ?_ (by first | omega | (simp <;> omega)) _ | refine Below.alloc ?_ (by first | omega | (simp <;> omega)) _ | refine Below.drew ?_ | refine below_drewN ?_ _ | exact B0)) hb1; have hsz0 := hBz0.size; have hBz1 : Below z9 wo w1 := Below.trans (by have hszw := (hBz0).size; repeat (with_reducible first | refine Below.setCell ?_ (by first | omega | (simp <;> omega)) _ | refine Below.alloc ?_ (by first | omega | (simp <;> omega)) _ | refine Below.drew ?_ | refine below_drewN ?_ _ | exact hBz0)) (hb1.mono (by first | exact Nat.le_refl _ | (simp; done) | omega | (simp <;> omega))); clear hb1 hf1)
              | fail)
          | fail "region"
          all_goals (
            go_wp2_with fail
            go_roundw
            case rel =>
              refine ⟨j + 1, S', av, cv, by omega, by go_num, HS2.out, ⟨by go_simp, by go_simp, fun i => by go_simp, by simpa using sc3⟩, ?_, (hBz2.setCell (Nat.le_refl _) _).setCell (Nat.le_refl _) _⟩
              exact (Mv2.set (fun h => by have := hf3 h; omega) _ _).set (fun h => by have := hf3 h; omega) _ _
            case measure => simp [intOf]; omega)
        · obtain rfl : j = k := by omega
          have hS := HS.out
          subst hS
          have V4 := VV.out.below hr'
          have hbw : Below w.heap.size w wr := hb.trans (hr'.mono hb.size)
          have V4' := Lib.hid V4
          obtain ⟨sc0, sc1, sc2, sc3⟩ := hI
          obtain ⟨p0, p1, p2, p3, p4, p5⟩ := V4
          go_wp2_with fail
          refine (HMk _ aS cS MS (hT.below hbw)).out.mono ?_
          rintro e w5 ⟨a5, c5, rfl, m5, hb5, hf5⟩
          have B5 := below_box (w := w) hbw hb5
          have V5 := V4'.out.below hb5
          have hf6 : 0 < nl (dman (dsum d j)).natAbs → w.heap.size < ab a5 := fun h => by have := hf5 h; have := V4'.out.lt; omega
          clear p0 p1 p2 p3 p4 p5 hb5 hf5
          generalize dsum d j = ds at *
          obtain ⟨p0, p1, p2, p3, p4, p5⟩ := V5
          go_wp2_with fail
          refine bodyPost_ret (v := .agg #[.bool (dbad ds), .bool (decide (dman ds < 0)), .slice a5 (nl (dman ds).natAbs) c5, .int .i64 (dexp ds)]) (by simp only [results, Tryd.results19]; go_simp) rfl ?_
          exact ⟨a5, c5, rfl, (by repeat (with_reducible first | refine Mag.set ?_ (fun h => by have := hf6 h; omega) _ _ | exact m5)), (by have hszw := (B5).size; repeat (with_reducible first | refine Below.setCell ?_ (by first | omega | (simp <;> omega)) _ | refine Below.alloc ?_ (by first | omega | (simp <;> omega)) _ | refine Below.drew ?_ | refine below_drewN ?_ _ | exact B5)), fun h => by have := hf6 h; omega⟩

end Go.Proofs.YtjhngehajahbnaaDoor

namespace Go.Proofs.YtjhngehajahbnaaDoor
open Go.RowKit Sp

/-- A call's result: a dyad that is not bad, its parts by name. -/
def RetDyX (w : World) (b : Bool) (z f : Int) (e : Ending) (w' : World) : Prop :=
  ∃ a c, e = .returned (.agg #[.bool b, .bool (decide (z < 0)), .slice a (nl z.natAbs) c, .int .i64 f]) ∧ Mag w' a (nl z.natAbs) c z.natAbs ∧ Below w.heap.size w w' ∧ (0 < nl z.natAbs → w.heap.size ≤ ab a)
theorem retX {P : Program} {F : FuncId} {args : Array Value} {w : World} {d : Option (Int × Int)} (h : Calls P F args w (RetDy w d)) (b : Bool) (z f : Int) (hb : dbad d = b) (hz : dman d = z) (hf : dexp d = f) : Calls P F args w (RetDyX w b z f) := by
  subst hb hz hf; exact h
/-- a variable that holds a dyad -/
structure DyC (W : World) (b : Nat) (v s : Bool) (sl : Value) (f : Int) : Prop where
  c0 : W.cell? ⟨b, 0, none⟩ = some (.bool v)
  c1 : W.cell? ⟨b, 1, none⟩ = some (.bool s)
  c2 : W.cell? ⟨b, 2, none⟩ = some sl
  c3 : W.cell? ⟨b, 3, none⟩ = some (.int .i64 f)
  lt : b < W.heap.size
theorem DyC.below {W W' : World} {b : Nat} {v s : Bool} {sl : Value} {f : Int} (h : DyC W b v s sl f) (hb : Below W.heap.size W W') : DyC W' b v s sl f := by
  obtain ⟨h1, h2⟩ := bcell hb
  exact ⟨(h1 _ _ h.lt).trans h.c0, (h1 _ _ h.lt).trans h.c1, (h1 _ _ h.lt).trans h.c2, (h1 _ _ h.lt).trans h.c3, Nat.lt_of_lt_of_le h.lt hb.size⟩
theorem make_lit (w : World) (s : Bool) (a : Option Addr) (n cap x : Nat) (e : Int) (b : Bool) (z f : Int) (hm : Mag w a n cap x) (hn : n ≤ 1000) (hx : blen x ≤ 1000) (hT : Tab w) (h0 : -9223372036854775808 ≤ e) (h1 : e ≤ 9223372036854775807) (hb : dbad (nrm (sgn s x) e) = b) (hz : dman (nrm (sgn s x) e) = z) (hf : dexp (nrm (sgn s x) e) = f) :
    Calls Tryd.prog 10 #[.agg #[.bool s, .slice a n cap], .int .i64 e] w (RetDyX w b z f) :=
  retX (make_any w s a n cap x e hm (by omega) hT (by omega) (tz_lim (by omega)) h0 h1) b z f hb hz hf
theorem dyinX {w : World} {z f : Int} {a : Option Addr} {c : Nat} (hd : IsN (some (z, f))) (hm : Mag w a (nl z.natAbs) c z.natAbs) : DyIn w false (decide (z < 0)) a (nl z.natAbs) c f (some (z, f)) := dyin_of hd hm
theorem dvalid_in (w : World) {bd s : Bool} {a : Option Addr} {n cap : Nat} {e : Int} {d : Option (Int × Int)} (h : DyIn w bd s a n cap e d) (hT : Tab w) :
    Calls Tryd.prog 16 #[.agg #[.bool bd, .bool s, .slice a n cap, .int .i64 e]] w fun o w' => o = .returned (.bool (!dbad d)) ∧ Below w.heap.size w w' := by
  obtain ⟨x, h1, h2, h3, h4, h5, h6⟩ := h
  have := dvalid_any w bd s a n cap x e h1 h2 hT h3 (tz_lim h3) h4 h5
  rwa [h6] at this
theorem nlk {z : Int} {k : Nat} (h : z = k) (hk : nl k = 1) : nl z.natAbs = 1 := by subst h; exact hk

set_option maxRecDepth 100000 in
set_option maxHeartbeats 2000000 in
theorem awake_core (w : World) (hT : Tab w) (z1 f1 o t q g v : Int) (hz1 : z1 = 3) (hf1 : f1 = 5) (ho : o = 1) (ht : t = 3) (hq : q = 3) (hg : g = -3) (hv : v = -1) :
    Calls Tryd.prog 14 #[] w fun e w' => e = .returned (.bool true) ∧ Below w.heap.size w w' := by
  have N1 : IsN (some (z1, f1)) := isN_some (Or.inr ⟨by omega, by omega, by subst hz1 hf1; decide⟩)
  have N2 : IsN (some (o, 0)) := isN_some (Or.inr ⟨by omega, by omega, by subst ho; decide⟩)
  have N3 : IsN (some (t, 0)) := isN_some (Or.inr ⟨by omega, by omega, by subst ht; decide⟩)
  have N4 : IsN (some (q, g)) := isN_some (Or.inr ⟨by omega, by omega, by subst hq hg; decide⟩)
  have HM := fun W b h ht => Lib.hid (make_lit W false b 1 1 12 3 false z1 f1 h (by omega) (by decide) ht (by omega) (by omega) (by decide) (by rw [hz1]; decide) (by rw [hf1]; decide))
  have HO := fun W ht => Lib.hid (retX (dfromInt_any W 1 ht (by omega) (by omega)) false o 0 (by decide) (by rw [ho]; decide) (by decide))
  have HH := fun W ht' => Lib.hid (retX (dfromInt_any W 3 ht' (by omega) (by omega)) false t 0 (by decide) (by rw [ht]; decide) (by decide))
  have HQ := fun W b c b' c' h h' htt => Lib.hid (retX (quo_any W false (decide (o < 0)) false (decide (t < 0)) b b' _ _ c c' 0 0 2 0 (some (o, 0)) (some (t, 0)) (dyinX N2 h) (dyinX N3 h') htt) false q g (by rw [ho, ht]; decide) (by rw [ho, ht, hq]; decide) (by rw [ho, ht, hg]; decide))
  have HC := fun W b c b' c' h h' htt => Lib.hid (dcmp_any W false (decide (q < 0)) false (decide (o < 0)) b b' _ _ c c' g 0 (some (q, g)) (some (o, 0)) (dyinX N4 h) (dyinX N2 h') htt)
  rw [show dcmp (some (q, g)) (some (o, 0)) = v by rw [hq, hg, ho, hv]; decide, show (!dbad (some (q, g)) && !dbad (some (o, 0))) = true from rfl] at HC
  have HK1 := fun W b c h b' h' => Lib.hid (kdyad_any W false false (decide (z1 < 0)) false b b' _ 1 c 1 z1.natAbs 3 f1 5 h h' rfl (by decide) true (by rw [hz1, hf1]; decide))
  have HK2 := fun W b c h b' h' => Lib.hid (kdyad_any W false false (decide (q < 0)) false b b' _ 1 c 1 q.natAbs 3 g (-3) h h' rfl (by decide) true (by rw [hq, hg]; decide))
  have HV := fun W b c h htt => Lib.hid (dvalid_in W (dyinX (w := W) (a := b) (c := c) N1 h) htt)
  rw [show (!dbad (some (z1, f1))) = true from rfl] at HV
  have hvv : (v == -1) = true := by rw [hv]; rfl
  have hvd : decide (v = -1) = true := by rw [hv]; rfl
  clear hz1 hf1 ho ht hq hg hv N1 N2 N3 N4
  go_enter Tryd.func14, Tryd.ntmps14
  go_wp2_with fail
  refine (HM _ _ (Mag.one w 22 12 (by omega)) (hT.below (by repeat (with_reducible first | refine Below.setCell ?_ (by simp <;> omega) _ | refine Below.alloc ?_ (by simp <;> omega) _ | refine Below.drew ?_ | refine below_drewN ?_ _ | exact Below.refl _ _)))).out.mono ?_
  rintro e w1 ⟨a1, c1, rfl, hm1, hb1, hfx1⟩
  have hbw1 := below_box (w := w) (by repeat (with_reducible first | refine Below.setCell ?_ (by simp <;> omega) _ | refine Below.alloc ?_ (by simp <;> omega) _ | refine Below.drew ?_ | refine below_drewN ?_ _ | exact Below.refl _ _)) hb1
  clear hfx1 hb1
  go_wp2_with fail
  refine (HO _ (hT.below (by have hszw := (hbw1).size; repeat (with_reducible first | refine Below.setCell ?_ (by first | omega | (simp <;> omega)) _ | refine Below.alloc ?_ (by first | omega | (simp <;> omega)) _ | refine Below.drew ?_ | refine below_drewN ?_ _ | exact hbw1)))).out.mono ?_
  rintro e w2 ⟨a2, c2, rfl, hm2, hb2, hfx2⟩
  have T12 : DyC w2 w1.heap.size false (decide (z1 < 0)) (.slice a1 (nl z1.natAbs) c1) f1 := DyC.below (W := _) ⟨by go_simp, by go_simp, by go_simp, by go_simp, by simp⟩ hb2
  have hm12 : Mag w2 a1 (nl z1.natAbs) c1 z1.natAbs := Mag.below (by first | (repeat (with_reducible first | refine Mag.set ?_ (fun h => by have := hm1.old h; omega) _ _ | refine Mag.alloc ?_ _ | refine Mag.drew ?_ | exact hm1)) | fail) hb2
  have hbw2 := below_box (w := w) (by have hszw := (hbw1).size; repeat (with_reducible first | refine Below.setCell ?_ (by first | omega | (simp <;> omega)) _ | refine Below.alloc ?_ (by first | omega | (simp <;> omega)) _ | refine Below.drew ?_ | refine below_drewN ?_ _ | exact hbw1)) hb2
  clear hfx2 hb2
  go_wp2_with fail
  refine (HH _ (hT.below hbw2)).out.mono ?_
  rintro e w3 ⟨a3, c3, rfl, hm3, hb3, hfx3⟩
  have T13 := T12.below hb3
  have hm13 := hm12.below hb3
  have hm23 := hm2.below hb3
  have hbw3 := below_box (w := w) hbw2 hb3
  clear hfx3 hb3 T12 hm12
  go_wp2_with fail
  refine (HQ _ a2 c2 a3 c3 hm23 hm3 (hT.below hbw3)).out.mono ?_
  rintro e w4 ⟨a4, c4, rfl, hm4, hb4, hfx4⟩
  have T14 := T13.below hb4
  have hm14 := hm13.below hb4
  have hbw4 := below_box (w := w) hbw3 hb4
  clear hfx4 hb4 T13 hm13
  go_wp2_with fail
  have T14' : DyC (w4.alloc (.cells #[.bool false, .bool (decide (q < 0)), .slice a4 (nl q.natAbs) c4, .int .i64 g] 27)) w1.heap.size false (decide (z1 < 0)) (.slice a1 (nl z1.natAbs) c1) f1 := T14.below ((Below.refl _ _).alloc (Nat.le_refl _) _)
  have T24' : DyC (w4.alloc (.cells #[.bool false, .bool (decide (q < 0)), .slice a4 (nl q.natAbs) c4, .int .i64 g] 27)) w4.heap.size false (decide (q < 0)) (.slice a4 (nl q.natAbs) c4) g := ⟨by go_simp, by go_simp, by go_simp, by go_simp, by simp⟩
  have hm14' := hm14.alloc (.cells #[.bool false, .bool (decide (q < 0)), .slice a4 (nl q.natAbs) c4, .int .i64 g] 27)
  have hm44' := hm4.alloc (.cells #[.bool false, .bool (decide (q < 0)), .slice a4 (nl q.natAbs) c4, .int .i64 g] 27)
  have hbw4' : Below w.heap.size w (w4.alloc (.cells #[.bool false, .bool (decide (q < 0)), .slice a4 (nl q.natAbs) c4, .int .i64 g] 27)) := hbw4.alloc hbw4.size _
  generalize w1.heap.size = b1 at T14' ⊢
  generalize w4.heap.size = b2 at T24' ⊢
  generalize (w4.alloc (.cells #[.bool false, .bool (decide (q < 0)), .slice a4 (nl q.natAbs) c4, .int .i64 g] 27)) = W4 at T14' T24' hm14' hm44' hbw4' ⊢
  clear hm4 hm14 T14 hbw4 hbw3 hbw2 hbw1 hm23 hm3 hm2 hm1
  obtain ⟨x0, x1, x2, x3, x4⟩ := T24'
  go_region_held3 (fun w' => w'.cell? ⟨b2, 0, none⟩ = some (.bool false) ∧ w'.cell? ⟨b2, 1, none⟩ = some (.bool (decide (q < 0))) ∧ w'.cell? ⟨b2, 2, none⟩ = some (.slice a4 (nl q.natAbs) c4) ∧ w'.cell? ⟨b2, 3, none⟩ = some (.int .i64 g)) (first | (go_keep; done) | (go_simp; done))
    (first
      | (go_at_call 36; refine (HO _ (hT.below (by have hszw := (hbw4').size; repeat (with_reducible first | refine Below.setCell ?_ (by first | omega | (simp <;> omega)) _ | refine Below.alloc ?_ (by first | omega | (simp <;> omega)) _ | refine Below.drew ?_ | refine below_drewN ?_ _ | exact hbw4')))).out.mono ?_; rintro e w5 ⟨a5, c5, rfl, hm5, hb5, hfx5⟩; have T15 := (T14'.below (W' := W4.drew) (Below.drew (Below.refl _ _))).below hb5; have T25 := (DyC.below (W' := W4.drew) (DyC.mk x0 x1 x2 x3 x4) (Below.drew (Below.refl _ _))).below hb5; have hm15 : Mag w5 a1 (nl z1.natAbs) c1 z1.natAbs := Mag.below hm14'.drew hb5; have hm45 : Mag w5 a4 (nl q.natAbs) c4 q.natAbs := Mag.below hm44'.drew hb5; have hbw5 := below_box (w := w) (by have hszw := (hbw4').size; repeat (with_reducible first | refine Below.setCell ?_ (by first | omega | (simp <;> omega)) _ | refine Below.alloc ?_ (by first | omega | (simp <;> omega)) _ | refine Below.drew ?_ | refine below_drewN ?_ _ | exact hbw4')) hb5; obtain ⟨y0, y1, y2, y3, y4⟩ := T25)
      | (go_at_call 24; refine (HC _ a4 c4 a5 c5 (Mag.below hm45 (by repeat (with_reducible first | refine Below.setCell ?_ (by simp <;> omega) _ | refine Below.alloc ?_ (by simp <;> omega) _ | refine Below.drew ?_ | refine below_drewN ?_ _ | exact Below.refl _ _))) (Mag.below hm5 (by repeat (with_reducible first | refine Below.setCell ?_ (by simp <;> omega) _ | refine Below.alloc ?_ (by simp <;> omega) _ | refine Below.drew ?_ | refine below_drewN ?_ _ | exact Below.refl _ _))) (hT.below (by have hszw := (hbw5).size; repeat (with_reducible first | refine Below.setCell ?_ (by first | omega | (simp <;> omega)) _ | refine Below.alloc ?_ (by first | omega | (simp <;> omega)) _ | refine Below.drew ?_ | refine below_drewN ?_ _ | exact hbw5)))).out.mono ?_; rintro e w6 ⟨rfl, hb6⟩; have T16 := (T15.below (by repeat (with_reducible first | refine Below.setCell ?_ (by simp <;> omega) _ | refine Below.alloc ?_ (by simp <;> omega) _ | refine Below.drew ?_ | refine below_drewN ?_ _ | exact Below.refl _ _))).below hb6; have T26 := (DyC.below (DyC.mk y0 y1 y2 y3 y4) (by repeat (with_reducible first | refine Below.setCell ?_ (by simp <;> omega) _ | refine Below.alloc ?_ (by simp <;> omega) _ | refine Below.drew ?_ | refine below_drewN ?_ _ | exact Below.refl _ _))).below hb6; have hm16 : Mag w6 a1 (nl z1.natAbs) c1 z1.natAbs := Mag.below (Mag.below hm15 (by repeat (with_reducible first | refine Below.setCell ?_ (by simp <;> omega) _ | refine Below.alloc ?_ (by simp <;> omega) _ | refine Below.drew ?_ | refine below_drewN ?_ _ | exact Below.refl _ _))) hb6; have hm46 : Mag w6 a4 (nl q.natAbs) c4 q.natAbs := Mag.below (Mag.below hm45 (by repeat (with_reducible first | refine Below.setCell ?_ (by simp <;> omega) _ | refine Below.alloc ?_ (by simp <;> omega) _ | refine Below.drew ?_ | refine below_drewN ?_ _ | exact Below.refl _ _))) hb6; have hbw6 := below_box (w := w) (by have hszw := (hbw5).size; repeat (with_reducible first | refine Below.setCell ?_ (by first | omega | (simp <;> omega)) _ | refine Below.alloc ?_ (by first | omega | (simp <;> omega)) _ | refine Below.drew ?_ | refine below_drewN ?_ _ | exact hbw5)) hb6; obtain ⟨v0, v1, v2, v3, v4⟩ := T26))
  obtain ⟨u0, u1, u2, u3, u4⟩ := T16
  clear hb5 hb6 hfx5 hm5 hm15 hm45 hbw5 hbw4' hm14' hm44' T14' T15 x0 x1 x2 x3 x4 y0 y1 y2 y3 y4
  go_wp2_with fail
  refine (HK1 _ a1 c1 (hm16.alloc _) _ (Mag.one w6 22 3 (by omega))).out.mono ?_
  rintro e w7 ⟨rfl, hb7⟩
  have T17 := ((DyC.mk u0 u1 u2 u3 u4).below ((Below.refl w6.heap.size w6).alloc (Nat.le_refl _) (.cells #[.int .u32 3] 22))).below hb7
  have T27 := ((DyC.mk v0 v1 v2 v3 v4).below ((Below.refl w6.heap.size w6).alloc (Nat.le_refl _) (.cells #[.int .u32 3] 22))).below hb7
  have hm17 : Mag w7 a1 (nl z1.natAbs) c1 z1.natAbs := Mag.below (hm16.alloc _) hb7
  have hm47 : Mag w7 a4 (nl q.natAbs) c4 q.natAbs := Mag.below (hm46.alloc _) hb7
  have hbw7 := below_box (w := w) (hbw6.alloc hbw6.size (.cells #[.int .u32 3] 22)) hb7
  clear u0 u1 u2 u3 u4 v0 v1 v2 v3 v4 hb7 hm16 hm46 hbw6
  obtain ⟨u0, u1, u2, u3, u4⟩ := T17
  obtain ⟨v0, v1, v2, v3, v4⟩ := T27
  go_wp2_with fail
  refine (HK2 _ a4 c4 (hm47.alloc _) _ (Mag.one w7 22 3 (by omega))).out.mono ?_
  rintro e w8 ⟨rfl, hb8⟩
  have T18 := ((DyC.mk u0 u1 u2 u3 u4).below ((Below.refl w7.heap.size w7).alloc (Nat.le_refl _) (.cells #[.int .u32 3] 22))).below hb8
  have hm18 : Mag w8 a1 (nl z1.natAbs) c1 z1.natAbs := Mag.below (hm17.alloc _) hb8
  have hbw8 := below_box (w := w) (hbw7.alloc hbw7.size (.cells #[.int .u32 3] 22)) hb8
  clear u0 u1 u2 u3 u4 v0 v1 v2 v3 v4 hb8 hm17 hm47 hbw7
  obtain ⟨u0, u1, u2, u3, u4⟩ := T18
  go_wp2_with fail
  refine (HV _ a1 c1 hm18 (hT.below hbw8)).out.mono ?_
  rintro e w9 ⟨rfl, hb9⟩
  have hbw9 := below_box (w := w) hbw8 hb9
  go_wp2_with fail
  go_ret
  exact ⟨rfl, hbw9⟩

theorem awake_any (w : World) (hT : Tab w) : Calls Tryd.prog 14 #[] w fun e w' => e = .returned (.bool true) ∧ Below w.heap.size w w' :=
  awake_core w hT _ _ _ _ _ _ _ rfl rfl rfl rfl rfl rfl rfl

end Go.Proofs.YtjhngehajahbnaaDoor

namespace Go.Proofs.YtjhngehajahbnaaDoor
open Go.RowKit Sp

/-- an element as it lies in memory -/
def ecell (L : Nat → El) (i : Nat) : Value × Value × Value × Value := (.bool (L i).bd, .bool (L i).s, .slice (L i).a (L i).n (L i).p, .int .i64 (L i).e)
theorem dys_of_owns {w : World} {base : Nat} {v : Value} {k : Nat} {L : Nat → El} (h : w.ownsRow base 27 4 v k (dcells (ecell L) k)) (hm : ∀ i, i < k → Mag w (L i).a (L i).n (L i).p (L i).x) (hb : ∀ i, i < k → -9223372036854775808 ≤ (L i).e ∧ (L i).e ≤ 9223372036854775807) :
    ∃ a cap, v = .slice a k cap ∧ Dys w a k cap L := by
  rcases h.2 with ⟨hv, hk⟩ | ⟨g, cap, cur, hv, hbg, hgg, hkc, hcm, hcs, htake⟩
  · subst hk
    exact ⟨none, 0, hv, ⟨by omega, by omega, by omega, fun i hi => by omega, fun i hi => by omega, fun i hi => by omega, fun i hi => by omega, fun i hi => by omega, fun i hi => by omega, by omega⟩⟩
  · have ho := h
    rw [hv] at ho
    have hc : ∀ j, j < k * 4 → w.cell? ⟨g, j, none⟩ = (dcells (ecell L) k)[j]? := fun j hj => ho.cellAt j hj
    refine ⟨some ⟨g, 0, none⟩, cap, hv, hkc, by unfold maxLen at hcm; omega, fun _ => rfl, fun i hi => ?_, fun i hi => ?_, fun i hi => ?_, fun i hi => ?_, hm, hb, fun _ => (Array.getElem?_eq_some_iff.1 hgg).1⟩
    · rw [ab_some, ao_some, Nat.zero_add, hc _ (by omega)]; exact (dcells_get _ hi).1
    · rw [ab_some, ao_some, Nat.zero_add, hc _ (by omega)]; exact (dcells_get _ hi).2.1
    · rw [ab_some, ao_some, Nat.zero_add, hc _ (by omega)]; exact (dcells_get _ hi).2.2.1
    · rw [ab_some, ao_some, Nat.zero_add, hc _ (by omega)]; exact (dcells_get _ hi).2.2.2
/-- the first k elements, and the others -/
theorem Dys.takes {w : World} {a : Option Addr} {n cap : Nat} {L : Nat → El} (h : Dys w a n cap L) (k : Nat) (hk : k ≤ n) : Dys w (if cap = 0 then a else a.map (·.add (0 * 4))) k (cap - 0) L := by
  have hl := h.lim
  have hf := h.fits
  by_cases h0 : k = 0
  · subst h0
    exact ⟨by omega, by omega, by omega, fun i hi => by omega, fun i hi => by omega, fun i hi => by omega, fun i hi => by omega, fun i hi => by omega, fun i hi => by omega, by omega⟩
  · have ha := h.addr (by omega)
    have e : (if cap = 0 then a else a.map (·.add (0 * 4))) = a := by
      rw [if_neg (by omega), ha]; simp [Addr.add]
    rw [e]
    exact ⟨by omega, by omega, fun _ => ha, fun i hi => h.c0 i (by omega), fun i hi => h.c1 i (by omega), fun i hi => h.c2 i (by omega), fun i hi => h.c3 i (by omega), fun i hi => h.m i (by omega), fun i hi => h.b i (by omega), fun _ => h.old (by omega)⟩
theorem Dys.drops {w : World} {a : Option Addr} {n cap : Nat} {L : Nat → El} (h : Dys w a n cap L) (k : Nat) (hk : k ≤ n) : Dys w (if cap = k then a else a.map (·.add (k * 4))) (n - k) (cap - k) (fun i => L (k + i)) := by
  have hl := h.lim
  have hf := h.fits
  by_cases h0 : k = n
  · subst h0
    exact ⟨by omega, by omega, by omega, fun i hi => by omega, fun i hi => by omega, fun i hi => by omega, fun i hi => by omega, fun i hi => by omega, fun i hi => by omega, by omega⟩
  · have ha := h.addr (by omega)
    have e : (if cap = k then a else a.map (·.add (k * 4))) = some ⟨ab a, ao a + k * 4, none⟩ := by
      rw [if_neg (by omega)]; conv => lhs; rw [ha]
      simp [Addr.add]
    rw [e]
    refine ⟨by omega, by omega, fun _ => rfl, fun i hi => ?_, fun i hi => ?_, fun i hi => ?_, fun i hi => ?_, fun i hi => h.m _ (by omega), fun i hi => h.b _ (by omega), fun _ => h.old (by omega)⟩
    · have := h.c0 (k + i) (by omega); rw [Nat.add_mul, ← Nat.add_assoc] at this; exact this
    · have := h.c1 (k + i) (by omega); rw [Nat.add_mul, ← Nat.add_assoc] at this; exact this
    · have := h.c2 (k + i) (by omega); rw [Nat.add_mul, ← Nat.add_assoc] at this; exact this
    · have := h.c3 (k + i) (by omega); rw [Nat.add_mul, ← Nat.add_assoc] at this; exact this

set_option maxRecDepth 100000 in
set_option maxHeartbeats 2000000 in
theorem sums_long (w : World) (hT : Tab w) (a : Option Addr) (n cap : Nat) (at1 : Int) (_hc : cap ≤ 9223372036854775807) (_hn : n ≤ cap) (h12 : 12 < n) :
    Calls Tryd.prog 4 #[.slice a n cap, .int .i64 at1] w fun o w' => o = .returned (.bool true) ∧ Below w.heap.size w w' := by
  have HW := fun W ht => Lib.hid (awake_any W ht)
  have h1 : decide ((12 : Int) < (n : Int)) = true := by simp; omega
  go_enter Tryd.func4, Tryd.ntmps4
  go_wp2_with fail
  refine (HW _ hT).out.mono ?_
  rintro e w1 ⟨rfl, hb⟩
  go_wp2_with fail
  go_ret
  exact ⟨rfl, hb⟩

set_option maxRecDepth 100000 in
set_option maxHeartbeats 20000000 in
theorem sums_main (w : World) (hT : Tab w) (a : Option Addr) (n cap : Nat) (at1 : Int) (L : Nat → El) (hL : Dys w a n cap L) (h12 : n ≤ 12) (K : Nat) (hK : placeI at1 (n + 1) = K) (hKn : K ≤ n) (ds dk dm dt : Option (Int × Int))
    (f1 : dsum (fun i => (L i).d) n = ds) (f2 : dsum (fun i => (L (n - 1 - i)).d) n = dt) (f3 : dsum (fun i => (L i).d) K = dk) (f4 : dsum (fun i => (L (K + i)).d) (n - K) = dm)
    (g : (∀ i, i < n → slimB (L i).n (L i).e = true) → dt = ds ∧ dadd dk dm = ds) :
    Calls Tryd.prog 4 #[.slice a n cap, .int .i64 at1] w fun o w' => o = .returned (.bool true) ∧ Below w.heap.size w w' := by
  have l1 := hL.lim
  have l2 := hL.fits
  have HW := fun W ht => Lib.hid (awake_any W ht)
  have HSL := fun (k : Nat) (hk : k < n) W v (hv : slimB (L k).n (L k).e = v) => Lib.hid (slim_any W (L k).bd (L k).s (L k).a (L k).n (L k).p (L k).e (Nat.le_trans (hL.m k hk).fits (hL.m k hk).lim) v hv)
  have HP := fun W => Lib.hid (place_any W at1 ((n : Int) + 1) (by omega) (by omega))
  rw [hK] at HP
  have h1 : decide ((12 : Int) < (n : Int)) = false := by simp; omega
  have HLL := Lib.hid hL
  have HG := Lib.hid g
  clear g hL
  go_enter Tryd.func4, Tryd.ntmps4
  go_wp2_with fail
  go_loopw [5] (fun i wr => ∃ k : Nat, k ≤ n ∧ i = .int .i64 k ∧ (∀ j, j < k → slimB (L j).n (L j).e = true) ∧ Below w.heap.size w wr) (fun i _ => n - (intOf i).toNat)
  case atStart => exact ⟨0, by omega, rfl, fun j hj => by omega, Below.refl _ _⟩
  case round =>
    obtain ⟨k, hk, rfl, hsl, hb⟩ := hrel
    have HS := Lib.hid hsl
    clear hsl
    by_cases hlt : k < n
    · have hL' := HLL.out.below hb
      have k0 := hL'.c0 k hlt
      have k1 := hL'.c1 k hlt
      have k2 := hL'.c2 k hlt
      have k3 := hL'.c3 k hlt
      have i1 := hL'.idx k hlt
      cases hv : slimB (L k).n (L k).e with
      | false =>
        go_wp2_with fail
        refine (HSL k hlt _ _ hv).out.mono ?_
        rintro e w1 ⟨rfl, hb1⟩
        have B1 := below_box (w := w) hb hb1
        go_wp2_with fail
        refine (HW _ (hT.below B1)).out.mono ?_
        rintro e w2 ⟨rfl, hb2⟩
        have B2 := below_box (w := w) B1 hb2
        go_wp2_with fail
        go_ret
        exact ⟨rfl, B2⟩
      | true =>
        go_wp2_with fail
        refine (HSL k hlt _ _ hv).out.mono ?_
        rintro e w1 ⟨rfl, hb1⟩
        have B1 := below_box (w := w) hb hb1
        clear k0 k1 k2 k3 i1
        go_wp2_with fail
        go_roundw
        case rel => exact ⟨k + 1, by omega, by go_num, fun j hj => (Nat.lt_or_ge j k).elim (fun h => HS.out j h) (fun h => by have e : j = k := by omega
                                                                                                                              rw [e]; exact hv), B1⟩
        case measure => simp [intOf]; omega
    · obtain rfl : k = n := by omega
      obtain ⟨hg1, hg2⟩ := HG.out HS.out
      have hxs : ∀ i, i < k → (L i).n ≤ 20 ∧ blen (L i).x ≤ 640 := fun i hi => by
        have h3 := HS.out i hi
        simp only [slimB, Bool.and_eq_true, decide_eq_true_eq] at h3
        have h4 := slim_pow (L i).x (L i).n (HLL.out.m i hi).lt
        omega
      clear hlt
      obtain ⟨wo, hwo⟩ : ∃ wo, wo = wr := ⟨_, rfl⟩
      subst hwo
      have hown0 := World.ownsRow_nil wo wo.heap.size 27 4
      go_wp2_with fail
      go_loopw [6, 7] (fun v i wr => ∃ m : Nat, m ≤ k ∧ i = .int .i64 ((m : Int) - 1) ∧ wr.ownsRow wo.heap.size 27 4 v (k - m) (dcells (ecell (fun i => L (k - 1 - i))) (k - m)) ∧ Below wo.heap.size wo wr) (fun _ i _ => (intOf i + 1).toNat)
      case atStart => exact ⟨k, Nat.le_refl _, rfl, by rw [Nat.sub_self]; exact hown0, Below.refl _ _⟩
      case round =>
        clear hown0
        obtain ⟨m, hm, rfl, hown, hr⟩ := hrel
        have hz := hr.size
        by_cases h0 : 0 < m
        · obtain ⟨j, rfl⟩ : ∃ j, m = j + 1 := ⟨m - 1, by omega⟩
          have hL' := (HLL.out.below hb).below hr
          have k0 := hL'.c0 j (by omega)
          have k1 := hL'.c1 j (by omega)
          have k2 := hL'.c2 j (by omega)
          have k3 := hL'.c3 j (by omega)
          have i1 := hL'.idx j (by omega)
          generalize hQ : L j = Q at k0 k1 k2 k3
          have HQ := Lib.hid hQ
          clear hQ hL'
          go_wp2_with (at_builtin; refine app_dyad rfl _ _ rfl wo.heap.size _ (k - (j + 1)) _ rfl _ Q.bd Q.s (.slice Q.a Q.n Q.p) Q.e rfl rfl (hown.alloc (.cells #[.bool Q.bd, .bool Q.s, .slice Q.a Q.n Q.p, .int .i64 Q.e] 27)) (by go_simp) (by go_simp) (by go_simp) (by go_simp) (by omega) (by rw [World.size_alloc]; omega) ?_; intro v3 w3 hown3 hg3 _)
          have hr3 : Below wo.heap.size wo w3 := (hr.alloc hz (.cells #[.bool Q.bd, .bool Q.s, .slice Q.a Q.n Q.p, .int .i64 Q.e] 27)).trans (below_grown (hown.alloc _) hg3 (by rw [World.size_alloc]; omega))
          have hdc : dcells (ecell (fun i => L (k - 1 - i))) (k - (j + 1)) ++ [.bool Q.bd, .bool Q.s, .slice Q.a Q.n Q.p, .int .i64 Q.e] = dcells (ecell (fun i => L (k - 1 - i))) (k - j) := by
            rw [show k - j = (k - (j + 1)) + 1 by omega]
            simp only [dcells]
            unfold ecell
            simp only
            rw [show k - 1 - (k - (j + 1)) = j by omega, HQ.out]
          rw [hdc, show k - (j + 1) + 1 = k - j by omega] at hown3
          go_roundw
          case rel => exact ⟨j, by omega, rfl, hown3, hr3⟩
          case measure => simp [intOf]
        · obtain rfl : m = 0 := by omega
          rw [Nat.sub_zero] at hown
          have hLw := (HLL.out.below hb).below hr
          obtain ⟨oa, oc, hv, hD⟩ := dys_of_owns hown (fun i hi => hLw.m _ (by omega)) (fun i hi => hLw.b _ (by omega))
          subst hv
          have hD' : Dys wr oa k oc (fun i => L (k - 1 - i)) := hD
          have HDB := Lib.hid hD'
          have HDW := Lib.hid hLw
          have B0 : Below w.heap.size w wr := hb.trans (hr.mono hb.size)
          have hlo := hD'.lim
          have hfo := hD'.fits
          clear hown hr hD hD' hLw hb hz
          have NN : ∀ f m, IsN (dsum f m) := fun f m => by unfold dsum; split <;> first | exact isN_none | exact isN_nrm _ _
          have Nds := Lib.hid (show IsN ds from f1 ▸ NN _ _)
          have Ndt := Lib.hid (show IsN dt from f2 ▸ NN _ _)
          have Ndk := Lib.hid (show IsN dk from f3 ▸ NN _ _)
          have Ndm := Lib.hid (show IsN dm from f4 ▸ NN _ _)
          have HA1 := fun W (h : Dys W a k cap L) ht => Lib.hid (dsum_any W ht a k cap L h (by omega) (fun i hi => by have := hxs i hi; omega))
          rw [f1] at HA1
          have HA2 := fun W (h : Dys W oa k oc (fun i => L (k - 1 - i))) ht => Lib.hid (dsum_any W ht oa k oc _ h (by omega) (fun i hi => by have := hxs (k - 1 - i) (by omega); show (L (k - 1 - i)).n ≤ _ ∧ blen (L (k - 1 - i)).x ≤ _; omega))
          rw [f2] at HA2
          obtain ⟨a3, ha3⟩ : ∃ a3, a3 = (if cap = 0 then a else a.map (·.add (0 * 4))) := ⟨_, rfl⟩
          obtain ⟨a4, ha4⟩ : ∃ a4, a4 = (if cap = K then a else a.map (·.add (K * 4))) := ⟨_, rfl⟩
          have HD3 := Lib.hid (show Dys wr a3 K (cap - 0) L from ha3 ▸ HDW.out.takes K hKn)
          have HD4 := Lib.hid (show Dys wr a4 (k - K) (cap - K) (fun i => L (K + i)) from ha4 ▸ HDW.out.drops K hKn)
          have HA3 := fun W (h : Dys W a3 K (cap - 0) L) ht => Lib.hid (dsum_any W ht a3 K (cap - 0) L h (by omega) (fun i hi => by have := hxs i (by omega); omega))
          rw [f3] at HA3
          have HA4 := fun W (h : Dys W a4 (k - K) (cap - K) (fun i => L (K + i))) ht => Lib.hid (dsum_any W ht a4 (k - K) (cap - K) _ h (by omega) (fun i hi => by have := hxs (K + i) (by omega); show (L (K + i)).n ≤ _ ∧ blen (L (K + i)).x ≤ _; omega))
          rw [f4] at HA4
          have HRS := fun W (h : Dys W a k cap L) ht => Lib.hid (rsum_any W ht a k cap L h (by omega) (fun i hi => by have := hxs i hi; omega))
          rw [f1] at HRS
          have HAD := fun W b q (h : Mag W b (nl (dman dk).natAbs) q (dman dk).natAbs) b' q' (h' : Mag W b' (nl (dman dm).natAbs) q' (dman dm).natAbs) ht => Lib.hid (dadd_any W _ _ _ _ _ _ _ _ _ _ _ _ _ _ (dyin_of Ndk.out h) (dyin_of Ndm.out h') ht)
          rw [hg2] at HAD
          have HKd := fun W b b' q q' h h' => Lib.hid (kdyad_any W (dbad ds) (dbad ds) (decide (dman ds < 0)) (decide (dman ds < 0)) b b' _ _ q q' _ _ (dexp ds) (dexp ds) h h' rfl rfl true (by rw [dyEq_dec]; simp))
          have HS3 : ∀ W, (Instr.slice 37 (.slice a k cap) none (some (.int .i64 K)) none).run Tryd.prog W = .ok (.slice a3 K (cap - 0)) W := fun W => by
            rw [run_slice_h W 37 a k cap (by rw [elemD]; exact undD) .i64 (K : Int) (by omega) (by omega), elemD, sizD]
            simp only [Result.andThen, sliced, Int.toNat_natCast, Nat.sub_zero, ha3]
          have HS4 : ∀ W, (Instr.slice 37 (.slice a k cap) (some (.int .i64 K)) none none).run Tryd.prog W = .ok (.slice a4 (k - K) (cap - K)) W := fun W => by
            rw [run_slice_l W 37 a k cap (by rw [elemD]; exact undD) .i64 (K : Int) (by omega) (by omega), elemD, sizD]
            simp only [Result.andThen, sliced, Int.toNat_natCast, ha4]
          have HT3 : ∀ W, (Instr.sliceAt 37 (.slice a k cap) none (some (.int .i64 K)) none).run Tryd.prog W = .ok (.slice a3 K (cap - 0)) W := fun W => by
            rw [run_sliceAt_slice W 37 _ _ _ _ (by rw [elemD]; exact undD)]; exact HS3 W
          have HT4 : ∀ W, (Instr.sliceAt 37 (.slice a k cap) (some (.int .i64 K)) none none).run Tryd.prog W = .ok (.slice a4 (k - K) (cap - K)) W := fun W => by
            rw [run_sliceAt_slice W 37 _ _ _ _ (by rw [elemD]; exact undD)]; exact HS4 W
          generalize cap - 0 = cp3 at HS3 HT3 HD3 HA3
          subst hg1
          clear ha3 ha4 f1 f2 f3 f4 hxs NN HS HSL hg2 HG
          obtain ⟨w0, hw0⟩ : ∃ w0, w0 = wr := ⟨_, rfl⟩
          subst hw0
          go_wp2_with fail
          refine (HP _).out.mono ?_
          rintro e w' ⟨rfl, rfl⟩
          go_wp2_with fail
          have hQz0 : Below w0.heap.size w0 w0 := Below.refl _ _
          refine (HA1 _ (HDW.out.below (by have hszw := (hQz0).size; repeat (with_reducible first | refine Below.setCell ?_ (by first | omega | (simp <;> omega)) _ | refine Below.alloc ?_ (by first | omega | (simp <;> omega)) _ | refine Below.drew ?_ | refine below_drewN ?_ _ | exact hQz0))) (hT.below (by have hszw := (B0).size; repeat (with_reducible first | refine Below.setCell ?_ (by first | omega | (simp <;> omega)) _ | refine Below.alloc ?_ (by first | omega | (simp <;> omega)) _ | refine Below.drew ?_ | refine below_drewN ?_ _ | exact B0)))).out.mono ?_
          rintro e w1 ⟨ag, cg, rfl, Mg1, hb1, hf1⟩
          have B1 := below_box (w := w) (by have hszw := (B0).size; repeat (with_reducible first | refine Below.setCell ?_ (by first | omega | (simp <;> omega)) _ | refine Below.alloc ?_ (by first | omega | (simp <;> omega)) _ | refine Below.drew ?_ | refine below_drewN ?_ _ | exact B0)) hb1
          have hqs0 := hQz0.size
          have hQz1 : Below w0.heap.size w0 w1 := Below.trans (by have hszw := (hQz0).size; repeat (with_reducible first | refine Below.setCell ?_ (by first | omega | (simp <;> omega)) _ | refine Below.alloc ?_ (by first | omega | (simp <;> omega)) _ | refine Below.drew ?_ | refine below_drewN ?_ _ | exact hQz0)) (hb1.mono (by first | exact Nat.le_refl _ | (simp; done) | omega | (simp <;> omega)))
          clear hb1
          clear hf1
          go_wp2_with fail
          have Vg2 := DyV.made w1 27 (dbad dt) (decide (dman dt < 0)) (.slice ag (nl (dman dt).natAbs) cg) (dexp dt)
          have Mg2 := Mg1.alloc (.cells #[.bool (dbad dt), .bool (decide (dman dt < 0)), (.slice ag (nl (dman dt).natAbs) cg), .int .i64 (dexp dt)] 27)
          have B2 : Below w.heap.size w (w1.alloc (.cells #[.bool (dbad dt), .bool (decide (dman dt < 0)), (.slice ag (nl (dman dt).natAbs) cg), .int .i64 (dexp dt)] 27)) := B1.alloc B1.size _
          have hQz2 : Below w0.heap.size w0 (w1.alloc (.cells #[.bool (dbad dt), .bool (decide (dman dt < 0)), (.slice ag (nl (dman dt).natAbs) cg), .int .i64 (dexp dt)] 27)) := hQz1.alloc hQz1.size _
          generalize (w1.alloc (.cells #[.bool (dbad dt), .bool (decide (dman dt < 0)), (.slice ag (nl (dman dt).natAbs) cg), .int .i64 (dexp dt)] 27)) = w2 at Vg2 Mg2 B2 hQz2 ⊢
          generalize w1.heap.size = zg at Vg2 ⊢
          obtain ⟨gc0, gc1, gc2, gc3, gc4, gc5⟩ := Vg2
          have Vg2 := Lib.hid (DyV.mk gc0 gc1 gc2 gc3 gc4 gc5)
          go_cut [10] (fun ptp wx => ∃ zp ap cp, ptp = .pointer (some ⟨zp, 0, none⟩) ∧ Below w2.heap.size w2 wx ∧ DyV wx zp (dbad dt) (decide (dman dt < 0)) (.slice ap (nl (dman dt).natAbs) cp) (dexp dt) ∧ Mag wx ap (nl (dman dt).natAbs) cp (dman dt).natAbs)
          case first =>
            have hBz2 : Below w2.heap.size w2 w2 := Below.refl _ _
            go_region_held3 (fun w' => w'.cell? ⟨zg, 0, none⟩ = some (.bool (dbad dt)) ∧ w'.cell? ⟨zg, 1, none⟩ = some (.bool (decide (dman dt < 0))) ∧ w'.cell? ⟨zg, 2, none⟩ = some ((.slice ag (nl (dman dt).natAbs) cg)) ∧ w'.cell? ⟨zg, 3, none⟩ = some (.int .i64 (dexp dt))) (first | (go_keep; done) | (go_simp; done))
              (first
                | (go_at_call 11; have xx := B4; refine (HAD _ ax cx (by repeat (with_reducible first | refine Mag.set ?_ (fun h => by have := Mx4 h; omega) _ _ | refine Mag.drew ?_ | refine Mag.alloc ?_ _ | refine Mag.drewN ?_ _ | refine Mag.below ?_ (Below.drew (Below.refl _ _)) | refine Mag.below ?_ ((Below.refl _ _).alloc (Nat.le_refl _) _) | exact Mx4)) ay cy (by repeat (with_reducible first | refine Mag.set ?_ (fun h => by have := My4 h; omega) _ _ | refine Mag.drew ?_ | refine Mag.alloc ?_ _ | refine Mag.drewN ?_ _ | refine Mag.below ?_ (Below.drew (Below.refl _ _)) | refine Mag.below ?_ ((Below.refl _ _).alloc (Nat.le_refl _) _) | exact My4)) (hT.below (by have hszw := (B4).size; repeat (with_reducible first | refine Below.setCell ?_ (by first | omega | (simp <;> omega)) _ | refine Below.alloc ?_ (by first | omega | (simp <;> omega)) _ | refine Below.drew ?_ | refine below_drewN ?_ _ | exact B4)))).out.mono ?_; rintro e w5 ⟨ap, cp, rfl, Mp5, hb5, hf5⟩; have hs5 := hb5.size; (try simp at hs5 hf5); have o5 := Mp5.old; have Vg5 : DyV w5 zg (dbad dt) (decide (dman dt < 0)) (.slice ag (nl (dman dt).natAbs) cg) (dexp dt) := (by refine DyV.below ?_ hb5; (repeat (with_reducible first | refine DyV.drew ?_ | refine DyV.drewN ?_ _ | refine DyV.alloc ?_ _)); exact Vg4.out); obtain ⟨gc0, gc1, gc2, gc3, gc4, gc5⟩ := Vg5; have Vg5 := Lib.hid (DyV.mk gc0 gc1 gc2 gc3 gc4 gc5); have Mx5 : Mag w5 ax (nl (dman dk).natAbs) cx (dman dk).natAbs := Mag.below (by repeat (with_reducible first | refine Mag.set ?_ (fun h => by have := Mx4 h; omega) _ _ | refine Mag.drew ?_ | refine Mag.alloc ?_ _ | refine Mag.drewN ?_ _ | refine Mag.below ?_ (Below.drew (Below.refl _ _)) | refine Mag.below ?_ ((Below.refl _ _).alloc (Nat.le_refl _) _) | exact Mx4)) hb5; have My5 : Mag w5 ay (nl (dman dm).natAbs) cy (dman dm).natAbs := Mag.below (by repeat (with_reducible first | refine Mag.set ?_ (fun h => by have := My4 h; omega) _ _ | refine Mag.drew ?_ | refine Mag.alloc ?_ _ | refine Mag.drewN ?_ _ | refine Mag.below ?_ (Below.drew (Below.refl _ _)) | refine Mag.below ?_ ((Below.refl _ _).alloc (Nat.le_refl _) _) | exact My4)) hb5; have Mg5 : Mag w5 ag (nl (dman dt).natAbs) cg (dman dt).natAbs := Mag.below (by repeat (with_reducible first | refine Mag.set ?_ (fun h => by have := Mg4 h; omega) _ _ | refine Mag.drew ?_ | refine Mag.alloc ?_ _ | refine Mag.drewN ?_ _ | refine Mag.below ?_ (Below.drew (Below.refl _ _)) | refine Mag.below ?_ ((Below.refl _ _).alloc (Nat.le_refl _) _) | exact Mg4)) hb5; have B5 := below_box (w := w) (by have hszw := (B4).size; repeat (with_reducible first | refine Below.setCell ?_ (by first | omega | (simp <;> omega)) _ | refine Below.alloc ?_ (by first | omega | (simp <;> omega)) _ | refine Below.drew ?_ | refine below_drewN ?_ _ | exact B4)) hb5; have hqs4 := hQz4.size; have hQz5 : Below w0.heap.size w0 w5 := Below.trans (by have hszw := (hQz4).size; repeat (with_reducible first | refine Below.setCell ?_ (by first | omega | (simp <;> omega)) _ | refine Below.alloc ?_ (by first | omega | (simp <;> omega)) _ | refine Below.drew ?_ | refine below_drewN ?_ _ | exact hQz4)) (hb5.mono (by first | exact Nat.le_refl _ | (simp; done) | omega | (simp <;> omega))); have hBz5 : Below w2.heap.size w2 w5 := Below.trans (by have hszw := (hBz4).size; repeat (with_reducible first | refine Below.setCell ?_ (by first | omega | (simp <;> omega)) _ | refine Below.alloc ?_ (by first | omega | (simp <;> omega)) _ | refine Below.drew ?_ | refine below_drewN ?_ _ | exact hBz4)) (hb5.mono (by first | exact Nat.le_refl _ | (simp; done) | omega | (simp <;> omega))); (try (have F0x0 : DyV w5 (w2.heap.size) false false (.slice none 0 0) 0 := (by first | (refine DyV.below ?_ hb5; (repeat (first | exact F0x0.out | (refine DyV.made' _ _ _ _ _ _ ?_; first | rfl | (simp; done)) | with_reducible refine DyV.drew ?_ | with_reducible refine DyV.alloc ?_ _)); done) | fail); obtain ⟨F0x0c0, F0x0c1, F0x0c2, F0x0c3, F0x0c4, F0x0c5⟩ := F0x0; have F0x0 := Lib.hid (DyV.mk F0x0c0 F0x0c1 F0x0c2 F0x0c3 F0x0c4 F0x0c5))); (try (have F1x0 : DyV w5 (w3.heap.size) false false (.slice none 0 0) 0 := (by first | (refine DyV.below ?_ hb5; (repeat (first | exact F1x0.out | (refine DyV.made' _ _ _ _ _ _ ?_; first | rfl | (simp; done)) | with_reducible refine DyV.drew ?_ | with_reducible refine DyV.alloc ?_ _)); done) | fail); obtain ⟨F1x0c0, F1x0c1, F1x0c2, F1x0c3, F1x0c4, F1x0c5⟩ := F1x0; have F1x0 := Lib.hid (DyV.mk F1x0c0 F1x0c1 F1x0c2 F1x0c3 F1x0c4 F1x0c5))); (try (have F2x0 : DyV w5 (w4.heap.size) false false (.slice none 0 0) 0 := (by first | (refine DyV.below ?_ hb5; (repeat (first | exact F2x0.out | (refine DyV.made' _ _ _ _ _ _ ?_; first | rfl | (simp; done)) | with_reducible refine DyV.drew ?_ | with_reducible refine DyV.alloc ?_ _)); done) | fail); obtain ⟨F2x0c0, F2x0c1, F2x0c2, F2x0c3, F2x0c4, F2x0c5⟩ := F2x0; have F2x0 := Lib.hid (DyV.mk F2x0c0 F2x0c1 F2x0c2 F2x0c3 F2x0c4 F2x0c5))))
                | (go_at_call 19; have xx := B3; refine (HA4 _ (HD4.out.below (by have hszw := (hQz3).size; repeat (with_reducible first | refine Below.setCell ?_ (by first | omega | (simp <;> omega)) _ | refine Below.alloc ?_ (by first | omega | (simp <;> omega)) _ | refine Below.drew ?_ | refine below_drewN ?_ _ | exact hQz3))) (hT.below (by have hszw := (B3).size; repeat (with_reducible first | refine Below.setCell ?_ (by first | omega | (simp <;> omega)) _ | refine Below.alloc ?_ (by first | omega | (simp <;> omega)) _ | refine Below.drew ?_ | refine below_drewN ?_ _ | exact B3)))).out.mono ?_; rintro e w4 ⟨ay, cy, rfl, My4, hb4, hf4⟩; have hs4 := hb4.size; (try simp at hs4 hf4); have o4 := My4.old; have Vg4 : DyV w4 zg (dbad dt) (decide (dman dt < 0)) (.slice ag (nl (dman dt).natAbs) cg) (dexp dt) := (by refine DyV.below ?_ hb4; (repeat (with_reducible first | refine DyV.drew ?_ | refine DyV.drewN ?_ _ | refine DyV.alloc ?_ _)); exact Vg3.out); obtain ⟨gc0, gc1, gc2, gc3, gc4, gc5⟩ := Vg4; have Vg4 := Lib.hid (DyV.mk gc0 gc1 gc2 gc3 gc4 gc5); have Mx4 : Mag w4 ax (nl (dman dk).natAbs) cx (dman dk).natAbs := Mag.below (by repeat (with_reducible first | refine Mag.set ?_ (fun h => by have := Mx3 h; omega) _ _ | refine Mag.drew ?_ | refine Mag.alloc ?_ _ | refine Mag.drewN ?_ _ | refine Mag.below ?_ (Below.drew (Below.refl _ _)) | refine Mag.below ?_ ((Below.refl _ _).alloc (Nat.le_refl _) _) | exact Mx3)) hb4; have Mg4 : Mag w4 ag (nl (dman dt).natAbs) cg (dman dt).natAbs := Mag.below (by repeat (with_reducible first | refine Mag.set ?_ (fun h => by have := Mg3 h; omega) _ _ | refine Mag.drew ?_ | refine Mag.alloc ?_ _ | refine Mag.drewN ?_ _ | refine Mag.below ?_ (Below.drew (Below.refl _ _)) | refine Mag.below ?_ ((Below.refl _ _).alloc (Nat.le_refl _) _) | exact Mg3)) hb4; have B4 := below_box (w := w) (by have hszw := (B3).size; repeat (with_reducible first | refine Below.setCell ?_ (by first | omega | (simp <;> omega)) _ | refine Below.alloc ?_ (by first | omega | (simp <;> omega)) _ | refine Below.drew ?_ | refine below_drewN ?_ _ | exact B3)) hb4; have hqs3 := hQz3.size; have hQz4 : Below w0.heap.size w0 w4 := Below.trans (by have hszw := (hQz3).size; repeat (with_reducible first | refine Below.setCell ?_ (by first | omega | (simp <;> omega)) _ | refine Below.alloc ?_ (by first | omega | (simp <;> omega)) _ | refine Below.drew ?_ | refine below_drewN ?_ _ | exact hQz3)) (hb4.mono (by first | exact Nat.le_refl _ | (simp; done) | omega | (simp <;> omega))); have hBz4 : Below w2.heap.size w2 w4 := Below.trans (by have hszw := (hBz3).size; repeat (with_reducible first | refine Below.setCell ?_ (by first | omega | (simp <;> omega)) _ | refine Below.alloc ?_ (by first | omega | (simp <;> omega)) _ | refine Below.drew ?_ | refine below_drewN ?_ _ | exact hBz3)) (hb4.mono (by first | exact Nat.le_refl _ | (simp; done) | omega | (simp <;> omega))); (try (have F0x0 : DyV w4 (w2.heap.size) false false (.slice none 0 0) 0 := (by first | (refine DyV.below ?_ hb4; (repeat (first | exact F0x0.out | (refine DyV.made' _ _ _ _ _ _ ?_; first | rfl | (simp; done)) | with_reducible refine DyV.drew ?_ | with_reducible refine DyV.alloc ?_ _)); done) | fail); obtain ⟨F0x0c0, F0x0c1, F0x0c2, F0x0c3, F0x0c4, F0x0c5⟩ := F0x0; have F0x0 := Lib.hid (DyV.mk F0x0c0 F0x0c1 F0x0c2 F0x0c3 F0x0c4 F0x0c5))); (try (have F1x0 : DyV w4 (w3.heap.size) false false (.slice none 0 0) 0 := (by first | (refine DyV.below ?_ hb4; (repeat (first | exact F1x0.out | (refine DyV.made' _ _ _ _ _ _ ?_; first | rfl | (simp; done)) | with_reducible refine DyV.drew ?_ | with_reducible refine DyV.alloc ?_ _)); done) | fail); obtain ⟨F1x0c0, F1x0c1, F1x0c2, F1x0c3, F1x0c4, F1x0c5⟩ := F1x0; have F1x0 := Lib.hid (DyV.mk F1x0c0 F1x0c1 F1x0c2 F1x0c3 F1x0c4 F1x0c5))))
                | (go_at_call 19; refine (HA3 _ (HD3.out.below (by have hszw := (hQz2).size; repeat (with_reducible first | refine Below.setCell ?_ (by first | omega | (simp <;> omega)) _ | refine Below.alloc ?_ (by first | omega | (simp <;> omega)) _ | refine Below.drew ?_ | refine below_drewN ?_ _ | exact hQz2))) (hT.below (by have hszw := (B2).size; repeat (with_reducible first | refine Below.setCell ?_ (by first | omega | (simp <;> omega)) _ | refine Below.alloc ?_ (by first | omega | (simp <;> omega)) _ | refine Below.drew ?_ | refine below_drewN ?_ _ | exact B2)))).out.mono ?_; rintro e w3 ⟨ax, cx, rfl, Mx3, hb3, hf3⟩; have hs3 := hb3.size; (try simp at hs3 hf3); have o3 := Mx3.old; have Vg3 : DyV w3 zg (dbad dt) (decide (dman dt < 0)) (.slice ag (nl (dman dt).natAbs) cg) (dexp dt) := (by refine DyV.below ?_ hb3; (repeat (with_reducible first | refine DyV.drew ?_ | refine DyV.drewN ?_ _ | refine DyV.alloc ?_ _)); exact Vg2.out); obtain ⟨gc0, gc1, gc2, gc3, gc4, gc5⟩ := Vg3; have Vg3 := Lib.hid (DyV.mk gc0 gc1 gc2 gc3 gc4 gc5); have Mg3 : Mag w3 ag (nl (dman dt).natAbs) cg (dman dt).natAbs := Mag.below (by repeat (with_reducible first | refine Mag.set ?_ (fun h => by have := Mg2 h; omega) _ _ | refine Mag.drew ?_ | refine Mag.alloc ?_ _ | refine Mag.drewN ?_ _ | refine Mag.below ?_ (Below.drew (Below.refl _ _)) | refine Mag.below ?_ ((Below.refl _ _).alloc (Nat.le_refl _) _) | exact Mg2)) hb3; have B3 := below_box (w := w) (by have hszw := (B2).size; repeat (with_reducible first | refine Below.setCell ?_ (by first | omega | (simp <;> omega)) _ | refine Below.alloc ?_ (by first | omega | (simp <;> omega)) _ | refine Below.drew ?_ | refine below_drewN ?_ _ | exact B2)) hb3; have hqs2 := hQz2.size; have hQz3 : Below w0.heap.size w0 w3 := Below.trans (by have hszw := (hQz2).size; repeat (with_reducible first | refine Below.setCell ?_ (by first | omega | (simp <;> omega)) _ | refine Below.alloc ?_ (by first | omega | (simp <;> omega)) _ | refine Below.drew ?_ | refine below_drewN ?_ _ | exact hQz2)) (hb3.mono (by first | exact Nat.le_refl _ | (simp; done) | omega | (simp <;> omega))); have hBz3 : Below w2.heap.size w2 w3 := Below.trans (by have hszw := (hBz2).size; repeat (with_reducible first | refine Below.setCell ?_ (by first | omega | (simp <;> omega)) _ | refine Below.alloc ?_ (by first | omega | (simp <;> omega)) _ | refine Below.drew ?_ | refine below_drewN ?_ _ | exact hBz2)) (hb3.mono (by first | exact Nat.le_refl _ | (simp; done) | omega | (simp <;> omega))); (try (have F0x0 : DyV w3 (w2.heap.size) false false (.slice none 0 0) 0 := (by first | (refine DyV.below ?_ hb3; (repeat (first | exact F0x0.out | (refine DyV.made' _ _ _ _ _ _ ?_; first | rfl | (simp; done)) | with_reducible refine DyV.drew ?_ | with_reducible refine DyV.alloc ?_ _)); done) | fail); obtain ⟨F0x0c0, F0x0c1, F0x0c2, F0x0c3, F0x0c4, F0x0c5⟩ := F0x0; have F0x0 := Lib.hid (DyV.mk F0x0c0 F0x0c1 F0x0c2 F0x0c3 F0x0c4 F0x0c5))))
                | fail)
            all_goals as_aux_lemma => (
              (try have ne0x1 : ¬ w2.heap.size = w3.heap.size := by omega)
              (try have me0x1 : ¬ w3.heap.size = w2.heap.size := by omega)
              (try have ne0x2 : ¬ w2.heap.size = w4.heap.size := by omega)
              (try have me0x2 : ¬ w4.heap.size = w2.heap.size := by omega)
              (try have ne0x3 : ¬ w2.heap.size = w5.heap.size := by omega)
              (try have me0x3 : ¬ w5.heap.size = w2.heap.size := by omega)
              (try have ne1x2 : ¬ w3.heap.size = w4.heap.size := by omega)
              (try have me1x2 : ¬ w4.heap.size = w3.heap.size := by omega)
              (try have ne1x3 : ¬ w3.heap.size = w5.heap.size := by omega)
              (try have me1x3 : ¬ w5.heap.size = w3.heap.size := by omega)
              (try have ne2x3 : ¬ w4.heap.size = w5.heap.size := by omega)
              (try have me2x3 : ¬ w5.heap.size = w4.heap.size := by omega)
              go_wp2_with fail
              go_meet
              refine ⟨_, ap, cp, rfl, ?_, ⟨?_, ?_, ?_, ?_, ?_, ?_⟩, ?_⟩
              · exact (by have hszw := (hBz5).size; repeat (with_reducible first | refine Below.setCell ?_ (by first | omega | (simp <;> omega)) _ | refine Below.alloc ?_ (by first | omega | (simp <;> omega)) _ | refine Below.drew ?_ | refine below_drewN ?_ _ | exact hBz5))
              · go_simp
              · go_simp
              · go_simp
              · go_simp
              · intro i; go_simp
              · first | (simp; done) | omega | (simp <;> omega)
              · repeat (with_reducible first | refine Mag.set ?_ (fun h => by have := hf5 h; have := o5 h; first | omega | (simp; omega)) _ _ | refine Mag.drew ?_ | refine Mag.alloc ?_ _ | exact Mp5))
          case rest =>
          obtain ⟨w3, hww⟩ : ∃ w3, w3 = wc := ⟨_, rfl⟩
          subst hww
          obtain ⟨zp, ap, cp, rfl, hbz, Vp3, Mp3⟩ := hcut
          have Vg3 : DyV w3 zg (dbad dt) (decide (dman dt < 0)) (.slice ag (nl (dman dt).natAbs) cg) (dexp dt) := DyV.below Vg2.out hbz
          obtain ⟨gc0, gc1, gc2, gc3, gc4, gc5⟩ := Vg3
          have Vg3 := Lib.hid (DyV.mk gc0 gc1 gc2 gc3 gc4 gc5)
          obtain ⟨pc0, pc1, pc2, pc3, pc4, pc5⟩ := Vp3
          have Vp3 := Lib.hid (DyV.mk pc0 pc1 pc2 pc3 pc4 pc5)
          have Mg3 : Mag w3 ag (nl (dman dt).natAbs) cg (dman dt).natAbs := Mg2.below hbz
          have B3 := below_box (w := w) B2 hbz
          have hQz3 : Below w0.heap.size w0 w3 := hQz2.trans (hbz.mono hQz2.size)
          clear hbz
          go_wp2_with fail
          first
          | go_region_held3 (fun w' => w'.cell? ⟨zg, 0, none⟩ = some (.bool (dbad dt)) ∧ w'.cell? ⟨zg, 1, none⟩ = some (.bool (decide (dman dt < 0))) ∧ w'.cell? ⟨zg, 2, none⟩ = some ((.slice ag (nl (dman dt).natAbs) cg)) ∧ w'.cell? ⟨zg, 3, none⟩ = some (.int .i64 (dexp dt)) ∧ w'.cell? ⟨zp, 0, none⟩ = some (.bool (dbad dt)) ∧ w'.cell? ⟨zp, 1, none⟩ = some (.bool (decide (dman dt < 0))) ∧ w'.cell? ⟨zp, 2, none⟩ = some ((.slice ap (nl (dman dt).natAbs) cp)) ∧ w'.cell? ⟨zp, 3, none⟩ = some (.int .i64 (dexp dt))) (first | (go_keep; done) | (go_simp; done))
              (first
                | (go_at_call 14; have xx := B8; refine (HW _ (hT.below (by have hszw := (B8).size; repeat (with_reducible first | refine Below.setCell ?_ (by first | omega | (simp <;> omega)) _ | refine Below.alloc ?_ (by first | omega | (simp <;> omega)) _ | refine Below.drew ?_ | refine below_drewN ?_ _ | exact B8)))).out.mono ?_; rintro e w9 ⟨rfl, hb9⟩; have Vg9 : DyV w9 zg (dbad dt) (decide (dman dt < 0)) (.slice ag (nl (dman dt).natAbs) cg) (dexp dt) := (by refine DyV.below ?_ hb9; (repeat (with_reducible first | refine DyV.drew ?_ | refine DyV.drewN ?_ _ | refine DyV.alloc ?_ _)); exact Vg8.out); obtain ⟨gc0, gc1, gc2, gc3, gc4, gc5⟩ := Vg9; have Vg9 := Lib.hid (DyV.mk gc0 gc1 gc2 gc3 gc4 gc5); have Vp9 : DyV w9 zp (dbad dt) (decide (dman dt < 0)) (.slice ap (nl (dman dt).natAbs) cp) (dexp dt) := (by refine DyV.below ?_ hb9; (repeat (with_reducible first | refine DyV.drew ?_ | refine DyV.drewN ?_ _ | refine DyV.alloc ?_ _)); exact Vp8.out); obtain ⟨pc0, pc1, pc2, pc3, pc4, pc5⟩ := Vp9; have Vp9 := Lib.hid (DyV.mk pc0 pc1 pc2 pc3 pc4 pc5); have Mg9 : Mag w9 ag (nl (dman dt).natAbs) cg (dman dt).natAbs := Mag.below (by repeat (with_reducible first | refine Mag.set ?_ (fun h => by have := Mg8 h; omega) _ _ | refine Mag.drew ?_ | refine Mag.alloc ?_ _ | refine Mag.drewN ?_ _ | refine Mag.below ?_ (Below.drew (Below.refl _ _)) | refine Mag.below ?_ ((Below.refl _ _).alloc (Nat.le_refl _) _) | exact Mg8)) hb9; have Mp9 : Mag w9 ap (nl (dman dt).natAbs) cp (dman dt).natAbs := Mag.below (by repeat (with_reducible first | refine Mag.set ?_ (fun h => by have := Mp8 h; omega) _ _ | refine Mag.drew ?_ | refine Mag.alloc ?_ _ | refine Mag.drewN ?_ _ | refine Mag.below ?_ (Below.drew (Below.refl _ _)) | refine Mag.below ?_ ((Below.refl _ _).alloc (Nat.le_refl _) _) | exact Mp8)) hb9; have Mr9 : Mag w9 ar (nl (dman dt).natAbs) cr (dman dt).natAbs := Mag.below (by repeat (with_reducible first | refine Mag.set ?_ (fun h => by have := Mr8 h; omega) _ _ | refine Mag.drew ?_ | refine Mag.alloc ?_ _ | refine Mag.drewN ?_ _ | refine Mag.below ?_ (Below.drew (Below.refl _ _)) | refine Mag.below ?_ ((Below.refl _ _).alloc (Nat.le_refl _) _) | exact Mr8)) hb9; have Mb19 : Mag w9 ab1 (nl (dman dt).natAbs) cb1 (dman dt).natAbs := Mag.below (by repeat (with_reducible first | refine Mag.set ?_ (fun h => by have := Mb18 h; omega) _ _ | refine Mag.drew ?_ | refine Mag.alloc ?_ _ | refine Mag.drewN ?_ _ | refine Mag.below ?_ (Below.drew (Below.refl _ _)) | refine Mag.below ?_ ((Below.refl _ _).alloc (Nat.le_refl _) _) | exact Mb18)) hb9; have B9 := below_box (w := w) (by have hszw := (B8).size; repeat (with_reducible first | refine Below.setCell ?_ (by first | omega | (simp <;> omega)) _ | refine Below.alloc ?_ (by first | omega | (simp <;> omega)) _ | refine Below.drew ?_ | refine below_drewN ?_ _ | exact B8)) hb9; have hqs8 := hQz8.size; have hQz9 : Below w0.heap.size w0 w9 := Below.trans (by have hszw := (hQz8).size; repeat (with_reducible first | refine Below.setCell ?_ (by first | omega | (simp <;> omega)) _ | refine Below.alloc ?_ (by first | omega | (simp <;> omega)) _ | refine Below.drew ?_ | refine below_drewN ?_ _ | exact hQz8)) (hb9.mono (by first | exact Nat.le_refl _ | (simp; done) | omega | (simp <;> omega))); clear hb9)
                | (go_at_call 13; have xx := B7; refine (HKd _ ap ag cp cg (by repeat (with_reducible first | refine Mag.set ?_ (fun h => by have := Mp7 h; omega) _ _ | refine Mag.drew ?_ | refine Mag.alloc ?_ _ | refine Mag.drewN ?_ _ | refine Mag.below ?_ (Below.drew (Below.refl _ _)) | refine Mag.below ?_ ((Below.refl _ _).alloc (Nat.le_refl _) _) | exact Mp7)) (by repeat (with_reducible first | refine Mag.set ?_ (fun h => by have := Mg7 h; omega) _ _ | refine Mag.drew ?_ | refine Mag.alloc ?_ _ | refine Mag.drewN ?_ _ | refine Mag.below ?_ (Below.drew (Below.refl _ _)) | refine Mag.below ?_ ((Below.refl _ _).alloc (Nat.le_refl _) _) | exact Mg7))).out.mono ?_; rintro e w8 ⟨rfl, hb8⟩; have Vg8 : DyV w8 zg (dbad dt) (decide (dman dt < 0)) (.slice ag (nl (dman dt).natAbs) cg) (dexp dt) := (by refine DyV.below ?_ hb8; (repeat (with_reducible first | refine DyV.drew ?_ | refine DyV.drewN ?_ _ | refine DyV.alloc ?_ _)); exact Vg7.out); obtain ⟨gc0, gc1, gc2, gc3, gc4, gc5⟩ := Vg8; have Vg8 := Lib.hid (DyV.mk gc0 gc1 gc2 gc3 gc4 gc5); have Vp8 : DyV w8 zp (dbad dt) (decide (dman dt < 0)) (.slice ap (nl (dman dt).natAbs) cp) (dexp dt) := (by refine DyV.below ?_ hb8; (repeat (with_reducible first | refine DyV.drew ?_ | refine DyV.drewN ?_ _ | refine DyV.alloc ?_ _)); exact Vp7.out); obtain ⟨pc0, pc1, pc2, pc3, pc4, pc5⟩ := Vp8; have Vp8 := Lib.hid (DyV.mk pc0 pc1 pc2 pc3 pc4 pc5); have Mg8 : Mag w8 ag (nl (dman dt).natAbs) cg (dman dt).natAbs := Mag.below (by repeat (with_reducible first | refine Mag.set ?_ (fun h => by have := Mg7 h; omega) _ _ | refine Mag.drew ?_ | refine Mag.alloc ?_ _ | refine Mag.drewN ?_ _ | refine Mag.below ?_ (Below.drew (Below.refl _ _)) | refine Mag.below ?_ ((Below.refl _ _).alloc (Nat.le_refl _) _) | exact Mg7)) hb8; have Mp8 : Mag w8 ap (nl (dman dt).natAbs) cp (dman dt).natAbs := Mag.below (by repeat (with_reducible first | refine Mag.set ?_ (fun h => by have := Mp7 h; omega) _ _ | refine Mag.drew ?_ | refine Mag.alloc ?_ _ | refine Mag.drewN ?_ _ | refine Mag.below ?_ (Below.drew (Below.refl _ _)) | refine Mag.below ?_ ((Below.refl _ _).alloc (Nat.le_refl _) _) | exact Mp7)) hb8; have Mr8 : Mag w8 ar (nl (dman dt).natAbs) cr (dman dt).natAbs := Mag.below (by repeat (with_reducible first | refine Mag.set ?_ (fun h => by have := Mr7 h; omega) _ _ | refine Mag.drew ?_ | refine Mag.alloc ?_ _ | refine Mag.drewN ?_ _ | refine Mag.below ?_ (Below.drew (Below.refl _ _)) | refine Mag.below ?_ ((Below.refl _ _).alloc (Nat.le_refl _) _) | exact Mr7)) hb8; have Mb18 : Mag w8 ab1 (nl (dman dt).natAbs) cb1 (dman dt).natAbs := Mag.below (by repeat (with_reducible first | refine Mag.set ?_ (fun h => by have := Mb17 h; omega) _ _ | refine Mag.drew ?_ | refine Mag.alloc ?_ _ | refine Mag.drewN ?_ _ | refine Mag.below ?_ (Below.drew (Below.refl _ _)) | refine Mag.below ?_ ((Below.refl _ _).alloc (Nat.le_refl _) _) | exact Mb17)) hb8; have B8 := below_box (w := w) (by have hszw := (B7).size; repeat (with_reducible first | refine Below.setCell ?_ (by first | omega | (simp <;> omega)) _ | refine Below.alloc ?_ (by first | omega | (simp <;> omega)) _ | refine Below.drew ?_ | refine below_drewN ?_ _ | exact B7)) hb8; have hqs7 := hQz7.size; have hQz8 : Below w0.heap.size w0 w8 := Below.trans (by have hszw := (hQz7).size; repeat (with_reducible first | refine Below.setCell ?_ (by first | omega | (simp <;> omega)) _ | refine Below.alloc ?_ (by first | omega | (simp <;> omega)) _ | refine Below.drew ?_ | refine below_drewN ?_ _ | exact hQz7)) (hb8.mono (by first | exact Nat.le_refl _ | (simp; done) | omega | (simp <;> omega))); clear hb8)
                | (go_at_call 13; have xx := B6; refine (HKd _ ab1 ag cb1 cg (by repeat (with_reducible first | refine Mag.set ?_ (fun h => by have := Mb16 h; omega) _ _ | refine Mag.drew ?_ | refine Mag.alloc ?_ _ | refine Mag.drewN ?_ _ | refine Mag.below ?_ (Below.drew (Below.refl _ _)) | refine Mag.below ?_ ((Below.refl _ _).alloc (Nat.le_refl _) _) | exact Mb16)) (by repeat (with_reducible first | refine Mag.set ?_ (fun h => by have := Mg6 h; omega) _ _ | refine Mag.drew ?_ | refine Mag.alloc ?_ _ | refine Mag.drewN ?_ _ | refine Mag.below ?_ (Below.drew (Below.refl _ _)) | refine Mag.below ?_ ((Below.refl _ _).alloc (Nat.le_refl _) _) | exact Mg6))).out.mono ?_; rintro e w7 ⟨rfl, hb7⟩; have Vg7 : DyV w7 zg (dbad dt) (decide (dman dt < 0)) (.slice ag (nl (dman dt).natAbs) cg) (dexp dt) := (by refine DyV.below ?_ hb7; (repeat (with_reducible first | refine DyV.drew ?_ | refine DyV.drewN ?_ _ | refine DyV.alloc ?_ _)); exact Vg6.out); obtain ⟨gc0, gc1, gc2, gc3, gc4, gc5⟩ := Vg7; have Vg7 := Lib.hid (DyV.mk gc0 gc1 gc2 gc3 gc4 gc5); have Vp7 : DyV w7 zp (dbad dt) (decide (dman dt < 0)) (.slice ap (nl (dman dt).natAbs) cp) (dexp dt) := (by refine DyV.below ?_ hb7; (repeat (with_reducible first | refine DyV.drew ?_ | refine DyV.drewN ?_ _ | refine DyV.alloc ?_ _)); exact Vp6.out); obtain ⟨pc0, pc1, pc2, pc3, pc4, pc5⟩ := Vp7; have Vp7 := Lib.hid (DyV.mk pc0 pc1 pc2 pc3 pc4 pc5); have Mg7 : Mag w7 ag (nl (dman dt).natAbs) cg (dman dt).natAbs := Mag.below (by repeat (with_reducible first | refine Mag.set ?_ (fun h => by have := Mg6 h; omega) _ _ | refine Mag.drew ?_ | refine Mag.alloc ?_ _ | refine Mag.drewN ?_ _ | refine Mag.below ?_ (Below.drew (Below.refl _ _)) | refine Mag.below ?_ ((Below.refl _ _).alloc (Nat.le_refl _) _) | exact Mg6)) hb7; have Mp7 : Mag w7 ap (nl (dman dt).natAbs) cp (dman dt).natAbs := Mag.below (by repeat (with_reducible first | refine Mag.set ?_ (fun h => by have := Mp6 h; omega) _ _ | refine Mag.drew ?_ | refine Mag.alloc ?_ _ | refine Mag.drewN ?_ _ | refine Mag.below ?_ (Below.drew (Below.refl _ _)) | refine Mag.below ?_ ((Below.refl _ _).alloc (Nat.le_refl _) _) | exact Mp6)) hb7; have Mr7 : Mag w7 ar (nl (dman dt).natAbs) cr (dman dt).natAbs := Mag.below (by repeat (with_reducible first | refine Mag.set ?_ (fun h => by have := Mr6 h; omega) _ _ | refine Mag.drew ?_ | refine Mag.alloc ?_ _ | refine Mag.drewN ?_ _ | refine Mag.below ?_ (Below.drew (Below.refl _ _)) | refine Mag.below ?_ ((Below.refl _ _).alloc (Nat.le_refl _) _) | exact Mr6)) hb7; have Mb17 : Mag w7 ab1 (nl (dman dt).natAbs) cb1 (dman dt).natAbs := Mag.below (by repeat (with_reducible first | refine Mag.set ?_ (fun h => by have := Mb16 h; omega) _ _ | refine Mag.drew ?_ | refine Mag.alloc ?_ _ | refine Mag.drewN ?_ _ | refine Mag.below ?_ (Below.drew (Below.refl _ _)) | refine Mag.below ?_ ((Below.refl _ _).alloc (Nat.le_refl _) _) | exact Mb16)) hb7; have B7 := below_box (w := w) (by have hszw := (B6).size; repeat (with_reducible first | refine Below.setCell ?_ (by first | omega | (simp <;> omega)) _ | refine Below.alloc ?_ (by first | omega | (simp <;> omega)) _ | refine Below.drew ?_ | refine below_drewN ?_ _ | exact B6)) hb7; have hqs6 := hQz6.size; have hQz7 : Below w0.heap.size w0 w7 := Below.trans (by have hszw := (hQz6).size; repeat (with_reducible first | refine Below.setCell ?_ (by first | omega | (simp <;> omega)) _ | refine Below.alloc ?_ (by first | omega | (simp <;> omega)) _ | refine Below.drew ?_ | refine below_drewN ?_ _ | exact hQz6)) (hb7.mono (by first | exact Nat.le_refl _ | (simp; done) | omega | (simp <;> omega))); clear hb7)
                | (go_at_call 19; have xx := B5; refine (HA2 _ (HDB.out.below (by have hszw := (hQz5).size; repeat (with_reducible first | refine Below.setCell ?_ (by first | omega | (simp <;> omega)) _ | refine Below.alloc ?_ (by first | omega | (simp <;> omega)) _ | refine Below.drew ?_ | refine below_drewN ?_ _ | exact hQz5))) (hT.below (by have hszw := (B5).size; repeat (with_reducible first | refine Below.setCell ?_ (by first | omega | (simp <;> omega)) _ | refine Below.alloc ?_ (by first | omega | (simp <;> omega)) _ | refine Below.drew ?_ | refine below_drewN ?_ _ | exact B5)))).out.mono ?_; rintro e w6 ⟨ab1, cb1, rfl, Mb16, hb6, hf6⟩; have Vg6 : DyV w6 zg (dbad dt) (decide (dman dt < 0)) (.slice ag (nl (dman dt).natAbs) cg) (dexp dt) := (by refine DyV.below ?_ hb6; (repeat (with_reducible first | refine DyV.drew ?_ | refine DyV.drewN ?_ _ | refine DyV.alloc ?_ _)); exact Vg5.out); obtain ⟨gc0, gc1, gc2, gc3, gc4, gc5⟩ := Vg6; have Vg6 := Lib.hid (DyV.mk gc0 gc1 gc2 gc3 gc4 gc5); have Vp6 : DyV w6 zp (dbad dt) (decide (dman dt < 0)) (.slice ap (nl (dman dt).natAbs) cp) (dexp dt) := (by refine DyV.below ?_ hb6; (repeat (with_reducible first | refine DyV.drew ?_ | refine DyV.drewN ?_ _ | refine DyV.alloc ?_ _)); exact Vp5.out); obtain ⟨pc0, pc1, pc2, pc3, pc4, pc5⟩ := Vp6; have Vp6 := Lib.hid (DyV.mk pc0 pc1 pc2 pc3 pc4 pc5); have Mg6 : Mag w6 ag (nl (dman dt).natAbs) cg (dman dt).natAbs := Mag.below (by repeat (with_reducible first | refine Mag.set ?_ (fun h => by have := Mg5 h; omega) _ _ | refine Mag.drew ?_ | refine Mag.alloc ?_ _ | refine Mag.drewN ?_ _ | refine Mag.below ?_ (Below.drew (Below.refl _ _)) | refine Mag.below ?_ ((Below.refl _ _).alloc (Nat.le_refl _) _) | exact Mg5)) hb6; have Mp6 : Mag w6 ap (nl (dman dt).natAbs) cp (dman dt).natAbs := Mag.below (by repeat (with_reducible first | refine Mag.set ?_ (fun h => by have := Mp5 h; omega) _ _ | refine Mag.drew ?_ | refine Mag.alloc ?_ _ | refine Mag.drewN ?_ _ | refine Mag.below ?_ (Below.drew (Below.refl _ _)) | refine Mag.below ?_ ((Below.refl _ _).alloc (Nat.le_refl _) _) | exact Mp5)) hb6; have Mr6 : Mag w6 ar (nl (dman dt).natAbs) cr (dman dt).natAbs := Mag.below (by repeat (with_reducible first | refine Mag.set ?_ (fun h => by have := Mr5 h; omega) _ _ | refine Mag.drew ?_ | refine Mag.alloc ?_ _ | refine Mag.drewN ?_ _ | refine Mag.below ?_ (Below.drew (Below.refl _ _)) | refine Mag.below ?_ ((Below.refl _ _).alloc (Nat.le_refl _) _) | exact Mr5)) hb6; have B6 := below_box (w := w) (by have hszw := (B5).size; repeat (with_reducible first | refine Below.setCell ?_ (by first | omega | (simp <;> omega)) _ | refine Below.alloc ?_ (by first | omega | (simp <;> omega)) _ | refine Below.drew ?_ | refine below_drewN ?_ _ | exact B5)) hb6; have hqs5 := hQz5.size; have hQz6 : Below w0.heap.size w0 w6 := Below.trans (by have hszw := (hQz5).size; repeat (with_reducible first | refine Below.setCell ?_ (by first | omega | (simp <;> omega)) _ | refine Below.alloc ?_ (by first | omega | (simp <;> omega)) _ | refine Below.drew ?_ | refine below_drewN ?_ _ | exact hQz5)) (hb6.mono (by first | exact Nat.le_refl _ | (simp; done) | omega | (simp <;> omega))); clear hb6; clear hf6)
                | (go_at_call 13; have xx := B4; refine (HKd _ ag ar cg cr (by repeat (with_reducible first | refine Mag.set ?_ (fun h => by have := Mg4 h; omega) _ _ | refine Mag.drew ?_ | refine Mag.alloc ?_ _ | refine Mag.drewN ?_ _ | refine Mag.below ?_ (Below.drew (Below.refl _ _)) | refine Mag.below ?_ ((Below.refl _ _).alloc (Nat.le_refl _) _) | exact Mg4)) (by repeat (with_reducible first | refine Mag.set ?_ (fun h => by have := Mr4 h; omega) _ _ | refine Mag.drew ?_ | refine Mag.alloc ?_ _ | refine Mag.drewN ?_ _ | refine Mag.below ?_ (Below.drew (Below.refl _ _)) | refine Mag.below ?_ ((Below.refl _ _).alloc (Nat.le_refl _) _) | exact Mr4))).out.mono ?_; rintro e w5 ⟨rfl, hb5⟩; have Vg5 : DyV w5 zg (dbad dt) (decide (dman dt < 0)) (.slice ag (nl (dman dt).natAbs) cg) (dexp dt) := (by refine DyV.below ?_ hb5; (repeat (with_reducible first | refine DyV.drew ?_ | refine DyV.drewN ?_ _ | refine DyV.alloc ?_ _)); exact Vg4.out); obtain ⟨gc0, gc1, gc2, gc3, gc4, gc5⟩ := Vg5; have Vg5 := Lib.hid (DyV.mk gc0 gc1 gc2 gc3 gc4 gc5); have Vp5 : DyV w5 zp (dbad dt) (decide (dman dt < 0)) (.slice ap (nl (dman dt).natAbs) cp) (dexp dt) := (by refine DyV.below ?_ hb5; (repeat (with_reducible first | refine DyV.drew ?_ | refine DyV.drewN ?_ _ | refine DyV.alloc ?_ _)); exact Vp4.out); obtain ⟨pc0, pc1, pc2, pc3, pc4, pc5⟩ := Vp5; have Vp5 := Lib.hid (DyV.mk pc0 pc1 pc2 pc3 pc4 pc5); have Mg5 : Mag w5 ag (nl (dman dt).natAbs) cg (dman dt).natAbs := Mag.below (by repeat (with_reducible first | refine Mag.set ?_ (fun h => by have := Mg4 h; omega) _ _ | refine Mag.drew ?_ | refine Mag.alloc ?_ _ | refine Mag.drewN ?_ _ | refine Mag.below ?_ (Below.drew (Below.refl _ _)) | refine Mag.below ?_ ((Below.refl _ _).alloc (Nat.le_refl _) _) | exact Mg4)) hb5; have Mp5 : Mag w5 ap (nl (dman dt).natAbs) cp (dman dt).natAbs := Mag.below (by repeat (with_reducible first | refine Mag.set ?_ (fun h => by have := Mp4 h; omega) _ _ | refine Mag.drew ?_ | refine Mag.alloc ?_ _ | refine Mag.drewN ?_ _ | refine Mag.below ?_ (Below.drew (Below.refl _ _)) | refine Mag.below ?_ ((Below.refl _ _).alloc (Nat.le_refl _) _) | exact Mp4)) hb5; have Mr5 : Mag w5 ar (nl (dman dt).natAbs) cr (dman dt).natAbs := Mag.below (by repeat (with_reducible first | refine Mag.set ?_ (fun h => by have := Mr4 h; omega) _ _ | refine Mag.drew ?_ | refine Mag.alloc ?_ _ | refine Mag.drewN ?_ _ | refine Mag.below ?_ (Below.drew (Below.refl _ _)) | refine Mag.below ?_ ((Below.refl _ _).alloc (Nat.le_refl _) _) | exact Mr4)) hb5; have B5 := below_box (w := w) (by have hszw := (B4).size; repeat (with_reducible first | refine Below.setCell ?_ (by first | omega | (simp <;> omega)) _ | refine Below.alloc ?_ (by first | omega | (simp <;> omega)) _ | refine Below.drew ?_ | refine below_drewN ?_ _ | exact B4)) hb5; have hqs4 := hQz4.size; have hQz5 : Below w0.heap.size w0 w5 := Below.trans (by have hszw := (hQz4).size; repeat (with_reducible first | refine Below.setCell ?_ (by first | omega | (simp <;> omega)) _ | refine Below.alloc ?_ (by first | omega | (simp <;> omega)) _ | refine Below.drew ?_ | refine below_drewN ?_ _ | exact hQz4)) (hb5.mono (by first | exact Nat.le_refl _ | (simp; done) | omega | (simp <;> omega))); clear hb5)
                | (go_at_call 20; have xx := B3; refine (HRS _ (HDW.out.below (by have hszw := (hQz3).size; repeat (with_reducible first | refine Below.setCell ?_ (by first | omega | (simp <;> omega)) _ | refine Below.alloc ?_ (by first | omega | (simp <;> omega)) _ | refine Below.drew ?_ | refine below_drewN ?_ _ | exact hQz3))) (hT.below (by have hszw := (B3).size; repeat (with_reducible first | refine Below.setCell ?_ (by first | omega | (simp <;> omega)) _ | refine Below.alloc ?_ (by first | omega | (simp <;> omega)) _ | refine Below.drew ?_ | refine below_drewN ?_ _ | exact B3)))).out.mono ?_; rintro e w4 ⟨ar, cr, rfl, Mr4, hb4, hf4⟩; have Vg4 : DyV w4 zg (dbad dt) (decide (dman dt < 0)) (.slice ag (nl (dman dt).natAbs) cg) (dexp dt) := (by refine DyV.below ?_ hb4; (repeat (with_reducible first | refine DyV.drew ?_ | refine DyV.drewN ?_ _ | refine DyV.alloc ?_ _)); exact Vg3.out); obtain ⟨gc0, gc1, gc2, gc3, gc4, gc5⟩ := Vg4; have Vg4 := Lib.hid (DyV.mk gc0 gc1 gc2 gc3 gc4 gc5); have Vp4 : DyV w4 zp (dbad dt) (decide (dman dt < 0)) (.slice ap (nl (dman dt).natAbs) cp) (dexp dt) := (by refine DyV.below ?_ hb4; (repeat (with_reducible first | refine DyV.drew ?_ | refine DyV.drewN ?_ _ | refine DyV.alloc ?_ _)); exact Vp3.out); obtain ⟨pc0, pc1, pc2, pc3, pc4, pc5⟩ := Vp4; have Vp4 := Lib.hid (DyV.mk pc0 pc1 pc2 pc3 pc4 pc5); have Mg4 : Mag w4 ag (nl (dman dt).natAbs) cg (dman dt).natAbs := Mag.below (by repeat (with_reducible first | refine Mag.set ?_ (fun h => by have := Mg3 h; omega) _ _ | refine Mag.drew ?_ | refine Mag.alloc ?_ _ | refine Mag.drewN ?_ _ | refine Mag.below ?_ (Below.drew (Below.refl _ _)) | refine Mag.below ?_ ((Below.refl _ _).alloc (Nat.le_refl _) _) | exact Mg3)) hb4; have Mp4 : Mag w4 ap (nl (dman dt).natAbs) cp (dman dt).natAbs := Mag.below (by repeat (with_reducible first | refine Mag.set ?_ (fun h => by have := Mp3 h; omega) _ _ | refine Mag.drew ?_ | refine Mag.alloc ?_ _ | refine Mag.drewN ?_ _ | refine Mag.below ?_ (Below.drew (Below.refl _ _)) | refine Mag.below ?_ ((Below.refl _ _).alloc (Nat.le_refl _) _) | exact Mp3)) hb4; have B4 := below_box (w := w) (by have hszw := (B3).size; repeat (with_reducible first | refine Below.setCell ?_ (by first | omega | (simp <;> omega)) _ | refine Below.alloc ?_ (by first | omega | (simp <;> omega)) _ | refine Below.drew ?_ | refine below_drewN ?_ _ | exact B3)) hb4; have hqs3 := hQz3.size; have hQz4 : Below w0.heap.size w0 w4 := Below.trans (by have hszw := (hQz3).size; repeat (with_reducible first | refine Below.setCell ?_ (by first | omega | (simp <;> omega)) _ | refine Below.alloc ?_ (by first | omega | (simp <;> omega)) _ | refine Below.drew ?_ | refine below_drewN ?_ _ | exact hQz3)) (hb4.mono (by first | exact Nat.le_refl _ | (simp; done) | omega | (simp <;> omega))); clear hb4; clear hf4)
                | fail)
          | fail "region"
          all_goals go_wp2_with fail
          all_goals (
            go_ret
            exact ⟨rfl, (by have hszw := (B9).size; repeat (with_reducible first | refine Below.setCell ?_ (by first | omega | (simp <;> omega)) _ | refine Below.alloc ?_ (by first | omega | (simp <;> omega)) _ | refine Below.drew ?_ | refine below_drewN ?_ _ | exact B9))⟩)

theorem sums_any (w : World) (hT : Tab w) (a : Option Addr) (n cap : Nat) (at1 : Int) (L : Nat → El) (hL : Dys w a n cap L) :
    Calls Tryd.prog 4 #[.slice a n cap, .int .i64 at1] w fun o w' => o = .returned (.bool true) ∧ Below w.heap.size w w' := by
  by_cases h12 : n ≤ 12
  · obtain ⟨K, hK⟩ : ∃ K : Nat, placeI at1 (n + 1) = K := Int.eq_ofNat_of_zero_le (by unfold placeI; exact Int.emod_nonneg _ (by omega))
    have hKn : K ≤ n := by
      have : placeI at1 (n + 1) < n + 1 := by unfold placeI; exact Int.emod_lt_of_pos _ (by omega)
      omega
    refine sums_main w hT a n cap at1 L hL h12 K hK hKn _ _ _ _ rfl rfl rfl rfl (fun hs => ?_)
    have h : ∀ i, i < n → (fun i => (L i).d) i = none ∨ ∃ m e, (fun i => (L i).d) i = some (m, e) ∧ Slim m e := fun i hi => by
      show (L i).d = none ∨ ∃ m e, (L i).d = some (m, e) ∧ Slim m e
      cases hd : (L i).d with
      | none => exact .inl rfl
      | some p =>
        obtain ⟨m, e⟩ := p
        exact .inr ⟨m, e, rfl, slim_nrm (hs i hi) (hL.m i hi).lt hd⟩
    exact sums_law (fun i => (L i).d) h12 hKn h
  · exact sums_long w hT a n cap at1 hL.lim hL.fits (by omega)

end Go.Proofs.YtjhngehajahbnaaDoor


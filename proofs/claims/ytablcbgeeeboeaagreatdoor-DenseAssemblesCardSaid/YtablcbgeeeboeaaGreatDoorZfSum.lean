/-
  Walks: package dyad: Sum.
-/
import Derived.Test.YtablcbgeeeboeaaGreatDoorZfSumLaw
import Derived.Test.YtablcbgeeeboeaaGreatDoorZfBg
set_option maxRecDepth 100000
set_option maxHeartbeats 2000000
namespace Go.Proofs.YtablcbgeeeboeaaGreatDoor
open Go.RowKit Sp
def ncell (d : Nat → Option (Int × Int)) (A : Nat → Option Addr) (C : Nat → Nat) (i : Nat) : Value × Value × Value × Value :=
 (.bool false, .bool (decide (dman (d i) < 0)), .slice (A i) (nl (dman (d i)).natAbs) (C i), .int .i64 (dexp (d i)))
structure Nms (w : World) (base : Nat) (v : Value) (k : Nat) (d : Nat → Option (Int × Int)) (A : Nat → Option Addr) (C : Nat → Nat) : Prop where
 own : w.ownsRow base 46 4 v k (dcells (ncell d A C) k)
 m : ∀ i, i < k → Mag w (A i) (nl (dman (d i)).natAbs) (C i) (dman (d i)).natAbs
 ap : ∀ i, i < k → 0 < nl (dman (d i)).natAbs → some (ab (A i)) ≠ v.ownBlock
theorem ownsRow_below {w w' : World} {base : Nat} {e : TypeId} {size : Nat} {v : Value} {n : Nat} {xs : List Value} (h : w.ownsRow base e size v n xs) (hb : Below w.heap.size w w') : w'.ownsRow base e size v n xs := by
 refine h.kept (row := none) ⟨hb.os, hb.tape, hb.output, hb.size, fun k hk _ => hb.block k hk⟩ ?_
 cases ho : v.ownBlock with
 | none => exact .inl rfl
 | some g => exact .inr (by simp)
theorem Nms.below {w w' : World} {base : Nat} {v : Value} {k : Nat} {d : Nat → Option (Int × Int)} {A : Nat → Option Addr} {C : Nat → Nat} (h : Nms w base v k d A C) (hb : Below w.heap.size w w') : Nms w' base v k d A C :=
 ⟨ownsRow_below h.own hb, fun i hi => (h.m i hi).below hb, h.ap⟩
theorem Nms.app {w w' : World} {base : Nat} {v v' : Value} {k : Nat} {d : Nat → Option (Int × Int)} {A : Nat → Option Addr} {C : Nat → Nat} {a1 : Option Addr} {c1 : Nat} (h : Nms w base v k d A C)
 (ho : w'.ownsRow base 46 4 v' (k + 1) (dcells (ncell d A C) k ++ [.bool false, .bool (decide (dman (d k) < 0)), .slice a1 (nl (dman (d k)).natAbs) c1, .int .i64 (dexp (d k))]))
 (hg : w.grownBy w' v.ownBlock) (hv : v'.ownBlock = v.ownBlock ∨ v'.ownBlock = some w.heap.size) (hm : Mag w a1 (nl (dman (d k)).natAbs) c1 (dman (d k)).natAbs) (hne : 0 < nl (dman (d k)).natAbs → some (ab a1) ≠ v.ownBlock) :
 Nms w' base v' (k + 1) d (fun i => if i = k then a1 else A i) (fun i => if i = k then c1 else C i) := by
 have hap : ∀ (x : Option Addr) (n : Nat), (0 < n → ab x < w.heap.size) → (0 < n → some (ab x) ≠ v.ownBlock) → 0 < n → some (ab x) ≠ v'.ownBlock := fun x n h1 h2 h3 h4 => by
  rcases hv with hv | hv
  · rw [hv] at h4; exact h2 h3 h4
  · rw [hv] at h4; injection h4 with h4; have := h1 h3; omega
 refine ⟨?_, fun i hi => ?_, fun i hi => ?_⟩
 · have e1 : dcells (ncell d (fun i => if i = k then a1 else A i) (fun i => if i = k then c1 else C i)) k = dcells (ncell d A C) k := dcells_congr fun i hi => by
    unfold ncell; simp only [if_neg (show ¬ i = k by omega)]
   simp only [dcells]
   rw [e1]
   unfold ncell
   simp only [if_pos]
   exact ho
 · by_cases hk : i = k
   · subst hk; simp only [if_pos]; exact mag_grown hm hg hne
   · simp only [if_neg hk]; exact mag_grown (h.m i (by omega)) hg (h.ap i (by omega))
 · by_cases hk : i = k
   · subst hk; simp only [if_pos]; exact hap _ _ hm.old hne
   · simp only [if_neg hk]; exact hap _ _ (h.m i (by omega)).old (h.ap i (by omega))
theorem Nms.dys {w : World} {base : Nat} {v : Value} {k : Nat} {d : Nat → Option (Int × Int)} {A : Nat → Option Addr} {C : Nat → Nat} (h : Nms w base v k d A C) (hd : ∀ i, IsN (d i)) :
 ∃ a cap, v = .slice a k cap ∧ Dys w a k cap (fun i => ⟨false, decide (dman (d i) < 0), A i, nl (dman (d i)).natAbs, C i, dexp (d i), (dman (d i)).natAbs⟩) := by
 have hbd : ∀ i, i < k → -9223372036854775808 ≤ dexp (d i) ∧ dexp (d i) ≤ 9223372036854775807 := fun i _ => by have := isN_bounds (hd i); omega
 rcases h.own.2 with ⟨hv, hk⟩ | ⟨g, cap, cur, hv, hbg, hgg, hkc, hcm, hcs, htake⟩
 · subst hk
   exact ⟨none, 0, hv, ⟨by omega, by omega, by omega, fun i hi => by omega, fun i hi => by omega, fun i hi => by omega, fun i hi => by omega, fun i hi => by omega, fun i hi => by omega, by omega⟩⟩
 · have ho := h.own
   rw [hv] at ho
   have hc : ∀ j, j < k * 4 → w.cell? ⟨g, j, none⟩ = (dcells (ncell d A C) k)[j]? := fun j hj => ho.cellAt j hj
   refine ⟨some ⟨g, 0, none⟩, cap, hv, hkc, by unfold maxLen at hcm; omega, fun _ => rfl, fun i hi => ?_, fun i hi => ?_, fun i hi => ?_, fun i hi => ?_, h.m, hbd, fun _ => (Array.getElem?_eq_some_iff.1 hgg).1⟩
   · rw [ab_some, ao_some, Nat.zero_add, hc _ (by omega)]; exact (dcells_get _ hi).1
   · rw [ab_some, ao_some, Nat.zero_add, hc _ (by omega)]; exact (dcells_get _ hi).2.1
   · rw [ab_some, ao_some, Nat.zero_add, hc _ (by omega)]; exact (dcells_get _ hi).2.2.1
   · rw [ab_some, ao_some, Nat.zero_add, hc _ (by omega)]; exact (dcells_get _ hi).2.2.2
theorem DyV.grown {w w' : World} {b : Nat} {v s : Bool} {sl : Value} {f : Int} {row : Option Nat} (h : DyV w b v s sl f) (hg : w.grownBy w' row) (hne : some b ≠ row) : DyV w' b v s sl f := by
 have hbk := hg.block b h.lt hne
 have e1 : ∀ i, w'.cell? ⟨b, i, none⟩ = w.cell? ⟨b, i, none⟩ := fun i => World.cell?_of_block (a := ⟨b, i, none⟩) hbk
 have e2 : ∀ i, w'.frozen? ⟨b, i, none⟩ = w.frozen? ⟨b, i, none⟩ := fun i => World.frozen?_of_block (a := ⟨b, i, none⟩) hbk
 exact ⟨(e1 _).trans h.c0, (e1 _).trans h.c1, (e1 _).trans h.c2, (e1 _).trans h.c3, fun i => (e2 _).trans (h.z i), Nat.lt_of_lt_of_le h.lt hg.size⟩
theorem dsum_any (w : World) (hT : Tab w) (a : Option Addr) (n cap : Nat) (L : Nat → El) (hL : Dys w a n cap L) (hn : n ≤ 1048576) (hs : ∀ i, i < n → (L i).n ≤ 1099511627776 ∧ blen (L i).x ≤ 1048576) :
 Calls Tryz.prog 79 #[.slice a n cap] w (RetDy w (dsum (fun i => (L i).d) n)) := by
 have l1 := hL.lim
 have l2 := hL.fits
 obtain ⟨d, hd⟩ : ∃ d, d = fun i => (L i).d := ⟨_, rfl⟩
 have hdi : ∀ i, d i = (L i).d := fun i => by rw [hd]
 rw [← hd]
 have hNd : ∀ i, IsN (d i) := fun i => by rw [hdi]; exact isN_nrmB _ _ _
 have HN := fun (k : Nat) (hk : k < n) W (h : Mag W (L k).a (L k).n (L k).p (L k).x) ht => Lib.hid (@norm_in W (L k).bd (L k).s (L k).a (L k).n (L k).p (L k).e (d k) ⟨_, h, (hs k hk).1, (hs k hk).2, (hL.b k hk).1, (hL.b k hk).2, (hdi k).symm⟩ ht)
 have HB := fun W => Lib.hid (bad_any W)
 have HLL := Lib.hid hL
 have HND := Lib.hid hNd
 clear hL hs hd hdi hNd
 go_enter Tryz.func79, Tryz.ntmps79
 go_wp2_with fail
 have I0 := DyV.made w 46 false false (.slice none 0 0) 0
 have B0 : Below w.heap.size w (w.alloc (.cells #[.bool false, .bool false, .slice none 0 0, .int .i64 0] 46)) := zbh
 have hown0 := World.ownsRow_nil (w.alloc (.cells #[.bool false, .bool false, .slice none 0 0, .int .i64 0] 46)) (w.heap.size + 1) 46 4
 have hsz : w.heap.size + 1 ≤ (w.alloc (.cells #[.bool false, .bool false, .slice none 0 0, .int .i64 0] 46)).heap.size := by rw [World.size_alloc]; omega
 generalize (w.alloc (.cells #[.bool false, .bool false, .slice none 0 0, .int .i64 0] 46)) = w0 at I0 B0 hown0 hsz ⊢
 go_loopw [3, 4, 14] (fun v e i wr => ∃ (k : Nat) (A : Nat → Option Addr) (C : Nat → Nat), k ≤ n ∧ i = .int .i64 k ∧ e = .int .i64 (mnE d k) ∧ anyBad d k = false ∧ Nms wr (w.heap.size + 1) v k d A C ∧ DyV wr w.heap.size false false (.slice none 0 0) 0 ∧ Below w.heap.size w wr ∧ w.heap.size + 1 ≤ wr.heap.size) (fun _ _ i _ => n - (intOf i).toNat)
 case atStart => exact ⟨0, fun _ => none, fun _ => 0, by omega, rfl, rfl, rfl, ⟨hown0, fun i hi => by omega, fun i hi => by omega⟩, I0, B0, hsz⟩
 case round =>
  clear hown0 I0 B0 hsz
  obtain ⟨k, A, C, hk, rfl, rfl, hbad, hN, V0, hb, hsz⟩ := hrel
  have HBAD := Lib.hid hbad
  have HNM := Lib.hid hN
  clear hbad hN
  by_cases hlt : k < n
  · have hL' := HLL.out.below hb
    have k0 := hL'.c0 k hlt
    have k1 := hL'.c1 k hlt
    have k2 := hL'.c2 k hlt
    have k3 := hL'.c3 k hlt
    have i1 := hL'.idx k hlt
    have mk := hL'.m k hlt
    have HNk := HN k hlt
    generalize hE : L k = E at k0 k1 k2 k3 mk HNk
    obtain ⟨dk, hdk⟩ : ∃ dk, dk = d k := ⟨_, rfl⟩
    rw [← hdk] at HNk
    have HDK := Lib.hid hdk
    clear hL' hE hdk
    have VV := Lib.hid V0
    obtain ⟨p0, p1, p2, p3, p4, p5⟩ := V0
    go_wp2_with fail
    refine (HNk _ (mk.alloc _) (hT.below (hb.alloc (by omega) _))).out.mono ?_
    rintro e w1 ⟨a1, c1, rfl, m1, hb1, hf1⟩
    have hb2 := below_box (w := w) (hb.alloc (by omega) (.cells #[.bool E.bd, .bool E.s, .slice E.a E.n E.p, .int .i64 E.e] 46)) hb1
    have V1 := (VV.out.alloc (.cells #[.bool E.bd, .bool E.s, .slice E.a E.n E.p, .int .i64 E.e] 46)).below hb1
    have hs1 : wr.heap.size + 1 ≤ w1.heap.size := by have := hb1.size; simpa using this
    cases hbd : dbad dk with
    | true =>
     have hany : anyBad d n = true := (anyBad_iff d n).2 ⟨k, hlt, by rw [← HDK.out]; exact hbd⟩
     have e0 : dsum d n = none := by unfold dsum; rw [hany]; rfl
     have VV1 := Lib.hid V1
     obtain ⟨p0, p1, p2, p3, p4, p5⟩ := V1
     go_wp2_with fail
     refine (HB _).out.mono ?_
     rintro e w2 ⟨rfl, hb3⟩
     have hb4 := below_box (w := w) (hb2.alloc (by omega) (.cells #[.bool true, .bool (decide (dman dk < 0)), .slice a1 (nl (dman dk).natAbs) c1, .int .i64 (dexp dk)] 46)) hb3
     have V2 := (VV1.out.alloc (.cells #[.bool true, .bool (decide (dman dk < 0)), .slice a1 (nl (dman dk).natAbs) c1, .int .i64 (dexp dk)] 46)).below hb3
     clear p0 p1 p2 p3 p4 p5
     obtain ⟨p0, p1, p2, p3, p4, p5⟩ := V2
     go_wp2_with fail
     refine bodyPost_ret (v := .agg #[.bool true, .bool false, .slice none 0 0, .int .i64 0]) (by simp only [results, Tryz.results79]; go_simp) rfl ?_
     rw [e0]
     exact ⟨none, 0, rfl, Mag.nil _, (by have hszw := (hb4).size; repeat (with_reducible first | refine Below.setCell ?_ (by first | omega | (simp <;> omega)) _ | refine Below.alloc ?_ (by first | omega | (simp <;> omega)) _ | refine Below.drew ?_ | refine below_drewN ?_ _ | exact hb4)), nl0⟩
    | false =>
     have N1 : Nms w1 (w.heap.size + 1) u3 k d A C := (HNM.out.below ((Below.refl _ _).alloc (Nat.le_refl _) (.cells #[.bool E.bd, .bool E.s, .slice E.a E.n E.p, .int .i64 E.e] 46))).below hb1
     have N2 : Nms (w1.alloc (.cells #[.bool false, .bool (decide (dman dk < 0)), .slice a1 (nl (dman dk).natAbs) c1, .int .i64 (dexp dk)] 46)) (w.heap.size + 1) u3 k d A C := N1.below ((Below.refl _ _).alloc (Nat.le_refl _) _)
     have V2 := V1.alloc (.cells #[.bool false, .bool (decide (dman dk < 0)), .slice a1 (nl (dman dk).natAbs) c1, .int .i64 (dexp dk)] 46)
     have VV2 := Lib.hid V2
     have M2 : Mag (w1.alloc (.cells #[.bool false, .bool (decide (dman dk < 0)), .slice a1 (nl (dman dk).natAbs) c1, .int .i64 (dexp dk)] 46)) a1 (nl (dman dk).natAbs) c1 (dman dk).natAbs := m1.alloc _
     have hne : 0 < nl (dman dk).natAbs → some (ab a1) ≠ u3.ownBlock := fun h0 h1 => by
      have h2 := (HNM.out.own.lt (ab a1) h1.symm).2
      have h3 := hf1 h0
      rw [World.size_alloc] at h3; omega
     have hbw2 : Below w.heap.size w (w1.alloc (.cells #[.bool false, .bool (decide (dman dk < 0)), .slice a1 (nl (dman dk).natAbs) c1, .int .i64 (dexp dk)] 46)) := hb2.alloc (by omega) _
     have hs2 : w.heap.size + 1 ≤ (w1.alloc (.cells #[.bool false, .bool (decide (dman dk < 0)), .slice a1 (nl (dman dk).natAbs) c1, .int .i64 (dexp dk)] 46)).heap.size := by rw [World.size_alloc]; omega
     clear p0 p1 p2 p3 p4 p5
     obtain ⟨p0, p1, p2, p3, p4, p5⟩ := V1
     have hmn : min (mnE d k) (dexp dk) = mnE d (k + 1) := by rw [HDK.out]; rfl
     have hbk : anyBad d (k + 1) = false := by
      show (anyBad d k || dbad (d k)) = false
      rw [HBAD.out, ← HDK.out, hbd]; rfl
     go_wp2_with (at_builtin; refine app_dyad rfl _ _ rfl (w.heap.size + 1) _ k _ rfl _ false (decide (dman dk < 0)) (.slice a1 (nl (dman dk).natAbs) c1) (dexp dk) rfl rfl (N2.own.alloc (.cells #[.bool false, .bool (decide (dman dk < 0)), .slice a1 (nl (dman dk).natAbs) c1, .int .i64 (dexp dk)] 46)) (by go_simp) (by go_simp) (by go_simp) (by go_simp) (by omega) (by rw [World.size_alloc]; omega) ?_; intro v3 w3 hown3 hg3 hob3)
     have N3 : Nms ((w1.alloc (.cells #[.bool false, .bool (decide (dman dk < 0)), .slice a1 (nl (dman dk).natAbs) c1, .int .i64 (dexp dk)] 46)).alloc (.cells #[.bool false, .bool (decide (dman dk < 0)), .slice a1 (nl (dman dk).natAbs) c1, .int .i64 (dexp dk)] 46)) (w.heap.size + 1) _ k d A C := N2.below ((Below.refl _ _).alloc (Nat.le_refl _) _)
     have hdk := HDK.out
     clear HDK
     subst hdk
     have N4 := N3.app hown3 hg3 hob3 (M2.alloc _) hne
     have V4 : DyV w3 w.heap.size false false (.slice none 0 0) 0 := by
      refine DyV.grown (VV2.out.alloc _) hg3 (fun h => ?_)
      have := (HNM.out.own.lt w.heap.size h.symm).1; omega
     have hB4 : Below w.heap.size w w3 := Below.trans (hbw2.alloc (Nat.le_trans (Nat.le_succ _) hs2) _) (Below.mono (below_grown N3.own hg3 (by rw [World.size_alloc]; exact Nat.le_trans hs2 (Nat.le_succ _))) (Nat.le_succ _))
     have hs4 : w.heap.size + 1 ≤ w3.heap.size := by have h9 := hg3.size; rw [World.size_alloc, World.size_alloc] at h9; omega
     go_roundw
     case rel => exact ⟨k + 1, _, _, by omega, by go_num, by rw [← hmn], hbk, N4, V4, hB4, hs4⟩
     case measure => simp [intOf]; omega
  · obtain rfl : k = n := by omega
    have hmn0 := mnE_le0 d k
    obtain ⟨oa, ocap, hv, hD⟩ := HNM.out.dys HND.out
    subst hv
    obtain ⟨wo, hwo⟩ : ∃ wo, wo = wr := ⟨_, rfl⟩
    subst hwo
    have HND2 := HND.out
    have hmn1 := mnE_ge d HND.out k
    have hEk : ∀ i, i < k → mnE d k ≤ dexp (d i) := fun i hi => mnE_le d hi
    have hSb : ∀ j, j ≤ k → blen (smE d (mnE d k) j).natAbs ≤ 131100 := fun j hj => smE_blen d HND.out hmn1 (by omega) (fun i hi => hEk i (by omega))
    have HMk := fun W b c h ht => Lib.hid (make_z W b c (smE d (mnE d k) k) (mnE d k) (dsum d k) (by unfold dsum; rw [HBAD.out]; rfl) h ht (by have := hSb k (Nat.le_refl _); omega) (by omega) (by omega))
    have HEK := Lib.hid hEk
    have HSB := Lib.hid hSb
    obtain ⟨E, hE⟩ : ∃ E, E = mnE d k := ⟨_, rfl⟩
    rw [← hE] at HMk HEK HSB hmn0 hmn1 ⊢
    have HD := Lib.hid hD
    have VV := Lib.hid V0
    clear hE hD HND2 V0 hEk hSb
    go_wp2_with fail
    have Is := BgV.made wo 44 false (.slice none 0 0)
    have hr0 : Below wo.heap.size wo (wo.alloc (.cells #[.bool false, .slice none 0 0] 44)) := (Below.refl _ _).alloc (Nat.le_refl _) _
    generalize (wo.alloc (.cells #[.bool false, .slice none 0 0] 44)) = ws at Is hr0 ⊢
    generalize hz9 : wo.heap.size = z9 at Is hr0 ⊢
    go_loopw [37] (fun i wr => ∃ (j : Nat) (S : Int) (aS : Option Addr) (cS : Nat), j ≤ k ∧ i = .int .i64 j ∧ S = smE d E j ∧ BgV wr z9 (decide (S < 0)) (.slice aS (nl S.natAbs) cS) ∧ Mag wr aS (nl S.natAbs) cS S.natAbs ∧ Below z9 wo wr) (fun i _ => k - (intOf i).toNat)
    case atStart => exact ⟨0, 0, none, 0, by omega, rfl, rfl, Is, Mag.nil _, hr0⟩
    case round =>
     clear Is hr0
     obtain ⟨j, S, aS, cS, hj, rfl, hS, hI, MS, hr⟩ := hrel
     have HS := Lib.hid hS
     clear hS
     have hr' := hr
     rw [← hz9] at hr'
     by_cases hlt : j < k
     · have hD' := HD.out.below hr'
       have k0 := hD'.c0 j hlt
       have k1 := hD'.c1 j hlt
       have k2 := hD'.c2 j hlt
       have k3 := hD'.c3 j hlt
       have i1 := hD'.idx j hlt
       have MA := hD'.m j hlt
       have hej := HEK.out j hlt
       have hbj := isN_bounds (HND.out j)
       have hlj : nl (dman (d j)).natAbs ≤ 1099511627776 := nl_lim (by omega)
       have HLf := fun W h => Lib.hid (left_any W (decide (dman (d j) < 0)) (A j) (nl (dman (d j)).natAbs) (C j) (dman (d j)).natAbs (dexp (d j) - E) h hlj (by omega) (by omega))
       obtain ⟨u, hu⟩ : ∃ u, u = up (dman (d j)) (dexp (d j)) E := ⟨_, rfl⟩
       have eu : shl (sgn (decide (dman (d j) < 0)) (dman (d j)).natAbs) (dexp (d j) - E) = u := by
        rw [sgn_self, hu]; unfold shl up; rw [if_pos (by omega)]
       rw [eu] at HLf
       have hub : blen u.natAbs ≤ 131072 := by rw [hu]; exact blen_dy (HND.out j) hmn1 hej
       have hSb := HSB.out j hj
       rw [← HS.out] at hSb
       obtain ⟨S', hS'⟩ : ∃ S', S' = S + u := ⟨_, rfl⟩
       have HAd := fun W b b' c c' h h' => Lib.hid (add_z W b b' c c' S u S' hS' h h' (nl_lim (by omega)) (nl_lim (by omega)))
       have hS2 : S' = smE d E (j + 1) := by rw [hS', HS.out, hu]; rfl
       have HS2 := Lib.hid hS2
       have hwr : IntKind.i64.wrap (dexp (d j) - E) = dexp (d j) - E := by rw [IntKind.wrap_i64]; omega
       have hbw : Below w.heap.size w wr := hb.trans (hr'.mono hb.size)
       have VI := Lib.hid hI
       clear hD' hu eu hub hSb hS' hS2 hbj hr'
       obtain ⟨sc0, sc1, sc2, sc3⟩ := hI
       go_wp2_with fail
       have B0 : Below w.heap.size w (wr.alloc (.cells #[.bool false, .bool (decide (dman (d j) < 0)), .slice (A j) (nl (dman (d j)).natAbs) (C j), .int .i64 (dexp (d j))] 46)) := hbw.alloc hbw.size _
       have Vs0 := Lib.hid (VI.out.alloc (.cells #[.bool false, .bool (decide (dman (d j) < 0)), .slice (A j) (nl (dman (d j)).natAbs) (C j), .int .i64 (dexp (d j))] 46))
       have Vt0 := Lib.hid (DyV.made wr 46 false (decide (dman (d j) < 0)) (.slice (A j) (nl (dman (d j)).natAbs) (C j)) (dexp (d j)))
       have MS0 := MS.alloc (.cells #[.bool false, .bool (decide (dman (d j) < 0)), .slice (A j) (nl (dman (d j)).natAbs) (C j), .int .i64 (dexp (d j))] 46)
       have MA0 := MA.alloc (.cells #[.bool false, .bool (decide (dman (d j) < 0)), .slice (A j) (nl (dman (d j)).natAbs) (C j), .int .i64 (dexp (d j))] 46)
       have hBz0 : Below z9 wo (wr.alloc (.cells #[.bool false, .bool (decide (dman (d j) < 0)), .slice (A j) (nl (dman (d j)).natAbs) (C j), .int .i64 (dexp (d j))] 46)) := hr.alloc (by have := hr.size; omega) _
       have hzz : z9 ≠ wr.heap.size := by have := VI.out.lt; omega
       generalize (wr.alloc (.cells #[.bool false, .bool (decide (dman (d j) < 0)), .slice (A j) (nl (dman (d j)).natAbs) (C j), .int .i64 (dexp (d j))] 46)) = w0 at B0 Vs0 Vt0 MS0 MA0 hBz0 ⊢
       generalize wr.heap.size = z11 at Vt0 hzz ⊢
       clear sc0 sc1 sc2 sc3 k0 k1 k2 k3 i1 MS MA VI hbw hr
       have Us := Vs0.out
       have Ut := Vt0.out
       obtain ⟨sc0, sc1, sc2, sc3⟩ := Us
       obtain ⟨tc0, tc1, tc2, tc3, tc4, tc5⟩ := Ut
       have hzz' : ¬ z11 = z9 := fun h => hzz h.symm
       have hzz2 : ¬ z9 = z11 := hzz
       first
       | go_region_with (first
        | (go_at_call 123; have xx := B1; refine (HAd _ aS au cS cu MS1.on Mu1.on).out.mono ?_; rintro e w2 ⟨av, cv, rfl, Mv2, hb2', hf2⟩; have hb2 := hb2'; have Vs2 : BgV w2 z9 (decide (S < 0)) (.slice aS (nl S.natAbs) cS) := (Vs1.out.on.below hb2); obtain ⟨sc0, sc1, sc2, sc3⟩ := Vs2; have Vs2 := Lib.hid (BgV.mk sc0 sc1 sc2 sc3); have Vt2 : DyV w2 z11 false (decide (dman (d j) < 0)) (.slice (A j) (nl (dman (d j)).natAbs) (C j)) (dexp (d j)) := (Vt1.out.on.below hb2); obtain ⟨tc0, tc1, tc2, tc3, tc4, tc5⟩ := Vt2; have Vt2 := Lib.hid (DyV.mk tc0 tc1 tc2 tc3 tc4 tc5); have B2 := below_box (w := w) (have := Beh.mk B1; zbh) hb2; have hsz1 := hBz1.size; have hBz2 : Below z9 wo w2 := Below.trans (by have hszw := (hBz1).size; repeat (with_reducible first | refine Below.setCell ?_ (by first | omega | (simp <;> omega)) _ | refine Below.alloc ?_ (by first | omega | (simp <;> omega)) _ | refine Below.drew ?_ | refine below_drewN ?_ _ | exact hBz1)) (hb2.mono (by first | exact Nat.le_refl _ | (simp; done) | omega | (simp <;> omega))); have hf3 : 0 < nl S'.natAbs → z9 < ab av := (fun h => by have := hf2 h; (try simp at this); have := Vs1.out.lt; omega); clear hb2 hb2')
        | (go_at_call 131; refine (HLf _ MA0.on).out.mono ?_; rintro e w1 ⟨au, cu, rfl, Mu1, hb1, hf1⟩; have Vs1 : BgV w1 z9 (decide (S < 0)) (.slice aS (nl S.natAbs) cS) := (Vs0.out.on.below hb1); obtain ⟨sc0, sc1, sc2, sc3⟩ := Vs1; have Vs1 := Lib.hid (BgV.mk sc0 sc1 sc2 sc3); have Vt1 : DyV w1 z11 false (decide (dman (d j) < 0)) (.slice (A j) (nl (dman (d j)).natAbs) (C j)) (dexp (d j)) := (Vt0.out.on.below hb1); obtain ⟨tc0, tc1, tc2, tc3, tc4, tc5⟩ := Vt1; have Vt1 := Lib.hid (DyV.mk tc0 tc1 tc2 tc3 tc4 tc5); have MS1 : Mag w1 aS (nl S.natAbs) cS S.natAbs := Mag.below MS0.on hb1; have B1 := below_box (w := w) (have := Beh.mk B0; zbh) hb1; have hsz0 := hBz0.size; have hBz1 : Below z9 wo w1 := Below.trans (by have hszw := (hBz0).size; repeat (with_reducible first | refine Below.setCell ?_ (by first | omega | (simp <;> omega)) _ | refine Below.alloc ?_ (by first | omega | (simp <;> omega)) _ | refine Below.drew ?_ | refine below_drewN ?_ _ | exact hBz0)) (hb1.mono (by first | exact Nat.le_refl _ | (simp; done) | omega | (simp <;> omega))); clear hb1 hf1)
        | fail)
       | fail "region"
       all_goals (
        go_wp2_with fail
        go_roundw
        case rel =>
         refine ⟨j + 1, S', av, cv, by omega, by go_num, HS2.out, ⟨by go_simp, by go_simp, fun i => by go_simp, by simpa using sc3⟩, ?_, (hBz2.setCell (Nat.le_refl _) _).setCell (Nat.le_refl _) _⟩
         exact (Mv2.set (fun h => by have := hf3 h; omega) _ _).set (fun h => by have := hf3 h; omega) _ _
        case measure => simp [intOf]; omega)
     · obtain rfl : j = k := by omega
       have hS := HS.out
       subst hS
       have V4 := VV.out.below hr'
       have hbw : Below w.heap.size w wr := hb.trans (hr'.mono hb.size)
       have V4' := Lib.hid V4
       obtain ⟨sc0, sc1, sc2, sc3⟩ := hI
       obtain ⟨p0, p1, p2, p3, p4, p5⟩ := V4
       go_wp2_with fail
       refine (HMk _ aS cS MS (hT.below hbw)).out.mono ?_
       rintro e w5 ⟨a5, c5, rfl, m5, hb5, hf5⟩
       have B5 := below_box (w := w) hbw hb5
       have V5 := V4'.out.below hb5
       have hf6 : 0 < nl (dman (dsum d j)).natAbs → w.heap.size < ab a5 := fun h => by have := hf5 h; have := V4'.out.lt; omega
       clear p0 p1 p2 p3 p4 p5 hb5 hf5
       generalize dsum d j = ds at *
       obtain ⟨p0, p1, p2, p3, p4, p5⟩ := V5
       go_wp2_with fail
       refine bodyPost_ret (v := .agg #[.bool (dbad ds), .bool (decide (dman ds < 0)), .slice a5 (nl (dman ds).natAbs) c5, .int .i64 (dexp ds)]) (by simp only [results, Tryz.results79]; go_simp) rfl ?_
       exact ⟨a5, c5, rfl, (by repeat (with_reducible first | refine Mag.set ?_ (fun h => by have := hf6 h; omega) _ _ | exact m5)), (have := Beh.mk B5; zbh), fun h => by have := hf6 h; omega⟩
end Go.Proofs.YtablcbgeeeboeaaGreatDoor

/-
  Walks: package accum: lists of floats; finite; the references' Finite, TwinFloats, Floats.
  Walks: package accum: Sum, products, sizes.
  Walks: package accum: products.
  Walks: package accum: Dot, Residual, rest, TwoSum, TwoMul, the norms.
  Walks: package accum: rest, TwoSum, TwoMul, the norms.
-/
import Derived.Test.YtgicceiimciafaaGreatDoorZwS3
import Derived.Test.YtgicceiimciafaaGreatDoorZwSU
import Derived.Test.YtgicceiimciafaaGreatDoorZwBh
import Derived.Test.YtgicceiimciafaaGreatDoorZwAP
import Derived.Test.YtgicceiimciafaaGreatDoorZwGO
import Derived.Deep.AppendLies
import Derived.Test.YtgicceiimciafaaGreatDoorZwGS
import Derived.Test.YtgicceiimciafaaGreatDoorZwGQ
set_option maxRecDepth 100000
set_option maxHeartbeats 8000000
namespace Go.Proofs.YtgicceiimciafaaGreatDoor
open Go.RowKit Sp
theorem undFl : Tryz.prog.underlying 22 = some (.slice (Tryz.prog.elem 22)) := by kernel_rfl
theorem sizFl (w : World) : (Go.sizeOf (Tryz.prog.elem 22)).run Tryz.prog w = .ok 1 w := by kernel_rfl
structure Fls (w : World) (a : Option Addr) (n cap : Nat) (L : Nat → Nat) : Prop where
 fits : n ≤ cap
 lim : cap ≤ 9223372036854775807
 addr : 0 < n → a = some ⟨ab a, ao a, none⟩
 cell : ∀ i, i < n → w.cell? ⟨ab a, ao a + i, none⟩ = some (.int .u64 (L i : Nat))
 b : ∀ i, i < n → L i < 18446744073709551616
 old : 0 < n → ab a < w.heap.size
theorem Fls.below {w w' : World} {a : Option Addr} {n cap : Nat} {L : Nat → Nat} (h : Fls w a n cap L) (hb : Below w.heap.size w w') : Fls w' a n cap L :=
 ⟨h.fits, h.lim, h.addr, fun i hi => by rw [hb.cell (p := ⟨ab a, ao a + i, none⟩) (h.old (by omega))]; exact h.cell i hi, h.b, fun hn => Nat.lt_of_lt_of_le (h.old hn) hb.size⟩
theorem Fls.idx {w : World} {a : Option Addr} {n cap : Nat} {L : Nat → Nat} (h : Fls w a n cap L) (i : Nat) (hi : i < n) (W : World) :
 (Instr.indexAt 22 (.slice a n cap) (.int .i64 i)).run Tryz.prog W = .ok (.pointer (some ⟨ab a, ao a + i, none⟩)) W := by
 have ha := h.addr (by omega)
 generalize ab a = b at *
 generalize ao a = o at *
 subst ha
 rw [run_indexAt_slice _ _ _ _ _ _ _ undFl, if_pos ⟨by omega, by omega⟩, sizFl]
 simp only [Result.andThen, Int.toNat_natCast, Nat.mul_one, Addr.add_lit]
def allfin (L : Nat → Nat) : Nat → Bool
 | 0 => true
 | k + 1 => allfin L k && ffin (L k)
theorem allfin_iff (L : Nat → Nat) (n : Nat) : allfin L n = true ↔ ∀ i, i < n → ffin (L i) = true := by
 induction n with
 | zero => simp [allfin]
 | succ n ih =>
  simp only [allfin, Bool.and_eq_true, ih]
  constructor
  · rintro ⟨h, h'⟩ i hi
    by_cases hin : i < n
    · exact h i hin
    · obtain rfl : i = n := by omega
      exact h'
  · intro h; exact ⟨fun i hi => h i (by omega), h n (by omega)⟩
theorem allfin_not {L : Nat → Nat} {n i : Nat} (hi : i < n) (h : ffin (L i) = false) : allfin L n = false := by
 cases hc : allfin L n with
 | false => rfl
 | true => rw [(allfin_iff L n).1 hc i hi] at h; cases h
theorem atest_any (w : World) (f : Nat) : Calls Tryz.prog 83 #[.int .u64 f] w fun e w' => e = .returned (.bool (!ffin f)) ∧ w = w' := by
 have HF := fun W => Lib.hid (ffin_any W f)
 generalize ffin f = v at *
 go_enter Tryz.func83, Tryz.ntmps83
 go_wp2_with fail
 (refine (HF _).out.mono ?_; rintro e w1 ⟨rfl, rfl⟩; go_wp2_with fail)
 go_ret
 exact ⟨rfl, rfl⟩
theorem aindex_any (w : World) (a : Option Addr) (n cap : Nat) (L : Nat → Nat) (fv : Value) (hf : fv = .func (.func 83) #[] #[]) (hL : Fls w a n cap L) :
 Calls Tryz.prog 132 #[.slice a n cap, fv] w fun e w' => (∃ i : Int, e = .returned (.int .i64 i) ∧ (decide (0 ≤ i)) = !allfin L n) ∧ w = w' := by
 have l1 := hL.lim
 have l2 := hL.fits
 have HL := Lib.hid hL
 clear hL
 subst hf
 go_enter Tryz.func132, Tryz.ntmps132
 go_wp2
 go_loop [8] (fun i => ∃ k : Nat, k ≤ n ∧ i = .int .i64 k ∧ allfin L k = true) (fun i => n - (intOf i).toNat)
 case atStart => exact ⟨0, by omega, rfl, rfl⟩
 case round =>
  obtain ⟨k, hk, rfl, hz⟩ := hrel
  have HZ := Lib.hid hz
  clear hz
  by_cases hlt : k < n
  · have c1 := HL.out.cell k hlt
    have i1 := HL.out.idx k hlt
    have HT := fun W => Lib.hid (atest_any W (L k))
    obtain ⟨v, hv⟩ : ∃ v, v = ffin (L k) := ⟨_, rfl⟩
    rw [← hv] at HT
    have HV := Lib.hid hv
    clear hv
    cases v with
    | false =>
     go_wp2_with fail
     (refine (HT _).out.mono ?_; rintro e w1 ⟨rfl, rfl⟩; go_wp2_with fail)
     go_ret
     refine ⟨⟨k, rfl, ?_⟩, rfl⟩
     rw [allfin_not hlt HV.out.symm]; simp
    | true =>
     go_wp2_with fail
     (refine (HT _).out.mono ?_; rintro e w1 ⟨rfl, rfl⟩; go_wp2_with fail)
     go_round
     case rel => exact ⟨k + 1, by omega, by go_num, by show (allfin L k && ffin (L k)) = true; rw [HZ.out, ← HV.out]; rfl⟩
     case measure => simp [intOf]; omega
  · obtain rfl : k = n := by omega
    go_wp2
    go_ret
    exact ⟨⟨-1, rfl, by rw [HZ.out]; rfl⟩, rfl⟩
theorem acontains_any (w : World) (a : Option Addr) (n cap : Nat) (L : Nat → Nat) (fv : Value) (hf : fv = .func (.func 83) #[] #[]) (hL : Fls w a n cap L) :
 Calls Tryz.prog 82 #[.slice a n cap, fv] w fun e w' => e = .returned (.bool (!allfin L n)) ∧ w = w' := by
 subst hf
 have HI := fun W h => Lib.hid (aindex_any W a n cap L _ rfl h)
 generalize allfin L n = v at *
 go_enter Tryz.func82, Tryz.ntmps82
 go_wp2_with fail
 refine (HI _ hL).out.mono ?_
 rintro e w' ⟨⟨i, rfl, hi⟩, rfl⟩
 go_wp2_with fail
 go_ret
 exact ⟨by simp, rfl⟩
theorem afinite_any (w : World) (a : Option Addr) (n cap : Nat) (L : Nat → Nat) (hL : Fls w a n cap L) :
 Calls Tryz.prog 38 #[.slice a n cap] w fun e w' => e = .returned (.bool (allfin L n)) ∧ w = w' := by
 have HI := fun W h => Lib.hid (acontains_any W a n cap L _ rfl h)
 generalize allfin L n = v at *
 go_enter Tryz.func38, Tryz.ntmps38
 go_wp2_with fail
 refine (HI _ hL).out.mono ?_
 rintro e w' ⟨rfl, rfl⟩
 go_wp2_with fail
 go_ret
 exact ⟨by simp, rfl⟩
theorem rfinite_any (w : World) (a : Option Addr) (n cap : Nat) (L : Nat → Nat) (hL : Fls w a n cap L) :
 Calls Tryz.prog 5 #[.slice a n cap] w fun e w' => e = .returned (.bool (allfin L n)) ∧ w = w' := by
 have l1 := hL.lim
 have l2 := hL.fits
 have HL := Lib.hid hL
 clear hL
 go_enter Tryz.func5, Tryz.ntmps5
 go_wp2
 go_loop [3] (fun i => ∃ k : Nat, k ≤ n ∧ i = .int .i64 k ∧ allfin L k = true) (fun i => n - (intOf i).toNat)
 case atStart => exact ⟨0, by omega, rfl, rfl⟩
 case round =>
  obtain ⟨k, hk, rfl, hz⟩ := hrel
  have HZ := Lib.hid hz
  clear hz
  by_cases hlt : k < n
  · have c1 := HL.out.cell k hlt
    have i1 := HL.out.idx k hlt
    have HT := fun W => Lib.hid (rfin_any W (L k))
    obtain ⟨v, hv⟩ : ∃ v, v = ffin (L k) := ⟨_, rfl⟩
    rw [← hv] at HT
    have HV := Lib.hid hv
    clear hv
    cases v with
    | false =>
     go_wp2_with fail
     (refine (HT _).out.mono ?_; rintro e w1 ⟨rfl, rfl⟩; go_wp2_with fail)
     go_ret
     exact ⟨by rw [allfin_not hlt HV.out.symm]; rfl, rfl⟩
    | true =>
     go_wp2_with fail
     (refine (HT _).out.mono ?_; rintro e w1 ⟨rfl, rfl⟩; go_wp2_with fail)
     go_round
     case rel => exact ⟨k + 1, by omega, by go_num, by show (allfin L k && ffin (L k)) = true; rw [HZ.out, ← HV.out]; rfl⟩
     case measure => simp [intOf]; omega
  · obtain rfl : k = n := by omega
    go_wp2
    go_ret
    exact ⟨by rw [HZ.out]; rfl, rfl⟩
def mcell (d : Nat → Option (Int × Int)) (A : Nat → Option Addr) (C : Nat → Nat) (i : Nat) : Value × Value × Value × Value :=
 (.bool (dbad (d i)), .bool (decide (dman (d i) < 0)), .slice (A i) (nl (dman (d i)).natAbs) (C i), .int .i64 (dexp (d i)))
structure Dms (w : World) (base : Nat) (v : Value) (k : Nat) (d : Nat → Option (Int × Int)) (A : Nat → Option Addr) (C : Nat → Nat) : Prop where
 own : w.ownsRow base 34 4 v k (dcells (mcell d A C) k)
 m : ∀ i, i < k → Mag w (A i) (nl (dman (d i)).natAbs) (C i) (dman (d i)).natAbs
 ap : ∀ i, i < k → 0 < nl (dman (d i)).natAbs → some (ab (A i)) ≠ v.ownBlock
theorem Dms.below {w w' : World} {base : Nat} {v : Value} {k : Nat} {d : Nat → Option (Int × Int)} {A : Nat → Option Addr} {C : Nat → Nat} (h : Dms w base v k d A C) (hb : Below w.heap.size w w') : Dms w' base v k d A C :=
 ⟨ownsRow_below h.own hb, fun i hi => (h.m i hi).below hb, h.ap⟩
theorem Dms.app {w w' : World} {base : Nat} {v v' : Value} {k : Nat} {d : Nat → Option (Int × Int)} {A : Nat → Option Addr} {C : Nat → Nat} {a1 : Option Addr} {c1 : Nat} (h : Dms w base v k d A C)
 (ho : w'.ownsRow base 34 4 v' (k + 1) (dcells (mcell d A C) k ++ [.bool (dbad (d k)), .bool (decide (dman (d k) < 0)), .slice a1 (nl (dman (d k)).natAbs) c1, .int .i64 (dexp (d k))]))
 (hg : w.grownBy w' v.ownBlock) (hv : v'.ownBlock = v.ownBlock ∨ v'.ownBlock = some w.heap.size) (hm : Mag w a1 (nl (dman (d k)).natAbs) c1 (dman (d k)).natAbs) (hne : 0 < nl (dman (d k)).natAbs → some (ab a1) ≠ v.ownBlock) :
 Dms w' base v' (k + 1) d (fun i => if i = k then a1 else A i) (fun i => if i = k then c1 else C i) := by
 have hap : ∀ (x : Option Addr) (n : Nat), (0 < n → ab x < w.heap.size) → (0 < n → some (ab x) ≠ v.ownBlock) → 0 < n → some (ab x) ≠ v'.ownBlock := fun x n h1 h2 h3 h4 => by
  rcases hv with hv | hv
  · rw [hv] at h4; exact h2 h3 h4
  · rw [hv] at h4; injection h4 with h4; have := h1 h3; omega
 refine ⟨?_, fun i hi => ?_, fun i hi => ?_⟩
 · have e1 : dcells (mcell d (fun i => if i = k then a1 else A i) (fun i => if i = k then c1 else C i)) k = dcells (mcell d A C) k := dcells_congr fun i hi => by
    unfold mcell; simp only [if_neg (show ¬ i = k by omega)]
   simp only [dcells]
   rw [e1]
   unfold mcell
   simp only [if_pos]
   exact ho
 · by_cases hk : i = k
   · subst hk; simp only [if_pos]; exact mag_grown hm hg hne
   · simp only [if_neg hk]; exact mag_grown (h.m i (by omega)) hg (h.ap i (by omega))
 · by_cases hk : i = k
   · subst hk; simp only [if_pos]; exact hap _ _ hm.old hne
   · simp only [if_neg hk]; exact hap _ _ (h.m i (by omega)).old (h.ap i (by omega))
theorem Dms.dys {w : World} {base : Nat} {v : Value} {k : Nat} {d : Nat → Option (Int × Int)} {A : Nat → Option Addr} {C : Nat → Nat} (h : Dms w base v k d A C) (hd : ∀ i, IsN (d i)) :
 ∃ a cap, v = .slice a k cap ∧ Dys w a k cap (fun i => ⟨dbad (d i), decide (dman (d i) < 0), A i, nl (dman (d i)).natAbs, C i, dexp (d i), (dman (d i)).natAbs⟩) := by
 have hbd : ∀ i, i < k → -9223372036854775808 ≤ dexp (d i) ∧ dexp (d i) ≤ 9223372036854775807 := fun i _ => by have := isN_bounds (hd i); omega
 rcases h.own.2 with ⟨hv, hk⟩ | ⟨g, cap, cur, hv, hbg, hgg, hkc, hcm, hcs, htake⟩
 · subst hk
   exact ⟨none, 0, hv, ⟨by omega, by omega, by omega, fun i hi => by omega, fun i hi => by omega, fun i hi => by omega, fun i hi => by omega, fun i hi => by omega, fun i hi => by omega, by omega⟩⟩
 · have ho := h.own
   rw [hv] at ho
   have hc : ∀ j, j < k * 4 → w.cell? ⟨g, j, none⟩ = (dcells (mcell d A C) k)[j]? := fun j hj => ho.cellAt j hj
   refine ⟨some ⟨g, 0, none⟩, cap, hv, hkc, by unfold maxLen at hcm; omega, fun _ => rfl, fun i hi => ?_, fun i hi => ?_, fun i hi => ?_, fun i hi => ?_, h.m, hbd, fun _ => (Array.getElem?_eq_some_iff.1 hgg).1⟩
   · rw [ab_some, ao_some, Nat.zero_add, hc _ (by omega)]; exact (dcells_get _ hi).1
   · rw [ab_some, ao_some, Nat.zero_add, hc _ (by omega)]; exact (dcells_get _ hi).2.1
   · rw [ab_some, ao_some, Nat.zero_add, hc _ (by omega)]; exact (dcells_get _ hi).2.2.1
   · rw [ab_some, ao_some, Nat.zero_add, hc _ (by omega)]; exact (dcells_get _ hi).2.2.2
theorem els_d {d : Nat → Option (Int × Int)} {A : Nat → Option Addr} {C : Nat → Nat} (hd : ∀ i, IsN (d i)) (n : Nat) :
 dsum (fun i => (El.mk (dbad (d i)) (decide (dman (d i) < 0)) (A i) (nl (dman (d i)).natAbs) (C i) (dexp (d i)) (dman (d i)).natAbs).d) n = dsum d n := by
 congr 1
 funext i
 show nrmB (dbad (d i)) (sgn (decide (dman (d i) < 0)) (dman (d i)).natAbs) (dexp (d i)) = d i
 rw [sgn_self]; exact isN_self (hd i)
theorem own_slice' {w : World} {base : Nat} {e : TypeId} {size : Nat} {v : Value} {n : Nat} {xs : List Value} (h : w.ownsRow base e size v n xs) : ∃ a c, v = .slice a n c := by
 rcases h.2 with ⟨rfl, rfl⟩ | ⟨g, cap, cur, rfl, _⟩
 · exact ⟨none, 0, rfl⟩
 · exact ⟨_, _, rfl⟩
theorem dms_sum {w : World} {base : Nat} {v : Value} {k : Nat} {d : Nat → Option (Int × Int)} {A : Nat → Option Addr} {C : Nat → Nat} (hT : Tab w) (h : Dms w base v k d A C) (hd : ∀ i, IsN (d i)) (hk : k ≤ 1048576) :
 ∃ a cap, v = .slice a k cap ∧ Calls Tryz.prog 39 #[.slice a k cap] w (RetDy w (dsum d k)) := by
 obtain ⟨a, cap, hv, hD⟩ := h.dys hd
 refine ⟨a, cap, hv, ?_⟩
 have s := dsum_any w hT a k cap _ hD hk (fun i hi => by
  have := isN_bounds (hd i)
  refine ⟨nl_lim (by omega), ?_⟩
  show blen (dman (d i)).natAbs ≤ 1048576
  omega)
 rwa [els_d hd] at s
theorem asum_any (w : World) (hT : Tab w) (a : Option Addr) (n cap : Nat) (L : Nat → Nat) (hL : Fls w a n cap L) (hn : n ≤ 1000) :
 Calls Tryz.prog 12 #[.slice a n cap] w (RetDy w (dsum (fun i => fof (L i)) n)) := by
 have l1 := hL.lim
 have l2 := hL.fits
 obtain ⟨d, hd⟩ : ∃ d : Nat → Option (Int × Int), d = fun i => fof (L i) := ⟨_, rfl⟩
 have hdi : ∀ i, d i = fof (L i) := fun i => by rw [hd]
 rw [← hd]
 have hNd : ∀ i, IsN (d i) := fun i => by rw [hdi]; exact isN_fof _
 have HO := fun (k : Nat) (hk : k < n) W ht => Lib.hid (show Calls Tryz.prog 47 #[.int .u64 (L k : Nat)] W (RetDy W (d k)) from by rw [hdi]; exact fof_any W (L k) (hL.b k hk) ht)
 have HLL := Lib.hid hL
 have HND := Lib.hid hNd
 clear hL hd hdi hNd
 go_enter Tryz.func12, Tryz.ntmps12
 go_wp2_with fail
 have I0 := DyV.made w 34 false false (.slice none 0 0) 0
 have B0 : Below w.heap.size w (w.alloc (.cells #[.bool false, .bool false, .slice none 0 0, .int .i64 0] 34)) := zbh
 have hown0 := World.ownsRow_nil (w.alloc (.cells #[.bool false, .bool false, .slice none 0 0, .int .i64 0] 34)) (w.heap.size + 1) 34 4
 have hsz : w.heap.size + 1 ≤ (w.alloc (.cells #[.bool false, .bool false, .slice none 0 0, .int .i64 0] 34)).heap.size := by rw [World.size_alloc]; omega
 generalize (w.alloc (.cells #[.bool false, .bool false, .slice none 0 0, .int .i64 0] 34)) = w0 at I0 B0 hown0 hsz ⊢
 go_loopw [3, 8] (fun v i wr => ∃ (k : Nat) (A : Nat → Option Addr) (C : Nat → Nat), k ≤ n ∧ i = .int .i64 k ∧ Dms wr (w.heap.size + 1) v k d A C ∧ DyV wr w.heap.size false false (.slice none 0 0) 0 ∧ Below w.heap.size w wr ∧ w.heap.size + 1 ≤ wr.heap.size) (fun _ i _ => n - (intOf i).toNat)
 case atStart => exact ⟨0, fun _ => none, fun _ => 0, by omega, rfl, ⟨hown0, fun i hi => by omega, fun i hi => by omega⟩, I0, B0, hsz⟩
 case round =>
  clear hown0 I0 B0 hsz
  obtain ⟨k, A, C, hk, rfl, hN, V0, hb, hsz⟩ := hrel
  have HNM := Lib.hid hN
  clear hN
  by_cases hlt : k < n
  · have hL' := HLL.out.below hb
    have k0 := hL'.cell k hlt
    have i1 := hL'.idx k hlt
    have HOk := HO k hlt
    generalize (((L k : Nat)) : Int) = x at k0 HOk
    obtain ⟨dk, hdk⟩ : ∃ dk, dk = d k := ⟨_, rfl⟩
    rw [← hdk] at HOk
    have HDK := Lib.hid hdk
    clear hL' hdk
    have VV := Lib.hid V0
    obtain ⟨p0, p1, p2, p3, p4, p5⟩ := V0
    go_wp2_with fail
    refine (HOk _ (hT.below hb)).out.mono ?_
    rintro e w1 ⟨a1, c1, rfl, m1, hb1, hf1⟩
    have hb2 := below_box (w := w) hb hb1
    have V1 := VV.out.below hb1
    have hs1 : wr.heap.size ≤ w1.heap.size := hb1.size
    have N1 : Dms w1 (w.heap.size + 1) u3 k d A C := HNM.out.below hb1
    have hne : 0 < nl (dman dk).natAbs → some (ab a1) ≠ u3.ownBlock := fun h0 h1 => by
     have h2 := (HNM.out.own.lt (ab a1) h1.symm).2
     have h3 := hf1 h0
     omega
    have VV1 := Lib.hid V1
    clear p0 p1 p2 p3 p4 p5
    obtain ⟨p0, p1, p2, p3, p4, p5⟩ := V1
    go_wp2_with (at_builtin; refine app_dyad rfl _ _ rfl (w.heap.size + 1) _ k _ rfl _ (dbad dk) (decide (dman dk < 0)) (.slice a1 (nl (dman dk).natAbs) c1) (dexp dk) rfl rfl (N1.own.alloc (.cells #[.bool (dbad dk), .bool (decide (dman dk < 0)), .slice a1 (nl (dman dk).natAbs) c1, .int .i64 (dexp dk)] 34)) (by go_simp) (by go_simp) (by go_simp) (by go_simp) (by omega) (by rw [World.size_alloc]; omega) ?_; intro v3 w3 hown3 hg3 hob3)
    have N3 : Dms (w1.alloc (.cells #[.bool (dbad dk), .bool (decide (dman dk < 0)), .slice a1 (nl (dman dk).natAbs) c1, .int .i64 (dexp dk)] 34)) (w.heap.size + 1) _ k d A C := N1.below ((Below.refl _ _).alloc (Nat.le_refl _) _)
    have hdk := HDK.out
    clear HDK
    subst hdk
    have N4 := N3.app hown3 hg3 hob3 (m1.alloc _) hne
    have V4 : DyV w3 w.heap.size false false (.slice none 0 0) 0 := by
     refine DyV.grown (VV1.out.alloc _) hg3 (fun h => ?_)
     have := (HNM.out.own.lt w.heap.size h.symm).1; omega
    have hB4 : Below w.heap.size w w3 := Below.trans (hb2.alloc hb2.size _) (Below.mono (below_grown N3.own hg3 (by rw [World.size_alloc]; omega)) (Nat.le_succ _))
    have hs4 : w.heap.size + 1 ≤ w3.heap.size := by have h9 := hg3.size; rw [World.size_alloc] at h9; omega
    go_roundw
    case rel => exact ⟨k + 1, _, _, by omega, by go_num, N4, V4, hB4, hs4⟩
    case measure => simp [intOf]; omega
  · obtain rfl : k = n := by omega
    obtain ⟨oa, ocap, hv, HSm⟩ := dms_sum (hT.below hb) HNM.out HND.out (by omega)
    subst hv
    have HS := Lib.hid HSm
    clear HSm
    have VV := Lib.hid V0
    obtain ⟨p0, p1, p2, p3, p4, p5⟩ := V0
    go_wp2_with fail
    refine HS.out.mono ?_
    rintro e w1 ⟨a1, c1, rfl, m1, hb1, hf1⟩
    have V1 := VV.out.below hb1
    have hB1 := below_box (w := w) hb hb1
    have hfr : 0 < nl (dman (dsum d k)).natAbs → w.heap.size < ab a1 := fun h => by have := hf1 h; omega
    clear p0 p1 p2 p3 p4 p5
    obtain ⟨p0, p1, p2, p3, p4, p5⟩ := V1
    generalize dsum d k = y at *
    go_wp2_with fail
    refine bodyPost_ret (v := .agg #[.bool (dbad y), .bool (decide (dman y < 0)), .slice a1 (nl (dman y).natAbs) c1, .int .i64 (dexp y)]) (by simp only [results, Tryz.results12]; go_simp) rfl ?_
    exact ⟨a1, c1, rfl, (by repeat (with_reducible first | refine Mag.set ?_ (fun h => by have := hfr h; omega) _ _ | refine Mag.drew ?_ | refine Mag.alloc ?_ _ | refine Mag.drewN ?_ _ | exact m1)), (by have hszw := (hB1).size; repeat (with_reducible first | refine Below.setCell ?_ (by first | omega | (simp <;> omega)) _ | refine Below.alloc ?_ (by first | omega | (simp <;> omega)) _ | refine Below.drew ?_ | refine below_drewN ?_ _ | exact hB1)), fun h => by have := hfr h; omega⟩
theorem step_app_dyad {ops : Array Oper} {o : Oper} {a : Act} {K : Act → World → Prop} {Q : Exit → Act → World → Prop} {w : World} {E : Prop} (hgd : o.guard = none) (s x : Operand)
 (ho : o.op = .call { callee := .builtin .append, args := #[s, x], argTypes := #[57, 57] }) (base : Nat) (v : Value) (n : Nat) (xs : List Value) (hs : a.eval s = v) (g : Nat) (b0 s0 : Bool) (sl : Value) (f0 : Int) (hsl : sl.oneCell' = true)
 (hx : a.eval x = .slice (some ⟨g, 0, none⟩) 1 1) (hown : w.ownsRow base 34 4 v n xs) (k0 : w.cell? ⟨g, 0, none⟩ = some (.bool b0)) (k1 : w.cell? ⟨g, 1, none⟩ = some (.bool s0)) (k2 : w.cell? ⟨g, 2, none⟩ = some sl) (k3 : w.cell? ⟨g, 3, none⟩ = some (.int .i64 f0)) (hn : n ≤ 1048576)
 (hbase : base ≤ w.heap.size) (h : ∀ g' cap' w', w'.ownsRow base 34 4 (.slice (some ⟨g', 0, none⟩) (n + 1) cap') (n + 1) (xs ++ [.bool b0, .bool s0, sl, .int .i64 f0]) → w.grownBy w' v.ownBlock → ((Value.slice (some ⟨g', 0, none⟩) (n + 1) cap').ownBlock = v.ownBlock ∨ (Value.slice (some ⟨g', 0, none⟩) (n + 1) cap').ownBlock = some w.heap.size) → K (a.put o.dst (.slice (some ⟨g', 0, none⟩) (n + 1) cap')) w') :
 if Region.wanted o (yielded ops a.tmps) = true then Oper.wp Tryz.prog o a w K Q else E := by
 obtain ⟨i0, hi, hz0, hz1, hz2⟩ := info_parts infD
 refine step_append_lies w hgd s x _ ho base _ i0 _ 4 48 undD hi hz0 hz1 hz2 rfl (by decide) v n xs hs hown ⟨g, 0, none⟩ 1 1 [.bool b0, .bool s0, sl, .int .i64 f0] hx rfl ?_ ?_ (by decide) (by unfold maxLen; omega) (by omega) hbase _ rfl (fun g' cap' w' h1 h2 h3 _ => h g' cap' w' h1 h2 ?_)
 · intro j u hu
   rw [Addr.add_lit, Nat.zero_add]
   rcases j with _ | _ | _ | _ | j
   · simp at hu; subst hu; exact k0
   · simp at hu; subst hu; exact k1
   · simp at hu; subst hu; exact k2
   · simp at hu; subst hu; exact k3
   · simp at hu
 · intro u hu
   simp only [List.mem_cons, List.not_mem_nil, or_false] at hu
   rcases hu with rfl | rfl | rfl | rfl
   · rfl
   · rfl
   · exact hsl
   · rfl
 · have e : (Value.slice (some ⟨g', 0, none⟩) (n + 1) cap').ownBlock = some g' := rfl
   rw [e]
   rcases h3 with h3 | h3
   · exact Or.inl h3.symm
   · exact Or.inr (by rw [h3])
theorem aproducts_any (w : World) (hT : Tab w) (a a' : Option Addr) (n cap cap' : Nat) (X Y : Nat → Nat) (hX : Fls w a n cap X) (hY : Fls w a' n cap' Y) (hn : n ≤ 1000) :
 Calls Tryz.prog 40 #[.slice a n cap, .slice a' n cap'] w fun e w' => ∃ v A C, e = .returned v ∧ Dms w' w.heap.size v n (fun i => dmul (fof (X i)) (fof (Y i))) A C ∧ Below w.heap.size w w' := by
 have l1 := hX.lim
 have l2 := hX.fits
 have l3 := hY.lim
 have l4 := hY.fits
 obtain ⟨d, hd⟩ : ∃ d : Nat → Option (Int × Int), d = fun i => dmul (fof (X i)) (fof (Y i)) := ⟨_, rfl⟩
 have hdi : ∀ i, d i = dmul (fof (X i)) (fof (Y i)) := fun i => by rw [hd]
 rw [← hd]
 have HO := fun (k : Nat) (hk : k < n) W ht => Lib.hid (fof_any W (X k) (hX.b k hk) ht)
 have HO' := fun (k : Nat) (hk : k < n) W ht => Lib.hid (fof_any W (Y k) (hY.b k hk) ht)
 have HM := fun (k : Nat) (dk : Option (Int × Int)) (hdk : dk = d k) W b c b' c' (h : Mag W b (nl (dman (fof (X k))).natAbs) c (dman (fof (X k))).natAbs) (h' : Mag W b' (nl (dman (fof (Y k))).natAbs) c' (dman (fof (Y k))).natAbs) ht => Lib.hid (show Calls Tryz.prog 86 #[.agg #[.bool (dbad (fof (X k))), .bool (decide (dman (fof (X k)) < 0)), .slice b (nl (dman (fof (X k))).natAbs) c, .int .i64 (dexp (fof (X k)))], .agg #[.bool (dbad (fof (Y k))), .bool (decide (dman (fof (Y k)) < 0)), .slice b' (nl (dman (fof (Y k))).natAbs) c', .int .i64 (dexp (fof (Y k)))]] W (RetDy W dk) from by rw [hdk, hdi]; exact dmul_any W _ _ _ _ _ _ _ _ _ _ _ _ _ _ (dyin_of (isN_fof (X k)) h) (dyin_of (isN_fof (Y k)) h') ht)
 have HLX := Lib.hid hX
 have HLY := Lib.hid hY
 clear hX hY hd hdi
 go_enter Tryz.func40, Tryz.ntmps40
 go_wp2_with fail
 have hown0 := World.ownsRow_nil w w.heap.size 34 4
 go_loopw [5, 10] (fun v i wr => ∃ (k : Nat) (A : Nat → Option Addr) (C : Nat → Nat), k ≤ n ∧ i = .int .i64 k ∧ Dms wr w.heap.size v k d A C ∧ Below w.heap.size w wr) (fun _ i _ => n - (intOf i).toNat)
 case atStart => exact ⟨0, fun _ => none, fun _ => 0, by omega, rfl, ⟨hown0, fun i hi => by omega, fun i hi => by omega⟩, Below.refl _ _⟩
 case round =>
  clear hown0
  obtain ⟨k, A, C, hk, rfl, hN, hb⟩ := hrel
  have HNM := Lib.hid hN
  clear hN
  by_cases hlt : k < n
  · have hXk := HLX.out.below hb
    have hYk := HLY.out.below hb
    have k0 := hXk.cell k hlt
    have i1 := hXk.idx k hlt
    have k1 := hYk.cell k hlt
    have i2 := hYk.idx k hlt
    have HYY := Lib.hid hYk
    have HOx := HO k hlt
    have HOy := HO' k hlt
    have HMk := HM k
    have hsz := hb.size
    have q1 : (0 : Int) ≤ (k : Int) := by omega
    have q2 : (k : Int) < (n : Int) := by omega
    obtain ⟨y, hy⟩ : ∃ y : Int, y = ((Y k : Nat) : Int) := ⟨_, rfl⟩
    rw [← hy] at k1 HOy
    have HY0 := Lib.hid hy
    generalize (((X k : Nat)) : Int) = x at k0 HOx
    generalize fof (X k) = dx at HOx HMk
    generalize fof (Y k) = dy at HOy HMk
    obtain ⟨dk, hdk⟩ : ∃ dk, dk = d k := ⟨_, rfl⟩
    have HMk := HMk dk hdk
    have HDK := Lib.hid hdk
    clear hXk hYk hdk hy
    go_wp2_with fail
    first
    | go_region_held3 (fun w' => w'.cell? ⟨ab a', ao a' + k, none⟩ = some (.int .u64 y)) (first | (go_keep; done) | (go_simp; done) | fail)
     (first
      | (go_at_call 47; have yy := M1; refine (HOy _ (hT.below (by have hszw := (B1).size; repeat (with_reducible first | refine Below.setCell ?_ (by first | omega | (simp <;> omega)) _ | refine Below.alloc ?_ (by first | omega | (simp <;> omega)) _ | refine Below.drew ?_ | refine below_drewN ?_ _ | exact B1)))).out.mono ?_; rintro e w2 ⟨a2, c2, rfl, m2, hb2, _⟩; have B2 := below_box (w := w) (by have hszw := (B1).size; repeat (with_reducible first | refine Below.setCell ?_ (by first | omega | (simp <;> omega)) _ | refine Below.alloc ?_ (by first | omega | (simp <;> omega)) _ | refine Below.drew ?_ | refine below_drewN ?_ _ | exact B1)) hb2; have k2 := (HLY.out.below B2).cell k hlt; rw [← HY0.out] at k2; have M1' : Mag w2 a1 (nl (dman dx).natAbs) c1 (dman dx).natAbs := Mag.below (by repeat (with_reducible first | refine Mag.drew ?_ | refine Mag.alloc ?_ _ | refine Mag.drewN ?_ _ | exact M1)) hb2; have N2 : Dms w2 w.heap.size u5 k d A C := Dms.below (Dms.below N1 (by repeat (with_reducible first | refine Below.drew ?_ | refine below_drewN ?_ _ | refine Below.alloc ?_ (Nat.le_refl _) _ | exact Below.refl _ _))) hb2; clear hb2)
      | (go_at_call 47; refine (HOx _ (hT.below (by have hszw := (hb).size; repeat (with_reducible first | refine Below.setCell ?_ (by first | omega | (simp <;> omega)) _ | refine Below.alloc ?_ (by first | omega | (simp <;> omega)) _ | refine Below.drew ?_ | refine below_drewN ?_ _ | exact hb)))).out.mono ?_; rintro e w1 ⟨a1, c1, rfl, M1, hb1, _⟩; have B1 := below_box (w := w) (by have hszw := (hb).size; repeat (with_reducible first | refine Below.setCell ?_ (by first | omega | (simp <;> omega)) _ | refine Below.alloc ?_ (by first | omega | (simp <;> omega)) _ | refine Below.drew ?_ | refine below_drewN ?_ _ | exact hb)) hb1; have k1 := (HLY.out.below B1).cell k hlt; rw [← HY0.out] at k1; have N1 : Dms w1 w.heap.size u5 k d A C := Dms.below (Dms.below HNM.out (by repeat (with_reducible first | refine Below.drew ?_ | refine below_drewN ?_ _ | refine Below.alloc ?_ (Nat.le_refl _) _ | exact Below.refl _ _))) hb1; clear hb1)
      | (go_at_call 86; refine (HMk _ a1 c1 a2 c2 (by repeat (with_reducible first | refine Mag.drew ?_ | refine Mag.alloc ?_ _ | refine Mag.drewN ?_ _ | exact M1')) (by repeat (with_reducible first | refine Mag.drew ?_ | refine Mag.alloc ?_ _ | refine Mag.drewN ?_ _ | exact m2)) (hT.below (by have hszw := (B2).size; repeat (with_reducible first | refine Below.setCell ?_ (by first | omega | (simp <;> omega)) _ | refine Below.alloc ?_ (by first | omega | (simp <;> omega)) _ | refine Below.drew ?_ | refine below_drewN ?_ _ | exact B2)))).out.mono ?_; rintro e w3 ⟨a3, c3, rfl, m3, hb3, hf3⟩; have B3 := below_box (w := w) (by have hszw := (B2).size; repeat (with_reducible first | refine Below.setCell ?_ (by first | omega | (simp <;> omega)) _ | refine Below.alloc ?_ (by first | omega | (simp <;> omega)) _ | refine Below.drew ?_ | refine below_drewN ?_ _ | exact B2)) hb3; have k3 := (HLY.out.below B3).cell k hlt; rw [← HY0.out] at k3; have N3 : Dms w3 w.heap.size u5 k d A C := Dms.below (Dms.below N2 (by repeat (with_reducible first | refine Below.drew ?_ | refine below_drewN ?_ _ | refine Below.alloc ?_ (Nat.le_refl _) _ | exact Below.refl _ _))) hb3; have hne : 0 < nl (dman dk).natAbs → some (ab a3) ≠ u5.ownBlock := fun h0 h1 => (by have h2 := (N2.own.lt (ab a3) h1.symm).2; have h3 := hf3 h0; (try simp at h3); omega); clear hb3 hf3)
      | ((refine step_app_dyad (by rfl) _ _ (by rfl) w.heap.size u5 k (dcells (mcell d A C) k) (by rfl) _ (dbad dk) (decide (dman dk < 0)) (.slice a3 (nl (dman dk).natAbs) c3) (dexp dk) (by rfl) (by rfl) (N3.own.alloc (.cells #[.bool (dbad dk), .bool (decide (dman dk < 0)), .slice a3 (nl (dman dk).natAbs) c3, .int .i64 (dexp dk)] 34)) (by go_simp) (by go_simp) (by go_simp) (by go_simp) (by omega) (by have := B3.size; rw [World.size_alloc]; omega) ?_; intro g4 cap4 w4 hown4 hg4 hob4; have N4 : Dms (w3.alloc (.cells #[.bool (dbad dk), .bool (decide (dman dk < 0)), .slice a3 (nl (dman dk).natAbs) c3, .int .i64 (dexp dk)] 34)) w.heap.size u5 k d A C := N3.below ((Below.refl _ _).alloc (Nat.le_refl _) _); have hs3 := B3.size; have B4 : Below w.heap.size w w4 := Below.trans (B3.alloc B3.size _) (below_grown N4.own hg4 (by rw [World.size_alloc]; omega)); have k4 := (HLY.out.below B4).cell k hlt; rw [← HY0.out] at k4; skip))
      | fail)
    | fail "region"
    all_goals (
     go_wp2_with fail
     have hdk := HDK.out
     clear HDK
     subst hdk
     have N5 := N4.app hown4 hg4 hob4 (m3.alloc _) hne
     go_roundw
     case rel => exact ⟨k + 1, _, _, by omega, by go_num, N5, B4⟩
     case measure => simp [intOf]; omega)
  · obtain rfl : k = n := by omega
    obtain ⟨oa, ocap, hv⟩ := own_slice' HNM.out.own
    subst hv
    go_wp2_with fail
    refine bodyPost_ret (v := .slice oa k ocap) (by simp only [results, Tryz.results40]; go_simp) rfl ?_
    exact ⟨_, A, C, rfl, HNM.out, hb⟩
def RetDyE (w : World) (d : Option (Int × Int)) (er : Int) (e : Ending) (w' : World) : Prop :=
 ∃ a cap, e = .returned (.tuple #[.agg #[.bool (dbad d), (.bool (decide (dman d < 0))), .slice a (nl (dman d).natAbs) cap, .int .i64 (dexp d)], .int .i64 er]) ∧ Mag w' a (nl (dman d).natAbs) cap (dman d).natAbs ∧ Below w.heap.size w w' ∧ (0 < nl (dman d).natAbs → w.heap.size ≤ ab a)
theorem adot_len (w : World) (_hT : Tab w) (a a' : Option Addr) (n m cap cap' : Nat) (X Y : Nat → Nat) (hX : Fls w a n cap X) (hY : Fls w a' m cap' Y) (hnm : n ≠ m) :
 Calls Tryz.prog 9 #[.slice a n cap, .slice a' m cap'] w (RetDyE w (some (0, 0)) 2) := by
 have l1 := hX.lim
 have l2 := hX.fits
 have l3 := hY.lim
 have l4 := hY.fits
 have hq : (((n : Nat) : Int) != ((m : Nat) : Int)) = true := by rw [bne_iff_ne]; omega
 clear hnm
 go_enter Tryz.func9, Tryz.ntmps9
 go_wp2_with fail
 have Ir := (DyV.made' w 34 false false (.slice none 0 0) 0 (n := w.heap.size) (by rfl))
 have B0 : Below w.heap.size w (w.alloc (.cells #[.bool false, .bool false, (.slice none 0 0), .int .i64 0] 34)) := zbh
 generalize (w.alloc (.cells #[.bool false, .bool false, (.slice none 0 0), .int .i64 0] 34)) = w0 at Ir B0 ⊢
 generalize hb0 : w.heap.size = b0 at Ir ⊢
 obtain ⟨rc0, rc1, rc2, rc3, rc4, rc5⟩ := Ir
 have Vr0 := Lib.hid (DyV.mk rc0 rc1 rc2 rc3 rc4 rc5)
 refine bodyPost_ret (v := .tuple #[.agg #[.bool false, .bool false, .slice none 0 0, .int .i64 0], .int .i64 2]) (by simp only [results, Tryz.results9]; go_simp) rfl ?_
 exact ⟨none, 0, rfl, Mag.nil _, (have := Beh.mk B0; zbh), nl0⟩
theorem adot_fx (w : World) (_hT : Tab w) (a a' : Option Addr) (n m cap cap' : Nat) (X Y : Nat → Nat) (hX : Fls w a n cap X) (hY : Fls w a' m cap' Y) (hnm : n = m) (hfx : allfin X n = false) :
 Calls Tryz.prog 9 #[.slice a n cap, .slice a' m cap'] w (RetDyE w (some (0, 0)) 4) := by
 have l1 := hX.lim
 have l2 := hX.fits
 have l3 := hY.lim
 have l4 := hY.fits
 have hq : (((n : Nat) : Int) != ((m : Nat) : Int)) = false := by rw [hnm]; simp
 clear hnm
 have HFx := fun W h => Lib.hid (afinite_any W a n cap X h)
 rw [hfx] at HFx
 go_enter Tryz.func9, Tryz.ntmps9
 go_wp2_with fail
 have Ir := (DyV.made' w 34 false false (.slice none 0 0) 0 (n := w.heap.size) (by rfl))
 have B0 : Below w.heap.size w (w.alloc (.cells #[.bool false, .bool false, (.slice none 0 0), .int .i64 0] 34)) := zbh
 generalize (w.alloc (.cells #[.bool false, .bool false, (.slice none 0 0), .int .i64 0] 34)) = w0 at Ir B0 ⊢
 generalize hb0 : w.heap.size = b0 at Ir ⊢
 obtain ⟨rc0, rc1, rc2, rc3, rc4, rc5⟩ := Ir
 have Vr0 := Lib.hid (DyV.mk rc0 rc1 rc2 rc3 rc4 rc5)
 refine (HFx _ (hX.below (have := Beh.mk B0; zbh))).out.mono ?_
 rintro e w1 ⟨rfl, rfl⟩
 go_wp2_with fail
 refine bodyPost_ret (v := .tuple #[.agg #[.bool false, .bool false, .slice none 0 0, .int .i64 0], .int .i64 4]) (by simp only [results, Tryz.results9]; go_simp) rfl ?_
 exact ⟨none, 0, rfl, Mag.nil _, (by have hszw := (B0).size; repeat (with_reducible first | refine Below.setCell ?_ (by first | omega | (simp <;> omega)) _ | refine Below.alloc ?_ (by first | omega | (simp <;> omega)) _ | refine Below.drew ?_ | refine below_drewN ?_ _ | exact B0)), nl0⟩
theorem adot_fy (w : World) (_hT : Tab w) (a a' : Option Addr) (n m cap cap' : Nat) (X Y : Nat → Nat) (hX : Fls w a n cap X) (hY : Fls w a' m cap' Y) (hnm : n = m) (hfx : allfin X n = true) (hfy : allfin Y m = false) :
 Calls Tryz.prog 9 #[.slice a n cap, .slice a' m cap'] w (RetDyE w (some (0, 0)) 4) := by
 have l1 := hX.lim
 have l2 := hX.fits
 have l3 := hY.lim
 have l4 := hY.fits
 have hq : (((n : Nat) : Int) != ((m : Nat) : Int)) = false := by rw [hnm]; simp
 clear hnm
 have HFx := fun W h => Lib.hid (afinite_any W a n cap X h)
 have HFy := fun W h => Lib.hid (afinite_any W a' m cap' Y h)
 rw [hfx] at HFx
 rw [hfy] at HFy
 go_enter Tryz.func9, Tryz.ntmps9
 go_wp2_with fail
 have Ir := (DyV.made' w 34 false false (.slice none 0 0) 0 (n := w.heap.size) (by rfl))
 have B0 : Below w.heap.size w (w.alloc (.cells #[.bool false, .bool false, (.slice none 0 0), .int .i64 0] 34)) := zbh
 generalize (w.alloc (.cells #[.bool false, .bool false, (.slice none 0 0), .int .i64 0] 34)) = w0 at Ir B0 ⊢
 generalize hb0 : w.heap.size = b0 at Ir ⊢
 obtain ⟨rc0, rc1, rc2, rc3, rc4, rc5⟩ := Ir
 have Vr0 := Lib.hid (DyV.mk rc0 rc1 rc2 rc3 rc4 rc5)
 refine (HFx _ (hX.below (have := Beh.mk B0; zbh))).out.mono ?_
 rintro e w1 ⟨rfl, rfl⟩
 go_wp2_with fail
 refine (HFy _ (hY.below (have := Beh.mk B0; zbh))).out.mono ?_
 rintro e w1 ⟨rfl, rfl⟩
 go_wp2_with fail
 refine bodyPost_ret (v := .tuple #[.agg #[.bool false, .bool false, .slice none 0 0, .int .i64 0], .int .i64 4]) (by simp only [results, Tryz.results9]; go_simp) rfl ?_
 exact ⟨none, 0, rfl, Mag.nil _, (by have hszw := (B0).size; repeat (with_reducible first | refine Below.setCell ?_ (by first | omega | (simp <;> omega)) _ | refine Below.alloc ?_ (by first | omega | (simp <;> omega)) _ | refine Below.drew ?_ | refine below_drewN ?_ _ | exact B0)), nl0⟩
theorem adot_ok (w : World) (hT : Tab w) (a a' : Option Addr) (n m cap cap' : Nat) (X Y : Nat → Nat) (hX : Fls w a n cap X) (hY : Fls w a' m cap' Y) (hnm : n = m) (hn : n ≤ 1000) (hfx : allfin X n = true) (hfy : allfin Y m = true) (d : Option (Int × Int)) (hd : d = ddot X Y n) :
 Calls Tryz.prog 9 #[.slice a n cap, .slice a' m cap'] w (RetDyE w d 0) := by
 have l1 := hX.lim
 have l2 := hX.fits
 have l3 := hY.lim
 have l4 := hY.fits
 subst hnm
 have hq : (((n : Nat) : Int) != ((n : Nat) : Int)) = false := by simp
 have HFx := fun W h => Lib.hid (afinite_any W a n cap X h)
 have HFy := fun W h => Lib.hid (afinite_any W a' n cap' Y h)
 rw [hfx] at HFx
 rw [hfy] at HFy
 have HP := fun W ht h h' => Lib.hid (aproducts_any W ht a a' n cap cap' X Y h h' hn)
 have HND : ∀ i, IsN ((fun i => dmul (fof (X i)) (fof (Y i))) i) := fun i => isN_mul _ _
 have HD0 := Lib.hid hd
 clear hd
 go_enter Tryz.func9, Tryz.ntmps9
 go_wp2_with fail
 have Ir := (DyV.made' w 34 false false (.slice none 0 0) 0 (n := w.heap.size) (by rfl))
 have B0 : Below w.heap.size w (w.alloc (.cells #[.bool false, .bool false, (.slice none 0 0), .int .i64 0] 34)) := zbh
 generalize (w.alloc (.cells #[.bool false, .bool false, (.slice none 0 0), .int .i64 0] 34)) = w0 at Ir B0 ⊢
 generalize hb0 : w.heap.size = b0 at Ir ⊢
 obtain ⟨rc0, rc1, rc2, rc3, rc4, rc5⟩ := Ir
 have Vr0 := Lib.hid (DyV.mk rc0 rc1 rc2 rc3 rc4 rc5)
 refine (HFx _ (hX.below (have := Beh.mk B0; zbh))).out.mono ?_
 rintro e w1 ⟨rfl, rfl⟩
 go_wp2_with fail
 refine (HFy _ (hY.below (have := Beh.mk B0; zbh))).out.mono ?_
 rintro e w1 ⟨rfl, rfl⟩
 go_wp2_with fail
 refine (HP _ (hT.below (have := Beh.mk B0; zbh)) (hX.below (have := Beh.mk B0; zbh)) (hY.below (have := Beh.mk B0; zbh))).out.mono ?_
 rintro e w1 ⟨v, A, C, rfl, hD1, hb1⟩
 have Vr1 : DyV w1 b0 false false (.slice none 0 0) 0 := (Vr0.out.on.below hb1)
 (try clear rc0 rc1 rc2 rc3 rc4)
 obtain ⟨rc0, rc1, rc2, rc3, rc4, rc5⟩ := Vr1
 have Vr1 := Lib.hid (DyV.mk rc0 rc1 rc2 rc3 rc4 rc5)
 have B1 := below_box (w := w) (have := Beh.mk B0; zbh) hb1
 clear hb1
 obtain ⟨oa, ocap, rfl, HSm⟩ := dms_sum (hT.below B1) hD1 HND (by omega)
 have HS := Lib.hid (show Calls Tryz.prog 39 #[.slice oa n ocap] w1 (RetDy w1 d) from by rw [HD0.out]; exact HSm)
 clear HSm hD1 HND
 go_wp2_with fail
 refine (HS).out.mono ?_
 rintro e w2 ⟨ad, cd, rfl, Md2, hb2, hf2⟩
 have Vr2 : DyV w2 b0 false false (.slice none 0 0) 0 := (Vr1.out.on.below hb2)
 (try clear rc0 rc1 rc2 rc3 rc4)
 obtain ⟨rc0, rc1, rc2, rc3, rc4, rc5⟩ := Vr2
 have Vr2 := Lib.hid (DyV.mk rc0 rc1 rc2 rc3 rc4 rc5)
 have B2 := below_box (w := w) (have := Beh.mk B1; zbh) hb2
 have hF2 : 0 < (nl (dman d).natAbs) → w1.heap.size ≤ ab ad := (fun h => by have hq := hf2 h; (try simp at hq); omega)
 have frdr : 0 < (nl (dman d).natAbs) → ab ad ≠ b0 := (fun h => by have := hF2 h; have := Vr1.out.lt; omega)
 have fod : 0 < (nl (dman d).natAbs) → w.heap.size ≤ ab ad := (fun h => by have := hF2 h; have := B1.size; omega)
 clear hF2
 clear hb2 hf2
 go_wp2_with fail
 refine bodyPost_ret (v := .tuple #[.agg #[.bool (dbad d), .bool (decide (dman d < 0)), .slice ad (nl (dman d).natAbs) cd, .int .i64 (dexp d)], .int .i64 0]) (by simp only [results, Tryz.results9]; go_simp) rfl ?_
 exact ⟨ad, cd, rfl, (by repeat (with_reducible first | refine Mag.set ?_ frdr _ _ | refine Mag.drew ?_ | refine Mag.drewN ?_ _ | refine Mag.alloc ?_ _ | exact Md2)), (by have hszw := (B2).size; repeat (with_reducible first | refine Below.setCell ?_ (by first | omega | (simp <;> omega)) _ | refine Below.alloc ?_ (by first | omega | (simp <;> omega)) _ | refine Below.drew ?_ | refine below_drewN ?_ _ | exact B2)), fod⟩
def dotE (X Y : Nat → Nat) (n m : Nat) : Int := if n ≠ m then 2 else if allfin X n && allfin Y m then 0 else 4
def dotD (X Y : Nat → Nat) (n m : Nat) : Option (Int × Int) := if dotE X Y n m = 0 then ddot X Y n else some (0, 0)
theorem isN_sum (d : Nat → Option (Int × Int)) (n : Nat) : IsN (dsum d n) := by
 unfold dsum; split
 · exact isN_none
 · exact isN_nrm _ _
theorem adot_any (w : World) (hT : Tab w) (a a' : Option Addr) (n m cap cap' : Nat) (X Y : Nat → Nat) (hX : Fls w a n cap X) (hY : Fls w a' m cap' Y) (hn : n ≤ 1000) :
 Calls Tryz.prog 9 #[.slice a n cap, .slice a' m cap'] w (RetDyE w (dotD X Y n m) (dotE X Y n m)) := by
 by_cases hnm : n = m
 · cases hfx : allfin X n with
   | false =>
    have e : dotE X Y n m = 4 := by unfold dotE; rw [if_neg (fun h => h hnm), hfx]; rfl
    have e2 : dotD X Y n m = some (0, 0) := by unfold dotD; rw [e]; rfl
    rw [e, e2]; exact adot_fx w hT a a' n m cap cap' X Y hX hY hnm hfx
   | true =>
    cases hfy : allfin Y m with
    | false =>
     have e : dotE X Y n m = 4 := by unfold dotE; rw [if_neg (fun h => h hnm), hfx, hfy]; rfl
     have e2 : dotD X Y n m = some (0, 0) := by unfold dotD; rw [e]; rfl
     rw [e, e2]; exact adot_fy w hT a a' n m cap cap' X Y hX hY hnm hfx hfy
    | true =>
     have e : dotE X Y n m = 0 := by unfold dotE; rw [if_neg (fun h => h hnm), hfx, hfy]; rfl
     have e2 : dotD X Y n m = ddot X Y n := by unfold dotD; rw [e]; rfl
     rw [e, e2]; exact adot_ok w hT a a' n m cap cap' X Y hX hY hnm hn hfx hfy _ rfl
 · have e : dotE X Y n m = 2 := by unfold dotE; rw [if_pos hnm]
   have e2 : dotD X Y n m = some (0, 0) := by unfold dotD; rw [e]; rfl
   rw [e, e2]; exact adot_len w hT a a' n m cap cap' X Y hX hY hnm
theorem fround_lt2 (d : Option (Int × Int)) (mode : Int) : fround d mode < 18446744073709551616 := by
 unfold fround; split
 · decide
 · split
   · decide
   · exact fcut_lt _ _ _
theorem fadd_lt2 {a b : Nat} (ha : a < 18446744073709551616) (hb : b < 18446744073709551616) (mode : Int) : fadd a b mode < 18446744073709551616 := by
 unfold fadd
 repeat' split
 all_goals first | assumption | decide | exact fround_lt2 _ _ | exact (fsgn_lt (by decide))
theorem frest_lt (s : Nat) (x : Option (Int × Int)) : frest s x < 18446744073709551616 := by
 unfold frest fround; split
 · decide
 · split
   · decide
   · exact fcut_lt _ _ _
theorem arest_no (w : World) (hT : Tab w) (f : Nat) (hf : f < 18446744073709551616) (d : Option (Int × Int)) (hN : IsN d) (a : Option Addr) (c : Nat) (hx : Mag w a (nl (dman d).natAbs) c (dman d).natAbs) (h : (!dbad (fof (frest f d)) && !dbad (dadd d (dneg (fof f)))) = false) :
 Calls Tryz.prog 81 #[.int .u64 f, .agg #[.bool (dbad d), .bool (decide (dman d < 0)), .slice a (nl (dman d).natAbs) c, .int .i64 (dexp d)]] w fun o w' => o = .returned (.tuple #[.int .u64 0, .int .u64 0, .bool false]) ∧ Below w.heap.size w w' := by
 have HO := fun W ht => Lib.hid (fof_any W f hf ht)
 have HOt := fun W ht => Lib.hid (fof_any W (frest f d) (frest_lt f d) ht)
 have N1 := isN_fof f
 have N2 := isN_fof (frest f d)
 have N3 := isN_rest f d
 have HS := fun W b1 q1 b2 q2 (h1 : Mag W b1 (nl (dman d).natAbs) q1 (dman d).natAbs) (h2 : Mag W b2 (nl (dman (fof f)).natAbs) q2 (dman (fof f)).natAbs) ht => Lib.hid (show Calls Tryz.prog 130 #[.agg #[.bool (dbad d), .bool (decide (dman d < 0)), .slice b1 (nl (dman d).natAbs) q1, .int .i64 (dexp d)], .agg #[.bool (dbad (fof f)), .bool (decide (dman (fof f) < 0)), .slice b2 (nl (dman (fof f)).natAbs) q2, .int .i64 (dexp (fof f))]] W (RetDy W (dadd d (dneg (fof f)))) from dsub_any W _ _ _ _ _ _ _ _ _ _ _ _ _ _ (dyin_of hN h1) (dyin_of N1 h2) ht)
 have HR := fun W b1 q1 (h1 : Mag W b1 (nl (dman (dadd d (dneg (fof f)))).natAbs) q1 (dman (dadd d (dneg (fof f)))).natAbs) ht => Lib.hid (show Calls Tryz.prog 105 #[.agg #[.bool (dbad (dadd d (dneg (fof f)))), .bool (decide (dman (dadd d (dneg (fof f))) < 0)), .slice b1 (nl (dman (dadd d (dneg (fof f)))).natAbs) q1, .int .i64 (dexp (dadd d (dneg (fof f))))], .int .i64 0] W fun o w' => o = .returned (.int .u64 (frest f d : Nat)) ∧ Below W.heap.size W w' from fround_any W _ _ _ _ _ _ 0 _ (dyin_of N3 h1) ht)
 have HC := fun W b1 q1 b2 q2 (h1 : Mag W b1 (nl (dman (fof (frest f d))).natAbs) q1 (dman (fof (frest f d))).natAbs) (h2 : Mag W b2 (nl (dman (dadd d (dneg (fof f)))).natAbs) q2 (dman (dadd d (dneg (fof f)))).natAbs) ht => Lib.hid (dcmp_any W _ _ _ _ _ _ _ _ _ _ _ _ _ _ (dyin_of N2 h1) (dyin_of N3 h2) ht)
 obtain ⟨ok, hok⟩ : ∃ ok, ok = (!dbad (fof (frest f d)) && !dbad (dadd d (dneg (fof f)))) := ⟨_, rfl⟩
 obtain ⟨v, hv⟩ : ∃ v, v = dcmp (fof (frest f d)) (dadd d (dneg (fof f))) := ⟨_, rfl⟩
 rw [← hok, ← hv] at HC
 rw [h] at hok
 subst hok
 clear hN N1 N2 N3 h hv hf
 generalize dadd d (dneg (fof f)) = y at *
 generalize fof (frest f d) = dt at *
 generalize ((frest f d : Nat) : Int) = tt at *
 generalize fof f = df at *
 go_enter Tryz.func81, Tryz.ntmps81
 go_wp2_with fail
 have Ix := (DyV.made' w 34 (dbad d) (decide (dman d < 0)) (.slice a (nl (dman d).natAbs) c) (dexp d) (n := w.heap.size) (by rfl))
 have B0 : Below w.heap.size w (w.alloc (.cells #[.bool (dbad d), .bool (decide (dman d < 0)), (.slice a (nl (dman d).natAbs) c), .int .i64 (dexp d)] 34)) := zbh
 generalize (w.alloc (.cells #[.bool (dbad d), .bool (decide (dman d < 0)), (.slice a (nl (dman d).natAbs) c), .int .i64 (dexp d)] 34)) = w0 at Ix B0 ⊢
 generalize hb0 : w.heap.size = b0 at Ix ⊢
 obtain ⟨xc0, xc1, xc2, xc3, xc4, xc5⟩ := Ix
 have Vx0 := Lib.hid (DyV.mk xc0 xc1 xc2 xc3 xc4 xc5)
 go_cut [7] (fun pty wx => ∃ zy ay cy, pty = .pointer (some ⟨zy, 0, none⟩) ∧ Below w0.heap.size w0 wx ∧ w0.heap.size ≤ zy ∧ (0 < (nl (dman y).natAbs) → w0.heap.size ≤ ab ay) ∧ DyV wx zy (dbad y) (decide (dman y < 0)) (.slice ay (nl (dman y).natAbs) cy) (dexp y) ∧ Mag wx ay (nl (dman y).natAbs) cy (dman y).natAbs)
 case first =>
  have hBz0 : Below w0.heap.size w0 w0 := Below.refl _ _
  go_region_held3 (fun w' => w'.cell? ⟨b0, 0, none⟩ = some (.bool (dbad d)) ∧ w'.cell? ⟨b0, 1, none⟩ = some (.bool (decide (dman d < 0))) ∧ w'.cell? ⟨b0, 2, none⟩ = some ((.slice a (nl (dman d).natAbs) c)) ∧ w'.cell? ⟨b0, 3, none⟩ = some (.int .i64 (dexp d))) (first | (go_keep; done) | (go_simp; done))
   (first
    | (go_at_call 130; have xx := B1; refine (HS _ a c a1 c1 (hx.below (by have hszw := (B1).size; repeat (with_reducible first | refine Below.setCell ?_ (by first | omega | (simp <;> omega)) _ | refine Below.alloc ?_ (by first | omega | (simp <;> omega)) _ | refine Below.drew ?_ | refine below_drewN ?_ _ | exact B1))) (by repeat (with_reducible first | refine Mag.set ?_ (fun h => by have := M11 h; omega) _ _ | refine Mag.drew ?_ | refine Mag.alloc ?_ _ | refine Mag.drewN ?_ _ | exact M11)) (hT.below (by have hszw := (B1).size; repeat (with_reducible first | refine Below.setCell ?_ (by first | omega | (simp <;> omega)) _ | refine Below.alloc ?_ (by first | omega | (simp <;> omega)) _ | refine Below.drew ?_ | refine below_drewN ?_ _ | exact B1)))).out.mono ?_; rintro e w2 ⟨ay, cy, rfl, My2, hb2, hf2⟩; have hs2 := hb2.size; (try simp at hs2 hf2); have o2 := My2.old; have Vx2 : DyV w2 b0 (dbad d) (decide (dman d < 0)) (.slice a (nl (dman d).natAbs) c) (dexp d) := (by refine DyV.below ?_ hb2; (repeat (with_reducible first | refine DyV.drew ?_ | refine DyV.drewN ?_ _ | refine DyV.alloc ?_ _)); exact Vx1.out); (try clear xc0 xc1 xc2 xc3 xc4); obtain ⟨xc0, xc1, xc2, xc3, xc4, xc5⟩ := Vx2; have Vx2 := Lib.hid (DyV.mk xc0 xc1 xc2 xc3 xc4 xc5); have M12 : Mag w2 a1 (nl (dman df).natAbs) c1 (dman df).natAbs := Mag.below (by repeat (with_reducible first | refine Mag.set ?_ (fun h => by have := M11 h; omega) _ _ | refine Mag.drew ?_ | refine Mag.alloc ?_ _ | refine Mag.drewN ?_ _ | exact M11)) hb2; have B2 := below_box (w := w) (by have hszw := (B1).size; repeat (with_reducible first | refine Below.setCell ?_ (by first | omega | (simp <;> omega)) _ | refine Below.alloc ?_ (by first | omega | (simp <;> omega)) _ | refine Below.drew ?_ | refine below_drewN ?_ _ | exact B1)) hb2; have hBz2 : Below w0.heap.size w0 w2 := Below.trans (by have hszw := (hBz1).size; repeat (with_reducible first | refine Below.setCell ?_ (by first | omega | (simp <;> omega)) _ | refine Below.alloc ?_ (by first | omega | (simp <;> omega)) _ | refine Below.drew ?_ | refine below_drewN ?_ _ | exact hBz1)) (hb2.mono (by first | exact Nat.le_refl _ | (simp; done) | omega | (simp <;> omega))); have hsz2 := hBz2.size; (try (have F0x0D : DyV w2 (w0.heap.size) false false (.slice none 0 0) 0 := (by first | (refine DyV.below ?_ hb2; (repeat (first | exact F0x0D.out | (refine DyV.made' _ _ _ _ _ _ ?_; first | rfl | (simp; done)) | with_reducible refine DyV.drew ?_ | with_reducible refine DyV.alloc ?_ _)); done) | fail); obtain ⟨F0x0Dc0, F0x0Dc1, F0x0Dc2, F0x0Dc3, F0x0Dc4, F0x0Dc5⟩ := F0x0D; have F0x0D := Lib.hid (DyV.mk F0x0Dc0 F0x0Dc1 F0x0Dc2 F0x0Dc3 F0x0Dc4 F0x0Dc5))); (try (have F1x0D : DyV w2 (w1.heap.size) false false (.slice none 0 0) 0 := (by first | (refine DyV.below ?_ hb2; (repeat (first | exact F1x0D.out | (refine DyV.made' _ _ _ _ _ _ ?_; first | rfl | (simp; done)) | with_reducible refine DyV.drew ?_ | with_reducible refine DyV.alloc ?_ _)); done) | fail); obtain ⟨F1x0Dc0, F1x0Dc1, F1x0Dc2, F1x0Dc3, F1x0Dc4, F1x0Dc5⟩ := F1x0D; have F1x0D := Lib.hid (DyV.mk F1x0Dc0 F1x0Dc1 F1x0Dc2 F1x0Dc3 F1x0Dc4 F1x0Dc5))))
    | (go_at_call 47; refine (HO _ (hT.below (by have hszw := (B0).size; repeat (with_reducible first | refine Below.setCell ?_ (by first | omega | (simp <;> omega)) _ | refine Below.alloc ?_ (by first | omega | (simp <;> omega)) _ | refine Below.drew ?_ | refine below_drewN ?_ _ | exact B0)))).out.mono ?_; rintro e w1 ⟨a1, c1, rfl, M11, hb1, hf1⟩; have hs1 := hb1.size; (try simp at hs1 hf1); have o1 := M11.old; have Vx1 : DyV w1 b0 (dbad d) (decide (dman d < 0)) (.slice a (nl (dman d).natAbs) c) (dexp d) := (by refine DyV.below ?_ hb1; (repeat (with_reducible first | refine DyV.drew ?_ | refine DyV.drewN ?_ _ | refine DyV.alloc ?_ _)); exact Vx0.out); (try clear xc0 xc1 xc2 xc3 xc4); obtain ⟨xc0, xc1, xc2, xc3, xc4, xc5⟩ := Vx1; have Vx1 := Lib.hid (DyV.mk xc0 xc1 xc2 xc3 xc4 xc5); have B1 := below_box (w := w) (by have hszw := (B0).size; repeat (with_reducible first | refine Below.setCell ?_ (by first | omega | (simp <;> omega)) _ | refine Below.alloc ?_ (by first | omega | (simp <;> omega)) _ | refine Below.drew ?_ | refine below_drewN ?_ _ | exact B0)) hb1; have hBz1 : Below w0.heap.size w0 w1 := Below.trans (by have hszw := (hBz0).size; repeat (with_reducible first | refine Below.setCell ?_ (by first | omega | (simp <;> omega)) _ | refine Below.alloc ?_ (by first | omega | (simp <;> omega)) _ | refine Below.drew ?_ | refine below_drewN ?_ _ | exact hBz0)) (hb1.mono (by first | exact Nat.le_refl _ | (simp; done) | omega | (simp <;> omega))); have hsz1 := hBz1.size; (try (have F0x0D : DyV w1 (w0.heap.size) false false (.slice none 0 0) 0 := (by first | (refine DyV.below ?_ hb1; (repeat (first | exact F0x0D.out | (refine DyV.made' _ _ _ _ _ _ ?_; first | rfl | (simp; done)) | with_reducible refine DyV.drew ?_ | with_reducible refine DyV.alloc ?_ _)); done) | fail); obtain ⟨F0x0Dc0, F0x0Dc1, F0x0Dc2, F0x0Dc3, F0x0Dc4, F0x0Dc5⟩ := F0x0D; have F0x0D := Lib.hid (DyV.mk F0x0Dc0 F0x0Dc1 F0x0Dc2 F0x0Dc3 F0x0Dc4 F0x0Dc5))))
    | fail)
  all_goals as_aux_lemma => (
   (try have ne0x1 : ¬ w0.heap.size = w1.heap.size := by omega)
   (try have me0x1 : ¬ w1.heap.size = w0.heap.size := by omega)
   (try have ne0x2 : ¬ w0.heap.size = w2.heap.size := by omega)
   (try have me0x2 : ¬ w2.heap.size = w0.heap.size := by omega)
   (try have ne1x2 : ¬ w1.heap.size = w2.heap.size := by omega)
   (try have me1x2 : ¬ w2.heap.size = w1.heap.size := by omega)
   go_wp2_with fail
   go_meet
   refine ⟨_, ay, cy, rfl, ?_, ?_, ?_, ⟨?_, ?_, ?_, ?_, ?_, ?_⟩, ?_⟩
   · exact (by have hszw := (hBz2).size; repeat (with_reducible first | refine Below.setCell ?_ (by first | omega | (simp <;> omega)) _ | refine Below.alloc ?_ (by first | omega | (simp <;> omega)) _ | refine Below.drew ?_ | refine below_drewN ?_ _ | exact hBz2))
   · first | (simp; done) | omega | (simp <;> omega)
   · exact fun h => by have := hf2 h; have := hBz1.size; omega
   · go_simp
   · go_simp
   · go_simp
   · go_simp
   · intro i; go_simp
   · first | (simp; done) | omega | (simp <;> omega)
   · repeat (with_reducible first | refine Mag.set ?_ (fun h => by have := hf2 h; have := o2 h; first | omega | (simp; omega)) _ _ | refine Mag.drew ?_ | refine Mag.alloc ?_ _ | exact My2))
 case rest =>
 obtain ⟨w1, hww⟩ : ∃ w1, w1 = wc := ⟨_, rfl⟩
 subst hww
 obtain ⟨zy, ay, cy, rfl, hbz, lzy, lfy, Vy1, My1⟩ := hcut
 have nxy : ¬ b0 = zy := by have := Vx0.out.lt; omega
 have nyx : ¬ zy = b0 := by have := Vx0.out.lt; omega
 have fryx : 0 < (nl (dman y).natAbs) → ab ay ≠ b0 := fun h => by have := lfy h; have := Vx0.out.lt; omega
 have foy : 0 < (nl (dman y).natAbs) → w.heap.size ≤ ab ay := fun h => by have := lfy h; have := B0.size; omega
 have Vx1 : DyV w1 b0 (dbad d) (decide (dman d < 0)) (.slice a (nl (dman d).natAbs) c) (dexp d) := Vx0.out.below hbz
 have B1 := below_box (w := w) B0 hbz
 clear hbz
 (try clear xc0 xc1 xc2 xc3 xc4)
 obtain ⟨xc0, xc1, xc2, xc3, xc4, xc5⟩ := Vx1
 have Vx1 := Lib.hid (DyV.mk xc0 xc1 xc2 xc3 xc4 xc5)
 (try clear yc0 yc1 yc2 yc3 yc4)
 obtain ⟨yc0, yc1, yc2, yc3, yc4, yc5⟩ := Vy1
 have Vy1 := Lib.hid (DyV.mk yc0 yc1 yc2 yc3 yc4 yc5)
 go_wp2_with fail
 refine (HR _ ay cy (by repeat (with_reducible first | refine Mag.set ?_ (fun h => by have := My1 h; omega) _ _ | refine Mag.drew ?_ | refine Mag.alloc ?_ _ | refine Mag.drewN ?_ _ | exact My1)) (hT.below (by have hszw := (B1).size; repeat (with_reducible first | refine Below.setCell ?_ (by first | omega | (simp <;> omega)) _ | refine Below.alloc ?_ (by first | omega | (simp <;> omega)) _ | refine Below.drew ?_ | refine below_drewN ?_ _ | exact B1)))).out.mono ?_
 rintro e w2 ⟨rfl, hb2⟩
 have Vx2 : DyV w2 b0 (dbad d) (decide (dman d < 0)) (.slice a (nl (dman d).natAbs) c) (dexp d) := (Vx1.out.on.below hb2)
 (try clear xc0 xc1 xc2 xc3 xc4)
 obtain ⟨xc0, xc1, xc2, xc3, xc4, xc5⟩ := Vx2
 have Vx2 := Lib.hid (DyV.mk xc0 xc1 xc2 xc3 xc4 xc5)
 have Vy2 : DyV w2 zy (dbad y) (decide (dman y < 0)) (.slice ay (nl (dman y).natAbs) cy) (dexp y) := (Vy1.out.on.below hb2)
 (try clear yc0 yc1 yc2 yc3 yc4)
 obtain ⟨yc0, yc1, yc2, yc3, yc4, yc5⟩ := Vy2
 have Vy2 := Lib.hid (DyV.mk yc0 yc1 yc2 yc3 yc4 yc5)
 have My2 : Mag w2 ay (nl (dman y).natAbs) cy (dman y).natAbs := Mag.below (by repeat (with_reducible first | refine Mag.set ?_ (fun h => by have := My1 h; omega) _ _ | refine Mag.drew ?_ | refine Mag.alloc ?_ _ | refine Mag.drewN ?_ _ | exact My1)) hb2
 have B2 := below_box (w := w) (have := Beh.mk B1; zbh) hb2
 clear hb2
 go_wp2_with fail
 first
 | go_region_held3 (fun w' => w'.cell? ⟨b0, 0, none⟩ = some (.bool (dbad d)) ∧ w'.cell? ⟨b0, 1, none⟩ = some (.bool (decide (dman d < 0))) ∧ w'.cell? ⟨b0, 2, none⟩ = some ((.slice a (nl (dman d).natAbs) c)) ∧ w'.cell? ⟨b0, 3, none⟩ = some (.int .i64 (dexp d)) ∧ w'.cell? ⟨zy, 0, none⟩ = some (.bool (dbad y)) ∧ w'.cell? ⟨zy, 1, none⟩ = some (.bool (decide (dman y < 0))) ∧ w'.cell? ⟨zy, 2, none⟩ = some ((.slice ay (nl (dman y).natAbs) cy)) ∧ w'.cell? ⟨zy, 3, none⟩ = some (.int .i64 (dexp y))) (first | (go_keep; done) | (go_simp; done))
  (first
   | (go_at_call 131; have xx := B3; refine (HC _ a2 c2 ay cy (by repeat (with_reducible first | refine Mag.set ?_ (fun h => by have := M23 h; omega) _ _ | refine Mag.drew ?_ | refine Mag.alloc ?_ _ | refine Mag.drewN ?_ _ | exact M23)) (by repeat (with_reducible first | refine Mag.set ?_ (fun h => by have := My3 h; omega) _ _ | refine Mag.drew ?_ | refine Mag.alloc ?_ _ | refine Mag.drewN ?_ _ | exact My3)) (hT.below (by have hszw := (B3).size; repeat (with_reducible first | refine Below.setCell ?_ (by first | omega | (simp <;> omega)) _ | refine Below.alloc ?_ (by first | omega | (simp <;> omega)) _ | refine Below.drew ?_ | refine below_drewN ?_ _ | exact B3)))).out.mono ?_; rintro e w4 ⟨rfl, hb4⟩; have Vx4 : DyV w4 b0 (dbad d) (decide (dman d < 0)) (.slice a (nl (dman d).natAbs) c) (dexp d) := (by refine DyV.below ?_ hb4; (repeat (with_reducible first | refine DyV.drew ?_ | refine DyV.drewN ?_ _ | refine DyV.alloc ?_ _)); exact Vx3.out); (try clear xc0 xc1 xc2 xc3 xc4); obtain ⟨xc0, xc1, xc2, xc3, xc4, xc5⟩ := Vx4; have Vx4 := Lib.hid (DyV.mk xc0 xc1 xc2 xc3 xc4 xc5); have Vy4 : DyV w4 zy (dbad y) (decide (dman y < 0)) (.slice ay (nl (dman y).natAbs) cy) (dexp y) := (by refine DyV.below ?_ hb4; (repeat (with_reducible first | refine DyV.drew ?_ | refine DyV.drewN ?_ _ | refine DyV.alloc ?_ _)); exact Vy3.out); (try clear yc0 yc1 yc2 yc3 yc4); obtain ⟨yc0, yc1, yc2, yc3, yc4, yc5⟩ := Vy4; have Vy4 := Lib.hid (DyV.mk yc0 yc1 yc2 yc3 yc4 yc5); have My4 : Mag w4 ay (nl (dman y).natAbs) cy (dman y).natAbs := Mag.below (by repeat (with_reducible first | refine Mag.set ?_ (fun h => by have := My3 h; omega) _ _ | refine Mag.drew ?_ | refine Mag.alloc ?_ _ | refine Mag.drewN ?_ _ | exact My3)) hb4; have M24 : Mag w4 a2 (nl (dman dt).natAbs) c2 (dman dt).natAbs := Mag.below (by repeat (with_reducible first | refine Mag.set ?_ (fun h => by have := M23 h; omega) _ _ | refine Mag.drew ?_ | refine Mag.alloc ?_ _ | refine Mag.drewN ?_ _ | exact M23)) hb4; have B4 := below_box (w := w) (by have hszw := (B3).size; repeat (with_reducible first | refine Below.setCell ?_ (by first | omega | (simp <;> omega)) _ | refine Below.alloc ?_ (by first | omega | (simp <;> omega)) _ | refine Below.drew ?_ | refine below_drewN ?_ _ | exact B3)) hb4; clear hb4)
   | (go_at_call 47; have xx := B2; refine (HOt _ (hT.below (by have hszw := (B2).size; repeat (with_reducible first | refine Below.setCell ?_ (by first | omega | (simp <;> omega)) _ | refine Below.alloc ?_ (by first | omega | (simp <;> omega)) _ | refine Below.drew ?_ | refine below_drewN ?_ _ | exact B2)))).out.mono ?_; rintro e w3 ⟨a2, c2, rfl, M23, hb3, hf3⟩; have Vx3 : DyV w3 b0 (dbad d) (decide (dman d < 0)) (.slice a (nl (dman d).natAbs) c) (dexp d) := (by refine DyV.below ?_ hb3; (repeat (with_reducible first | refine DyV.drew ?_ | refine DyV.drewN ?_ _ | refine DyV.alloc ?_ _)); exact Vx2.out); (try clear xc0 xc1 xc2 xc3 xc4); obtain ⟨xc0, xc1, xc2, xc3, xc4, xc5⟩ := Vx3; have Vx3 := Lib.hid (DyV.mk xc0 xc1 xc2 xc3 xc4 xc5); have Vy3 : DyV w3 zy (dbad y) (decide (dman y < 0)) (.slice ay (nl (dman y).natAbs) cy) (dexp y) := (by refine DyV.below ?_ hb3; (repeat (with_reducible first | refine DyV.drew ?_ | refine DyV.drewN ?_ _ | refine DyV.alloc ?_ _)); exact Vy2.out); (try clear yc0 yc1 yc2 yc3 yc4); obtain ⟨yc0, yc1, yc2, yc3, yc4, yc5⟩ := Vy3; have Vy3 := Lib.hid (DyV.mk yc0 yc1 yc2 yc3 yc4 yc5); have My3 : Mag w3 ay (nl (dman y).natAbs) cy (dman y).natAbs := Mag.below (by repeat (with_reducible first | refine Mag.set ?_ (fun h => by have := My2 h; omega) _ _ | refine Mag.drew ?_ | refine Mag.alloc ?_ _ | refine Mag.drewN ?_ _ | exact My2)) hb3; have B3 := below_box (w := w) (by have hszw := (B2).size; repeat (with_reducible first | refine Below.setCell ?_ (by first | omega | (simp <;> omega)) _ | refine Below.alloc ?_ (by first | omega | (simp <;> omega)) _ | refine Below.drew ?_ | refine below_drewN ?_ _ | exact B2)) hb3; have hF3 : 0 < (nl (dman dt).natAbs) → w2.heap.size ≤ ab a2 := (fun h => by have hq := hf3 h; (try simp at hq); omega); have fr2x : 0 < (nl (dman dt).natAbs) → ab a2 ≠ b0 := (fun h => by have := hF3 h; have := Vx2.out.lt; omega); have fr2y : 0 < (nl (dman dt).natAbs) → ab a2 ≠ zy := (fun h => by have := hF3 h; have := Vy2.out.lt; omega); have fo2 : 0 < (nl (dman dt).natAbs) → w.heap.size ≤ ab a2 := (fun h => by have := hF3 h; have := B2.size; omega); clear hF3; clear hb3 hf3)
   | fail)
 | fail "region"
 all_goals (
  go_wp2_with fail
  refine bodyPost_ret (v := .tuple #[.int .u64 0, .int .u64 0, .bool false]) (by simp only [results, Tryz.results81]; go_simp) rfl ?_
  exact ⟨rfl, (have := Beh.mk B4; zbh)⟩)
theorem arest_ne (w : World) (hT : Tab w) (f : Nat) (hf : f < 18446744073709551616) (d : Option (Int × Int)) (hN : IsN d) (a : Option Addr) (c : Nat) (hx : Mag w a (nl (dman d).natAbs) c (dman d).natAbs) (h : (!dbad (fof (frest f d)) && !dbad (dadd d (dneg (fof f)))) = true) (h2 : dcmp (fof (frest f d)) (dadd d (dneg (fof f))) ≠ 0) :
 Calls Tryz.prog 81 #[.int .u64 f, .agg #[.bool (dbad d), .bool (decide (dman d < 0)), .slice a (nl (dman d).natAbs) c, .int .i64 (dexp d)]] w fun o w' => o = .returned (.tuple #[.int .u64 0, .int .u64 0, .bool false]) ∧ Below w.heap.size w w' := by
 have HO := fun W ht => Lib.hid (fof_any W f hf ht)
 have HOt := fun W ht => Lib.hid (fof_any W (frest f d) (frest_lt f d) ht)
 have N1 := isN_fof f
 have N2 := isN_fof (frest f d)
 have N3 := isN_rest f d
 have HS := fun W b1 q1 b2 q2 (h1 : Mag W b1 (nl (dman d).natAbs) q1 (dman d).natAbs) (h2 : Mag W b2 (nl (dman (fof f)).natAbs) q2 (dman (fof f)).natAbs) ht => Lib.hid (show Calls Tryz.prog 130 #[.agg #[.bool (dbad d), .bool (decide (dman d < 0)), .slice b1 (nl (dman d).natAbs) q1, .int .i64 (dexp d)], .agg #[.bool (dbad (fof f)), .bool (decide (dman (fof f) < 0)), .slice b2 (nl (dman (fof f)).natAbs) q2, .int .i64 (dexp (fof f))]] W (RetDy W (dadd d (dneg (fof f)))) from dsub_any W _ _ _ _ _ _ _ _ _ _ _ _ _ _ (dyin_of hN h1) (dyin_of N1 h2) ht)
 have HR := fun W b1 q1 (h1 : Mag W b1 (nl (dman (dadd d (dneg (fof f)))).natAbs) q1 (dman (dadd d (dneg (fof f)))).natAbs) ht => Lib.hid (show Calls Tryz.prog 105 #[.agg #[.bool (dbad (dadd d (dneg (fof f)))), .bool (decide (dman (dadd d (dneg (fof f))) < 0)), .slice b1 (nl (dman (dadd d (dneg (fof f)))).natAbs) q1, .int .i64 (dexp (dadd d (dneg (fof f))))], .int .i64 0] W fun o w' => o = .returned (.int .u64 (frest f d : Nat)) ∧ Below W.heap.size W w' from fround_any W _ _ _ _ _ _ 0 _ (dyin_of N3 h1) ht)
 have HC := fun W b1 q1 b2 q2 (h1 : Mag W b1 (nl (dman (fof (frest f d))).natAbs) q1 (dman (fof (frest f d))).natAbs) (h2 : Mag W b2 (nl (dman (dadd d (dneg (fof f)))).natAbs) q2 (dman (dadd d (dneg (fof f)))).natAbs) ht => Lib.hid (dcmp_any W _ _ _ _ _ _ _ _ _ _ _ _ _ _ (dyin_of N2 h1) (dyin_of N3 h2) ht)
 obtain ⟨ok, hok⟩ : ∃ ok, ok = (!dbad (fof (frest f d)) && !dbad (dadd d (dneg (fof f)))) := ⟨_, rfl⟩
 obtain ⟨v, hv⟩ : ∃ v, v = dcmp (fof (frest f d)) (dadd d (dneg (fof f))) := ⟨_, rfl⟩
 rw [← hok, ← hv] at HC
 rw [h] at hok
 subst hok
 have hv0 : (v != 0) = true := by rw [bne_iff_ne, hv]; exact h2
 clear hN N1 N2 N3 h h2 hv hf
 generalize dadd d (dneg (fof f)) = y at *
 generalize fof (frest f d) = dt at *
 generalize ((frest f d : Nat) : Int) = tt at *
 generalize fof f = df at *
 go_enter Tryz.func81, Tryz.ntmps81
 go_wp2_with fail
 have Ix := (DyV.made' w 34 (dbad d) (decide (dman d < 0)) (.slice a (nl (dman d).natAbs) c) (dexp d) (n := w.heap.size) (by rfl))
 have B0 : Below w.heap.size w (w.alloc (.cells #[.bool (dbad d), .bool (decide (dman d < 0)), (.slice a (nl (dman d).natAbs) c), .int .i64 (dexp d)] 34)) := zbh
 generalize (w.alloc (.cells #[.bool (dbad d), .bool (decide (dman d < 0)), (.slice a (nl (dman d).natAbs) c), .int .i64 (dexp d)] 34)) = w0 at Ix B0 ⊢
 generalize hb0 : w.heap.size = b0 at Ix ⊢
 obtain ⟨xc0, xc1, xc2, xc3, xc4, xc5⟩ := Ix
 have Vx0 := Lib.hid (DyV.mk xc0 xc1 xc2 xc3 xc4 xc5)
 go_cut [7] (fun pty wx => ∃ zy ay cy, pty = .pointer (some ⟨zy, 0, none⟩) ∧ Below w0.heap.size w0 wx ∧ w0.heap.size ≤ zy ∧ (0 < (nl (dman y).natAbs) → w0.heap.size ≤ ab ay) ∧ DyV wx zy (dbad y) (decide (dman y < 0)) (.slice ay (nl (dman y).natAbs) cy) (dexp y) ∧ Mag wx ay (nl (dman y).natAbs) cy (dman y).natAbs)
 case first =>
  have hBz0 : Below w0.heap.size w0 w0 := Below.refl _ _
  go_region_held3 (fun w' => w'.cell? ⟨b0, 0, none⟩ = some (.bool (dbad d)) ∧ w'.cell? ⟨b0, 1, none⟩ = some (.bool (decide (dman d < 0))) ∧ w'.cell? ⟨b0, 2, none⟩ = some ((.slice a (nl (dman d).natAbs) c)) ∧ w'.cell? ⟨b0, 3, none⟩ = some (.int .i64 (dexp d))) (first | (go_keep; done) | (go_simp; done))
   (first
    | (go_at_call 130; have xx := B1; refine (HS _ a c a1 c1 (hx.below (by have hszw := (B1).size; repeat (with_reducible first | refine Below.setCell ?_ (by first | omega | (simp <;> omega)) _ | refine Below.alloc ?_ (by first | omega | (simp <;> omega)) _ | refine Below.drew ?_ | refine below_drewN ?_ _ | exact B1))) (by repeat (with_reducible first | refine Mag.set ?_ (fun h => by have := M11 h; omega) _ _ | refine Mag.drew ?_ | refine Mag.alloc ?_ _ | refine Mag.drewN ?_ _ | exact M11)) (hT.below (by have hszw := (B1).size; repeat (with_reducible first | refine Below.setCell ?_ (by first | omega | (simp <;> omega)) _ | refine Below.alloc ?_ (by first | omega | (simp <;> omega)) _ | refine Below.drew ?_ | refine below_drewN ?_ _ | exact B1)))).out.mono ?_; rintro e w2 ⟨ay, cy, rfl, My2, hb2, hf2⟩; have hs2 := hb2.size; (try simp at hs2 hf2); have o2 := My2.old; have Vx2 : DyV w2 b0 (dbad d) (decide (dman d < 0)) (.slice a (nl (dman d).natAbs) c) (dexp d) := (by refine DyV.below ?_ hb2; (repeat (with_reducible first | refine DyV.drew ?_ | refine DyV.drewN ?_ _ | refine DyV.alloc ?_ _)); exact Vx1.out); (try clear xc0 xc1 xc2 xc3 xc4); obtain ⟨xc0, xc1, xc2, xc3, xc4, xc5⟩ := Vx2; have Vx2 := Lib.hid (DyV.mk xc0 xc1 xc2 xc3 xc4 xc5); have M12 : Mag w2 a1 (nl (dman df).natAbs) c1 (dman df).natAbs := Mag.below (by repeat (with_reducible first | refine Mag.set ?_ (fun h => by have := M11 h; omega) _ _ | refine Mag.drew ?_ | refine Mag.alloc ?_ _ | refine Mag.drewN ?_ _ | exact M11)) hb2; have B2 := below_box (w := w) (by have hszw := (B1).size; repeat (with_reducible first | refine Below.setCell ?_ (by first | omega | (simp <;> omega)) _ | refine Below.alloc ?_ (by first | omega | (simp <;> omega)) _ | refine Below.drew ?_ | refine below_drewN ?_ _ | exact B1)) hb2; have hBz2 : Below w0.heap.size w0 w2 := Below.trans (by have hszw := (hBz1).size; repeat (with_reducible first | refine Below.setCell ?_ (by first | omega | (simp <;> omega)) _ | refine Below.alloc ?_ (by first | omega | (simp <;> omega)) _ | refine Below.drew ?_ | refine below_drewN ?_ _ | exact hBz1)) (hb2.mono (by first | exact Nat.le_refl _ | (simp; done) | omega | (simp <;> omega))); have hsz2 := hBz2.size; (try (have F0x0D : DyV w2 (w0.heap.size) false false (.slice none 0 0) 0 := (by first | (refine DyV.below ?_ hb2; (repeat (first | exact F0x0D.out | (refine DyV.made' _ _ _ _ _ _ ?_; first | rfl | (simp; done)) | with_reducible refine DyV.drew ?_ | with_reducible refine DyV.alloc ?_ _)); done) | fail); obtain ⟨F0x0Dc0, F0x0Dc1, F0x0Dc2, F0x0Dc3, F0x0Dc4, F0x0Dc5⟩ := F0x0D; have F0x0D := Lib.hid (DyV.mk F0x0Dc0 F0x0Dc1 F0x0Dc2 F0x0Dc3 F0x0Dc4 F0x0Dc5))); (try (have F1x0D : DyV w2 (w1.heap.size) false false (.slice none 0 0) 0 := (by first | (refine DyV.below ?_ hb2; (repeat (first | exact F1x0D.out | (refine DyV.made' _ _ _ _ _ _ ?_; first | rfl | (simp; done)) | with_reducible refine DyV.drew ?_ | with_reducible refine DyV.alloc ?_ _)); done) | fail); obtain ⟨F1x0Dc0, F1x0Dc1, F1x0Dc2, F1x0Dc3, F1x0Dc4, F1x0Dc5⟩ := F1x0D; have F1x0D := Lib.hid (DyV.mk F1x0Dc0 F1x0Dc1 F1x0Dc2 F1x0Dc3 F1x0Dc4 F1x0Dc5))))
    | (go_at_call 47; refine (HO _ (hT.below (by have hszw := (B0).size; repeat (with_reducible first | refine Below.setCell ?_ (by first | omega | (simp <;> omega)) _ | refine Below.alloc ?_ (by first | omega | (simp <;> omega)) _ | refine Below.drew ?_ | refine below_drewN ?_ _ | exact B0)))).out.mono ?_; rintro e w1 ⟨a1, c1, rfl, M11, hb1, hf1⟩; have hs1 := hb1.size; (try simp at hs1 hf1); have o1 := M11.old; have Vx1 : DyV w1 b0 (dbad d) (decide (dman d < 0)) (.slice a (nl (dman d).natAbs) c) (dexp d) := (by refine DyV.below ?_ hb1; (repeat (with_reducible first | refine DyV.drew ?_ | refine DyV.drewN ?_ _ | refine DyV.alloc ?_ _)); exact Vx0.out); (try clear xc0 xc1 xc2 xc3 xc4); obtain ⟨xc0, xc1, xc2, xc3, xc4, xc5⟩ := Vx1; have Vx1 := Lib.hid (DyV.mk xc0 xc1 xc2 xc3 xc4 xc5); have B1 := below_box (w := w) (by have hszw := (B0).size; repeat (with_reducible first | refine Below.setCell ?_ (by first | omega | (simp <;> omega)) _ | refine Below.alloc ?_ (by first | omega | (simp <;> omega)) _ | refine Below.drew ?_ | refine below_drewN ?_ _ | exact B0)) hb1; have hBz1 : Below w0.heap.size w0 w1 := Below.trans (by have hszw := (hBz0).size; repeat (with_reducible first | refine Below.setCell ?_ (by first | omega | (simp <;> omega)) _ | refine Below.alloc ?_ (by first | omega | (simp <;> omega)) _ | refine Below.drew ?_ | refine below_drewN ?_ _ | exact hBz0)) (hb1.mono (by first | exact Nat.le_refl _ | (simp; done) | omega | (simp <;> omega))); have hsz1 := hBz1.size; (try (have F0x0D : DyV w1 (w0.heap.size) false false (.slice none 0 0) 0 := (by first | (refine DyV.below ?_ hb1; (repeat (first | exact F0x0D.out | (refine DyV.made' _ _ _ _ _ _ ?_; first | rfl | (simp; done)) | with_reducible refine DyV.drew ?_ | with_reducible refine DyV.alloc ?_ _)); done) | fail); obtain ⟨F0x0Dc0, F0x0Dc1, F0x0Dc2, F0x0Dc3, F0x0Dc4, F0x0Dc5⟩ := F0x0D; have F0x0D := Lib.hid (DyV.mk F0x0Dc0 F0x0Dc1 F0x0Dc2 F0x0Dc3 F0x0Dc4 F0x0Dc5))))
    | fail)
  all_goals as_aux_lemma => (
   (try have ne0x1 : ¬ w0.heap.size = w1.heap.size := by omega)
   (try have me0x1 : ¬ w1.heap.size = w0.heap.size := by omega)
   (try have ne0x2 : ¬ w0.heap.size = w2.heap.size := by omega)
   (try have me0x2 : ¬ w2.heap.size = w0.heap.size := by omega)
   (try have ne1x2 : ¬ w1.heap.size = w2.heap.size := by omega)
   (try have me1x2 : ¬ w2.heap.size = w1.heap.size := by omega)
   go_wp2_with fail
   go_meet
   refine ⟨_, ay, cy, rfl, ?_, ?_, ?_, ⟨?_, ?_, ?_, ?_, ?_, ?_⟩, ?_⟩
   · exact (by have hszw := (hBz2).size; repeat (with_reducible first | refine Below.setCell ?_ (by first | omega | (simp <;> omega)) _ | refine Below.alloc ?_ (by first | omega | (simp <;> omega)) _ | refine Below.drew ?_ | refine below_drewN ?_ _ | exact hBz2))
   · first | (simp; done) | omega | (simp <;> omega)
   · exact fun h => by have := hf2 h; have := hBz1.size; omega
   · go_simp
   · go_simp
   · go_simp
   · go_simp
   · intro i; go_simp
   · first | (simp; done) | omega | (simp <;> omega)
   · repeat (with_reducible first | refine Mag.set ?_ (fun h => by have := hf2 h; have := o2 h; first | omega | (simp; omega)) _ _ | refine Mag.drew ?_ | refine Mag.alloc ?_ _ | exact My2))
 case rest =>
 obtain ⟨w1, hww⟩ : ∃ w1, w1 = wc := ⟨_, rfl⟩
 subst hww
 obtain ⟨zy, ay, cy, rfl, hbz, lzy, lfy, Vy1, My1⟩ := hcut
 have nxy : ¬ b0 = zy := by have := Vx0.out.lt; omega
 have nyx : ¬ zy = b0 := by have := Vx0.out.lt; omega
 have fryx : 0 < (nl (dman y).natAbs) → ab ay ≠ b0 := fun h => by have := lfy h; have := Vx0.out.lt; omega
 have foy : 0 < (nl (dman y).natAbs) → w.heap.size ≤ ab ay := fun h => by have := lfy h; have := B0.size; omega
 have Vx1 : DyV w1 b0 (dbad d) (decide (dman d < 0)) (.slice a (nl (dman d).natAbs) c) (dexp d) := Vx0.out.below hbz
 have B1 := below_box (w := w) B0 hbz
 clear hbz
 (try clear xc0 xc1 xc2 xc3 xc4)
 obtain ⟨xc0, xc1, xc2, xc3, xc4, xc5⟩ := Vx1
 have Vx1 := Lib.hid (DyV.mk xc0 xc1 xc2 xc3 xc4 xc5)
 (try clear yc0 yc1 yc2 yc3 yc4)
 obtain ⟨yc0, yc1, yc2, yc3, yc4, yc5⟩ := Vy1
 have Vy1 := Lib.hid (DyV.mk yc0 yc1 yc2 yc3 yc4 yc5)
 go_wp2_with fail
 refine (HR _ ay cy (by repeat (with_reducible first | refine Mag.set ?_ (fun h => by have := My1 h; omega) _ _ | refine Mag.drew ?_ | refine Mag.alloc ?_ _ | refine Mag.drewN ?_ _ | exact My1)) (hT.below (by have hszw := (B1).size; repeat (with_reducible first | refine Below.setCell ?_ (by first | omega | (simp <;> omega)) _ | refine Below.alloc ?_ (by first | omega | (simp <;> omega)) _ | refine Below.drew ?_ | refine below_drewN ?_ _ | exact B1)))).out.mono ?_
 rintro e w2 ⟨rfl, hb2⟩
 have Vx2 : DyV w2 b0 (dbad d) (decide (dman d < 0)) (.slice a (nl (dman d).natAbs) c) (dexp d) := (Vx1.out.on.below hb2)
 (try clear xc0 xc1 xc2 xc3 xc4)
 obtain ⟨xc0, xc1, xc2, xc3, xc4, xc5⟩ := Vx2
 have Vx2 := Lib.hid (DyV.mk xc0 xc1 xc2 xc3 xc4 xc5)
 have Vy2 : DyV w2 zy (dbad y) (decide (dman y < 0)) (.slice ay (nl (dman y).natAbs) cy) (dexp y) := (Vy1.out.on.below hb2)
 (try clear yc0 yc1 yc2 yc3 yc4)
 obtain ⟨yc0, yc1, yc2, yc3, yc4, yc5⟩ := Vy2
 have Vy2 := Lib.hid (DyV.mk yc0 yc1 yc2 yc3 yc4 yc5)
 have My2 : Mag w2 ay (nl (dman y).natAbs) cy (dman y).natAbs := Mag.below (by repeat (with_reducible first | refine Mag.set ?_ (fun h => by have := My1 h; omega) _ _ | refine Mag.drew ?_ | refine Mag.alloc ?_ _ | refine Mag.drewN ?_ _ | exact My1)) hb2
 have B2 := below_box (w := w) (have := Beh.mk B1; zbh) hb2
 clear hb2
 go_wp2_with fail
 first
 | go_region_held3 (fun w' => w'.cell? ⟨b0, 0, none⟩ = some (.bool (dbad d)) ∧ w'.cell? ⟨b0, 1, none⟩ = some (.bool (decide (dman d < 0))) ∧ w'.cell? ⟨b0, 2, none⟩ = some ((.slice a (nl (dman d).natAbs) c)) ∧ w'.cell? ⟨b0, 3, none⟩ = some (.int .i64 (dexp d)) ∧ w'.cell? ⟨zy, 0, none⟩ = some (.bool (dbad y)) ∧ w'.cell? ⟨zy, 1, none⟩ = some (.bool (decide (dman y < 0))) ∧ w'.cell? ⟨zy, 2, none⟩ = some ((.slice ay (nl (dman y).natAbs) cy)) ∧ w'.cell? ⟨zy, 3, none⟩ = some (.int .i64 (dexp y))) (first | (go_keep; done) | (go_simp; done))
  (first
   | (go_at_call 131; have xx := B3; refine (HC _ a2 c2 ay cy (by repeat (with_reducible first | refine Mag.set ?_ (fun h => by have := M23 h; omega) _ _ | refine Mag.drew ?_ | refine Mag.alloc ?_ _ | refine Mag.drewN ?_ _ | exact M23)) (by repeat (with_reducible first | refine Mag.set ?_ (fun h => by have := My3 h; omega) _ _ | refine Mag.drew ?_ | refine Mag.alloc ?_ _ | refine Mag.drewN ?_ _ | exact My3)) (hT.below (by have hszw := (B3).size; repeat (with_reducible first | refine Below.setCell ?_ (by first | omega | (simp <;> omega)) _ | refine Below.alloc ?_ (by first | omega | (simp <;> omega)) _ | refine Below.drew ?_ | refine below_drewN ?_ _ | exact B3)))).out.mono ?_; rintro e w4 ⟨rfl, hb4⟩; have Vx4 : DyV w4 b0 (dbad d) (decide (dman d < 0)) (.slice a (nl (dman d).natAbs) c) (dexp d) := (by refine DyV.below ?_ hb4; (repeat (with_reducible first | refine DyV.drew ?_ | refine DyV.drewN ?_ _ | refine DyV.alloc ?_ _)); exact Vx3.out); (try clear xc0 xc1 xc2 xc3 xc4); obtain ⟨xc0, xc1, xc2, xc3, xc4, xc5⟩ := Vx4; have Vx4 := Lib.hid (DyV.mk xc0 xc1 xc2 xc3 xc4 xc5); have Vy4 : DyV w4 zy (dbad y) (decide (dman y < 0)) (.slice ay (nl (dman y).natAbs) cy) (dexp y) := (by refine DyV.below ?_ hb4; (repeat (with_reducible first | refine DyV.drew ?_ | refine DyV.drewN ?_ _ | refine DyV.alloc ?_ _)); exact Vy3.out); (try clear yc0 yc1 yc2 yc3 yc4); obtain ⟨yc0, yc1, yc2, yc3, yc4, yc5⟩ := Vy4; have Vy4 := Lib.hid (DyV.mk yc0 yc1 yc2 yc3 yc4 yc5); have My4 : Mag w4 ay (nl (dman y).natAbs) cy (dman y).natAbs := Mag.below (by repeat (with_reducible first | refine Mag.set ?_ (fun h => by have := My3 h; omega) _ _ | refine Mag.drew ?_ | refine Mag.alloc ?_ _ | refine Mag.drewN ?_ _ | exact My3)) hb4; have M24 : Mag w4 a2 (nl (dman dt).natAbs) c2 (dman dt).natAbs := Mag.below (by repeat (with_reducible first | refine Mag.set ?_ (fun h => by have := M23 h; omega) _ _ | refine Mag.drew ?_ | refine Mag.alloc ?_ _ | refine Mag.drewN ?_ _ | exact M23)) hb4; have B4 := below_box (w := w) (by have hszw := (B3).size; repeat (with_reducible first | refine Below.setCell ?_ (by first | omega | (simp <;> omega)) _ | refine Below.alloc ?_ (by first | omega | (simp <;> omega)) _ | refine Below.drew ?_ | refine below_drewN ?_ _ | exact B3)) hb4; clear hb4)
   | (go_at_call 47; have xx := B2; refine (HOt _ (hT.below (by have hszw := (B2).size; repeat (with_reducible first | refine Below.setCell ?_ (by first | omega | (simp <;> omega)) _ | refine Below.alloc ?_ (by first | omega | (simp <;> omega)) _ | refine Below.drew ?_ | refine below_drewN ?_ _ | exact B2)))).out.mono ?_; rintro e w3 ⟨a2, c2, rfl, M23, hb3, hf3⟩; have Vx3 : DyV w3 b0 (dbad d) (decide (dman d < 0)) (.slice a (nl (dman d).natAbs) c) (dexp d) := (by refine DyV.below ?_ hb3; (repeat (with_reducible first | refine DyV.drew ?_ | refine DyV.drewN ?_ _ | refine DyV.alloc ?_ _)); exact Vx2.out); (try clear xc0 xc1 xc2 xc3 xc4); obtain ⟨xc0, xc1, xc2, xc3, xc4, xc5⟩ := Vx3; have Vx3 := Lib.hid (DyV.mk xc0 xc1 xc2 xc3 xc4 xc5); have Vy3 : DyV w3 zy (dbad y) (decide (dman y < 0)) (.slice ay (nl (dman y).natAbs) cy) (dexp y) := (by refine DyV.below ?_ hb3; (repeat (with_reducible first | refine DyV.drew ?_ | refine DyV.drewN ?_ _ | refine DyV.alloc ?_ _)); exact Vy2.out); (try clear yc0 yc1 yc2 yc3 yc4); obtain ⟨yc0, yc1, yc2, yc3, yc4, yc5⟩ := Vy3; have Vy3 := Lib.hid (DyV.mk yc0 yc1 yc2 yc3 yc4 yc5); have My3 : Mag w3 ay (nl (dman y).natAbs) cy (dman y).natAbs := Mag.below (by repeat (with_reducible first | refine Mag.set ?_ (fun h => by have := My2 h; omega) _ _ | refine Mag.drew ?_ | refine Mag.alloc ?_ _ | refine Mag.drewN ?_ _ | exact My2)) hb3; have B3 := below_box (w := w) (by have hszw := (B2).size; repeat (with_reducible first | refine Below.setCell ?_ (by first | omega | (simp <;> omega)) _ | refine Below.alloc ?_ (by first | omega | (simp <;> omega)) _ | refine Below.drew ?_ | refine below_drewN ?_ _ | exact B2)) hb3; have hF3 : 0 < (nl (dman dt).natAbs) → w2.heap.size ≤ ab a2 := (fun h => by have hq := hf3 h; (try simp at hq); omega); have fr2x : 0 < (nl (dman dt).natAbs) → ab a2 ≠ b0 := (fun h => by have := hF3 h; have := Vx2.out.lt; omega); have fr2y : 0 < (nl (dman dt).natAbs) → ab a2 ≠ zy := (fun h => by have := hF3 h; have := Vy2.out.lt; omega); have fo2 : 0 < (nl (dman dt).natAbs) → w.heap.size ≤ ab a2 := (fun h => by have := hF3 h; have := B2.size; omega); clear hF3; clear hb3 hf3)
   | fail)
 | fail "region"
 all_goals (
  go_wp2_with fail
  refine bodyPost_ret (v := .tuple #[.int .u64 0, .int .u64 0, .bool false]) (by simp only [results, Tryz.results81]; go_simp) rfl ?_
  exact ⟨rfl, (have := Beh.mk B4; zbh)⟩)
theorem arest_ok (w : World) (hT : Tab w) (f : Nat) (hf : f < 18446744073709551616) (d : Option (Int × Int)) (hN : IsN d) (a : Option Addr) (c : Nat) (hx : Mag w a (nl (dman d).natAbs) c (dman d).natAbs) (h : (!dbad (fof (frest f d)) && !dbad (dadd d (dneg (fof f)))) = true) (h2 : dcmp (fof (frest f d)) (dadd d (dneg (fof f))) = 0) :
 Calls Tryz.prog 81 #[.int .u64 f, .agg #[.bool (dbad d), .bool (decide (dman d < 0)), .slice a (nl (dman d).natAbs) c, .int .i64 (dexp d)]] w fun o w' => o = .returned (.tuple #[.int .u64 f, .int .u64 (frest f d : Nat), .bool true]) ∧ Below w.heap.size w w' := by
 have HO := fun W ht => Lib.hid (fof_any W f hf ht)
 have HOt := fun W ht => Lib.hid (fof_any W (frest f d) (frest_lt f d) ht)
 have N1 := isN_fof f
 have N2 := isN_fof (frest f d)
 have N3 := isN_rest f d
 have HS := fun W b1 q1 b2 q2 (h1 : Mag W b1 (nl (dman d).natAbs) q1 (dman d).natAbs) (h2 : Mag W b2 (nl (dman (fof f)).natAbs) q2 (dman (fof f)).natAbs) ht => Lib.hid (show Calls Tryz.prog 130 #[.agg #[.bool (dbad d), .bool (decide (dman d < 0)), .slice b1 (nl (dman d).natAbs) q1, .int .i64 (dexp d)], .agg #[.bool (dbad (fof f)), .bool (decide (dman (fof f) < 0)), .slice b2 (nl (dman (fof f)).natAbs) q2, .int .i64 (dexp (fof f))]] W (RetDy W (dadd d (dneg (fof f)))) from dsub_any W _ _ _ _ _ _ _ _ _ _ _ _ _ _ (dyin_of hN h1) (dyin_of N1 h2) ht)
 have HR := fun W b1 q1 (h1 : Mag W b1 (nl (dman (dadd d (dneg (fof f)))).natAbs) q1 (dman (dadd d (dneg (fof f)))).natAbs) ht => Lib.hid (show Calls Tryz.prog 105 #[.agg #[.bool (dbad (dadd d (dneg (fof f)))), .bool (decide (dman (dadd d (dneg (fof f))) < 0)), .slice b1 (nl (dman (dadd d (dneg (fof f)))).natAbs) q1, .int .i64 (dexp (dadd d (dneg (fof f))))], .int .i64 0] W fun o w' => o = .returned (.int .u64 (frest f d : Nat)) ∧ Below W.heap.size W w' from fround_any W _ _ _ _ _ _ 0 _ (dyin_of N3 h1) ht)
 have HC := fun W b1 q1 b2 q2 (h1 : Mag W b1 (nl (dman (fof (frest f d))).natAbs) q1 (dman (fof (frest f d))).natAbs) (h2 : Mag W b2 (nl (dman (dadd d (dneg (fof f)))).natAbs) q2 (dman (dadd d (dneg (fof f)))).natAbs) ht => Lib.hid (dcmp_any W _ _ _ _ _ _ _ _ _ _ _ _ _ _ (dyin_of N2 h1) (dyin_of N3 h2) ht)
 obtain ⟨ok, hok⟩ : ∃ ok, ok = (!dbad (fof (frest f d)) && !dbad (dadd d (dneg (fof f)))) := ⟨_, rfl⟩
 obtain ⟨v, hv⟩ : ∃ v, v = dcmp (fof (frest f d)) (dadd d (dneg (fof f))) := ⟨_, rfl⟩
 rw [← hok, ← hv] at HC
 rw [h] at hok
 subst hok
 have hv0 : (v != 0) = false := by rw [hv, h2]; rfl
 clear hN N1 N2 N3 h h2 hv hf
 generalize dadd d (dneg (fof f)) = y at *
 generalize fof (frest f d) = dt at *
 generalize ((frest f d : Nat) : Int) = tt at *
 generalize fof f = df at *
 go_enter Tryz.func81, Tryz.ntmps81
 go_wp2_with fail
 have Ix := (DyV.made' w 34 (dbad d) (decide (dman d < 0)) (.slice a (nl (dman d).natAbs) c) (dexp d) (n := w.heap.size) (by rfl))
 have B0 : Below w.heap.size w (w.alloc (.cells #[.bool (dbad d), .bool (decide (dman d < 0)), (.slice a (nl (dman d).natAbs) c), .int .i64 (dexp d)] 34)) := zbh
 generalize (w.alloc (.cells #[.bool (dbad d), .bool (decide (dman d < 0)), (.slice a (nl (dman d).natAbs) c), .int .i64 (dexp d)] 34)) = w0 at Ix B0 ⊢
 generalize hb0 : w.heap.size = b0 at Ix ⊢
 obtain ⟨xc0, xc1, xc2, xc3, xc4, xc5⟩ := Ix
 have Vx0 := Lib.hid (DyV.mk xc0 xc1 xc2 xc3 xc4 xc5)
 go_cut [7] (fun pty wx => ∃ zy ay cy, pty = .pointer (some ⟨zy, 0, none⟩) ∧ Below w0.heap.size w0 wx ∧ w0.heap.size ≤ zy ∧ (0 < (nl (dman y).natAbs) → w0.heap.size ≤ ab ay) ∧ DyV wx zy (dbad y) (decide (dman y < 0)) (.slice ay (nl (dman y).natAbs) cy) (dexp y) ∧ Mag wx ay (nl (dman y).natAbs) cy (dman y).natAbs)
 case first =>
  have hBz0 : Below w0.heap.size w0 w0 := Below.refl _ _
  go_region_held3 (fun w' => w'.cell? ⟨b0, 0, none⟩ = some (.bool (dbad d)) ∧ w'.cell? ⟨b0, 1, none⟩ = some (.bool (decide (dman d < 0))) ∧ w'.cell? ⟨b0, 2, none⟩ = some ((.slice a (nl (dman d).natAbs) c)) ∧ w'.cell? ⟨b0, 3, none⟩ = some (.int .i64 (dexp d))) (first | (go_keep; done) | (go_simp; done))
   (first
    | (go_at_call 130; have xx := B1; refine (HS _ a c a1 c1 (hx.below (by have hszw := (B1).size; repeat (with_reducible first | refine Below.setCell ?_ (by first | omega | (simp <;> omega)) _ | refine Below.alloc ?_ (by first | omega | (simp <;> omega)) _ | refine Below.drew ?_ | refine below_drewN ?_ _ | exact B1))) (by repeat (with_reducible first | refine Mag.set ?_ (fun h => by have := M11 h; omega) _ _ | refine Mag.drew ?_ | refine Mag.alloc ?_ _ | refine Mag.drewN ?_ _ | exact M11)) (hT.below (by have hszw := (B1).size; repeat (with_reducible first | refine Below.setCell ?_ (by first | omega | (simp <;> omega)) _ | refine Below.alloc ?_ (by first | omega | (simp <;> omega)) _ | refine Below.drew ?_ | refine below_drewN ?_ _ | exact B1)))).out.mono ?_; rintro e w2 ⟨ay, cy, rfl, My2, hb2, hf2⟩; have hs2 := hb2.size; (try simp at hs2 hf2); have o2 := My2.old; have Vx2 : DyV w2 b0 (dbad d) (decide (dman d < 0)) (.slice a (nl (dman d).natAbs) c) (dexp d) := (by refine DyV.below ?_ hb2; (repeat (with_reducible first | refine DyV.drew ?_ | refine DyV.drewN ?_ _ | refine DyV.alloc ?_ _)); exact Vx1.out); (try clear xc0 xc1 xc2 xc3 xc4); obtain ⟨xc0, xc1, xc2, xc3, xc4, xc5⟩ := Vx2; have Vx2 := Lib.hid (DyV.mk xc0 xc1 xc2 xc3 xc4 xc5); have M12 : Mag w2 a1 (nl (dman df).natAbs) c1 (dman df).natAbs := Mag.below (by repeat (with_reducible first | refine Mag.set ?_ (fun h => by have := M11 h; omega) _ _ | refine Mag.drew ?_ | refine Mag.alloc ?_ _ | refine Mag.drewN ?_ _ | exact M11)) hb2; have B2 := below_box (w := w) (by have hszw := (B1).size; repeat (with_reducible first | refine Below.setCell ?_ (by first | omega | (simp <;> omega)) _ | refine Below.alloc ?_ (by first | omega | (simp <;> omega)) _ | refine Below.drew ?_ | refine below_drewN ?_ _ | exact B1)) hb2; have hBz2 : Below w0.heap.size w0 w2 := Below.trans (by have hszw := (hBz1).size; repeat (with_reducible first | refine Below.setCell ?_ (by first | omega | (simp <;> omega)) _ | refine Below.alloc ?_ (by first | omega | (simp <;> omega)) _ | refine Below.drew ?_ | refine below_drewN ?_ _ | exact hBz1)) (hb2.mono (by first | exact Nat.le_refl _ | (simp; done) | omega | (simp <;> omega))); have hsz2 := hBz2.size; (try (have F0x0D : DyV w2 (w0.heap.size) false false (.slice none 0 0) 0 := (by first | (refine DyV.below ?_ hb2; (repeat (first | exact F0x0D.out | (refine DyV.made' _ _ _ _ _ _ ?_; first | rfl | (simp; done)) | with_reducible refine DyV.drew ?_ | with_reducible refine DyV.alloc ?_ _)); done) | fail); obtain ⟨F0x0Dc0, F0x0Dc1, F0x0Dc2, F0x0Dc3, F0x0Dc4, F0x0Dc5⟩ := F0x0D; have F0x0D := Lib.hid (DyV.mk F0x0Dc0 F0x0Dc1 F0x0Dc2 F0x0Dc3 F0x0Dc4 F0x0Dc5))); (try (have F1x0D : DyV w2 (w1.heap.size) false false (.slice none 0 0) 0 := (by first | (refine DyV.below ?_ hb2; (repeat (first | exact F1x0D.out | (refine DyV.made' _ _ _ _ _ _ ?_; first | rfl | (simp; done)) | with_reducible refine DyV.drew ?_ | with_reducible refine DyV.alloc ?_ _)); done) | fail); obtain ⟨F1x0Dc0, F1x0Dc1, F1x0Dc2, F1x0Dc3, F1x0Dc4, F1x0Dc5⟩ := F1x0D; have F1x0D := Lib.hid (DyV.mk F1x0Dc0 F1x0Dc1 F1x0Dc2 F1x0Dc3 F1x0Dc4 F1x0Dc5))))
    | (go_at_call 47; refine (HO _ (hT.below (by have hszw := (B0).size; repeat (with_reducible first | refine Below.setCell ?_ (by first | omega | (simp <;> omega)) _ | refine Below.alloc ?_ (by first | omega | (simp <;> omega)) _ | refine Below.drew ?_ | refine below_drewN ?_ _ | exact B0)))).out.mono ?_; rintro e w1 ⟨a1, c1, rfl, M11, hb1, hf1⟩; have hs1 := hb1.size; (try simp at hs1 hf1); have o1 := M11.old; have Vx1 : DyV w1 b0 (dbad d) (decide (dman d < 0)) (.slice a (nl (dman d).natAbs) c) (dexp d) := (by refine DyV.below ?_ hb1; (repeat (with_reducible first | refine DyV.drew ?_ | refine DyV.drewN ?_ _ | refine DyV.alloc ?_ _)); exact Vx0.out); (try clear xc0 xc1 xc2 xc3 xc4); obtain ⟨xc0, xc1, xc2, xc3, xc4, xc5⟩ := Vx1; have Vx1 := Lib.hid (DyV.mk xc0 xc1 xc2 xc3 xc4 xc5); have B1 := below_box (w := w) (by have hszw := (B0).size; repeat (with_reducible first | refine Below.setCell ?_ (by first | omega | (simp <;> omega)) _ | refine Below.alloc ?_ (by first | omega | (simp <;> omega)) _ | refine Below.drew ?_ | refine below_drewN ?_ _ | exact B0)) hb1; have hBz1 : Below w0.heap.size w0 w1 := Below.trans (by have hszw := (hBz0).size; repeat (with_reducible first | refine Below.setCell ?_ (by first | omega | (simp <;> omega)) _ | refine Below.alloc ?_ (by first | omega | (simp <;> omega)) _ | refine Below.drew ?_ | refine below_drewN ?_ _ | exact hBz0)) (hb1.mono (by first | exact Nat.le_refl _ | (simp; done) | omega | (simp <;> omega))); have hsz1 := hBz1.size; (try (have F0x0D : DyV w1 (w0.heap.size) false false (.slice none 0 0) 0 := (by first | (refine DyV.below ?_ hb1; (repeat (first | exact F0x0D.out | (refine DyV.made' _ _ _ _ _ _ ?_; first | rfl | (simp; done)) | with_reducible refine DyV.drew ?_ | with_reducible refine DyV.alloc ?_ _)); done) | fail); obtain ⟨F0x0Dc0, F0x0Dc1, F0x0Dc2, F0x0Dc3, F0x0Dc4, F0x0Dc5⟩ := F0x0D; have F0x0D := Lib.hid (DyV.mk F0x0Dc0 F0x0Dc1 F0x0Dc2 F0x0Dc3 F0x0Dc4 F0x0Dc5))))
    | fail)
  all_goals as_aux_lemma => (
   (try have ne0x1 : ¬ w0.heap.size = w1.heap.size := by omega)
   (try have me0x1 : ¬ w1.heap.size = w0.heap.size := by omega)
   (try have ne0x2 : ¬ w0.heap.size = w2.heap.size := by omega)
   (try have me0x2 : ¬ w2.heap.size = w0.heap.size := by omega)
   (try have ne1x2 : ¬ w1.heap.size = w2.heap.size := by omega)
   (try have me1x2 : ¬ w2.heap.size = w1.heap.size := by omega)
   go_wp2_with fail
   go_meet
   refine ⟨_, ay, cy, rfl, ?_, ?_, ?_, ⟨?_, ?_, ?_, ?_, ?_, ?_⟩, ?_⟩
   · exact (by have hszw := (hBz2).size; repeat (with_reducible first | refine Below.setCell ?_ (by first | omega | (simp <;> omega)) _ | refine Below.alloc ?_ (by first | omega | (simp <;> omega)) _ | refine Below.drew ?_ | refine below_drewN ?_ _ | exact hBz2))
   · first | (simp; done) | omega | (simp <;> omega)
   · exact fun h => by have := hf2 h; have := hBz1.size; omega
   · go_simp
   · go_simp
   · go_simp
   · go_simp
   · intro i; go_simp
   · first | (simp; done) | omega | (simp <;> omega)
   · repeat (with_reducible first | refine Mag.set ?_ (fun h => by have := hf2 h; have := o2 h; first | omega | (simp; omega)) _ _ | refine Mag.drew ?_ | refine Mag.alloc ?_ _ | exact My2))
 case rest =>
 obtain ⟨w1, hww⟩ : ∃ w1, w1 = wc := ⟨_, rfl⟩
 subst hww
 obtain ⟨zy, ay, cy, rfl, hbz, lzy, lfy, Vy1, My1⟩ := hcut
 have nxy : ¬ b0 = zy := by have := Vx0.out.lt; omega
 have nyx : ¬ zy = b0 := by have := Vx0.out.lt; omega
 have fryx : 0 < (nl (dman y).natAbs) → ab ay ≠ b0 := fun h => by have := lfy h; have := Vx0.out.lt; omega
 have foy : 0 < (nl (dman y).natAbs) → w.heap.size ≤ ab ay := fun h => by have := lfy h; have := B0.size; omega
 have Vx1 : DyV w1 b0 (dbad d) (decide (dman d < 0)) (.slice a (nl (dman d).natAbs) c) (dexp d) := Vx0.out.below hbz
 have B1 := below_box (w := w) B0 hbz
 clear hbz
 (try clear xc0 xc1 xc2 xc3 xc4)
 obtain ⟨xc0, xc1, xc2, xc3, xc4, xc5⟩ := Vx1
 have Vx1 := Lib.hid (DyV.mk xc0 xc1 xc2 xc3 xc4 xc5)
 (try clear yc0 yc1 yc2 yc3 yc4)
 obtain ⟨yc0, yc1, yc2, yc3, yc4, yc5⟩ := Vy1
 have Vy1 := Lib.hid (DyV.mk yc0 yc1 yc2 yc3 yc4 yc5)
 go_wp2_with fail
 refine (HR _ ay cy (by repeat (with_reducible first | refine Mag.set ?_ (fun h => by have := My1 h; omega) _ _ | refine Mag.drew ?_ | refine Mag.alloc ?_ _ | refine Mag.drewN ?_ _ | exact My1)) (hT.below (by have hszw := (B1).size; repeat (with_reducible first | refine Below.setCell ?_ (by first | omega | (simp <;> omega)) _ | refine Below.alloc ?_ (by first | omega | (simp <;> omega)) _ | refine Below.drew ?_ | refine below_drewN ?_ _ | exact B1)))).out.mono ?_
 rintro e w2 ⟨rfl, hb2⟩
 have Vx2 : DyV w2 b0 (dbad d) (decide (dman d < 0)) (.slice a (nl (dman d).natAbs) c) (dexp d) := (Vx1.out.on.below hb2)
 (try clear xc0 xc1 xc2 xc3 xc4)
 obtain ⟨xc0, xc1, xc2, xc3, xc4, xc5⟩ := Vx2
 have Vx2 := Lib.hid (DyV.mk xc0 xc1 xc2 xc3 xc4 xc5)
 have Vy2 : DyV w2 zy (dbad y) (decide (dman y < 0)) (.slice ay (nl (dman y).natAbs) cy) (dexp y) := (Vy1.out.on.below hb2)
 (try clear yc0 yc1 yc2 yc3 yc4)
 obtain ⟨yc0, yc1, yc2, yc3, yc4, yc5⟩ := Vy2
 have Vy2 := Lib.hid (DyV.mk yc0 yc1 yc2 yc3 yc4 yc5)
 have My2 : Mag w2 ay (nl (dman y).natAbs) cy (dman y).natAbs := Mag.below (by repeat (with_reducible first | refine Mag.set ?_ (fun h => by have := My1 h; omega) _ _ | refine Mag.drew ?_ | refine Mag.alloc ?_ _ | refine Mag.drewN ?_ _ | exact My1)) hb2
 have B2 := below_box (w := w) (have := Beh.mk B1; zbh) hb2
 clear hb2
 go_wp2_with fail
 first
 | go_region_held3 (fun w' => w'.cell? ⟨b0, 0, none⟩ = some (.bool (dbad d)) ∧ w'.cell? ⟨b0, 1, none⟩ = some (.bool (decide (dman d < 0))) ∧ w'.cell? ⟨b0, 2, none⟩ = some ((.slice a (nl (dman d).natAbs) c)) ∧ w'.cell? ⟨b0, 3, none⟩ = some (.int .i64 (dexp d)) ∧ w'.cell? ⟨zy, 0, none⟩ = some (.bool (dbad y)) ∧ w'.cell? ⟨zy, 1, none⟩ = some (.bool (decide (dman y < 0))) ∧ w'.cell? ⟨zy, 2, none⟩ = some ((.slice ay (nl (dman y).natAbs) cy)) ∧ w'.cell? ⟨zy, 3, none⟩ = some (.int .i64 (dexp y))) (first | (go_keep; done) | (go_simp; done))
  (first
   | (go_at_call 131; have xx := B3; refine (HC _ a2 c2 ay cy (by repeat (with_reducible first | refine Mag.set ?_ (fun h => by have := M23 h; omega) _ _ | refine Mag.drew ?_ | refine Mag.alloc ?_ _ | refine Mag.drewN ?_ _ | exact M23)) (by repeat (with_reducible first | refine Mag.set ?_ (fun h => by have := My3 h; omega) _ _ | refine Mag.drew ?_ | refine Mag.alloc ?_ _ | refine Mag.drewN ?_ _ | exact My3)) (hT.below (by have hszw := (B3).size; repeat (with_reducible first | refine Below.setCell ?_ (by first | omega | (simp <;> omega)) _ | refine Below.alloc ?_ (by first | omega | (simp <;> omega)) _ | refine Below.drew ?_ | refine below_drewN ?_ _ | exact B3)))).out.mono ?_; rintro e w4 ⟨rfl, hb4⟩; have Vx4 : DyV w4 b0 (dbad d) (decide (dman d < 0)) (.slice a (nl (dman d).natAbs) c) (dexp d) := (by refine DyV.below ?_ hb4; (repeat (with_reducible first | refine DyV.drew ?_ | refine DyV.drewN ?_ _ | refine DyV.alloc ?_ _)); exact Vx3.out); (try clear xc0 xc1 xc2 xc3 xc4); obtain ⟨xc0, xc1, xc2, xc3, xc4, xc5⟩ := Vx4; have Vx4 := Lib.hid (DyV.mk xc0 xc1 xc2 xc3 xc4 xc5); have Vy4 : DyV w4 zy (dbad y) (decide (dman y < 0)) (.slice ay (nl (dman y).natAbs) cy) (dexp y) := (by refine DyV.below ?_ hb4; (repeat (with_reducible first | refine DyV.drew ?_ | refine DyV.drewN ?_ _ | refine DyV.alloc ?_ _)); exact Vy3.out); (try clear yc0 yc1 yc2 yc3 yc4); obtain ⟨yc0, yc1, yc2, yc3, yc4, yc5⟩ := Vy4; have Vy4 := Lib.hid (DyV.mk yc0 yc1 yc2 yc3 yc4 yc5); have My4 : Mag w4 ay (nl (dman y).natAbs) cy (dman y).natAbs := Mag.below (by repeat (with_reducible first | refine Mag.set ?_ (fun h => by have := My3 h; omega) _ _ | refine Mag.drew ?_ | refine Mag.alloc ?_ _ | refine Mag.drewN ?_ _ | exact My3)) hb4; have M24 : Mag w4 a2 (nl (dman dt).natAbs) c2 (dman dt).natAbs := Mag.below (by repeat (with_reducible first | refine Mag.set ?_ (fun h => by have := M23 h; omega) _ _ | refine Mag.drew ?_ | refine Mag.alloc ?_ _ | refine Mag.drewN ?_ _ | exact M23)) hb4; have B4 := below_box (w := w) (by have hszw := (B3).size; repeat (with_reducible first | refine Below.setCell ?_ (by first | omega | (simp <;> omega)) _ | refine Below.alloc ?_ (by first | omega | (simp <;> omega)) _ | refine Below.drew ?_ | refine below_drewN ?_ _ | exact B3)) hb4; clear hb4)
   | (go_at_call 47; have xx := B2; refine (HOt _ (hT.below (by have hszw := (B2).size; repeat (with_reducible first | refine Below.setCell ?_ (by first | omega | (simp <;> omega)) _ | refine Below.alloc ?_ (by first | omega | (simp <;> omega)) _ | refine Below.drew ?_ | refine below_drewN ?_ _ | exact B2)))).out.mono ?_; rintro e w3 ⟨a2, c2, rfl, M23, hb3, hf3⟩; have Vx3 : DyV w3 b0 (dbad d) (decide (dman d < 0)) (.slice a (nl (dman d).natAbs) c) (dexp d) := (by refine DyV.below ?_ hb3; (repeat (with_reducible first | refine DyV.drew ?_ | refine DyV.drewN ?_ _ | refine DyV.alloc ?_ _)); exact Vx2.out); (try clear xc0 xc1 xc2 xc3 xc4); obtain ⟨xc0, xc1, xc2, xc3, xc4, xc5⟩ := Vx3; have Vx3 := Lib.hid (DyV.mk xc0 xc1 xc2 xc3 xc4 xc5); have Vy3 : DyV w3 zy (dbad y) (decide (dman y < 0)) (.slice ay (nl (dman y).natAbs) cy) (dexp y) := (by refine DyV.below ?_ hb3; (repeat (with_reducible first | refine DyV.drew ?_ | refine DyV.drewN ?_ _ | refine DyV.alloc ?_ _)); exact Vy2.out); (try clear yc0 yc1 yc2 yc3 yc4); obtain ⟨yc0, yc1, yc2, yc3, yc4, yc5⟩ := Vy3; have Vy3 := Lib.hid (DyV.mk yc0 yc1 yc2 yc3 yc4 yc5); have My3 : Mag w3 ay (nl (dman y).natAbs) cy (dman y).natAbs := Mag.below (by repeat (with_reducible first | refine Mag.set ?_ (fun h => by have := My2 h; omega) _ _ | refine Mag.drew ?_ | refine Mag.alloc ?_ _ | refine Mag.drewN ?_ _ | exact My2)) hb3; have B3 := below_box (w := w) (by have hszw := (B2).size; repeat (with_reducible first | refine Below.setCell ?_ (by first | omega | (simp <;> omega)) _ | refine Below.alloc ?_ (by first | omega | (simp <;> omega)) _ | refine Below.drew ?_ | refine below_drewN ?_ _ | exact B2)) hb3; have hF3 : 0 < (nl (dman dt).natAbs) → w2.heap.size ≤ ab a2 := (fun h => by have hq := hf3 h; (try simp at hq); omega); have fr2x : 0 < (nl (dman dt).natAbs) → ab a2 ≠ b0 := (fun h => by have := hF3 h; have := Vx2.out.lt; omega); have fr2y : 0 < (nl (dman dt).natAbs) → ab a2 ≠ zy := (fun h => by have := hF3 h; have := Vy2.out.lt; omega); have fo2 : 0 < (nl (dman dt).natAbs) → w.heap.size ≤ ab a2 := (fun h => by have := hF3 h; have := B2.size; omega); clear hF3; clear hb3 hf3)
   | fail)
 | fail "region"
 all_goals (
  go_wp2_with fail
  refine bodyPost_ret (v := .tuple #[.int .u64 f, .int .u64 tt, .bool true]) (by simp only [results, Tryz.results81]; go_simp) rfl ?_
  exact ⟨rfl, (have := Beh.mk B4; zbh)⟩)
def rstS (f : Nat) (d : Option (Int × Int)) : Nat := if frestok f d then f else 0
def rstT (f : Nat) (d : Option (Int × Int)) : Nat := if frestok f d then frest f d else 0
theorem arest_any (w : World) (hT : Tab w) (f : Nat) (hf : f < 18446744073709551616) (d : Option (Int × Int)) (hN : IsN d) (a : Option Addr) (c : Nat) (hx : Mag w a (nl (dman d).natAbs) c (dman d).natAbs) :
 Calls Tryz.prog 81 #[.int .u64 f, .agg #[.bool (dbad d), .bool (decide (dman d < 0)), .slice a (nl (dman d).natAbs) c, .int .i64 (dexp d)]] w fun o w' => o = .returned (.tuple #[.int .u64 (rstS f d : Nat), .int .u64 (rstT f d : Nat), .bool (frestok f d)]) ∧ Below w.heap.size w w' := by
 cases h : (!dbad (fof (frest f d)) && !dbad (dadd d (dneg (fof f)))) with
 | false =>
  have e : frestok f d = false := by unfold frestok; rw [h]; rfl
  unfold rstS rstT; rw [e]; exact arest_no w hT f hf d hN a c hx h
 | true =>
  by_cases h2 : dcmp (fof (frest f d)) (dadd d (dneg (fof f))) = 0
  · have e : frestok f d = true := by unfold frestok; rw [h, decide_eq_true h2]; rfl
    unfold rstS rstT; rw [e]; exact arest_ok w hT f hf d hN a c hx h h2
  · have e : frestok f d = false := by unfold frestok; rw [h, decide_eq_false h2]; rfl
    unfold rstS rstT; rw [e]; exact arest_ne w hT f hf d hN a c hx h h2
theorem atwosum_any (w : World) (hT : Tab w) (a b : Nat) (ha : a < 18446744073709551616) (hb : b < 18446744073709551616) :
 Calls Tryz.prog 37 #[.int .u64 a, .int .u64 b] w fun o w' => o = .returned (.tuple #[.int .u64 (rstS (fadd a b 0) (dadd (fof a) (fof b)) : Nat), .int .u64 (rstT (fadd a b 0) (dadd (fof a) (fof b)) : Nat), .bool (frestok (fadd a b 0) (dadd (fof a) (fof b)))]) ∧ Below w.heap.size w w' := by
 have HA := fun W ht => Lib.hid (wadd_any W a b ha hb 0 ht)
 have HOa := fun W ht => Lib.hid (fof_any W a ha ht)
 have HOb := fun W ht => Lib.hid (fof_any W b hb ht)
 have N1 := isN_fof a
 have N2 := isN_fof b
 have HD := fun W b1 q1 b2 q2 (h1 : Mag W b1 (nl (dman (fof a)).natAbs) q1 (dman (fof a)).natAbs) (h2 : Mag W b2 (nl (dman (fof b)).natAbs) q2 (dman (fof b)).natAbs) ht => Lib.hid (dadd_any W _ _ _ _ _ _ _ _ _ _ _ _ _ _ (dyin_of N1 h1) (dyin_of N2 h2) ht)
 have hl : fadd a b 0 < 18446744073709551616 := fadd_lt2 ha hb 0
 have HR := fun W b1 q1 (h1 : Mag W b1 (nl (dman (dadd (fof a) (fof b))).natAbs) q1 (dman (dadd (fof a) (fof b))).natAbs) ht => Lib.hid (arest_any W ht (fadd a b 0) hl (dadd (fof a) (fof b)) (isN_add _ _) b1 q1 h1)
 clear N1 N2 hl
 generalize rstS (fadd a b 0) (dadd (fof a) (fof b)) = S at *
 generalize rstT (fadd a b 0) (dadd (fof a) (fof b)) = R at *
 generalize frestok (fadd a b 0) (dadd (fof a) (fof b)) = K at *
 generalize dadd (fof a) (fof b) = dd at *
 generalize fof a = da at *
 generalize fof b = db at *
 generalize ((fadd a b 0 : Nat) : Int) = V at *
 generalize (S : Int) = SS at *
 generalize (R : Int) = RR at *
 go_enter Tryz.func37, Tryz.ntmps37
 go_wp2_with fail
 have B0 : Below w.heap.size w w := Below.refl _ _
 refine (HA _ (hT.below (have := Beh.mk B0; zbh))).out.mono ?_
 rintro e w1 ⟨rfl, hb1⟩
 have B1 := below_box (w := w) (have := Beh.mk B0; zbh) hb1
 clear hb1
 (try clear xx)
 (try clear B0)
 go_wp2_with fail
 refine (HOa _ (hT.below (have := Beh.mk B1; zbh))).out.mono ?_
 rintro e w2 ⟨a1, c1, rfl, M12, hb2, hf2⟩
 have B2 := below_box (w := w) (have := Beh.mk B1; zbh) hb2
 clear hb2 hf2
 (try clear xx)
 (try clear B1)
 go_wp2_with fail
 refine (HOb _ (hT.below (have := Beh.mk B2; zbh))).out.mono ?_
 rintro e w3 ⟨a2, c2, rfl, M23, hb3, hf3⟩
 have M13 : Mag w3 a1 (nl (dman da).natAbs) c1 (dman da).natAbs := Mag.below (by repeat (with_reducible first | refine Mag.set ?_ (fun h => by have := M12 h; omega) _ _ | refine Mag.drew ?_ | refine Mag.alloc ?_ _ | refine Mag.drewN ?_ _ | exact M12)) hb3
 have B3 := below_box (w := w) (have := Beh.mk B2; zbh) hb3
 clear hb3 hf3
 (try clear xx)
 (try clear M12)
 (try clear B2)
 go_wp2_with fail
 refine (HD _ a1 c1 a2 c2 (by repeat (with_reducible first | refine Mag.set ?_ (fun h => by have := M13 h; omega) _ _ | refine Mag.drew ?_ | refine Mag.alloc ?_ _ | refine Mag.drewN ?_ _ | exact M13)) (by repeat (with_reducible first | refine Mag.set ?_ (fun h => by have := M23 h; omega) _ _ | refine Mag.drew ?_ | refine Mag.alloc ?_ _ | refine Mag.drewN ?_ _ | exact M23)) (hT.below (by have hszw := (B3).size; repeat (with_reducible first | refine Below.setCell ?_ (by first | omega | (simp <;> omega)) _ | refine Below.alloc ?_ (by first | omega | (simp <;> omega)) _ | refine Below.drew ?_ | refine below_drewN ?_ _ | exact B3)))).out.mono ?_
 rintro e w4 ⟨a3, c3, rfl, M34, hb4, hf4⟩
 have M14 : Mag w4 a1 (nl (dman da).natAbs) c1 (dman da).natAbs := Mag.below (by repeat (with_reducible first | refine Mag.set ?_ (fun h => by have := M13 h; omega) _ _ | refine Mag.drew ?_ | refine Mag.alloc ?_ _ | refine Mag.drewN ?_ _ | exact M13)) hb4
 have M24 : Mag w4 a2 (nl (dman db).natAbs) c2 (dman db).natAbs := Mag.below (by repeat (with_reducible first | refine Mag.set ?_ (fun h => by have := M23 h; omega) _ _ | refine Mag.drew ?_ | refine Mag.alloc ?_ _ | refine Mag.drewN ?_ _ | exact M23)) hb4
 have B4 := below_box (w := w) (have := Beh.mk B3; zbh) hb4
 clear hb4 hf4
 (try clear xx)
 (try clear M13)
 (try clear M23)
 (try clear B3)
 go_wp2_with fail
 refine (HR _ a3 c3 (by repeat (with_reducible first | refine Mag.set ?_ (fun h => by have := M34 h; omega) _ _ | refine Mag.drew ?_ | refine Mag.alloc ?_ _ | refine Mag.drewN ?_ _ | exact M34)) (hT.below (by have hszw := (B4).size; repeat (with_reducible first | refine Below.setCell ?_ (by first | omega | (simp <;> omega)) _ | refine Below.alloc ?_ (by first | omega | (simp <;> omega)) _ | refine Below.drew ?_ | refine below_drewN ?_ _ | exact B4)))).out.mono ?_
 rintro e w5 ⟨rfl, hb5⟩
 have M15 : Mag w5 a1 (nl (dman da).natAbs) c1 (dman da).natAbs := Mag.below (by repeat (with_reducible first | refine Mag.set ?_ (fun h => by have := M14 h; omega) _ _ | refine Mag.drew ?_ | refine Mag.alloc ?_ _ | refine Mag.drewN ?_ _ | exact M14)) hb5
 have M25 : Mag w5 a2 (nl (dman db).natAbs) c2 (dman db).natAbs := Mag.below (by repeat (with_reducible first | refine Mag.set ?_ (fun h => by have := M24 h; omega) _ _ | refine Mag.drew ?_ | refine Mag.alloc ?_ _ | refine Mag.drewN ?_ _ | exact M24)) hb5
 have M35 : Mag w5 a3 (nl (dman dd).natAbs) c3 (dman dd).natAbs := Mag.below (by repeat (with_reducible first | refine Mag.set ?_ (fun h => by have := M34 h; omega) _ _ | refine Mag.drew ?_ | refine Mag.alloc ?_ _ | refine Mag.drewN ?_ _ | exact M34)) hb5
 have B5 := below_box (w := w) (have := Beh.mk B4; zbh) hb5
 clear hb5
 (try clear xx)
 (try clear M14)
 (try clear M24)
 (try clear M34)
 (try clear B4)
 go_wp2_with fail
 refine bodyPost_ret (v := .tuple #[.int .u64 SS, .int .u64 RR, .bool K]) (by simp only [results, Tryz.results37]; go_simp) rfl ?_
 exact ⟨rfl, (have := Beh.mk B5; zbh)⟩
end Go.Proofs.YtgicceiimciafaaGreatDoor

/-
  Plain: the example of the chapter. No function of the program in sight.
-/
import Derived.Test.YtablcbgeeeboeaaGreatDoorZfPk
import Derived.Test.YtablcbgeeeboeaaGreatDoorZfRt
import Derived.Test.YtablcbgeeeboeaaGreatDoorZfKw
namespace Go.Proofs.YtablcbgeeeboeaaGreatDoor
open Go.RowKit Sp
def b4 (t : Nat) : Option (Int × Int) := match t with | 0 => nrm 4 0 | 1 => nrm 2 0 | 2 => nrm 2 0 | 3 => nrm 5 0 | _ => some (0, 0)
theorem isN_b4 (t : Nat) : IsN (b4 t) := by
 unfold b4
 split
 · exact isN_nrm _ _
 · exact isN_nrm _ _
 · exact isN_nrm _ _
 · exact isN_nrm _ _
 · rw [← nrm_zero 0]; exact isN_nrm _ _
theorem b4_V (V : Nat → Nat) (i j : Nat) : dleft b4 2 V i j 0 = dleft b4 2 (fun _ => 0) i j 0 := dleft_congr fun _ hc => absurd hc (Nat.not_lt_zero _)
theorem b4_00 (V : Nat → Nat) : dleft b4 2 V 0 0 0 = some (1, 2) := (b4_V V 0 0).trans (by decide +kernel)
theorem b4_10 (V : Nat → Nat) : dleft b4 2 V 1 0 0 = some (1, 1) := (b4_V V 1 0).trans (by decide +kernel)
theorem root4 : froot (some (1, 2)) 0 = 4611686018427387904 := by
 show (if (1 : Int) < 0 then fNaN else if (1 : Int) = 0 then 0 else frnd false (isq ((1 : Int).natAbs * 2 ^ rsh 1 2 56)) ((2 - (rsh 1 2 56 : Nat)) / 2) (decide (isq ((1 : Int).natAbs * 2 ^ rsh 1 2 56) * isq ((1 : Int).natAbs * 2 ^ rsh 1 2 56) ≠ (1 : Int).natAbs * 2 ^ rsh 1 2 56)) 0) = _
 rw [if_neg (by decide), if_neg (by decide), show rsh 1 2 56 = 118 by decide +kernel, show (1 : Int).natAbs * 2 ^ 118 = 2 ^ 59 * 2 ^ 59 by decide +kernel, isq_sq]
 decide +kernel
theorem pval4_0 (V : Nat → Nat) : pval b4 2 V 0 0 = 4611686018427387904 := by unfold pval; rw [if_pos rfl, b4_00, root4]
theorem pval4_1 (V : Nat → Nat) : pval b4 2 V 0 1 = 4607182418800017408 := by
 unfold pval; rw [if_neg (by decide), b4_10, b4_00, root4]; decide +kernel
theorem pan4 : pan b4 2 1 1 = 4607182418800017408 := by
 simp only [pan]
 rw [if_pos (by decide), if_neg (by decide)]
 exact pval4_1 _
theorem elie4 : eliE b4 2 1 = 0 := firstE_all _ _ fun j h1 h2 => by
 obtain rfl : j = 0 := by omega
 refine firstE_all _ _ fun i h3 h4 => ?_
 unfold ccode
 rcases (show i = 0 ∨ i = 1 by omega) with rfl | rfl
 · rw [b4_00, pval4_0, if_neg (by decide), if_neg (by decide), if_pos (by decide)]
 · rw [b4_10, pval4_1, if_neg (by decide), if_neg (by decide), if_pos (by decide)]
theorem rest4 : dleft b4 2 (pan b4 2 1) 1 1 1 = some (1, 2) := by
 rw [dleft_congr (V' := fun _ => 4607182418800017408) (fun c hc => by obtain rfl : c = 0 := (by omega); exact ⟨pan4, pan4⟩)]
 decide +kernel
theorem cone4 : conE b4 2 1 = 0 := firstE_all _ _ fun j h1 h2 => by
 obtain rfl : j = 1 := by omega
 refine firstE_all _ _ fun i h3 h4 => ?_
 obtain rfl : i = 1 := by omega
 unfold resE'
 rw [rest4]; rfl
theorem elime4 : elimE b4 2 1 = 0 := by unfold elimE; rw [if_pos elie4, cone4]
theorem elimk4 : elimK b4 2 1 = 1 := by unfold elimK; rw [if_pos elime4]
theorem rest4' : rest b4 2 1 0 = some (1, 2) := by unfold rest; exact rest4
theorem bad4 : anyBad b4 4 = false := by decide +kernel
end Go.Proofs.YtablcbgeeeboeaaGreatDoor
set_option maxRecDepth 100000
set_option maxHeartbeats 20000000
namespace Go.Proofs.YtablcbgeeeboeaaGreatDoor
open Go.RowKit Sp
theorem dz4 {W : World} (d : Nat → Option (Int × Int)) (A : Nat → Option Addr) (C : Nat → Nat) (hN : ∀ i, IsN (d i)) (hm : ∀ i, i < 4 → Mag W (A i) (nl (dman (d i)).natAbs) (C i) (dman (d i)).natAbs) {g : Nat} (hg : g = W.heap.size) :
 Dz (W.alloc (.cells #[.bool (dbad (d 0)), .bool (decide (dman (d 0) < 0)), .slice (A 0) (nl (dman (d 0)).natAbs) (C 0), .int .i64 (dexp (d 0)), .bool (dbad (d 1)), .bool (decide (dman (d 1) < 0)), .slice (A 1) (nl (dman (d 1)).natAbs) (C 1), .int .i64 (dexp (d 1)), .bool (dbad (d 2)), .bool (decide (dman (d 2) < 0)), .slice (A 2) (nl (dman (d 2)).natAbs) (C 2), .int .i64 (dexp (d 2)), .bool (dbad (d 3)), .bool (decide (dman (d 3) < 0)), .slice (A 3) (nl (dman (d 3)).natAbs) (C 3), .int .i64 (dexp (d 3))] 46)) (some ⟨g, 0, none⟩) 4 4 d := by
 subst hg
 refine ⟨⟨A, C, ⟨by omega, by omega, fun _ => rfl, fun i hi => ?_, fun i hi => ?_, fun i hi => ?_, fun i hi => ?_, fun i hi => (hm i hi).alloc _, fun i hi => ?_, fun _ => by show W.heap.size < _; simp⟩⟩, fun i _ => hN i⟩
 · rcases (show i = 0 ∨ i = 1 ∨ i = 2 ∨ i = 3 by omega) with rfl | rfl | rfl | rfl <;> (rw [ab_some, ao_some, World.cell?_alloc_new]; rfl)
 · rcases (show i = 0 ∨ i = 1 ∨ i = 2 ∨ i = 3 by omega) with rfl | rfl | rfl | rfl <;> (rw [ab_some, ao_some, World.cell?_alloc_new]; rfl)
 · rcases (show i = 0 ∨ i = 1 ∨ i = 2 ∨ i = 3 by omega) with rfl | rfl | rfl | rfl <;> (rw [ab_some, ao_some, World.cell?_alloc_new]; rfl)
 · rcases (show i = 0 ∨ i = 1 ∨ i = 2 ∨ i = 3 by omega) with rfl | rfl | rfl | rfl <;> (rw [ab_some, ao_some, World.cell?_alloc_new]; rfl)
 · have := isN_bounds (hN i)
   exact ⟨by show -9223372036854775808 ≤ dexp (d i); omega, by show dexp (d i) ≤ 9223372036854775807; omega⟩
theorem dz4' {W : World} (d : Nat → Option (Int × Int)) (hN : ∀ i, IsN (d i)) {e0 e1 e2 e3 : Option (Int × Int)} {a0 a1 a2 a3 : Option Addr} {c0 c1 c2 c3 : Nat} (h0 : d 0 = e0) (h1 : d 1 = e1) (h2 : d 2 = e2) (h3 : d 3 = e3)
 (m0 : Mag W a0 (nl (dman e0).natAbs) c0 (dman e0).natAbs) (m1 : Mag W a1 (nl (dman e1).natAbs) c1 (dman e1).natAbs) (m2 : Mag W a2 (nl (dman e2).natAbs) c2 (dman e2).natAbs) (m3 : Mag W a3 (nl (dman e3).natAbs) c3 (dman e3).natAbs) {g : Nat} (hg : g = W.heap.size) :
 Dz (W.alloc (.cells #[.bool (dbad e0), .bool (decide (dman e0 < 0)), .slice a0 (nl (dman e0).natAbs) c0, .int .i64 (dexp e0), .bool (dbad e1), .bool (decide (dman e1 < 0)), .slice a1 (nl (dman e1).natAbs) c1, .int .i64 (dexp e1), .bool (dbad e2), .bool (decide (dman e2 < 0)), .slice a2 (nl (dman e2).natAbs) c2, .int .i64 (dexp e2), .bool (dbad e3), .bool (decide (dman e3 < 0)), .slice a3 (nl (dman e3).natAbs) c3, .int .i64 (dexp e3)] 46)) (some ⟨g, 0, none⟩) 4 4 d := by
 subst h0 h1 h2 h3
 exact dz4 d (fun i => match i with | 0 => a0 | 1 => a1 | 2 => a2 | _ => a3) (fun i => match i with | 0 => c0 | 1 => c1 | 2 => c2 | _ => c3) hN (fun i hi => by
  rcases (show i = 0 ∨ i = 1 ∨ i = 2 ∨ i = 3 by omega) with rfl | rfl | rfl | rfl
  · exact m0
  · exact m1
  · exact m2
  · exact m3) hg
attribute [local irreducible] Calls
theorem awake23_any (w : World) [Tb w] : Calls Tryz.prog 17 #[] w fun o w' => o = .returned (.bool true) ∧ Below w.heap.size w w' := by
 have H4 := fun W [Tb W] => Lib.hid (frI (rdfromInt_any W 4 tb (by omega) (by omega)))
 have H2 := fun W [Tb W] => Lib.hid (frI (rdfromInt_any W 2 tb (by omega) (by omega)))
 have H5 := fun W [Tb W] => Lib.hid (frI (rdfromInt_any W 5 tb (by omega) (by omega)))
 have HE := fun W a c [DZ W a 4 c b4] [Tb W] => Lib.hid (delim_any W 2 1 1 a 4 c b4 rfl (by omega) isN_b4 bad4 (by omega) (by omega) (by omega))
 rw [elime4, elimk4] at HE
 obtain ⟨d4, h4⟩ : ∃ d, d = nrm 4 0 := ⟨_, rfl⟩
 obtain ⟨d2, h2⟩ : ∃ d, d = nrm 2 0 := ⟨_, rfl⟩
 obtain ⟨d5, h5⟩ : ∃ d, d = nrm 5 0 := ⟨_, rfl⟩
 rw [← h4] at H4
 rw [← h2] at H2
 rw [← h5] at H5
 have h40 := Lib.hid (show b4 0 = d4 from h4.symm)
 have h41 := Lib.hid (show b4 1 = d2 from h2.symm)
 have h42 := Lib.hid (show b4 2 = d2 from h2.symm)
 have h43 := Lib.hid (show b4 3 = d5 from h5.symm)
 have hr4 := Lib.hid (show d4 = some (1, 2) by rw [h4]; decide)
 clear h4 h2 h5
 go_enter Tryz.func17, Tryz.ntmps17
 go_wp2_with fail
 refine (H4 _).out.mono ?_; rintro o w1 ⟨a1, c1, rfl, i1, b1⟩
 go_wp2_with fail
 refine (H2 _).out.mono ?_; rintro o w2 ⟨a2, c2, rfl, i2, b2⟩
 go_wp2_with fail
 refine (H5 _).out.mono ?_; rintro o w3 ⟨a3, c3, rfl, i3, b3⟩
 go_wp2_with fail
 have hDz := dz4' (W := ((w3.alloc (.cells #[.bool (dbad d4), .bool (decide (dman d4 < 0)), .slice a1 (nl (dman d4).natAbs) c1, .int .i64 (dexp d4)] 46)).alloc (.cells #[.bool (dbad d2), .bool (decide (dman d2 < 0)), .slice a2 (nl (dman d2).natAbs) c2, .int .i64 (dexp d2)] 46)).alloc (.cells #[.bool (dbad d5), .bool (decide (dman d5 < 0)), .slice a3 (nl (dman d5).natAbs) c3, .int .i64 (dexp d5)] 46)) b4 isN_b4 h40.out h41.out h42.out h43.out (inferInstance : BI _ a1 (nl (dman d4).natAbs) c1 (dman d4).natAbs).out (inferInstance : BI _ a2 (nl (dman d2).natAbs) c2 (dman d2).natAbs).out (inferInstance : BI _ a2 (nl (dman d2).natAbs) c2 (dman d2).natAbs).out (inferInstance : BI _ a3 (nl (dman d5).natAbs) c3 (dman d5).natAbs).out (g := w3.heap.size + 1 + 1 + 1) (by simp)
 haveI hDZ := DZ.mk hDz
 clear hDz
 refine (HE _ _ _).out.mono ?_
 rintro o w4 ⟨pr, pc, r, pa, oa, pm, pcp, m, oc, V, D, rfl, ⟨⟨_, hF⟩, hD0, hDN⟩, h5, _, b4'⟩
 have hD := hD0.dz hDN
 obtain ⟨rfl, rfl, rfl, rfl, rfl, hV, hR⟩ := h5 (by first | exact rfl | trivial)
 haveI f4 : From _ w4 := ⟨b4'⟩
 have v1 : V 1 = 4607182418800017408 := (hV 1 (by omega)).trans pan4
 have r0 : D 0 = d4 := ((hR 0 (by omega)).trans rest4').trans hr4.out.symm
 have hF1 := hF.cell 1 (by omega)
 have hF2 : ∀ W, (Instr.indexAt 28 (.slice pa 2 pcp) (.int .i64 1)).run Tryz.prog W = .ok (.pointer (some ⟨ab pa, ao pa + 1, none⟩)) W := hF.idx 1 (by omega)
 have hF3 := hF.old (by omega)
 rw [v1] at hF1
 haveI zF : CE w4 (ab pa) (ao pa + 1) (.int .u64 4607182418800017408) := ⟨hF1, hF3⟩
 obtain ⟨p0, q0, z0, z1, z2, z3, z4⟩ := hD.el (i := 0) (by omega)
 have hD2 : ∀ W, (Instr.indexAt 23 (.slice oa 1 oc) (.int .i64 0)).run Tryz.prog W = .ok (.pointer (some ⟨ab oa, ao oa, none⟩)) W := hD.idx 0 (by omega)
 rw [r0] at z0 z1 z2 z3 z4
 simp only [Nat.zero_mul, Nat.add_zero] at z0 z1 z2 z3
 have HS := fun W p q p' q' [i : BI W p (nl (dman d4).natAbs) q (dman d4).natAbs] [j : BI W p' (nl (dman d4).natAbs) q' (dman d4).natAbs] [Tb W] => Lib.hid (by
  have hN4 : IsN d4 := by have := isN_b4 0; rwa [h40.out] at this
  haveI x1 : DS W (dbad d4) (decide (dman d4 < 0)) p (nl (dman d4).natAbs) q (dexp d4) d4 := ⟨dys_of hN4 i.out⟩
  haveI x2 : DS W (dbad d4) (decide (dman d4 < 0)) p' (nl (dman d4).natAbs) q' (dexp d4) d4 := ⟨dys_of hN4 j.out⟩
  exact frm (gsame_any W (dbad d4) (decide (dman d4 < 0)) (dbad d4) (decide (dman d4 < 0)) p p' (nl (dman d4).natAbs) (nl (dman d4).natAbs) q q' (dexp d4) (dexp d4) d4 d4 true (by simp)))
 clear hF hD hD0 hDN hV hR b4' v1 r0 hF1 h40 h41 h42 h43 hr4 HE H4 H2 H5
 go_wp2_with fail
 first
 | go_region_held3 (fun w' => w'.cell? ⟨w4.heap.size, 2, none⟩ = some (.slice pa 2 pcp) ∧ w'.cell? ⟨w4.heap.size + 1, 2, none⟩ = some (.slice oa 1 oc) ∧ w'.cell? ⟨ab pa, ao pa + 1, none⟩ = some (.int .u64 4607182418800017408) ∧ w'.cell? ⟨ab oa, ao oa, none⟩ = some (.bool (dbad d4)) ∧ w'.cell? ⟨ab oa, ao oa + 1, none⟩ = some (.bool (decide (dman d4 < 0))) ∧ w'.cell? ⟨ab oa, ao oa + 2, none⟩ = some (.slice p0 (nl (dman d4).natAbs) q0) ∧ w'.cell? ⟨ab oa, ao oa + 3, none⟩ = some (.int .i64 (dexp d4)) ∧ w'.cell? ⟨w3.heap.size, 0, none⟩ = some (.bool (dbad d4)) ∧ w'.cell? ⟨w3.heap.size, 1, none⟩ = some (.bool (decide (dman d4 < 0))) ∧ w'.cell? ⟨w3.heap.size, 2, none⟩ = some (.slice a1 (nl (dman d4).natAbs) c1) ∧ w'.cell? ⟨w3.heap.size, 3, none⟩ = some (.int .i64 (dexp d4))) (first | (go_simp; done))
  (first
   | (go_at_call 24; refine (HS _ _ _ _ _).out.mono ?_; rintro o w5 ⟨rfl, b5⟩)
   | fail)
 | fail "region"
 all_goals (
  go_wp2_with fail
  go_ret
  exact ⟨rfl, zbh⟩)
end Go.Proofs.YtablcbgeeeboeaaGreatDoor
namespace Go.Proofs.YtablcbgeeeboeaaGreatDoor
open Go.RowKit Sp
noncomputable def epn (B : Nat → Option (Int × Int)) (n k x : Nat) : Nat := if elimE B n k = 0 then x else 0
theorem fls_to {w : World} {a : Option Addr} {n c : Nat} {V V' : Nat → Nat} (h : Fls w a n c V) (e : ∀ t, t < n → V t = V' t) : Fls w a n c V' :=
 ⟨h.fits, h.lim, h.addr, fun i hi => by rw [← e i hi]; exact h.cell i hi, fun i hi => by rw [← e i hi]; exact h.b i hi, h.old⟩
def ElR (B : Nat → Option (Int × Int)) (n k : Nat) (v : Value) (lo hi : Nat) (w : World) : Prop := ∃ (pa : Option Addr) (pc : Nat) (oa : Option Addr) (oc : Nat),
 v = .tuple #[.agg #[.int .i64 (epn B n k n), .int .i64 (epn B n k k), .slice pa (epn B n k (n * k)) pc], .agg #[.int .i64 (epn B n k (n - k)), .int .i64 (epn B n k (n - k)), .slice oa (epn B n k ((n - k) * (n - k))) oc], .int .i64 (elimK B n k), .int .i64 (elimE B n k)] ∧
 FW pa (epn B n k (n * k)) pc (pan B n k) lo hi w ∧ DW oa (epn B n k ((n - k) * (n - k))) oc (rest B n k) lo hi w
noncomputable def ElR.pa {B : Nat → Option (Int × Int)} {n k : Nat} {v : Value} {lo hi : Nat} {w : World} (h : ElR B n k v lo hi w) : Option Addr := Exists.choose h
noncomputable def ElR.pc {B : Nat → Option (Int × Int)} {n k : Nat} {v : Value} {lo hi : Nat} {w : World} (h : ElR B n k v lo hi w) : Nat := Exists.choose (Exists.choose_spec h)
noncomputable def ElR.oa {B : Nat → Option (Int × Int)} {n k : Nat} {v : Value} {lo hi : Nat} {w : World} (h : ElR B n k v lo hi w) : Option Addr := Exists.choose (Exists.choose_spec (Exists.choose_spec h))
noncomputable def ElR.oc {B : Nat → Option (Int × Int)} {n k : Nat} {v : Value} {lo hi : Nat} {w : World} (h : ElR B n k v lo hi w) : Nat := Exists.choose (Exists.choose_spec (Exists.choose_spec (Exists.choose_spec h)))
theorem ElR.sp {B : Nat → Option (Int × Int)} {n k : Nat} {v : Value} {lo hi : Nat} {w : World} (h : ElR B n k v lo hi w) :
 v = .tuple #[.agg #[.int .i64 (epn B n k n), .int .i64 (epn B n k k), .slice h.pa (epn B n k (n * k)) h.pc], .agg #[.int .i64 (epn B n k (n - k)), .int .i64 (epn B n k (n - k)), .slice h.oa (epn B n k ((n - k) * (n - k))) h.oc], .int .i64 (elimK B n k), .int .i64 (elimE B n k)] ∧
 FW h.pa (epn B n k (n * k)) h.pc (pan B n k) lo hi w ∧ DW h.oa (epn B n k ((n - k) * (n - k))) h.oc (rest B n k) lo hi w :=
 Exists.choose_spec (Exists.choose_spec (Exists.choose_spec (Exists.choose_spec h)))
theorem DM.to {w : World} {base k : Nat} {v : Value} {d d' : Nat → Option (Int × Int)} {A : Nat → Option Addr} {C : Nat → Nat} (h : DM w base v k d A C) (e : ∀ i, i < k → d i = d' i) : DM w base v k d' A C :=
 ⟨h.out.congr e, fun i hi hp => h.fr i hi (by rw [e i hi]; exact hp)⟩
theorem DW.to {w : World} {a : Option Addr} {n c lo hi : Nat} {d d' : Nat → Option (Int × Int)} (h : DW a n c d lo hi w) (e : ∀ i, i < n → d i = d' i) : DW a n c d' lo hi w := by
 obtain ⟨A, C, h1, h2, h3⟩ := h
 exact ⟨A, C, h1.to e, h2, fun i hi hp => h3 i hi (by rw [e i hi]; exact hp)⟩
attribute [local irreducible] Calls
end Go.Proofs.YtablcbgeeeboeaaGreatDoor

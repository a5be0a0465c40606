/-
  Walks: package dense: Eliminate.
-/
import Derived.Test.YtablcbgeeeboeaaGreatDoorZhPo
import Derived.Test.YtablcbgeeeboeaaGreatDoorZhPc
import Derived.Test.YtablcbgeeeboeaaGreatDoorZhQi
set_option maxRecDepth 100000
set_option maxHeartbeats 20000000
namespace Go.Proofs.YtablcbgeeeboeaaGreatDoor
open Go.RowKit Sp
theorem zJR (B : Nat → Option (Int × Int)) (n : Nat) (V : Nat → Nat) (j i : Nat) : zE8 B n V j i < 18446744073709551616 := by
 unfold zE8; split
 · exact zGe _ _
 · exact zHC _ _ _
theorem zLM (B : Nat → Option (Int × Int)) (n : Nat) : ∀ (j t : Nat), pan B n j t < 18446744073709551616 := by
 intro j
 induction j with
 | zero => intro t; show 0 < 18446744073709551616; omega
 | succ j ih =>
  intro t
  simp only [pan]
  split
  · split
    · omega
    · exact zJR _ _ _ _ _
  · exact ih t
theorem zFk {w : World} {base m c k : Nat} {a : Option Addr} {L : Nat → Nat} (h : w.ownsRow base 40 1 (.slice a m c) k (zAX L k)) (hb : ∀ i, i < k → L i < 18446744073709551616) : m = k ∧ Fls w a k c L := by
 obtain ⟨a', c', e, hz⟩ := zJU h hb
 injection e with e1 e2 e3
 subst e1 e3
 exact ⟨e2, hz⟩
theorem DM.drx {w : World} {base k : Nat} {v : Value} {d : Nat → Option (Int × Int)} {A : Nat → Option Addr} {C : Nat → Nat} (h : DM w base v k d A C) : DM w.drew base v k d A C := inferInstance
theorem zFx (W : World) (X : Nat → Nat) : Fls W none 0 0 X := ⟨by omega, by omega, by omega, fun i hi => by omega, fun i hi => by omega, by omega⟩
theorem zK2 (w w' : World) : FW none 0 0 (fun _ => 0) w.heap.size w'.heap.size w' ∧ DW none 0 0 (fun _ => none) w.heap.size w'.heap.size w' ∧ ∀ _ : Nat, IsN none :=
 ⟨FW.of (zFx _ _) (fun h => absurd h (Nat.lt_irrefl _)), DW.of ⟨_, _, DM.nil _ _ _⟩, fun _ => zBM⟩
theorem fof_zero : fof 0 = some (0, 0) := by decide
theorem St.make {W : World} {base gp ge n k b : Nat} {vE : Value} {t : TypeId} (hop : W.ownsRow base 40 1 (.slice (some ⟨gp, 0, none⟩) (n * k) (n * k)) (n * k) (zAX (fun _ => 0) (n * k)))
 (hox : Dms W base (.slice (some ⟨ge, 0, none⟩) (n * k) (n * k)) (n * k) (fun _ => some (0, 0)) (fun _ => none) (fun _ => 0)) (hne : gp ≠ ge) (hl : gp < W.heap.size ∧ ge < W.heap.size) (hb : b = W.heap.size) (hbb : base ≤ W.heap.size) :
 St base (W.alloc (.cells #[.int .i64 n, .int .i64 n, vE, .int .i64 n, .int .i64 k, .slice (some ⟨gp, 0, none⟩) (n * k) (n * k), .slice (some ⟨ge, 0, none⟩) (n * k) (n * k)] t)) b n k vE gp ge (fun _ => 0) (fun _ => some (0, 0)) := by
 subst hb
 exact ⟨by rw [World.cell?_alloc_new]; rfl, by rw [World.cell?_alloc_new]; rfl, by rw [World.cell?_alloc_new]; rfl, by rw [World.cell?_alloc_new]; rfl, by rw [World.cell?_alloc_new]; rfl, by rw [World.cell?_alloc_new]; rfl, by rw [World.cell?_alloc_new]; rfl, fun i => by simp [go_sem], by rw [World.size_alloc]; omega, hbb,
  hop.alloc _, ⟨_, _, hox.below ((Below.refl _ _).alloc (Nat.le_refl _) _), fun i hi h => absurd h (by decide)⟩, ⟨hne, by omega, by omega⟩, fun i => by rw [← zBc 0]; exact zB7 _ _⟩
theorem zFn (N : Nat) (hN : N ≤ 1048576) (W : World) (base : Nat) (hb : base ≤ W.heap.size) {g : Nat} (hg : g = W.heap.size) : (W.alloc (.cells (madeCells #[.int .u64 0] N) 40)).ownsRow base 40 1 (.slice (some ⟨g, 0, none⟩) N N) N (zAX (fun _ => 0) N) := by
 have h := zNt N hN W base hb hg
 rwa [Nat.mul_one] at h
theorem St.mkA (W : World) (base n k N : Nat) (vE : Value) (t : TypeId) (hb : base ≤ W.heap.size) (hN : N = n * k) (hN2 : N ≤ 1048576) :
 St base (((W.alloc (.cells (madeCells #[.int .u64 0] N) 40)).alloc (.cells (madeCells #[.bool false, .bool false, .slice none 0 0, .int .i64 0] (N * 4)) 46)).alloc (.cells #[.int .i64 n, .int .i64 n, vE, .int .i64 n, .int .i64 k, .slice (some ⟨W.heap.size, 0, none⟩) N N, .slice (some ⟨W.heap.size + 1, 0, none⟩) N N] t)) (W.heap.size + 1 + 1) n k vE W.heap.size (W.heap.size + 1) (fun _ => 0) (fun _ => some (0, 0)) := by
 subst hN
 exact St.make ((zFn _ hN2 W base hb rfl).alloc _) (zDu _ hN2 (W.alloc (.cells (madeCells #[.int .u64 0] (n * k)) 40)) base (by simp; omega) (by simp)) (by omega) (by simp; omega) (by simp) (by simp; omega)
theorem St.mkB (W : World) (base n k N : Nat) (vE : Value) (t : TypeId) (hb : base ≤ W.heap.size) (hN : N = n * k) (hN2 : N ≤ 1048576) :
 St base (((W.alloc (.cells (madeCells #[.bool false, .bool false, .slice none 0 0, .int .i64 0] (N * 4)) 46)).alloc (.cells (madeCells #[.int .u64 0] N) 40)).alloc (.cells #[.int .i64 n, .int .i64 n, vE, .int .i64 n, .int .i64 k, .slice (some ⟨W.heap.size + 1, 0, none⟩) N N, .slice (some ⟨W.heap.size, 0, none⟩) N N] t)) (W.heap.size + 1 + 1) n k vE (W.heap.size + 1) W.heap.size (fun _ => 0) (fun _ => some (0, 0)) := by
 subst hN
 exact St.make (zFn _ hN2 (W.alloc (.cells (madeCells #[.bool false, .bool false, .slice none 0 0, .int .i64 0] (n * k * 4)) 46)) base (by simp; omega) (by simp)) ((zDu _ hN2 W base hb rfl).below ((Below.refl _ _).alloc (Nat.le_refl _) _)) (by omega) (by simp; omega) (by simp) (by simp; omega)
attribute [local irreducible] Calls
theorem zGw (w : World) [Tb w] (n k : Nat) (width : Int) (ae : Option Addr) (M ce : Nat) (B : Nat → Option (Int × Int)) [hB : DZ w ae M ce B]
 (hM : M = n * n) (hn : n ≤ 64) (hBN : ∀ t, IsN (B t)) (hbad : zA5 B M = false) (hk : k ≤ n) (hw1 : 1 ≤ width) (hw2 : width ≤ 9223372036854775807) :
 Calls Tryz.prog 13 #[.agg #[.int .i64 n, .int .i64 n, .slice ae M ce], .int .i64 k, .int .i64 width] w fun o w' => ∃ (pr pc r : Nat) (pa oa : Option Addr) (pm pcp m oc : Nat) (V : Nat → Nat) (D : Nat → Option (Int × Int)),
  o = .returned (.tuple #[.agg #[.int .i64 pr, .int .i64 pc, .slice pa pm pcp], .agg #[.int .i64 r, .int .i64 r, .slice oa m oc], .int .i64 (zBo B n k), .int .i64 (zBh B n k)]) ∧ (FW pa pm pcp V w.heap.size w'.heap.size w' ∧ DW oa m oc D w.heap.size w'.heap.size w' ∧ ∀ i, IsN (D i)) ∧
  (zBh B n k = 0 → pr = n ∧ pc = k ∧ pm = n * k ∧ r = n - k ∧ m = (n - k) * (n - k) ∧ (∀ t, t < n * k → V t = pan B n k t) ∧ ∀ t, t < (n - k) * (n - k) → D t = rest B n k t) ∧
  (zBh B n k ≠ 0 → pr = 0 ∧ pc = 0 ∧ pm = 0 ∧ r = 0 ∧ m = 0) ∧ Below w.heap.size w w' := by
 have hsz : szE n n M = 0 := by unfold szE; rw [if_neg (by omega), if_neg (by omega), hM, if_pos (Int.natCast_mul n n)]
 have hE : zD3 n n M (zA5 B M) = 0 := by unfold zD3; rw [if_pos hsz, hbad]; rfl
 have HCk := fun W [i : DZ W ae M ce B] [Tb W] => Lib.hid (frm (by
  obtain ⟨⟨A, C, h1⟩, hN⟩ := i.out
  have h := zAw W tb n n ae M ce _ h1 (zFq hN A C)
  have e : zA5 (fun i => (mel B A C i).d) M = zA5 B M := zAJ fun t ht => zFp (hN t ht)
  rw [e, hE] at h
  exact h))
 have hNk : n * k ≤ 4096 := Nat.mul_le_mul hn (show k ≤ 64 by omega)
 have hmF := fun W => zKa (n * k) (by omega) W
 have hmD := fun W => zFo (n * k) (by omega) W
 have hmul : (n : Int) * (k : Int) = ((n * k : Nat) : Int) := (Int.natCast_mul n k).symm
 have HBD := Lib.hid hbad
 have l1 := hB.out.fits
 have v1 : IntKind.i64.wrap ((n * k : Nat) : Int) = ((n * k : Nat) : Int) := by rw [IntKind.wrap_i64]; omega
 obtain ⟨N, hN⟩ : ∃ N, N = n * k := ⟨_, rfl⟩
 rw [← hN] at hmF hmD hmul v1 hNk
 have HNN := Lib.hid hN
 have HM := Lib.hid hM
 clear hE hsz hM hbad hN
 go_enter Tryz.func13, Tryz.ntmps13
 go_wp2_with fail
 refine (HCk _).out.mono ?_; rintro o w2 ⟨rfl, b2⟩
 go_wp2_with fail
 have R0 : N3 w2 w.heap.size (.int .i64 n) (.int .i64 n) (.slice ae M ce) := inferInstance
 have R1 : N3 w2 (w.heap.size + 1) (.int .i64 0) (.int .i64 0) (.slice none 0 0) := inferInstance
 have R2 : N3 w2 (w.heap.size + 1 + 1) (.int .i64 0) (.int .i64 0) (.slice none 0 0) := inferInstance
 have D2 : DZ w2 ae M ce B := inferInstance
 have T2 : Tb w2 := inferInstance
 have L2 : Below w.heap.size w w2 := zbh
 haveI L2' : Beh w w2 := ⟨L2⟩
 have hs2 : w.heap.size + 3 ≤ w2.heap.size := by have := b2.out.size; simp at this; omega
 clear b2 HCk
 go_cut [12] (fun v wx => ∃ b gp ge, v = .pointer (some ⟨b, 0, none⟩) ∧ St w2.heap.size wx b n k (.slice ae M ce) gp ge (fun _ => 0) (fun _ => some (0, 0)) ∧ From w2 wx)
 case first =>
  first
  | go_region
  | fail "region"
  all_goals (
   go_wp2_with fail
   go_meet
   first
   | exact ⟨_, _, _, rfl, (St.mkA _ w2.heap.size n k N _ _ (Nat.le_refl _) HNN.out (by omega)).below (Below.refl _ _).drew, ⟨zbh⟩⟩
   | exact ⟨_, _, _, rfl, (St.mkB _ w2.heap.size n k N _ _ (Nat.le_refl _) HNN.out (by omega)).below (Below.refl _ _).drew, ⟨zbh⟩⟩)
 case rest =>
  obtain ⟨b, gp, ge, rfl, iS, b10⟩ := hcut
  generalize wc = w10 at *
  have hd0 : ∀ t, t < n * k → (fun _ => some (0, 0)) t = fof (pan B n 0 t) := fun t _ => fof_zero.symm
  have iS0 : St w2.heap.size w10 b n k (.slice ae M ce) gp ge (pan B n 0) (fun _ => some (0, 0)) := iS
  have HCo := fun W [From w2 W] (d : Nat → Option (Int × Int)) (j : Nat) [St w2.heap.size W b n k (.slice ae M ce) gp ge (pan B n j) d] (hd : ∀ t, t < n * k → d t = fof (pan B n j t)) (hj : j < k) => Lib.hid (zH8 w2 W b n k gp ge ae M ce B d j HM.out hn hBN hd hj hk)
  clear hmF hmD hmul v1 hNk HNN iS
  go_wp2_with fail
  go_loopw [13] (fun v wr => ∃ (f : Nat) (d' : Nat → Option (Int × Int)), f ≤ k ∧ v = .int .i64 f ∧ St w2.heap.size wr b n k (.slice ae M ce) gp ge (pan B n f) d' ∧ (∀ t, t < n * k → d' t = fof (pan B n f t)) ∧ zGD B n k = zAA (zCQ B n) f (k - f) ∧ zH2 B n k = zBJ (zCQ B n) f (k - f) ∧ Below w2.heap.size w2 wr) (fun v _ => k - (intOf v).toNat)
  case atStart => exact ⟨0, _, by omega, rfl, iS0, hd0, rfl, rfl, b10.out⟩
  case round =>
   clear iS0 hd0 b10
   obtain ⟨f, d', hf, rfl, iS, hd, he, ha, hbr⟩ := hrel
   have HD := Lib.hid hd
   have HE := Lib.hid he
   have HA := Lib.hid ha
   clear hd he ha
   by_cases hlt : f < k
   · obtain ⟨s, hs, hs1, hs2⟩ : ∃ s : Nat, min width ((k : Int) - (f : Int)) = (s : Int) ∧ 1 ≤ s ∧ s ≤ k - f := ⟨(min width ((k : Int) - (f : Int))).toNat, by omega, by omega, by omega⟩
     go_wp2_with fail
     go_loopw [14] (fun v wr => ∃ (j : Nat) (d' : Nat → Option (Int × Int)), f ≤ j ∧ j ≤ f + s ∧ v = .int .i64 j ∧ St w2.heap.size wr b n k (.slice ae M ce) gp ge (pan B n j) d' ∧ (∀ t, t < n * k → d' t = fof (pan B n j t)) ∧ zGD B n k = zAA (zCQ B n) j (k - j) ∧ zH2 B n k = zBJ (zCQ B n) j (k - j) ∧ Below w2.heap.size w2 wr) (fun v _ => k - (intOf v).toNat)
     case atStart => exact ⟨f, d', by omega, by omega, rfl, iS, HD.out, HE.out, HA.out, hbr⟩
     case round =>
      clear iS HD HE HA hbr
      obtain ⟨j, d', hj0, hj1, rfl, iS, hd, he, ha, hbr⟩ := hrel
      have HD := Lib.hid hd
      have HE := Lib.hid he
      have HA := Lib.hid ha
      haveI bwr : From w2 wr := ⟨hbr⟩
      clear hd he ha
      by_cases hlt2 : j < f + s
      · have hjk : j < k := by omega
        have HCj := HCo wr d' j HD.out hjk
        obtain ⟨z, hz⟩ : ∃ z, z = zCQ B n j := ⟨_, rfl⟩
        rw [← hz] at HCj
        by_cases h0 : z = 0
        · have he1 : zGD B n k = zAA (zCQ B n) (j + 1) (k - (j + 1)) := by rw [HE.out, zBa (by rw [← hz]; exact h0) (by omega)]; congr 1
          have ha1 : zH2 B n k = zBJ (zCQ B n) (j + 1) (k - (j + 1)) := by rw [HA.out, zET (by rw [← hz]; exact h0) (by omega)]; congr 1
          have HE1 := Lib.hid he1
          have HA1 := Lib.hid ha1
          subst h0
          clear he1 ha1 hz HE HA
          go_wp2_with fail
          refine HCj.out.mono ?_; rintro o w4 ⟨V4, d4, rfl, S4, hd4, hV4, b4⟩
          obtain rfl := hV4 (by first | exact rfl | trivial)
          have HD4 := Lib.hid hd4
          clear hd4
          go_wp2_with fail
          go_roundw
          case rel => exact ⟨j + 1, d4, by omega, by omega, by go_num, S4, HD4.out, HE1.out, HA1.out, b4⟩
          case measure => simp [intOf]; omega
        · have he1 : zGD B n k = z := by rw [HE.out, zAu (by rw [← hz]; exact h0) (by omega), ← hz]
          have ha1 : zH2 B n k = j := by rw [HA.out, zEU (by rw [← hz]; exact h0) (by omega)]
          have hfe : zBh B n k = z := by unfold zBh; rw [he1, if_neg h0]
          have hz0 : (z == 0) = false := by rw [beq_eq_false_iff_ne]; exact h0
          by_cases h1 : z = 231
          · have hfk : zBo B n k = j := by unfold zBo; rw [hfe, if_neg h0, he1, if_pos h1, ha1]
            have HFE := Lib.hid hfe
            have HFK := Lib.hid hfk
            subst h1
            clear he1 ha1 hz HE HA hfe hfk
            go_wp2_with fail
            refine HCj.out.mono ?_; rintro o w4 ⟨V4, d4, rfl, S4, hd4, hV4, b4⟩
            haveI bw4 : From w2 w4 := ⟨b4⟩
            clear hd4 hV4 S4
            go_wp2_with fail
            refine bodyPost_ret (v := .tuple #[.agg #[.int .i64 0, .int .i64 0, .slice none 0 0], .agg #[.int .i64 0, .int .i64 0, .slice none 0 0], .int .i64 j, .int .i64 231]) (by simp only [results, Tryz.results13]; go_simp) rfl ?_
            rw [HFE.out, HFK.out]
            exact ⟨0, 0, 0, none, none, 0, 0, 0, 0, fun _ => 0, fun _ => none, rfl, zK2 _ _, (fun h => by cases h), (fun _ => ⟨rfl, rfl, rfl, rfl, rfl⟩), zbh⟩
          · have hfk : zBo B n k = 0 := by unfold zBo; rw [hfe, if_neg h0, he1, if_neg h1]
            have hz1 : (z == 231) = false := by rw [beq_eq_false_iff_ne]; exact h1
            have HFE := Lib.hid hfe
            have HFK := Lib.hid hfk
            have H0 := Lib.hid h0
            clear he1 ha1 hz HE HA hfe hfk h0 h1
            go_wp2_with fail
            refine HCj.out.mono ?_; rintro o w4 ⟨V4, d4, rfl, S4, hd4, hV4, b4⟩
            haveI bw4 : From w2 w4 := ⟨b4⟩
            clear hd4 hV4 S4
            go_wp2_with fail
            refine bodyPost_ret (v := .tuple #[.agg #[.int .i64 0, .int .i64 0, .slice none 0 0], .agg #[.int .i64 0, .int .i64 0, .slice none 0 0], .int .i64 0, .int .i64 z]) (by simp only [results, Tryz.results13]; go_simp) rfl ?_
            rw [HFE.out, HFK.out]
            exact ⟨0, 0, 0, none, none, 0, 0, 0, 0, fun _ => 0, fun _ => none, rfl, zK2 _ _, (fun h => absurd h H0.out), (fun _ => ⟨rfl, rfl, rfl, rfl, rfl⟩), zbh⟩
      · have hjf : j = f + s := by omega
        go_wp2_with fail
        go_roundw
        case rel => exact ⟨j, d', by omega, by rw [hjf]; go_num, iS, HD.out, HE.out, HA.out, hbr⟩
        case measure => simp [intOf]; omega
   · have hfk : f = k := by omega
     rw [hfk] at iS HD HE
     have he0 : zGD B n k = 0 := by rw [HE.out, Nat.sub_self]; rfl
     have hfe : zBh B n k = zEy B n k := by unfold zBh; rw [if_pos he0]
     haveI bwr : From w2 wr := ⟨hbr⟩
     have HC := Lib.hid (zIO w2 wr b n k gp ge ae M ce B d' HM.out hn hBN HD.out (n - k) (by omega))
     have hfk0 : zEy B n k = 0 → zBo B n k = k := fun h => by unfold zBo; rw [hfe, if_pos h]
     have hfk1 : zEy B n k ≠ 0 → zBo B n k = 0 := fun h => by unfold zBo; rw [hfe, if_neg h, he0, if_neg (by decide)]
     obtain ⟨z, hz⟩ : ∃ z, z = zEy B n k := ⟨_, rfl⟩
     rw [← hz] at HC hfe hfk0 hfk1
     have HFE := Lib.hid hfe
     clear hz he0 hfe HE HA HCo
     by_cases h0 : z = 0
     · have HFK := Lib.hid (hfk0 h0)
       subst h0
       clear hfk0 hfk1
       go_wp2_with fail
       refine HC.out.mono ?_; rintro o w5 ⟨r, oa, m, oc, D, rfl, ⟨⟨A, C, M5⟩, hDN⟩, h5, h6, b5⟩
       obtain ⟨rfl, rfl, hD⟩ := h5 (by first | exact rfl | trivial)
       haveI f5 : From wr w5 := ⟨b5⟩
       have HDD := Lib.hid hD
       have HDN := Lib.hid hDN
       have e5 := b5.size
       have e2 := hbr.size
       clear hD hDN h5 h6 b5 HC
       go_wp2_with fail
       have Q1 : N3 (w5.alloc (.cells #[.int .i64 (n - k : Nat), .int .i64 (n - k : Nat), .slice oa ((n - k) * (n - k)) oc] 25)) (w.heap.size + 1) (.int .i64 0) (.int .i64 0) (.slice none 0 0) := inferInstance
       have Q2 : N3 (w5.alloc (.cells #[.int .i64 (n - k : Nat), .int .i64 (n - k : Nat), .slice oa ((n - k) * (n - k)) oc] 25)) (w.heap.size + 1 + 1) (.int .i64 0) (.int .i64 0) (.slice none 0 0) := inferInstance
       have Q3 : N3 (w5.alloc (.cells #[.int .i64 (n - k : Nat), .int .i64 (n - k : Nat), .slice oa ((n - k) * (n - k)) oc] 25)) w5.heap.size (.int .i64 (n - k : Nat)) (.int .i64 (n - k : Nat)) (.slice oa ((n - k) * (n - k)) oc) := inferInstance
       have Q4 : St w2.heap.size (w5.alloc (.cells #[.int .i64 (n - k : Nat), .int .i64 (n - k : Nat), .slice oa ((n - k) * (n - k)) oc] 25)) b n k (.slice ae M ce) gp ge (pan B n k) d' := inferInstance
       have Q5 : Below w.heap.size w (w5.alloc (.cells #[.int .i64 (n - k : Nat), .int .i64 (n - k : Nat), .slice oa ((n - k) * (n - k)) oc] 25)) := zbh
       haveI M5' := M5
       have Q6 : DM (w5.alloc (.cells #[.int .i64 (n - k : Nat), .int .i64 (n - k : Nat), .slice oa ((n - k) * (n - k)) oc] 25)) wr.heap.size (.slice oa ((n - k) * (n - k)) oc) ((n - k) * (n - k)) D A C := inferInstance
       obtain ⟨bx, hbx⟩ : ∃ bx, bx = w5.heap.size := ⟨_, rfl⟩
       rw [← hbx] at Q3 ⊢
       generalize (w5.alloc (.cells #[.int .i64 (n - k : Nat), .int .i64 (n - k : Nat), .slice oa ((n - k) * (n - k)) oc] 25)) = w6 at *
       haveI o1 : OB w6 (w.heap.size + 1) := ⟨Q1.z, Q1.lt⟩
       haveI o2 : OB w6 (w.heap.size + 1 + 1) := ⟨Q2.z, Q2.lt⟩
       haveI n1 : NB (w.heap.size + 1) (w.heap.size + 1 + 1) := ⟨by omega⟩
       haveI n2 : NB (w.heap.size + 1 + 1) (w.heap.size + 1) := ⟨by omega⟩
       haveI n3 : NB bx (w.heap.size + 1) := ⟨by omega⟩
       haveI n4 : NB bx (w.heap.size + 1 + 1) := ⟨by omega⟩
       have lb := Q4.lb
       haveI n5 : NB b (w.heap.size + 1) := ⟨by omega⟩
       haveI n6 : NB b (w.heap.size + 1 + 1) := ⟨by omega⟩
       haveI r0 : CE w6 (w.heap.size + 1) 0 (.int .i64 0) := ⟨Q1.c0, Q1.lt⟩
       haveI q0 : CE w6 (w.heap.size + 1 + 1) 0 (.int .i64 0) := ⟨Q2.c0, Q2.lt⟩
       haveI r1 : CE w6 (w.heap.size + 1) 1 (.int .i64 0) := ⟨Q1.c1, Q1.lt⟩
       haveI q1 : CE w6 (w.heap.size + 1 + 1) 1 (.int .i64 0) := ⟨Q2.c1, Q2.lt⟩
       haveI r2 : CE w6 (w.heap.size + 1) 2 (.slice none 0 0) := ⟨Q1.c2, Q1.lt⟩
       haveI q2 : CE w6 (w.heap.size + 1 + 1) 2 (.slice none 0 0) := ⟨Q2.c2, Q2.lt⟩
       haveI p0 : CE w6 bx 0 (.int .i64 (n - k : Nat)) := ⟨Q3.c0, Q3.lt⟩
       haveI p1 : CE w6 bx 1 (.int .i64 (n - k : Nat)) := ⟨Q3.c1, Q3.lt⟩
       haveI p2 : CE w6 bx 2 (.slice oa ((n - k) * (n - k)) oc) := ⟨Q3.c2, Q3.lt⟩
       haveI s0 : CE w6 b 3 (.int .i64 n) := ⟨Q4.c3, Q4.lt⟩
       haveI s1 : CE w6 b 4 (.int .i64 k) := ⟨Q4.c4, Q4.lt⟩
       haveI s2 : CE w6 b 5 (.slice (some ⟨gp, 0, none⟩) (n * k) (n * k)) := ⟨Q4.c5, Q4.lt⟩
       have HO := Lib.hid Q4.op
       clear f5 M5 M5' Q1 Q2 Q3 Q4 iS hbx bwr HD
       first
       | go_region
       | fail "region"
       all_goals (
        go_wp2_with fail
        refine bodyPost_ret (v := .tuple #[.agg #[.int .i64 n, .int .i64 k, .slice (some ⟨gp, 0, none⟩) (n * k) (n * k)], .agg #[.int .i64 (n - k : Nat), .int .i64 (n - k : Nat), .slice oa ((n - k) * (n - k)) oc], .int .i64 k, .int .i64 0]) (by simp only [results, Tryz.results13]; go_simp) rfl ?_
        rw [HFE.out, HFK.out]
        have P1 := (zFk (World.ownsRow.drew (zBt (zBt (zBt (zBt (zBt (zBt HO.out (show w.heap.size + 1 < w2.heap.size by omega) 0 (.int .i64 n)) (show w.heap.size + 1 < w2.heap.size by omega) 1 (.int .i64 k)) (show w.heap.size + 1 < w2.heap.size by omega) 2 (.slice (some ⟨gp, 0, none⟩) (n * k) (n * k))) (show w.heap.size + 1 + 1 < w2.heap.size by omega) 0 (.int .i64 (n - k : Nat))) (show w.heap.size + 1 + 1 < w2.heap.size by omega) 1 (.int .i64 (n - k : Nat))) (show w.heap.size + 1 + 1 < w2.heap.size by omega) 2 (.slice oa ((n - k) * (n - k)) oc))) (fun i _ => zLM B n k i)).2
        have P2 := (((((((Q6.sen (show w.heap.size + 1 < wr.heap.size by omega) 0 (.int .i64 n)).sen (show w.heap.size + 1 < wr.heap.size by omega) 1 (.int .i64 k)).sen (show w.heap.size + 1 < wr.heap.size by omega) 2 (.slice (some ⟨gp, 0, none⟩) (n * k) (n * k))).sen (show w.heap.size + 1 + 1 < wr.heap.size by omega) 0 (.int .i64 (n - k : Nat))).sen (show w.heap.size + 1 + 1 < wr.heap.size by omega) 1 (.int .i64 (n - k : Nat))).sen (show w.heap.size + 1 + 1 < wr.heap.size by omega) 2 (.slice oa ((n - k) * (n - k)) oc)).drx.mono (show w.heap.size ≤ wr.heap.size by omega))
        have P3 : Below w.heap.size w _ := ((((((Q5.setCell (p := ⟨w.heap.size + 1, 0, none⟩) (by simp) (.int .i64 n)).setCell (p := ⟨w.heap.size + 1, 1, none⟩) (by simp) (.int .i64 k)).setCell (p := ⟨w.heap.size + 1, 2, none⟩) (by simp) (.slice (some ⟨gp, 0, none⟩) (n * k) (n * k))).setCell (p := ⟨w.heap.size + 1 + 1, 0, none⟩) (by simp; omega) (.int .i64 (n - k : Nat))).setCell (p := ⟨w.heap.size + 1 + 1, 1, none⟩) (by simp; omega) (.int .i64 (n - k : Nat))).setCell (p := ⟨w.heap.size + 1 + 1, 2, none⟩) (by simp; omega) (.slice oa ((n - k) * (n - k)) oc)).drew
        exact ⟨n, k, n - k, _, _, _, _, _, _, _, _, rfl, ⟨FW.of P1 (fun _ => by have := (HO.out.lt gp rfl).1; show w.heap.size ≤ gp; omega), DW.of ⟨_, _, P2⟩, HDN.out⟩, (fun _ => ⟨rfl, rfl, rfl, rfl, rfl, fun _ _ => rfl, HDD.out⟩), (fun h => absurd rfl h), P3⟩)
     · have HFK := Lib.hid (hfk1 h0)
       have hz0 : (z == 0) = false := by rw [beq_eq_false_iff_ne]; exact h0
       have hz1 : (z != 0) = true := by rw [bne_iff_ne]; exact h0
       have H0 := Lib.hid h0
       clear hfk0 hfk1
       go_wp2_with fail
       refine HC.out.mono ?_; rintro o w5 ⟨r, oa, m, oc, D, rfl, ⟨⟨A, C, M5⟩, hDN⟩, h5, h6, b5⟩
       haveI f5 : From wr w5 := ⟨b5⟩
       clear h5 h6 M5 hDN h0
       go_wp2_with fail
       refine bodyPost_ret (v := .tuple #[.agg #[.int .i64 0, .int .i64 0, .slice none 0 0], .agg #[.int .i64 0, .int .i64 0, .slice none 0 0], .int .i64 0, .int .i64 z]) (by simp only [results, Tryz.results13]; go_simp) rfl ?_
       rw [HFE.out, HFK.out]
       exact ⟨0, 0, 0, none, none, 0, 0, 0, 0, fun _ => 0, fun _ => none, rfl, zK2 _ _, (fun h => absurd h H0.out), (fun _ => ⟨rfl, rfl, rfl, rfl, rfl⟩), zbh⟩
end Go.Proofs.YtablcbgeeeboeaaGreatDoor

/-
  Walks: the law AccumOrder.
-/
import Derived.Test.YtgicceiimciafaaGreatDoorZwOt
import Derived.Test.YtgicceiimciafaaGreatDoorZwOr
import Derived.Test.YtgicceiimciafaaGreatDoorZwKw
import Derived.Test.YtgicceiimciafaaGreatDoorZwCs
set_option maxRecDepth 100000
set_option maxHeartbeats 40000000
namespace Go.Proofs.YtgicceiimciafaaGreatDoor
open Go.RowKit Sp
theorem app_float2 {ops : Array Oper} {rest : List Oper} {o : Oper} {a : Act} {Q : Exit → Act → World → Prop} {w : World} (hgd : o.guard = none) (s x : Operand)
 (ho : o.op = .call { callee := .builtin .append, args := #[s, x], argTypes := #[22, 22] }) (base : Nat) (v : Value) (n : Nat) (xs : List Value) (hs : a.eval s = v) (g : Nat) (d : Int)
 (hx : a.eval x = .slice (some ⟨g, 0, none⟩) 1 1) (hown : w.ownsRow base 28 1 v n xs) (hcell : w.cell? ⟨g, 0, none⟩ = some (.int .u64 d)) (hn : n ≤ 4398046511104)
 (hbase : base ≤ w.heap.size) (h : ∀ v' w', w'.ownsRow base 28 1 v' (n + 1) (xs ++ [.int .u64 d]) → w.grownBy w' v.ownBlock → (v'.ownBlock = v.ownBlock ∨ v'.ownBlock = some w.heap.size) → wpList Tryz.prog ops Q rest (a.put o.dst v') w') : wpList Tryz.prog ops Q (o :: rest) a w := by
 obtain ⟨i0, hi, hz0, hz1, hz2⟩ := info_parts infF
 refine wpList_append_own_at w hgd s x _ ho base _ i0 (.int .u64 0) 1 8 undFe hi hz0 hz1 hz2 rfl (by decide) v n _ hs hown ⟨g, 0, none⟩ 1 1 [.int .u64 d] hx rfl ?_ ?_ ?_ ?_ hbase ?_
 · intro j u hu
   have : j = 0 := by
    rcases Nat.eq_zero_or_pos j with h | h
    · exact h
    · rw [List.getElem?_eq_none (by simp; omega)] at hu; cases hu
   subst this
   simp at hu; subst hu
   rw [Addr.add_zero']; exact hcell
 · intro u hu; simp at hu; subst hu; rfl
 · unfold maxLen; omega
 · omega
 · intro v' w' h1 h2 _ h4
   exact h v' w' h1 h2 h4
theorem elemFl : Tryz.prog.elem 22 = 28 := by kernel_rfl
theorem undFl' : Tryz.prog.underlying 22 = some (.slice 28) := by kernel_rfl
theorem sizFl' (w : World) : (Go.sizeOf 28).run Tryz.prog w = .ok 1 w := by kernel_rfl
theorem Fls.takes {w : World} {a : Option Addr} {n cap : Nat} {L : Nat → Nat} (h : Fls w a n cap L) (k : Nat) (hk : k ≤ n) : Fls w (if cap = 0 then a else a.map (·.add (0 * 1))) k (cap - 0) L := by
 have hl := h.lim
 have hf := h.fits
 by_cases h0 : k = 0
 · subst h0
   exact ⟨by omega, by omega, by omega, fun i hi => by omega, fun i hi => by omega, by omega⟩
 · have ha := h.addr (by omega)
   have e : (if cap = 0 then a else a.map (·.add (0 * 1))) = a := by
    rw [if_neg (by omega), ha]; simp [Addr.add]
   rw [e]
   exact ⟨by omega, by omega, fun _ => ha, fun i hi => h.cell i (by omega), fun i hi => h.b i (by omega), fun _ => h.old (by omega)⟩
theorem Fls.drops {w : World} {a : Option Addr} {n cap : Nat} {L : Nat → Nat} (h : Fls w a n cap L) (k : Nat) (hk : k ≤ n) : Fls w (if cap = k then a else a.map (·.add (k * 1))) (n - k) (cap - k) (fun i => L (k + i)) := by
 have hl := h.lim
 have hf := h.fits
 by_cases h0 : k = n
 · subst h0
   exact ⟨by omega, by omega, by omega, fun i hi => by omega, fun i hi => by omega, by omega⟩
 · have ha := h.addr (by omega)
   have e : (if cap = k then a else a.map (·.add (k * 1))) = some ⟨ab a, ao a + k, none⟩ := by
    rw [if_neg (by omega)]; conv => lhs; rw [ha]
    simp [Addr.add]
   rw [e]
   exact ⟨by omega, by omega, fun _ => rfl, fun i hi => by have := h.cell (k + i) (by omega); rw [← Nat.add_assoc] at this; exact this, fun i hi => h.b _ (by omega), fun _ => h.old (by omega)⟩
structure Two2 (wb wr : World) (k : Nat) (vp vq : Value) (P Q : Nat → Nat) : Prop where
 op : wr.ownsRow wb.heap.size 28 1 vp k (flist P k)
 oq : wr.ownsRow wb.heap.size 28 1 vq k (flist Q k)
 ne : vp.ownBlock = none ∨ vp.ownBlock ≠ vq.ownBlock
 bl : Below wb.heap.size wb wr
theorem frEF {P : Program} {f : FuncId} {args : Array Value} {W : World} {d : Option (Int × Int)} {er : Int} (h : Calls P f args W (RetDyE W d er)) :
 Calls P f args W fun e w' => ∃ a c, e = .returned (.tuple #[.agg #[.bool (dbad d), .bool (decide (dman d < 0)), .slice a (nl (dman d).natAbs) c, .int .i64 (dexp d)], .int .i64 er]) ∧ BI w' a (nl (dman d).natAbs) c (dman d).natAbs ∧ From W w' ∧ (0 < nl (dman d).natAbs → W.heap.size ≤ ab a) :=
 h.mono fun _ _ ⟨a, c, he, hm, hb, hf⟩ => ⟨a, c, he, ⟨hm⟩, ⟨hb⟩, hf⟩
theorem dot_ok {X Y : Nat → Nat} {n : Nat} (h : allfin X n = true) (h' : allfin Y n = true) : dotD X Y n n = ddot X Y n ∧ dotE X Y n n = 0 := by
 have e : dotE X Y n n = 0 := by unfold dotE; rw [if_neg (fun k => k rfl), h, h']; rfl
 exact ⟨by unfold dotD; rw [e]; rfl, e⟩
theorem two_a {wb wr w5 : World} {k : Nat} {vp vq v5 : Value} {P Q : Nat → Nat} {x : Value} {o : Obj} (h : Two2 wb wr k vp vq P Q) (_h1 : w5.ownsRow wb.heap.size 28 1 v5 (k + 1) (flist P k ++ [x])) (hg : (wr.alloc o).grownBy w5 vp.ownBlock)
 (hob : v5.ownBlock = vp.ownBlock ∨ v5.ownBlock = some (wr.alloc o).heap.size) : Below wb.heap.size wb w5 ∧ w5.ownsRow wb.heap.size 28 1 vq k (flist Q k) ∧ (v5.ownBlock = none ∨ v5.ownBlock ≠ vq.ownBlock) := by
 have hs := h.bl.size
 refine ⟨(h.bl.alloc hs _).trans (below_of_owns (h.op.alloc _) hg (by rw [World.size_alloc]; omega)), (h.oq.alloc o).kept hg ?_, ?_⟩
 · rcases h.ne with q | q
   · rw [q]; exact Classical.em (_ = none)
   · exact Or.inr (fun h' => q h'.symm)
 · rcases hob with q | q
   · rw [q]; exact h.ne
   · refine Or.inr (fun h' => ?_)
     have := (h.oq.lt _ (h'.symm.trans q)).2
     rw [World.size_alloc] at this; omega
theorem two_b {wb w5 w6 : World} {k : Nat} {vq v5 v6 : Value} {P Q : Nat → Nat} {o : Obj} (h1 : w5.ownsRow wb.heap.size 28 1 v5 (k + 1) (flist P (k + 1))) (T : Below wb.heap.size wb w5 ∧ w5.ownsRow wb.heap.size 28 1 vq k (flist Q k) ∧ (v5.ownBlock = none ∨ v5.ownBlock ≠ vq.ownBlock))
 (h2 : w6.ownsRow wb.heap.size 28 1 v6 (k + 1) (flist Q (k + 1))) (hg : (w5.alloc o).grownBy w6 vq.ownBlock) (hob : v6.ownBlock = vq.ownBlock ∨ v6.ownBlock = some (w5.alloc o).heap.size) : Two2 wb w6 (k + 1) v5 v6 P Q := by
 have hs := T.1.size
 refine ⟨(h1.alloc o).kept hg T.2.2, h2, ?_, (T.1.alloc hs _).trans (below_of_owns (T.2.1.alloc _) hg (by rw [World.size_alloc]; omega))⟩
 rcases hob with q | q
 · rw [q]; exact T.2.2
 · refine Or.inr (fun h' => ?_)
   have := (h1.lt _ (h'.trans q)).2
   rw [World.size_alloc] at this; omega
attribute [local irreducible] Calls
theorem aorder_no (w : World) (hT : Tab w) (a : Option Addr) (n cap : Nat) (X : Nat → Nat) (hX : Fls w a n cap X) (a' : Option Addr) (m cap' : Nat) (Y : Nat → Nat) (hY : Fls w a' m cap' Y) (ol : Option Addr) (c co : Nat) (L : Nat → Int) (_hL : Ils w ol c co L) (q : Int) (h : 10 < n ∨ m ≠ n ∨ allfin X n = false ∨ allfin Y m = false) :
 Calls Tryz.prog 3 #[.slice a n cap, .slice a' m cap', .slice ol c co, .int .i64 q] w fun o w' => o = .returned (.bool true) ∧ Below w.heap.size w w' := by
 haveI HT : Tb w := ⟨hT⟩
 have l1 := hX.lim
 have l2 := hX.fits
 have l3 := hY.lim
 have l4 := hY.fits
 have HW := fun W [Tb W] => Lib.hid (frm (awakeA_any W tb))
 have HF := fun W h => Lib.hid (frw (rfinite_any W a n cap X h))
 have HG := fun W h => Lib.hid (frw (rfinite_any W a' m cap' Y h))
 by_cases h1 : 10 < n
 · clear h HF HG hX hY
   go_enter Tryz.func3, Tryz.ntmps3
   go_wp2_with fail
   refine (HW _).out.mono ?_; rintro o w1 ⟨rfl, b1⟩; go_wp2_with fail
   go_ret
   exact ⟨rfl, zbh⟩
 by_cases h2 : m = n
 · subst h2
   cases fa : allfin X m with
   | false =>
    rw [fa] at HF
    clear h HG hY fa
    have HX := Lib.hid hX
    clear hX
    go_enter Tryz.func3, Tryz.ntmps3
    go_wp2_with fail
    refine (HF _ (HX.out.below zbh)).out.mono ?_; rintro o w2 ⟨rfl, b2⟩; go_wp2_with fail
    refine (HW _).out.mono ?_; rintro o w1 ⟨rfl, b1⟩; go_wp2_with fail
    go_ret
    exact ⟨rfl, zbh⟩
   | true =>
    have fb : allfin Y m = false := by
     rcases h with h | h | h | h
     · exact absurd h h1
     · exact absurd rfl h
     · rw [fa] at h; cases h
     · exact h
    rw [fa] at HF
    rw [fb] at HG
    clear h fa fb
    have HX := Lib.hid hX
    have HY := Lib.hid hY
    clear hX hY
    go_enter Tryz.func3, Tryz.ntmps3
    go_wp2_with fail
    refine (HF _ (HX.out.below zbh)).out.mono ?_; rintro o w2 ⟨rfl, b2⟩; go_wp2_with fail
    refine (HG _ (HY.out.below zbh)).out.mono ?_; rintro o w3 ⟨rfl, b3⟩; go_wp2_with fail
    refine (HW _).out.mono ?_; rintro o w1 ⟨rfl, b1⟩; go_wp2_with fail
    go_ret
    exact ⟨rfl, zbh⟩
 · clear h HF HG hX hY
   have h2' : ¬ (m : Int) = (n : Int) := by omega
   go_enter Tryz.func3, Tryz.ntmps3
   go_wp2_with fail
   refine (HW _).out.mono ?_; rintro o w1 ⟨rfl, b1⟩; go_wp2_with fail
   go_ret
   exact ⟨rfl, zbh⟩
theorem aorder_ok (w : World) (hT : Tab w) (a : Option Addr) (n cap : Nat) (X : Nat → Nat) (hX : Fls w a n cap X) (a' : Option Addr) (m cap' : Nat) (Y : Nat → Nat) (hY : Fls w a' m cap' Y) (ol : Option Addr) (c co : Nat) (L : Nat → Int) (hL : Ils w ol c co L) (q : Int) (hn : n ≤ 10) (hm : m = n) (fa : allfin X n = true) (fb : allfin Y m = true) :
 Calls Tryz.prog 3 #[.slice a n cap, .slice a' m cap', .slice ol c co, .int .i64 q] w fun o w' => o = .returned (.bool true) ∧ Below w.heap.size w w' := by
 haveI HT : Tb w := ⟨hT⟩
 have l1 := hX.lim
 have l2 := hX.fits
 have l3 := hY.lim
 have l4 := hY.fits
 have HW := fun W [Tb W] => Lib.hid (frm (awakeA_any W tb))
 subst hm
 have fx := fun i (hi : i < m) => (allfin_iff X m).1 fa i hi
 have fy := fun i (hi : i < m) => (allfin_iff Y m).1 fb i hi
 have HF := fun W [i : FZ W a m cap X] => Lib.hid (frw (rfinite_any W a m cap X i.out))
 have HG := fun W [i : FZ W a' m cap' Y] => Lib.hid (frw (rfinite_any W a' m cap' Y i.out))
 rw [fa] at HF
 rw [fb] at HG
 haveI zX : FZ w a m cap X := ⟨hX⟩
 haveI zY : FZ w a' m cap' Y := ⟨hY⟩
 have HSh := fun W (h : Ils W ol c co L) => Lib.hid (shuffle_any W ol c co L h m (by omega))
 have HI := Lib.hid hL
 obtain ⟨K, hK, hKm⟩ : ∃ K : Nat, placeI q (m + 1) = (K : Int) ∧ K ≤ m := by
  have h1 := Int.emod_nonneg (q % 18446744073709551616) (show ((m : Nat) : Int) + 1 ≠ 0 by omega)
  have h2 := Int.emod_lt_of_pos (q % 18446744073709551616) (show 0 < ((m : Nat) : Int) + 1 by omega)
  exact ⟨(placeI q (m + 1)).toNat, by unfold placeI; omega, by unfold placeI; omega⟩
 have HPl := fun W => Lib.hid (frw (place_any W q (m + 1) (by omega) (by omega)))
 rw [hK] at HPl
 clear hL hK hX hY
 go_enter Tryz.func3, Tryz.ntmps3
 go_wp2_with fail
 refine (HF _).out.mono ?_; rintro o w2 ⟨rfl, b2⟩; go_wp2_with fail
 refine (HG _).out.mono ?_; rintro o w3 ⟨rfl, b3⟩; go_wp2_with fail
 refine (HSh _ (HI.out.below zbh)).out.mono ?_
 rintro o w4 ⟨vo, out, rfl, hperm, hoo, b4⟩
 haveI b4' : From w3 w4 := ⟨b4⟩
 have HO := Lib.hid hoo
 have HPm := Lib.hid hperm
 clear HF HG HSh HI b4 hoo hperm
 go_wp2_with fail
 go_loopw [11, 12, 13] (fun vp vq i wr => ∃ k : Nat, k ≤ m ∧ i = .int .i64 k ∧ Two2 w4 wr k vp vq (fun i => X (out.getD i 0)) (fun i => Y (out.getD i 0))) (fun _ _ i _ => m - (intOf i).toNat)
 case atStart => exact ⟨0, by omega, rfl, World.ownsRow_nil _ _ _ _, World.ownsRow_nil _ _ _ _, Or.inl rfl, Below.refl _ _⟩
 case round =>
  obtain ⟨k, hk, rfl, h2⟩ := hrel
  haveI bw : From w4 wr := ⟨h2.bl⟩
  have H2 := Lib.hid h2
  have hs := h2.bl.size
  clear h2
  by_cases hlt : k < m
  · obtain ⟨g, cl, rfl, hg0, hgl, hgc, hgm, hcells⟩ : ∃ g cl, vo = .slice (some ⟨g, 0, none⟩) m cl ∧ w3.heap.size ≤ g ∧ g < w4.heap.size ∧ m ≤ cl ∧ cl ≤ 9223372036854775807 ∧ ∀ i, i < m → w4.cell? ⟨g, i, none⟩ = (icells out)[i]? := by
     rcases own_cell HO.out with ⟨h, _⟩ | h
     · omega
     · exact h
    have hlo : out.length = m := by rw [HPm.out.length_eq, List.length_range]
    have hx : out[k]? = some (out.getD k 0) := by rw [List.getD_eq_getElem?_getD, List.getElem?_eq_getElem (by omega)]; rfl
    obtain ⟨e, he⟩ : ∃ e, out.getD k 0 = e := ⟨_, rfl⟩
    have hle := perm_lt HPm.out hlt
    rw [he] at hx hle
    haveI kO : CE w4 g k (.int .i64 ((e : Nat) : Int)) := ⟨(hcells k hlt).trans (icells_get hx), hgl⟩
    have HE := Lib.hid he
    clear hcells hx he hlo
    have hXr := (inferInstance : FZ wr a m cap X).out
    haveI kX : CE wr (ab a) (ao a + e) (.int .u64 ((X e : Nat) : Int)) := ⟨hXr.cell e hle, hXr.old (by omega)⟩
    have iX := hXr.idx e hle
    clear hXr
    go_wp2_with (first
     | (at_builtin; refine app_float2 rfl (.tmp 52) (.tmp 60) rfl w4.heap.size _ k _ rfl _ ((X e : Nat) : Int) rfl (H2.out.op.alloc (.cells #[.int .u64 ((X e : Nat) : Int)] 28)) (by go_simp) (by omega) (by rw [World.size_alloc]; omega) ?_; intro v5 w5 hown5 hg5 hob5; have T5 := Lib.hid (two_a H2.out hown5 hg5 hob5); have HP5 := Lib.hid hown5; have hs5 := T5.out.1.size; haveI f5 : From w4 w5 := ⟨T5.out.1⟩; have hYr := (inferInstance : FZ w5 a' m cap' Y).out; haveI kY : CE w5 (ab a') (ao a' + e) (.int .u64 ((Y e : Nat) : Int)) := ⟨hYr.cell e hle, hYr.old (by omega)⟩; have iY := hYr.idx e hle; clear hYr hown5 hg5 hob5)
     | (at_builtin; refine app_float2 rfl (.tmp 62) (.tmp 70) rfl w4.heap.size _ k _ rfl _ ((Y e : Nat) : Int) rfl (T5.out.2.1.alloc (.cells #[.int .u64 ((Y e : Nat) : Int)] 28)) (by go_simp) (by omega) (by rw [World.size_alloc]; omega) ?_; intro v6 w6 hown6 hg6 hob6; have HR : Hid (Two2 w4 w6 (k + 1) v5 v6 (fun i => X (out.getD i 0)) (fun i => Y (out.getD i 0))) := two_b (by show w5.ownsRow _ _ 1 v5 (k + 1) (flist _ k ++ [.int .u64 ((X (out.getD k 0) : Nat) : Int)]); rw [HE.out]; exact HP5.out) T5.out (by show w6.ownsRow _ _ 1 v6 (k + 1) (flist _ k ++ [.int .u64 ((Y (out.getD k 0) : Nat) : Int)]); rw [HE.out]; exact hown6) hg6 hob6; clear hown6 hg6 hob6))
    go_roundw
    case rel => exact ⟨k + 1, by omega, by go_num, HR.out⟩
    case measure => simp [intOf]; omega
  · skip
    obtain rfl : k = m := by omega
    clear bw
    haveI bw : From w4 wr := ⟨H2.out.bl⟩
    have hX := (inferInstance : FZ w a k cap X).out
    have hY := (inferInstance : FZ w a' k cap' Y).out
    obtain ⟨pa, pc, rfl, hP⟩ := own_fls H2.out.op (fun i hi => hX.b _ (perm_lt HPm.out hi))
    obtain ⟨qa, qc, rfl, hQ⟩ := own_fls H2.out.oq (fun i hi => hY.b _ (perm_lt HPm.out hi))
    have lp1 := hP.lim
    have lp2 := hP.fits
    have lq1 := hQ.lim
    have lq2 := hQ.fits
    have fp : allfin (fun i => X (out.getD i 0)) k = true := (allfin_iff _ _).2 fun i hi => fx _ (perm_lt HPm.out hi)
    have fq : allfin (fun i => Y (out.getD i 0)) k = true := (allfin_iff _ _).2 fun i hi => fy _ (perm_lt HPm.out hi)
    have fx1 : allfin X K = true := (allfin_iff _ _).2 fun i hi => fx _ (by omega)
    have fy1 : allfin Y K = true := (allfin_iff _ _).2 fun i hi => fy _ (by omega)
    have fx2 : allfin (fun i => X (K + i)) (k - K) = true := (allfin_iff _ _).2 fun i hi => fx _ (by omega)
    have fy2 : allfin (fun i => Y (K + i)) (k - K) = true := (allfin_iff _ _).2 fun i hi => fy _ (by omega)
    have ep := ddot_perm X Y (by omega) fx fy HPm.out
    have es := dsum_perm X (by omega) fx HPm.out
    have sp := ddot_split X Y (k := K) (m := k - K) (by omega) (fun i hi => fx i (by omega)) (fun i hi => fy i (by omega))
    rw [show K + (k - K) = k by omega] at sp
    haveI zP : FZ wr pa k pc (fun i => X (out.getD i 0)) := ⟨hP⟩
    haveI zQ : FZ wr qa k qc (fun i => Y (out.getD i 0)) := ⟨hQ⟩
    clear hX hY hP hQ
    obtain ⟨a3, ha3⟩ : ∃ z, (if cap = 0 then a else a.map (·.add (0 * 1))) = z := ⟨_, rfl⟩
    obtain ⟨a4, ha4⟩ : ∃ z, (if cap = K then a else a.map (·.add (K * 1))) = z := ⟨_, rfl⟩
    have HS3x : ∀ W, (Instr.slice 22 (.slice a k cap) none (some (.int .i64 K)) none).run Tryz.prog W = .ok (.slice a3 K (cap - 0)) W := fun W => by
     rw [run_slice_h W 22 a k cap (by rw [elemFl]; exact undFl') .i64 (K : Int) (by omega) (by omega), elemFl, sizFl']
     simp only [Result.andThen, sliced, Int.toNat_natCast, Nat.sub_zero, ha3]
    have HS4x : ∀ W, (Instr.slice 22 (.slice a k cap) (some (.int .i64 K)) none none).run Tryz.prog W = .ok (.slice a4 (k - K) (cap - K)) W := fun W => by
     rw [run_slice_l W 22 a k cap (by rw [elemFl]; exact undFl') .i64 (K : Int) (by omega) (by omega), elemFl, sizFl']
     simp only [Result.andThen, sliced, Int.toNat_natCast, ha4]
    have HT3x : ∀ W, (Instr.sliceAt 22 (.slice a k cap) none (some (.int .i64 K)) none).run Tryz.prog W = .ok (.slice a3 K (cap - 0)) W := fun W => by
     rw [run_sliceAt_slice W 22 _ _ _ _ (by rw [elemFl]; exact undFl')]; exact HS3x W
    have HT4x : ∀ W, (Instr.sliceAt 22 (.slice a k cap) (some (.int .i64 K)) none none).run Tryz.prog W = .ok (.slice a4 (k - K) (cap - K)) W := fun W => by
     rw [run_sliceAt_slice W 22 _ _ _ _ (by rw [elemFl]; exact undFl')]; exact HS4x W
    obtain ⟨b3, hb3⟩ : ∃ z, (if cap' = 0 then a' else a'.map (·.add (0 * 1))) = z := ⟨_, rfl⟩
    obtain ⟨b4', hb4'⟩ : ∃ z, (if cap' = K then a' else a'.map (·.add (K * 1))) = z := ⟨_, rfl⟩
    have HS3y : ∀ W, (Instr.slice 22 (.slice a' k cap') none (some (.int .i64 K)) none).run Tryz.prog W = .ok (.slice b3 K (cap' - 0)) W := fun W => by
     rw [run_slice_h W 22 a' k cap' (by rw [elemFl]; exact undFl') .i64 (K : Int) (by omega) (by omega), elemFl, sizFl']
     simp only [Result.andThen, sliced, Int.toNat_natCast, Nat.sub_zero, hb3]
    have HS4y : ∀ W, (Instr.slice 22 (.slice a' k cap') (some (.int .i64 K)) none none).run Tryz.prog W = .ok (.slice b4' (k - K) (cap' - K)) W := fun W => by
     rw [run_slice_l W 22 a' k cap' (by rw [elemFl]; exact undFl') .i64 (K : Int) (by omega) (by omega), elemFl, sizFl']
     simp only [Result.andThen, sliced, Int.toNat_natCast, hb4']
    have HT3y : ∀ W, (Instr.sliceAt 22 (.slice a' k cap') none (some (.int .i64 K)) none).run Tryz.prog W = .ok (.slice b3 K (cap' - 0)) W := fun W => by
     rw [run_sliceAt_slice W 22 _ _ _ _ (by rw [elemFl]; exact undFl')]; exact HS3y W
    have HT4y : ∀ W, (Instr.sliceAt 22 (.slice a' k cap') (some (.int .i64 K)) none none).run Tryz.prog W = .ok (.slice b4' (k - K) (cap' - K)) W := fun W => by
     rw [run_sliceAt_slice W 22 _ _ _ _ (by rw [elemFl]; exact undFl')]; exact HS4y W
    have H1 := fun W [i : FZ W a k cap X] [j : FZ W a' k cap' Y] [Tb W] => Lib.hid (show Calls Tryz.prog 9 #[.slice a k cap, .slice a' k cap'] W fun e w' => ∃ a c, e = .returned (.tuple #[.agg #[.bool (dbad (ddot X Y k)), .bool (decide (dman (ddot X Y k) < 0)), .slice a (nl (dman (ddot X Y k)).natAbs) c, .int .i64 (dexp (ddot X Y k))], .int .i64 0]) ∧ BI w' a (nl (dman (ddot X Y k)).natAbs) c (dman (ddot X Y k)).natAbs ∧ From W w' ∧ (0 < nl (dman (ddot X Y k)).natAbs → W.heap.size ≤ ab a) from by
     have h := frEF (adot_any W tb a a' k k cap cap' X Y i.out j.out (by omega))
     rw [(dot_ok fa fb).1, (dot_ok fa fb).2] at h
     exact h)
    have H2p := fun W [i : FZ W pa k pc (fun i => X (out.getD i 0))] [j : FZ W qa k qc (fun i => Y (out.getD i 0))] [Tb W] => Lib.hid (show Calls Tryz.prog 9 #[.slice pa k pc, .slice qa k qc] W fun e w' => ∃ a c, e = .returned (.tuple #[.agg #[.bool (dbad (ddot X Y k)), .bool (decide (dman (ddot X Y k) < 0)), .slice a (nl (dman (ddot X Y k)).natAbs) c, .int .i64 (dexp (ddot X Y k))], .int .i64 0]) ∧ BI w' a (nl (dman (ddot X Y k)).natAbs) c (dman (ddot X Y k)).natAbs ∧ From W w' ∧ (0 < nl (dman (ddot X Y k)).natAbs → W.heap.size ≤ ab a) from by
     have h := frEF (adot_any W tb pa qa k k pc qc (fun i => X (out.getD i 0)) (fun i => Y (out.getD i 0)) i.out j.out (by omega))
     rw [(dot_ok fp fq).1, (dot_ok fp fq).2, ep] at h
     exact h)
    have H3 := fun W [i : FZ W a k cap X] [j : FZ W a' k cap' Y] [Tb W] => Lib.hid (show Calls Tryz.prog 9 #[.slice a3 K (cap - 0), .slice b3 K (cap' - 0)] W fun e w' => ∃ a c, e = .returned (.tuple #[.agg #[.bool (dbad (ddot X Y K)), .bool (decide (dman (ddot X Y K) < 0)), .slice a (nl (dman (ddot X Y K)).natAbs) c, .int .i64 (dexp (ddot X Y K))], .int .i64 0]) ∧ BI w' a (nl (dman (ddot X Y K)).natAbs) c (dman (ddot X Y K)).natAbs ∧ From W w' ∧ (0 < nl (dman (ddot X Y K)).natAbs → W.heap.size ≤ ab a) from by
     have h := frEF (adot_any W tb a3 b3 K K (cap - 0) (cap' - 0) X Y (ha3 ▸ i.out.takes K hKm) (hb3 ▸ j.out.takes K hKm) (by omega))
     rw [(dot_ok fx1 fy1).1, (dot_ok fx1 fy1).2] at h
     exact h)
    have H4 := fun W [i : FZ W a k cap X] [j : FZ W a' k cap' Y] [Tb W] => Lib.hid (show Calls Tryz.prog 9 #[.slice a4 (k - K) (cap - K), .slice b4' (k - K) (cap' - K)] W fun e w' => ∃ a c, e = .returned (.tuple #[.agg #[.bool (dbad (ddot (fun i => X (K + i)) (fun i => Y (K + i)) (k - K))), .bool (decide (dman (ddot (fun i => X (K + i)) (fun i => Y (K + i)) (k - K)) < 0)), .slice a (nl (dman (ddot (fun i => X (K + i)) (fun i => Y (K + i)) (k - K))).natAbs) c, .int .i64 (dexp (ddot (fun i => X (K + i)) (fun i => Y (K + i)) (k - K)))], .int .i64 0]) ∧ BI w' a (nl (dman (ddot (fun i => X (K + i)) (fun i => Y (K + i)) (k - K))).natAbs) c (dman (ddot (fun i => X (K + i)) (fun i => Y (K + i)) (k - K))).natAbs ∧ From W w' ∧ (0 < nl (dman (ddot (fun i => X (K + i)) (fun i => Y (K + i)) (k - K))).natAbs → W.heap.size ≤ ab a) from by
     have h := frEF (adot_any W tb a4 b4' (k - K) (k - K) (cap - K) (cap' - K) (fun i => X (K + i)) (fun i => Y (K + i)) (ha4 ▸ i.out.drops K hKm) (hb4' ▸ j.out.drops K hKm) (by omega))
     rw [(dot_ok fx2 fy2).1, (dot_ok fx2 fy2).2] at h
     exact h)
    have N1 : IsN (ddot X Y K) := isN_sum _ _
    have N2 : IsN (ddot (fun i => X (K + i)) (fun i => Y (K + i)) (k - K)) := isN_sum _ _
    have HAd := fun W x c y c' [i : BI W x (nl (dman (ddot X Y K)).natAbs) c (dman (ddot X Y K)).natAbs] [j : BI W y (nl (dman (ddot (fun i => X (K + i)) (fun i => Y (K + i)) (k - K))).natAbs) c' (dman (ddot (fun i => X (K + i)) (fun i => Y (K + i)) (k - K))).natAbs] [Tb W] => Lib.hid (frI (dadd_any W _ _ _ _ _ _ _ _ _ _ _ _ _ _ (dyin_of N1 i.out) (dyin_of N2 j.out) tb))
    rw [sp] at HAd
    have HKd := fun W x c y c' [i : BI W x (nl (dman (ddot X Y k)).natAbs) c (dman (ddot X Y k)).natAbs] [j : BI W y (nl (dman (ddot X Y k)).natAbs) c' (dman (ddot X Y k)).natAbs] => Lib.hid (frm (kdyad_eq W (ddot X Y k) x y c c' i.out j.out))
    have HSx := fun W [i : FZ W a k cap X] [Tb W] => Lib.hid (frI (asum_any W tb a k cap X i.out (by omega)))
    have HSp := fun W [i : FZ W pa k pc (fun i => X (out.getD i 0))] [Tb W] => Lib.hid (frI (asum_any W tb pa k pc (fun i => X (out.getD i 0)) i.out (by omega)))
    rw [es] at HSp
    have HKs := fun W x c y c' [i : BI W x (nl (dman (dsum (fun i => fof (X i)) k)).natAbs) c (dman (dsum (fun i => fof (X i)) k)).natAbs] [j : BI W y (nl (dman (dsum (fun i => fof (X i)) k)).natAbs) c' (dman (dsum (fun i => fof (X i)) k)).natAbs] => Lib.hid (frm (kdyad_eq W (dsum (fun i => fof (X i)) k) x y c c' i.out j.out))
    generalize dsum (fun i => fof (X i)) k = ds at *
    generalize ddot X Y k = d0 at *
    generalize ddot X Y K = d1 at *
    generalize ddot (fun i => X (K + i)) (fun i => Y (K + i)) (k - K) = d2 at *
    generalize cap - 0 = cp3 at *
    generalize cap' - 0 = cq3 at *
    clear fp fq fx1 fy1 fx2 fy2 ep es sp fx fy N1 N2 ha3 ha4 hb3 hb4' fa fb H2 HPm HO
    go_wp2_with fail
    refine (HPl _).out.mono ?_; rintro o w7 ⟨rfl, b7⟩; go_wp2_with fail
    refine (H1 _).out.mono ?_; rintro o w8 ⟨e1, f1, rfl, i1, b8, f8⟩; go_wp2_with fail
    refine (H2p _).out.mono ?_; rintro o w9 ⟨e2, f2, rfl, i2, b9, f9⟩; go_wp2_with fail
    go_upto_region 14 with fail
    go_cut [19, 20] (fun v x wx => ∃ z e c, v = .pointer (some ⟨z, 0, none⟩) ∧ x = .int .i64 0 ∧ DB wx z (dbad d1) (decide (dman d1 < 0)) (.slice e (nl (dman d1).natAbs) c) (dexp d1) ∧ BI wx e (nl (dman d1).natAbs) c (dman d1).natAbs ∧ From w9 wx ∧ DB wx w9.heap.size (dbad d0) (decide (dman d0 < 0)) (.slice e2 (nl (dman d0).natAbs) f2) (dexp d0))
    case first =>
     first
     | go_region_held3 (fun _ => True) (first | trivial)
      (first
       | (go_at_call 9; refine (H3 _).out.mono ?_; rintro o w10 ⟨e10, f10, rfl, i10, b10, g10⟩)
       | fail)
     | fail "region"
     all_goals (
      go_wp2_with fail
      go_meet
      exact ⟨_, e10, f10, rfl, rfl, inferInstance, (by first | infer_instance | exact ⟨Mag.st4 (show BI w10 e10 (nl (dman d1).natAbs) f10 (dman d1).natAbs from inferInstance).out (fun h q => by have h0 := i10.out.old h; have h1 := g10 h; (try simp at h1); omega) _ _ _ _⟩), ⟨zbh⟩, inferInstance⟩)
    case rest =>
    obtain ⟨z10, e10, f10, rfl, rfl, D10, i10, b10, D9⟩ := hcut
    generalize wc = w10 at *
    go_upto_region 15 with fail
    go_cut [21, 22] (fun v x wx => ∃ z e c, v = .pointer (some ⟨z, 0, none⟩) ∧ x = .int .i64 0 ∧ DB wx z (dbad d2) (decide (dman d2 < 0)) (.slice e (nl (dman d2).natAbs) c) (dexp d2) ∧ BI wx e (nl (dman d2).natAbs) c (dman d2).natAbs ∧ From w10 wx)
    case first =>
     first
     | go_region_held3 (fun _ => True) (first | trivial)
      (first
       | (go_at_call 9; refine (H4 _).out.mono ?_; rintro o w11 ⟨e11, f11, rfl, i11, b11, g11⟩)
       | fail)
     | fail "region"
     all_goals (
      go_wp2_with fail
      go_meet
      exact ⟨_, e11, f11, rfl, rfl, inferInstance, (by first | infer_instance | exact ⟨Mag.st4 (show BI w11 e11 (nl (dman d2).natAbs) f11 (dman d2).natAbs from inferInstance).out (fun h q => by have h0 := i11.out.old h; have h1 := g11 h; (try simp at h1); omega) _ _ _ _⟩), ⟨zbh⟩⟩)
    case rest =>
    obtain ⟨z11, e11, f11, rfl, rfl, D11, i11, b11⟩ := hcut
    generalize wc = w11 at *
    clear H1 H2p H3 H4 HPl
    go_wp2_with fail
    first
    | go_region_held3 (fun w' => w'.cell? ⟨w8.heap.size, 0, none⟩ = some (.bool (dbad d0)) ∧ w'.cell? ⟨w8.heap.size, 1, none⟩ = some (.bool (decide (dman d0 < 0))) ∧ w'.cell? ⟨w8.heap.size, 2, none⟩ = some (.slice e1 (nl (dman d0).natAbs) f1) ∧ w'.cell? ⟨w8.heap.size, 3, none⟩ = some (.int .i64 (dexp d0)) ∧ w'.cell? ⟨w9.heap.size, 0, none⟩ = some (.bool (dbad d0)) ∧ w'.cell? ⟨w9.heap.size, 1, none⟩ = some (.bool (decide (dman d0 < 0))) ∧ w'.cell? ⟨w9.heap.size, 2, none⟩ = some (.slice e2 (nl (dman d0).natAbs) f2) ∧ w'.cell? ⟨w9.heap.size, 3, none⟩ = some (.int .i64 (dexp d0)) ∧ w'.cell? ⟨z10, 0, none⟩ = some (.bool (dbad d1)) ∧ w'.cell? ⟨z10, 1, none⟩ = some (.bool (decide (dman d1 < 0))) ∧ w'.cell? ⟨z10, 2, none⟩ = some (.slice e10 (nl (dman d1).natAbs) f10) ∧ w'.cell? ⟨z10, 3, none⟩ = some (.int .i64 (dexp d1)) ∧ w'.cell? ⟨z11, 0, none⟩ = some (.bool (dbad d2)) ∧ w'.cell? ⟨z11, 1, none⟩ = some (.bool (decide (dman d2 < 0))) ∧ w'.cell? ⟨z11, 2, none⟩ = some (.slice e11 (nl (dman d2).natAbs) f11) ∧ w'.cell? ⟨z11, 3, none⟩ = some (.int .i64 (dexp d2))) (first | (go_simp; done))
     (first
      | (go_at_call 11; refine (HAd _ _ _ _ _).out.mono ?_; rintro o w13 ⟨e13, f13, rfl, i13, b13⟩)
      | (go_at_call 10; have xx := i13; refine (HKd _ _ _ _ _).out.mono ?_; rintro o w14 ⟨rfl, b14⟩)
      | (go_at_call 10; refine (HKd _ _ _ _ _).out.mono ?_; rintro o w12 ⟨rfl, b12⟩)
      | fail)
    | fail "region"
    all_goals (
     go_wp2_with fail
     refine (HSx _).out.mono ?_; rintro o w15 ⟨e15, f15, rfl, i15, b15⟩; go_wp2_with fail
     refine (HSp _).out.mono ?_; rintro o w16 ⟨e16, f16, rfl, i16, b16⟩; go_wp2_with fail
     refine (HKs _ _ _ _ _).out.mono ?_; rintro o w17 ⟨rfl, b17⟩; go_wp2_with fail
     refine (HW _).out.mono ?_; rintro o w18 ⟨rfl, b18⟩; go_wp2_with fail
     go_ret
     exact ⟨rfl, zbh⟩)
theorem order_any (w : World) (hT : Tab w) (a : Option Addr) (n cap : Nat) (X : Nat → Nat) (hX : Fls w a n cap X) (a' : Option Addr) (m cap' : Nat) (Y : Nat → Nat) (hY : Fls w a' m cap' Y) (ol : Option Addr) (c co : Nat) (L : Nat → Int) (hL : Ils w ol c co L) (q : Int) :
 Calls Tryz.prog 3 #[.slice a n cap, .slice a' m cap', .slice ol c co, .int .i64 q] w fun o w' => o = .returned (.bool true) ∧ Below w.heap.size w w' := by
 by_cases h1 : 10 < n
 · exact aorder_no w hT a n cap X hX a' m cap' Y hY ol c co L hL q (Or.inl h1)
 by_cases h2 : m = n
 · cases fa : allfin X n with
   | false => exact aorder_no w hT a n cap X hX a' m cap' Y hY ol c co L hL q (Or.inr (Or.inr (Or.inl fa)))
   | true =>
    cases fb : allfin Y m with
    | false => exact aorder_no w hT a n cap X hX a' m cap' Y hY ol c co L hL q (Or.inr (Or.inr (Or.inr fb)))
    | true => exact aorder_ok w hT a n cap X hX a' m cap' Y hY ol c co L hL q (by omega) h2 fa fb
 · exact aorder_no w hT a n cap X hX a' m cap' Y hY ol c co L hL q (Or.inr (Or.inl h2))
end Go.Proofs.YtgicceiimciafaaGreatDoor

/-
  A region that draws its order: loads taken first, though its last operations write what they read. No function of the program in sight.
-/
import Derived.Test.YtablcbgeeeboeaaGreatDoorZdCs
import Derived.Deep.RegionHeld3
import Derived.Test.YtablcbgeeeboeaaGreatDoorZdPx
namespace Go.Proofs.YtablcbgeeeboeaaGreatDoor
section
variable {P : Program} {ops : Array Oper} {Q : Exit → Act → World → Prop} {md : Region.Mode} {T : World → Prop} {last : List Nat}
def wpAnyJ (P : Program) (md : Region.Mode) (ops : Array Oper) (Q : Exit → Act → World → Prop) (T : World → Prop) (last : List Nat) : Nat → Array Bool → Act → World → Prop
 | 0, l, a, w => Region.ready md ops l = [] ∧ Q .normal a w
 | fuel + 1, l, a, w =>
  (Region.ready md ops l = [] → Q .normal a w) ∧
  ∀ i ∈ Region.ready md ops l, wpOp P ops Q i (fun a' w' => (i ∈ last ∨ T w') ∧ wpAnyJ P md ops Q T last fuel (l.setIfInBounds i true) a' w') a w
theorem wpAny_of_J : ∀ (fuel : Nat) (l : Array Bool) (a : Act) (w : World), wpAnyJ P md ops Q T last fuel l a w → wpAny P md ops Q fuel l a w
 | 0, _, _, _, h => h
 | fuel + 1, _, _, _, h => ⟨h.1, fun i hi => wpOp_mono (fun a' w' h' => wpAny_of_J fuel _ a' w' h'.2) (h.2 i hi)⟩
def lateB (md : Region.Mode) (ops : Array Oper) (i : Nat) (last : List Nat) (l : Array Bool) (late : List Nat) : Bool :=
 last.all late.contains && !late.contains i && late.all fun j => !l.getD j false && match ops[j]? with | some o => o.after.any fun e => Region.binds md e && (e.on == i || late.contains e.on) | none => true
theorem late_not {i : Nat} {late : List Nat} {l0 l : Array Bool} (hb : lateB md ops i last l0 late = true) (hi : l.getD i false = false) (hu : ∀ j ∈ late, l.getD j false = false) {j : Nat} (hj : j ∈ Region.ready md ops l) : ¬ j ∈ late := by
 intro hjl
 obtain ⟨_, o, ho, hall⟩ := mem_ready.1 hj
 unfold lateB at hb
 simp only [Bool.and_eq_true, List.all_eq_true] at hb
 have h2 := (hb.2 j hjl).2
 rw [ho] at h2
 simp only at h2
 rw [Array.any_eq_true] at h2
 obtain ⟨x, hx, hy⟩ := h2
 simp only [Bool.and_eq_true, Bool.or_eq_true, beq_iff_eq] at hy
 have h3 := hall _ (Array.getElem_mem hx) hy.1
 rcases hy.2 with h4 | h4
 · rw [h4, hi] at h3; cases h3
 · rw [hu _ (by simpa using h4)] at h3; cases h3
theorem wpAnyJ_first {i : Nat} {oi : Oper} {v : Value} {late : List Nat} {l0 : Array Bool} (hi : ops[i]? = some oi) (hsel : ∀ (j : Nat) (o : Oper) cs b, ops[j]? = some o → o.op ≠ .select cs b)
 (hQ : ∀ c a w, Q (.panic c) (a.put oi.dst v) w → Q (.panic c) a w) (hb : lateB md ops i last l0 late = true) (hla : ∀ j ∈ last, j ∈ late) (hil : i ∉ late) :
 ∀ (fuel : Nat) (l : Array Bool) (a : Act) (w : World),
  (∀ j oj, ops[j]? = some oj → j ≠ i → l.getD j true = false → (∀ e ∈ oj.after, Region.binds md e = true → e.on ≠ i) → oi.apart ops oj = true) →
  i ∈ Region.ready md ops l → (∀ j ∈ late, l.getD j false = false) → YieldsIf P ops T oi v a → T w →
  wpAnyJ P md ops Q T last fuel (l.setIfInBounds i true) (a.put oi.dst v) w → wpAnyJ P md ops Q T last (fuel + 1) l a w := by
 intro fuel
 induction fuel with
 | zero =>
  intro l a w _ hr _ hy hS H
  refine ⟨fun h => (by rw [h] at hr; cases hr), fun j hj => ?_⟩
  by_cases hji : j = i
  · subst hji; exact hy.wpOp hi hS ⟨Or.inr hS, H⟩
  · have := ready_mono hj hji
    rw [H.1] at this
    cases this
 | succ fuel ih =>
  intro l a w hfree hr hu hy hS H
  refine ⟨fun h => (by rw [h] at hr; cases hr), fun j hj => ?_⟩
  by_cases hji : j = i
  · subst hji; exact hy.wpOp hi hS ⟨Or.inr hS, H⟩
  · have h1 := H.2 j (ready_mono hj hji)
    obtain ⟨hjun, oj, hoj, hall⟩ := mem_ready.1 hj
    have hiu : l.getD i false = false := by
     have h0 := (mem_ready.1 hr).1
     rcases Nat.lt_or_ge i l.size with h' | h'
     · simpa [h'] using h0
     · simp [Array.getElem?_eq_none h'] at h0
    have hnot : ∀ e ∈ oj.after, Region.binds md e = true → e.on ≠ i := fun e he hbi heq => by
     have h1 := hall e he hbi
     rw [heq, hiu] at h1; cases h1
    have hjl : j ∉ late := late_not hb hiu hu hj
    have hjlast : j ∉ last := fun e => hjl (hla j e)
    have h2 := wpOp_putIf hoj (hfree j oj hoj hji hjun hnot) (fun cs b => hsel i oi cs b hi) (fun cs b => hsel j oj cs b hoj) hQ hy h1
    have hfree' : ∀ k ok, ops[k]? = some ok → k ≠ i → (l.setIfInBounds j true).getD k true = false →
     (∀ e ∈ ok.after, Region.binds md e = true → e.on ≠ i) → oi.apart ops ok = true := fun k ok hk hki hun hno => by
     refine hfree k ok hk hki ?_ hno
     by_cases hjk : j = k
     · subst hjk; exact hjun
     · rw [getD_set_ne true hjk] at hun; exact hun
    refine wpOp_mono (fun a' w' h3 => ?_) h2
    have hT : T w' := h3.2.1.resolve_left hjlast
    refine ⟨h3.2.1, ih (l.setIfInBounds j true) a' w' hfree' (ready_mono hr (Ne.symm hji)) (fun k hk => ?_) h3.1 hT ?_⟩
    · rw [getD_set_ne false (fun e : j = k => hjl (by rw [e]; exact hk))]; exact hu k hk
    · rw [Array.setIfInBounds_comm _ _ hji]
      exact h3.2.2
theorem tkj {fuel : Nat} {l : Array Bool} {ts ts' : Array Value} {D : List Deferred} {w : World} (i t : Nat) (v : Value) (late : List Nat) {o : Oper}
 (hi : ops[i]? = some o := by rfl) (hd : o.dst = some t := by rfl) (hs : Region.noSelect ops = true := by kernel_rfl) (hf : Region.free md ops l i = true := by kernel_rfl) (hr : (Region.ready md ops l).contains i = true := by kernel_rfl)
 (hb : lateB md ops i last l late = true := by kernel_rfl)
 (hQ : ∀ c a w, Q (.panic c) (a.put o.dst v) w → Q (.panic c) a w := by exact fun _ _ _ h => h) (hw : Region.wanted o (yielded ops ts) = true := by rfl)
 (hts : ts.setIfInBounds t v = ts' := by (simp only [List.setIfInBounds_toArray, List.set_cons_zero, List.set_cons_succ]; exact rfl))
 (hy : ∀ w, T w → (execOp (Act.eval ⟨ts, D⟩) o).run P w = .ok (.value v) w) (hS : T w)
 (h : wpAnyJ P md ops Q T last fuel (l.setIfInBounds i true) ⟨ts', D⟩ w) : wpAnyJ P md ops Q T last (fuel + 1) l ⟨ts, D⟩ w := by
 subst hts
 have hb' := hb
 unfold lateB at hb'
 simp only [Bool.and_eq_true, List.all_eq_true, Bool.not_eq_true'] at hb'
 refine wpAnyJ_first hi (Region.noSelect_spec hs) hQ hb (fun j hj => by simpa using hb'.1.1 j hj) (by simpa using hb'.1.2) fuel l _ w (Region.free_spec hi hf) (by simpa using hr) (fun j hj => (hb'.2 j hj).1) (Or.inl ⟨hw, hy⟩) hS ?_
 rw [hd]; exact h
theorem stj {fuel : Nat} {l : Array Bool} {a : Act} {w : World} (i : Nat) {o : Oper} (ho : ops[i]? = some o := by rfl) (hr : Region.ready md ops l = [i] := by kernel_rfl)
 (h : ∀ K : Act → World → Prop, Shut (∀ a' w', (i ∈ last ∨ T w') → wpAnyJ P md ops Q T last fuel (l.setIfInBounds i true) a' w' → K a' w') →
  if Region.wanted o (yielded ops a.tmps) = true then Oper.wp P o a w K Q else K (a.put o.dst undef) w) : wpAnyJ P md ops Q T last (fuel + 1) l a w := by
 refine ⟨fun h0 => (by rw [hr] at h0; cases h0), fun j hj => ?_⟩
 rw [hr] at hj
 obtain rfl : j = i := by simpa using hj
 exact wpOp_step ho fun K hK => h K fun a' w' h1 h2 => hK a' w' ⟨h1, h2⟩
theorem enj {l : Array Bool} {a : Act} {w : World} (hr : Region.ready md ops l = []) (h : Q .normal a w) : ∀ fuel, wpAnyJ P md ops Q T last fuel l a w
 | 0 => ⟨hr, h⟩
 | _ + 1 => ⟨fun _ => h, by rw [hr]; simp⟩
theorem bgj {id : Nat} {a : Act} {w : World} (T : World → Prop) (last : List Nat) (hm : P.follows .mixedOrders = true) (hT : T w.drew)
 (h : T w.drew → wpAnyJ P .any ops Q T last ops.size (Array.replicate ops.size false) a w.drew) : (Code.region id ops true).wp P Q a w :=
 wp_region_any hm (wpAny_of_J _ _ _ _ (h hT))
end
end Go.Proofs.YtablcbgeeeboeaaGreatDoor
set_option maxRecDepth 100000
set_option maxHeartbeats 20000000
namespace Go.Proofs.YtablcbgeeeboeaaGreatDoor
open Go.RowKit Sp
def sy (n : Nat) (S I F : Nat → Nat) (t : Nat) : Nat := atv S I F (max (t % n) (t / n)) (min (t % n) (t / n))
theorem sy_at {n i j : Nat} {S I F : Nat → Nat} (hi : i < n) : sy n S I F (j * n + i) = atv S I F (max i j) (min i j) := by unfold sy; rw [idx_div hi, idx_mod hi]
theorem sy_sym {n i j : Nat} {S I F : Nat → Nat} (hi : i < n) (hj : j < n) : sy n S I F (j * n + i) = sy n S I F (i * n + j) := by rw [sy_at hi, sy_at hj, Nat.max_comm, Nat.min_comm]
theorem sy_up {n t y : Nat} {S I F : Nat → Nat} (h : sy n S I F t = y) : (fun i => if i = t then fof y else fof (sy n S I F i)) = fun i => fof (sy n S I F i) := by
 funext i
 by_cases e : i = t
 · rw [if_pos e, e, h]
 · rw [if_neg e]
attribute [local irreducible] Calls
theorem gdense_any (w : World) [Tb w] (n q : Nat) (hn : n ≤ 64) (hq : q ≤ 4096) (aS aI aV : Option Addr) (cS cI cV : Nat) (S I G : Nat → Nat) [hM : MX w n n aS cS aI q cI aV cV S I G] :
 Calls Tryz.prog 43 #[.agg #[.int .i64 n, .int .i64 n, .slice aS (n + 1) cS, .slice aI q cI, .slice aV q cV]] w fun o w' => ∃ oa oc, o = .returned (.agg #[.int .i64 n, .int .i64 n, .slice oa (n * n) oc]) ∧ DN w w' oa (n * n) oc (fun t => fof (sy n S I G t)) ∧ Below w.heap.size w w' := by
 have HA := fun W (i j : Nat) (hi : i < n) (hj : j < n) [Tb W] [MX W n n aS cS aI q cI aV cV S I G] => Lib.hid (frm (rat9_any W n n q hn hn hq aS aI aV cS cI cV S I G i j hi hj))
 have HY := Lib.hid (atv_fin hM.ok)
 have HO := fun W y (hy : y < 18446744073709551616) [Tb W] => Lib.hid (frF (r3of_any W y hy tb))
 have hnn : n * n ≤ 4096 := Nat.mul_le_mul hn hn
 go_enter Tryz.func43, Tryz.ntmps43
 go_wp2_with fail
 go_loopw [4] (fun x wr => ∃ (j : Nat) (v : Value) (A : Nat → Option Addr) (C : Nat → Nat), j ≤ n ∧ x = .int .i64 j ∧ DM wr (w.heap.size + 3) v (j * n) (fun t => fof (sy n S I G t)) A C ∧ N3 wr (w.heap.size + 1 + 1) (.int .i64 n) (.int .i64 n) v ∧ N3 wr (w.heap.size + 1) (.int .i64 0) (.int .i64 0) (.slice none 0 0) ∧ N5 wr w.heap.size (.int .i64 n) (.int .i64 n) (.slice aS (n + 1) cS) (.slice aI q cI) (.slice aV q cV) ∧ Below w.heap.size w wr ∧ w.heap.size + 3 ≤ wr.heap.size) (fun x _ => n - (intOf x).toNat)
 case atStart => exact ⟨0, .slice none 0 0, _, _, by omega, rfl, by rw [Nat.zero_mul]; exact DM.nil _ _ _, inferInstance, inferInstance, inferInstance, zbh, by simp⟩
 case round =>
  obtain ⟨j, v, A, C, hj, rfl, iM, iB, iR, i5, hbr, hsz⟩ := hrel
  by_cases hlt : j < n
  · obtain ⟨P, hP⟩ : ∃ P, P = j * n := ⟨_, rfl⟩
    have hP2 : P + n ≤ 4096 := by rw [hP, show j * n + n = (j + 1) * n by rw [Nat.add_mul, Nat.one_mul]]; exact Nat.mul_le_mul (show j + 1 ≤ 64 by omega) hn
    rw [← hP] at iM
    have HP := Lib.hid hP
    clear hP
    go_wp2_with fail
    go_loopw [5] (fun x wr => ∃ (i : Nat) (v : Value) (A : Nat → Option Addr) (C : Nat → Nat), i ≤ n ∧ x = .int .i64 i ∧ DM wr (w.heap.size + 3) v (P + i) (fun t => fof (sy n S I G t)) A C ∧ N3 wr (w.heap.size + 1 + 1) (.int .i64 n) (.int .i64 n) v ∧ N3 wr (w.heap.size + 1) (.int .i64 0) (.int .i64 0) (.slice none 0 0) ∧ N5 wr w.heap.size (.int .i64 n) (.int .i64 n) (.slice aS (n + 1) cS) (.slice aI q cI) (.slice aV q cV) ∧ Below w.heap.size w wr ∧ w.heap.size + 3 ≤ wr.heap.size) (fun x _ => n - (intOf x).toNat)
    case atStart => exact ⟨0, v, A, C, by omega, rfl, iM, iB, iR, i5, hbr, hsz⟩
    case round =>
     clear iM iB iR i5 hbr hsz
     obtain ⟨i, v, A, C, hi, rfl, iM, iB, iR, i5, hbr, hsz⟩ := hrel
     haveI bw : From w wr := ⟨hbr⟩
     by_cases hlt2 : i < n
     · have ht1 : ((max i j : Nat) : Int) = max (i : Int) (j : Int) := by omega
       have ht2 : ((min i j : Nat) : Int) = min (i : Int) (j : Int) := by omega
       have HAi := fun W [Tb W] [MX W n n aS cS aI q cI aV cV S I G] => HA W (max i j) (min i j) (by omega) (by omega)
       obtain ⟨y, hy⟩ : ∃ y, y = atv S I G (max i j) (min i j) := ⟨_, rfl⟩
       have hy1 : y < 18446744073709551616 := by rw [hy]; exact (HY.out _ _).1
       rw [← hy, ht1, ht2] at HAi
       have HSY := Lib.hid (show sy n S I G (P + i) = y by rw [HP.out, sy_at hlt2, hy])
       clear ht1 ht2 HA hy
       haveI nb1 : NB w.heap.size (w.heap.size + 1 + 1) := ⟨by omega⟩
       go_wp2_with fail
       refine bgj (fun w' => Below wr.heap.size wr w') [12, 13, 14] (by kernel_rfl) (zbh) (fun hHeld => ?_)
       simp only [List.size_toArray, List.length_cons, List.length_nil, Nat.reduceAdd, Array.replicate_succ, Array.replicate_zero, List.push_toArray, List.nil_append, List.cons_append]
       refine tkj 0 23 ?_ [1, 12, 13, 14] (hy := ?_) (hS := zbh) (h := ?_)
       rotate_left
       · intro w hSw; haveI : From wr w := ⟨hSw⟩; go_simp; (try with_reducible rfl)
       refine tkj 1 24 ?_ [12, 13, 14] (hy := ?_) (hS := zbh) (h := ?_)
       rotate_left
       · intro w hSw; haveI : From wr w := ⟨hSw⟩; go_simp; (try with_reducible rfl)
       refine tkj 2 25 ?_ [9, 10, 11, 12, 13, 14] (hy := ?_) (hS := zbh) (h := ?_)
       rotate_left
       · intro w hSw; haveI : From wr w := ⟨hSw⟩; go_simp; (try with_reducible rfl)
       refine tkj 3 26 ?_ [5, 9, 10, 11, 12, 13, 14] (hy := ?_) (hS := zbh) (h := ?_)
       rotate_left
       · intro w hSw; haveI : From wr w := ⟨hSw⟩; go_simp; (try with_reducible rfl)
       refine tkj 4 27 ?_ [5, 9, 10, 11, 12, 13, 14] (hy := ?_) (hS := zbh) (h := ?_)
       rotate_left
       · intro w hSw; haveI : From wr w := ⟨hSw⟩; go_simp; (try with_reducible rfl)
       refine tkj 5 28 ?_ [9, 10, 11, 12, 13, 14] (hy := ?_) (hS := zbh) (h := ?_)
       rotate_left
       · intro w hSw; haveI : From wr w := ⟨hSw⟩; go_simp; (try with_reducible rfl)
       refine tkj 6 29 ?_ [8, 9, 10, 11, 12, 13, 14] (hy := ?_) (hS := zbh) (h := ?_)
       rotate_left
       · intro w hSw; haveI : From wr w := ⟨hSw⟩; go_simp; (try with_reducible rfl)
       refine tkj 7 30 ?_ [8, 9, 10, 11, 12, 13, 14] (hy := ?_) (hS := zbh) (h := ?_)
       rotate_left
       · intro w hSw; haveI : From wr w := ⟨hSw⟩; go_simp; (try with_reducible rfl)
       refine tkj 8 31 ?_ [9, 10, 11, 12, 13, 14] (hy := ?_) (hS := zbh) (h := ?_)
       rotate_left
       · intro w hSw; haveI : From wr w := ⟨hSw⟩; go_simp; (try with_reducible rfl)
       refine stj 9 (h := fun K hK => ?_)
       go_simp
       go_at_call 87; refine (HAi _).out.mono ?_; rintro o w1 ⟨rfl, b1⟩
       go_simp
       refine hK.out _ _ (Or.inr zbh) ?_
       clear hK K
       try simp only [List.setIfInBounds_toArray, List.set_cons_zero, List.set_cons_succ]
       refine stj 10 (h := fun K hK => ?_)
       go_simp
       go_at_call 20; refine (HO _ y hy1).out.mono ?_; rintro o w3 ⟨a3, c3, rfl, i3, b3, f3⟩
       go_simp
       refine hK.out _ _ (Or.inr zbh) ?_
       clear hK K
       try simp only [List.setIfInBounds_toArray, List.set_cons_zero, List.set_cons_succ]
       refine stj 11 (h := fun K hK => ?_)
       go_simp
       refine hK.out _ _ (Or.inr zbh) ?_
       clear hK K
       try simp only [List.setIfInBounds_toArray, List.set_cons_zero, List.set_cons_succ]
       refine stj 12 (h := fun K hK => ?_)
       refine step_app_dyad (by rfl) _ _ (by rfl) (w.heap.size + 3) v (P + i) (dcells (mcell (fun t => fof (sy n S I G t)) A C) (P + i)) (by rfl) _ (dbad (fof y)) (decide (dman (fof y) < 0)) (.slice a3 (nl (dman (fof y)).natAbs) c3) (dexp (fof y)) (by rfl) (by rfl) (inferInstance : DM (w3.alloc (.cells #[.bool (dbad (fof y)), .bool (decide (dman (fof y) < 0)), .slice a3 (nl (dman (fof y)).natAbs) c3, .int .i64 (dexp (fof y))] 46)) (w.heap.size + 3) v (P + i) (fun t => fof (sy n S I G t)) A C).out.own (by go_simp) (by go_simp) (by go_simp) (by go_simp) (by omega) (by have e1 := b1.out.size; have e3 := b3.out.size; simp at e1 e3 ⊢; omega) ?_; intro g4 cap4 w4 hown4 hg4 hob4; have DM4 : Hid (DM (w3.alloc (.cells #[.bool (dbad (fof y)), .bool (decide (dman (fof y) < 0)), .slice a3 (nl (dman (fof y)).natAbs) c3, .int .i64 (dexp (fof y))] 46)) (w.heap.size + 3) v (P + i) (fun t => fof (sy n S I G t)) A C) := (inferInstance : DM (w3.alloc (.cells #[.bool (dbad (fof y)), .bool (decide (dman (fof y) < 0)), .slice a3 (nl (dman (fof y)).natAbs) c3, .int .i64 (dexp (fof y))] 46)) (w.heap.size + 3) v (P + i) (fun t => fof (sy n S I G t)) A C); haveI iB4 : N3 w4 (w.heap.size + 1 + 1) (.int .i64 n) (.int .i64 n) v := N3.own (inferInstance : N3 (w3.alloc (.cells #[.bool (dbad (fof y)), .bool (decide (dman (fof y) < 0)), .slice a3 (nl (dman (fof y)).natAbs) c3, .int .i64 (dexp (fof y))] 46)) (w.heap.size + 1 + 1) (.int .i64 n) (.int .i64 n) v) DM4.out (by omega) hg4; haveI iR4 : N3 w4 (w.heap.size + 1) (.int .i64 0) (.int .i64 0) (.slice none 0 0) := N3.own (inferInstance : N3 (w3.alloc (.cells #[.bool (dbad (fof y)), .bool (decide (dman (fof y) < 0)), .slice a3 (nl (dman (fof y)).natAbs) c3, .int .i64 (dexp (fof y))] 46)) (w.heap.size + 1) (.int .i64 0) (.int .i64 0) (.slice none 0 0)) DM4.out (by omega) hg4; have i54 : Hid (N5 w4 w.heap.size (.int .i64 n) (.int .i64 n) (.slice aS (n + 1) cS) (.slice aI q cI) (.slice aV q cV)) := N5.grown (inferInstance : N5 (w3.alloc (.cells #[.bool (dbad (fof y)), .bool (decide (dman (fof y) < 0)), .slice a3 (nl (dman (fof y)).natAbs) c3, .int .i64 (dexp (fof y))] 46)) w.heap.size (.int .i64 n) (.int .i64 n) (.slice aS (n + 1) cS) (.slice aI q cI) (.slice aV q cV)) hg4 (own_ne DM4.out.out.own (by omega)); haveI n54 := i54.out
       refine hK.out _ _ (Or.inl (by decide)) ?_
       clear hK K
       try simp only [Act.put, List.setIfInBounds_toArray, List.set_cons_zero, List.set_cons_succ]
       refine stj 13 (h := fun K hK => ?_)
       go_simp
       refine hK.out _ _ (Or.inl (by decide)) ?_
       clear hK K
       try simp only [List.setIfInBounds_toArray, List.set_cons_zero, List.set_cons_succ]
       refine stj 14 (h := fun K hK => ?_)
       go_simp
       refine hK.out _ _ (Or.inl (by decide)) ?_
       clear hK K
       try simp only [List.setIfInBounds_toArray, List.set_cons_zero, List.set_cons_succ]
       refine enj (by kernel_rfl) ?_ _
       all_goals (
        have e1 := b1.out.size
        have e3 := b3.out.size
        have e4 := hg4.size
        simp at e1 e3 e4
        have hf : 0 < nl (dman (fof y)).natAbs → w.heap.size + 3 ≤ ab a3 := fun h => by have := f3 h; omega
        have hne : 0 < nl (dman (fof y)).natAbs → some (ab a3) ≠ v.ownBlock := fun h q => by have h1 := (iM.out.own.lt _ q.symm).2; have h2 := f3 h; omega
        have DM5 := DM4.out.app hown4 hg4 hob4 (i3.out.alloc _) hf hne
        rw [sy_up HSY.out] at DM5
        have B4 : Below w.heap.size w w4 := Below.trans (show Below w.heap.size w (w3.alloc (.cells #[.bool (dbad (fof y)), .bool (decide (dman (fof y) < 0)), .slice a3 (nl (dman (fof y)).natAbs) c3, .int .i64 (dexp (fof y))] 46)) from zbh) ((below_grown DM4.out.out.own hg4 (by simp; omega)).mono (by omega))
        have DM6 := DM5.sen (show w.heap.size + 1 + 1 < w.heap.size + 3 by omega) 2 (.slice (some ⟨g4, 0, none⟩) (P + i + 1) cap4)
        have iB5 := iB4.se2 (.slice (some ⟨g4, 0, none⟩) (P + i + 1) cap4)
        have iR5 := N3.sen iR4 (show w.heap.size + 1 ≠ w.heap.size + 1 + 1 by omega) 2 (.slice (some ⟨g4, 0, none⟩) (P + i + 1) cap4)
        have i55 := N5.st w4 w.heap.size (w.heap.size + 1 + 1) 2 (.slice (some ⟨g4, 0, none⟩) (P + i + 1) cap4) _ _ _ _ _ i54.out (show w.heap.size ≠ w.heap.size + 1 + 1 by omega)
        have B5 : Below w.heap.size w (w4.setCell ⟨w.heap.size + 1 + 1, 2, none⟩ (.slice (some ⟨g4, 0, none⟩) (P + i + 1) cap4)) := B4.setCell (by simp; omega) _
        have hs5 : w.heap.size + 3 ≤ (w4.setCell ⟨w.heap.size + 1 + 1, 2, none⟩ (.slice (some ⟨g4, 0, none⟩) (P + i + 1) cap4)).heap.size := by rw [World.size_setCell]; omega
        generalize (w4.setCell ⟨w.heap.size + 1 + 1, 2, none⟩ (.slice (some ⟨g4, 0, none⟩) (P + i + 1) cap4)) = w5 at *
        clear DM4 DM5 hown4 hg4 hob4 iB4 iR4 i54 hf hne
        go_wp2_with fail
        go_roundw
        case rel => exact ⟨i + 1, _, _, _, by omega, by go_num, DM6, iB5, iR5, i55, B5, hs5⟩
        case measure => simp [intOf]; omega)
     · have hin : i = n := by omega
       rw [hin] at iM
       have iM2 : DM wr (w.heap.size + 3) v ((j + 1) * n) (fun t => fof (sy n S I G t)) A C := by rw [Nat.add_mul, Nat.one_mul, ← HP.out]; exact iM
       go_wp2_with fail
       go_roundw
       case rel => exact ⟨j + 1, v, A, C, by omega, by go_num, iM2, iB, iR, i5, hbr, hsz⟩
       case measure => simp [intOf]; omega
  · have hjn : j = n := by omega
    rw [hjn] at iM
    obtain ⟨oa, oc, hv, hZ⟩ := iM.out.dz (fun i => isN_fof _)
    clear hZ
    subst hv
    haveI bw : From w wr := ⟨hbr⟩
    have hl : w.heap.size + 1 < w.heap.size + 3 := by omega
    have M6 := ((iM.sen hl 0 (.int .i64 n)).sen hl 1 (.int .i64 n)).sen hl 2 (.slice oa (n * n) oc)
    go_wp2_with fail
    refine bodyPost_ret (v := .agg #[.int .i64 n, .int .i64 n, .slice oa (n * n) oc]) (by simp only [results, Tryz.results43]; go_simp) rfl ?_
    exact ⟨_, _, rfl, ⟨_, _, M6.mono (by omega)⟩, zbh⟩
end Go.Proofs.YtablcbgeeeboeaaGreatDoor

/-
  Walks: package sparsekit: Shuffle.
-/
import Derived.Test.YtgicceiimciafaaGreatDoorZwOs
import Derived.Test.YtgicceiimciafaaGreatDoorZwSL
import Derived.Deep.RegionLaw
import Derived.Deep.DeepCutAuto
set_option maxRecDepth 100000
set_option maxHeartbeats 20000000
namespace Go.Proofs.YtgicceiimciafaaGreatDoor
open Go.RowKit Sp
def icells (l : List Nat) : List Value := l.map fun (x : Nat) => Value.int .i64 (x : Int)
theorem icells_get {l : List Nat} {j x : Nat} (h : l[j]? = some x) : (icells l)[j]? = some (.int .i64 (x : Int)) := by unfold icells; rw [List.getElem?_map, h]; rfl
theorem icells_app (l m : List Nat) : icells (l ++ m) = icells l ++ icells m := List.map_append
def setL : List Value → Nat → List Value → List Value
 | xs, _, [] => xs
 | xs, o, v :: r => setL (xs.set o v) (o + 1) r
theorem setL_eq (vs : List Value) : ∀ (xs : List Value) (o : Nat), o + vs.length ≤ xs.length → setL xs o vs = xs.take o ++ vs ++ xs.drop (o + vs.length) := by
 induction vs with
 | nil => intro xs o h; simp [setL]
 | cons v r ih =>
  intro xs o h
  simp only [List.length_cons] at h
  rw [setL, ih _ _ (by rw [List.length_set]; omega)]
  have e : xs.set o v = xs.take o ++ v :: xs.drop (o + 1) := by rw [List.set_eq_take_append_cons_drop, if_pos (by omega)]
  have l1 : (xs.take o).length = o := by rw [List.length_take]; omega
  have e1 : (xs.set o v).take (o + 1) = xs.take o ++ [v] := by
   rw [e, List.take_append, l1, List.take_of_length_le (by omega), show o + 1 - o = 1 by omega]; rfl
  have e2 : (xs.set o v).drop (o + 1 + r.length) = xs.drop (o + (v :: r).length) := by
   rw [e, List.drop_append, l1, List.drop_of_length_le (by omega), show o + 1 + r.length - o = r.length + 1 by omega, List.drop_succ_cons, List.drop_drop, List.nil_append]
   congr 1; simp only [List.length_cons]; omega
  rw [e1, e2]; simp
section
variable {base : Nat} {e : TypeId} {g n cap : Nat}
theorem own_setCells (vs : List Value) : ∀ (o : Nat) (xs : List Value) (w : World), w.ownsRow base e 1 (.slice (some ⟨g, 0, none⟩) n cap) n xs →
 (w.setCells g o vs).ownsRow base e 1 (.slice (some ⟨g, 0, none⟩) n cap) n (setL xs o vs) ∧ w.grownBy (w.setCells g o vs) (some g) := by
 induction vs with
 | nil => intro o xs w h; exact ⟨h, only_refl w g⟩
 | cons v r ih =>
  intro o xs w h
  obtain ⟨h1, h2⟩ := h.stored o v
  obtain ⟨h3, h4⟩ := ih (o + 1) _ _ h1
  exact ⟨h3, only_trans h2 h4⟩
theorem own_take {w : World} {xs : List Value} (h : w.ownsRow base e 1 (.slice (some ⟨g, 0, none⟩) n cap) n xs) {m : Nat} (hm : m ≤ n) : w.ownsRow base e 1 (.slice (some ⟨g, 0, none⟩) m cap) m (xs.take m) := by
 have hl := h.1
 rcases h.2 with ⟨h', _⟩ | ⟨g', cap', cur, h', hb, hg, hnc, hcm, hcs, htake⟩
 · simp at h'
 · simp only [Value.slice.injEq, Option.some.injEq, Addr.mk.injEq, and_true, true_and] at h'
   obtain ⟨rfl, rfl⟩ := h'
   refine ⟨by rw [List.length_take]; omega, .inr ⟨g, cap, cur, rfl, hb, hg, by omega, hcm, hcs, ?_⟩⟩
   rw [← htake, List.take_take]; congr 1; omega
theorem own_erase {w : World} {xs : List Value} (h : w.ownsRow base e 1 (.slice (some ⟨g, 0, none⟩) n cap) n xs) {a : Nat} (ha : a < n) :
 (w.setCells g a (xs.drop (a + 1))).ownsRow base e 1 (.slice (some ⟨g, 0, none⟩) (n - 1) cap) (n - 1) (xs.eraseIdx a) ∧ w.grownBy (w.setCells g a (xs.drop (a + 1))) (some g) := by
 have hl : xs.length = n := by have := h.1; omega
 obtain ⟨h1, h2⟩ := own_setCells (xs.drop (a + 1)) a xs w h
 have h3 := own_take h1 (show n - 1 ≤ n by omega)
 rw [setL_eq _ _ _ (by rw [List.length_drop]; omega)] at h3
 refine ⟨?_, h2⟩
 have l1 : (xs.take a ++ xs.drop (a + 1)).length = n - 1 := by rw [List.length_append, List.length_take, List.length_drop]; omega
 rw [List.take_append, l1, List.take_of_length_le (by omega), show n - 1 - (n - 1) = 0 by omega, List.take_zero, List.append_nil, ← List.eraseIdx_eq_take_drop_succ] at h3
 exact h3
end
theorem icells_erase (l : List Nat) (a : Nat) : (icells l).eraseIdx a = icells (l.eraseIdx a) := by
 unfold icells; rw [List.eraseIdx_eq_take_drop_succ, List.eraseIdx_eq_take_drop_succ, List.map_append, List.map_take, List.map_drop]
structure Ils (w : World) (a : Option Addr) (n cap : Nat) (L : Nat → Int) : Prop where
 fits : n ≤ cap
 lim : cap ≤ 9223372036854775807
 addr : 0 < n → a = some ⟨ab a, ao a, none⟩
 cell : ∀ i, i < n → w.cell? ⟨ab a, ao a + i, none⟩ = some (.int .i64 (L i))
 old : 0 < n → ab a < w.heap.size
theorem Ils.below {w w' : World} {a : Option Addr} {n cap : Nat} {L : Nat → Int} (h : Ils w a n cap L) (hb : Below w.heap.size w w') : Ils w' a n cap L :=
 ⟨h.fits, h.lim, h.addr, fun i hi => by rw [hb.cell (p := ⟨ab a, ao a + i, none⟩) (h.old (by omega))]; exact h.cell i hi, fun hn => Nat.lt_of_lt_of_le (h.old hn) hb.size⟩
theorem undIl : Tryz.prog.underlying 23 = some (.slice (Tryz.prog.elem 23)) := by kernel_rfl
theorem sizIl (w : World) : (Go.sizeOf (Tryz.prog.elem 23)).run Tryz.prog w = .ok 1 w := by kernel_rfl
theorem Ils.idx {w : World} {a : Option Addr} {n cap : Nat} {L : Nat → Int} (h : Ils w a n cap L) (i : Nat) (hi : i < n) (W : World) :
 (Instr.indexAt 23 (.slice a n cap) (.int .i64 i)).run Tryz.prog W = .ok (.pointer (some ⟨ab a, ao a + i, none⟩)) W := by
 have ha := h.addr (by omega)
 generalize ab a = b at *
 generalize ao a = o at *
 subst ha
 rw [run_indexAt_slice _ _ _ _ _ _ _ undIl, if_pos ⟨by omega, by omega⟩, sizIl]
 simp only [Result.andThen, Int.toNat_natCast, Nat.mul_one, Addr.add_lit]
structure Sh (w0 wr : World) (n k m : Nat) (vl vo : Value) (out av : List Nat) : Prop where
 perm : (out ++ av).Perm (List.range n)
 lo : out.length = k
 la : av.length = m
 ol : wr.ownsRow w0.heap.size 3 1 vl m (icells av)
 oo : wr.ownsRow w0.heap.size 3 1 vo k (icells out)
 ne : vl.ownBlock = none ∨ vl.ownBlock ≠ vo.ownBlock
 bl : Below w0.heap.size w0 wr
attribute [local irreducible] Calls
theorem shuffle_any (w : World) (a : Option Addr) (c cap : Nat) (L : Nat → Int) (hL : Ils w a c cap L) (n : Nat) (hn : n ≤ 1000) :
 Calls Tryz.prog 7 #[.slice a c cap, .int .i64 n] w fun e w' => ∃ v out, e = .returned v ∧ out.Perm (List.range n) ∧ w'.ownsRow w.heap.size 3 1 v n (icells out) ∧ Below w.heap.size w w' := by
 obtain ⟨i0, hi0, hz0, hz1, hz2⟩ := info_parts infI
 have l1 := hL.lim
 have l2 := hL.fits
 have HI := Lib.hid hL
 have HP := fun W (x m : Int) (h0 : 1 ≤ m) (h1 : m ≤ 9223372036854775807) => Lib.hid (place_any W x m h0 h1)
 clear hL
 go_enter Tryz.func7, Tryz.ntmps7
 go_wp2_with fail
 have hown0 := World.ownsRow_nil w w.heap.size 3 1
 go_loopw [5, 6] (fun v i wr => ∃ k : Nat, k ≤ n ∧ i = .int .i64 k ∧ wr.ownsRow w.heap.size 3 1 v k (icells (List.range k)) ∧ Below w.heap.size w wr) (fun _ i _ => n - (intOf i).toNat)
 case atStart => exact ⟨0, by omega, rfl, hown0, Below.refl _ _⟩
 case round =>
  obtain ⟨k, hk, rfl, ho, hb⟩ := hrel
  have HO := Lib.hid ho
  have HB := Lib.hid hb
  have hs := hb.size
  clear ho hb hown0
  by_cases hlt : k < n
  · go_wp2_with (at_builtin; refine app_int2 rfl _ _ rfl w.heap.size _ k _ rfl _ (k : Int) rfl (HO.out.alloc (.cells #[.int .i64 k] 3)) (by go_simp) (by omega) (by rw [World.size_alloc]; omega) ?_; intro v3 w3 hown3 hg3 hob3)
    have B3 : Below w.heap.size w w3 := (HB.out.alloc hs _).trans (below_of_owns (HO.out.alloc _) hg3 (by rw [World.size_alloc]; omega))
    go_roundw
    case rel => exact ⟨k + 1, by omega, by go_num, by rw [List.range_succ, icells_app]; exact hown3, B3⟩
    case measure => simp [intOf]; omega
  · obtain rfl : k = n := by omega
    go_wp2_with fail
    go_loopg [5, 7, 8, 9] k (fun gk vl vo i z9 wr => ∃ (j : Nat) (out av : List Nat), j + gk = k ∧ i = .int .i64 j ∧ Sh w wr k j gk vl vo out av)
    case atStart => exact ⟨0, [], List.range k, by omega, rfl, List.Perm.refl _, rfl, List.length_range, HO.out, World.ownsRow_nil _ _ _ _, by rcases HO.out.2 with ⟨h, _⟩ | ⟨g, cp, cur, h, _⟩ <;> rw [h] <;> simp [Value.ownBlock], HB.out⟩
    case round =>
     obtain ⟨j, out, av, hjk, rfl, hS⟩ := hrel
     have HS := Lib.hid hS
     have hs2 := hS.bl.size
     clear HO HB hs
     by_cases hlt2 : j < k
     · have hgk : 1 ≤ gk := by omega
       obtain ⟨g, cl, rfl, hg0, hgl, hgc, hgm, hcells⟩ : ∃ g cl, u5 = .slice (some ⟨g, 0, none⟩) gk cl ∧ w.heap.size ≤ g ∧ g < wr.heap.size ∧ gk ≤ cl ∧ cl ≤ 9223372036854775807 ∧ ∀ q, q < gk → wr.cell? ⟨g, q, none⟩ = (icells av)[q]? := by
        rcases own_cell hS.ol with ⟨h, _⟩ | h
        · omega
        · exact h
       have HC := Lib.hid hcells
       clear hS hcells
       go_upto_if 27 with fail
       go_cut [9] (fun v wx => ∃ q : Nat, q < gk ∧ v = .int .i64 q ∧ wx = wr)
       case first =>
        by_cases hjc : j < c
        · have hI := HI.out.below HS.out.bl
          haveI kL : CE wr (ab a) (ao a + j) (.int .i64 (L j)) := ⟨hI.cell j hjc, hI.old (by omega)⟩
          have i1 := hI.idx j hjc
          have HQ := fun W => HP W (L j) ((gk : Nat) : Int) (by omega) (by omega)
          obtain ⟨q, hq, hp⟩ : ∃ q : Nat, q < gk ∧ placeI (L j) ((gk : Nat) : Int) = (q : Int) := by
           have h1 := Int.emod_nonneg (L j % 18446744073709551616) (show ((gk : Nat) : Int) ≠ 0 by omega)
           have h2 := Int.emod_lt_of_pos (L j % 18446744073709551616) (show 0 < ((gk : Nat) : Int) by omega)
           exact ⟨(placeI (L j) ((gk : Nat) : Int)).toNat, by unfold placeI; omega, by unfold placeI; omega⟩
          rw [hp] at HQ
          clear hI hp
          go_wp2_with fail
          refine (HQ _).out.mono ?_; rintro e w1 ⟨rfl, rfl⟩
          go_wp2_with fail
          go_meet
          exact ⟨q, hq, rfl, rfl⟩
        · go_wp2_with fail
          go_meet
          exact ⟨0, by omega, rfl, rfl⟩
       case rest =>
        obtain ⟨q, hq, rfl, rfl⟩ := hcut
        obtain ⟨x, hx⟩ : ∃ x, av[q]? = some x := ⟨_, List.getElem?_eq_getElem (by rw [HS.out.la]; exact hq)⟩
        have kx := (HC.out q hq).trans (icells_get hx)
        have HX := Lib.hid hx
        clear hx
        go_wp2_with (at_builtin; refine app_int2 rfl _ _ rfl w.heap.size _ j _ rfl _ (x : Int) rfl (HS.out.oo.alloc (.cells #[.int .i64 x] 3)) (by go_simp) (by omega) (by rw [World.size_alloc]; omega) ?_; intro v3 w3 hown3 hg3 hob3)
        have B3 : Below w.heap.size w w3 := (HS.out.bl.alloc hs2 _).trans (below_of_owns (HS.out.oo.alloc _) hg3 (by rw [World.size_alloc]; omega))
        have hol : w3.ownsRow w.heap.size 3 1 (.slice (some ⟨g, 0, none⟩) gk cl) gk (icells av) := (HS.out.ol.alloc _).kept hg3 HS.out.ne
        have hgv : v3.ownBlock ≠ some g := by
         rcases hob3 with h | h
         · rw [h]; rcases HS.out.ne with h2 | h2
           · simp [Value.ownBlock] at h2
           · exact fun h3 => h2 h3.symm
         · rw [h, World.size_alloc]; intro h4; injection h4; omega
        obtain ⟨ho4, hg4⟩ := own_erase (w := w3.drew) hol.drew hq
        have hlen : (icells av).length = gk := by have := HS.out.ol.1; omega
        obtain ⟨A, hA, hnews⟩ : ∃ A : Addr, (if cl = q + 1 then some (⟨g, 0, none⟩ : Addr) else some ⟨g, q + 1, none⟩) = some A ∧ Hid (∀ i u, ((icells av).drop (q + 1))[i]? = some u → w3.drew.cell? (A.add i) = some u) := by
         by_cases h : cl = q + 1
         · refine ⟨⟨g, 0, none⟩, by simp [h], fun i u hu => ?_⟩
           rw [List.getElem?_eq_none (by rw [List.length_drop]; omega)] at hu
           cases hu
         · refine ⟨⟨g, q + 1, none⟩, by simp [h], fun i u hu => ?_⟩
           rw [List.getElem?_drop] at hu
           have hi := (List.getElem?_eq_some_iff.1 hu).1
           rw [Addr.add_lit]
           exact (hol.cellAt (q + 1 + i) (by omega)).trans hu
        have s1 : Hid (((icells av).drop (q + 1)).length = (gk - (q + 1)) * 1) := Lib.hid (by rw [Nat.mul_one, List.length_drop, hlen])
        have s2 : Hid (∀ u ∈ (icells av).drop (q + 1), u.oneCell' = true) := by
         intro u hu
         obtain ⟨y, _, rfl⟩ := List.mem_map.1 (List.mem_of_mem_drop hu)
         rfl
        have s3 : Hid (∀ i, i < ((icells av).drop (q + 1)).length → (w3.drew.cell? ⟨g, 0 + q * 1 + i, none⟩).isSome = true ∧ w3.drew.frozen? ⟨g, 0 + q * 1 + i, none⟩ = false) := by
         intro i hi
         rw [List.length_drop, hlen] at hi
         have e1 := hol.cellAt (q + i) (by omega)
         rw [show 0 + q * 1 + i = q + i by omega]
         refine ⟨?_, hol.frozenAt _⟩
         show (w3.cell? _).isSome = true
         rw [e1, List.getElem?_eq_getElem (by omega)]; rfl
        have hwr : IntKind.i64.wrap ((q : Int) + 1) = (q : Int) + 1 := by rw [IntKind.wrap_i64]; omega
        have hp0 : (0 : Int) ≤ (q : Int) + 1 := by omega
        have hp1 : (q : Int) + 1 ≤ ((gk : Nat) : Int) := by omega
        have hp2 : ((q : Int) + 1).toNat = q + 1 := by omega
        have hqc : q ≤ cl := by omega
        have HG := Lib.hid hg4
        have HO4 := Lib.hid ho4
        have HV := Lib.hid hgv
        have HB3 := Lib.hid B3
        have HN3 := Lib.hid hown3
        clear hol hg4 ho4 hgv B3 hown3 hg3 hob3 hlen kx HC
        go_region_law (refine step_append_room rfl (.tmp 44) (.tmp 48) 23 rfl 3 i0 1 undIe hi0 hz1 g 0 q cl (by simp [Act.eval, Act.put]) A (gk - (q + 1)) (cl - (q + 1)) ((icells av).drop (q + 1)) (by simp [Act.eval, Act.put]) s1.out hnews.out s2.out (by omega) s3.out ?_)
        go_wp2
        have S' : Sh w (w3.drew.setCells g q ((icells av).drop (q + 1))) k (j + 1) (gk - 1) (.slice (some ⟨g, 0, none⟩) (gk - 1) cl) v3 (out ++ [x]) (av.eraseIdx q) :=
         ⟨shuf_step HS.out.perm (by rw [HS.out.la]; exact hq) HX.out, by rw [List.length_append, HS.out.lo]; rfl, by rw [List.length_eraseIdx_of_lt (by rw [HS.out.la]; exact hq), HS.out.la], by rw [← icells_erase]; exact HO4.out, by rw [icells_app]; exact HN3.out.drew.kept HG.out (Or.inr HV.out), Or.inr (fun h => HV.out h.symm), Below.of_only HB3.out.drew HG.out (by have := HB3.out.size; simpa using this) hg0⟩
        go_roundg (gk - 1)
        case measure => omega
        case rel => exact ⟨j + 1, out ++ [x], av.eraseIdx q, by omega, by go_num, by rw [show q + (gk - (q + 1)) = gk - 1 by omega]; simpa using S'⟩
     · obtain rfl : gk = 0 := by omega
       obtain rfl : j = k := by omega
       have hav : av = [] := List.length_eq_zero_iff.1 HS.out.la
       go_wp2_with fail
       go_ret
       exact ⟨_, out, rfl, by have := HS.out.perm; rwa [hav, List.append_nil] at this, HS.out.oo, HS.out.bl⟩
end Go.Proofs.YtgicceiimciafaaGreatDoor

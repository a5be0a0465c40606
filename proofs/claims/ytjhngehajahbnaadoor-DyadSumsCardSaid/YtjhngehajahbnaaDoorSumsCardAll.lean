/-
  DyadSums: for every input the law returns true. Conditions: the library's table of bits.TrailingZeros32 is as it was laid (the row's own list).
  A parameter that is a list of dyads, laid open.
  Parameters that are dyads, laid open: what the walks take of them; and they read as they did where nothing that was there has turned. The frame of a card.
-/
import Derived.Test.YtjhngehajahbnaaDoorCards
import Derived.Test.YtjhngehajahbnaaDoorTie
import Derived.WalkKit
import Derived.ProofKit
import Derived.OpenShut
import Derived.Carry
import Derived.Laws.LoneSync
import Derived.Deep.DeepHandedRow
import Derived.Lib.LaidTab
import Derived.Test.YtjhngehajahbnaaDoorTz
import Derived.Test.YtjhngehajahbnaaDoorDys
import Derived.Deep.Slices
import Derived.Test.YtjhngehajahbnaaDoorSumsAll
namespace Go.Proofs.YtjhngehajahbnaaDoor
open Go.ChangeShapes Go.WideShapes Go.ChangeAt Go.RowKit Sp

theorem from_digs (f : Nat → Nat) : ∀ n, (∀ i, i < n → f i < B) → ∃ x, x < B ^ n ∧ ∀ i, i < n → dig x i = f i
  | 0, _ => ⟨0, Bpow_pos 0, fun i hi => absurd hi (Nat.not_lt_zero i)⟩
  | n + 1, h => by
    obtain ⟨x, hx, hd⟩ := from_digs f n (fun i hi => h i (by omega))
    have hf := h n (by omega)
    refine ⟨x + f n * B ^ n, ?_, fun i hi => ?_⟩
    · rw [Bpow_succ]
      have h1 : (f n + 1) * B ^ n ≤ B * B ^ n := Nat.mul_le_mul_right _ hf
      rw [Nat.add_mul, Nat.one_mul, Nat.mul_comm B] at h1
      omega
    · by_cases hin : i < n
      · rw [dig_lo hin]; exact hd i hin
      · obtain rfl : i = n := by omega
        have := dig_of_split (l := x) (d := f i) (h := 0) hx hf
        rwa [Nat.zero_mul, Nat.add_zero] at this

theorem lt_of_cell2 {w : World} {a : Addr} {v : Value} (h : w.cell? a = some v) : a.block < w.heap.size := by
  rcases Nat.lt_or_ge a.block w.heap.size with h1 | h1
  · exact h1
  · unfold World.cell? at h
    rw [show w.heap[a.block]? = none from Array.getElem?_eq_none h1] at h
    cases h

theorem mag_of_ints {W : World} {a : Addr} {len cap : Nat} {zs : List Int} (hle : len ≤ cap) (hmax : cap ≤ maxLen) (hlen : len ≤ zs.length) (hall : ∀ i, i < zs.length → W.cell? (a.add i) = some (.int .u32 (zs.getD i 0)))
    (hwf : ∀ n ∈ zs, (Lit.int .u32 n).wf = true) : ∃ x, Mag W (some a) len cap x := by
  have hr : ∀ i, 0 ≤ zs.getD i 0 ∧ zs.getD i 0 ≤ 4294967295 := fun i => by
    have := range_u32 hwf i
    rwa [List.getD_eq_getElem?_getD]
  obtain ⟨x, hx, hd⟩ := from_digs (fun i => (zs.getD i 0).toNat) len (fun i _ => by have := hr i; rw [B_eq]; show (zs.getD i 0).toNat < _; omega)
  have hsp : 0 < len → a.spot = none := fun h0 => by
    obtain ⟨_, _, _, _, hs⟩ := World.shape?_of_cell? (hall 0 (by omega))
    exact hs
  obtain ⟨b, o, sp⟩ := a
  refine ⟨x, hx, hle, by unfold maxLen at hmax; omega, fun h0 => ?_, fun i hi => ?_, fun h0 => ?_⟩
  · have : sp = none := hsp h0
    subst this; rfl
  · have : sp = none := hsp (by omega)
    subst this
    rw [hd i hi]
    have h1 := hall i (by omega)
    have h2 := hr i
    rw [show (((zs.getD i 0).toNat : Nat) : Int) = zs.getD i 0 by omega]
    rw [Addr.add_lit] at h1
    exact h1
  · exact lt_of_cell2 (hall 0 (by omega))

theorem cells27 : Tryd.prog.cellsOf 27 = 4 := by kernel_rfl
theorem cells25 : Tryd.prog.cellsOf 25 = 2 := by kernel_rfl
theorem cells23 : Tryd.prog.cellsOf 23 = 1 := by kernel_rfl
theorem cells22 : Tryd.prog.cellsOf 22 = 1 := by kernel_rfl
theorem cells4 : Tryd.prog.cellsOf 4 = 1 := by kernel_rfl
theorem cells3 : Tryd.prog.cellsOf 3 = 1 := by kernel_rfl

theorem dyad_cells {H : Type} {enc : TypeId × Value → H} {W : World} {base : Nat} {sp : Nat → Bool} {hd : Bool} {fuel : Nat} {c0 c1 c2 c3 : Value} {x : DataW H × List MemPlace} (hsp : ∀ b, sp b = true)
    (hf : DataW.trod enc Tryd.prog W base sp hd fuel 27 [c0, c1, c2, c3] = some x) :
    ∃ (bd s : Bool) (a : Option Addr) (n cap y : Nat) (e : Int), c0 = .bool bd ∧ c1 = .bool s ∧ c2 = .slice a n cap ∧ c3 = .int .i64 e ∧ Mag W a n cap y ∧ (-9223372036854775808 ≤ e ∧ e ≤ 9223372036854775807) := by
  obtain ⟨xs, n, _, hx, _, hlen, hg⟩ := DataW.trod_struct Tryd.underlying27 hf
  match xs, hlen with
  | [y0, y1, y2], _ =>
    have g0 := hg 0 _ rfl
    have g1 := hg 1 _ rfl
    have g2 := hg 2 _ rfl
    have g0 : DataW.trod enc Tryd.prog W base sp hd n 4 (List.take (Tryd.prog.cellsOf 4) [c0, c1, c2, c3]) = some y0 := g0
    have g1 : DataW.trod enc Tryd.prog W base sp hd n 25 (List.take (Tryd.prog.cellsOf 25) [c1, c2, c3]) = some y1 := g1
    have g2 : DataW.trod enc Tryd.prog W base sp hd n 3 (List.take (Tryd.prog.cellsOf 3) [c3]) = some y2 := g2
    rw [cells4] at g0
    rw [cells25] at g1
    rw [cells3] at g2
    obtain ⟨bd, h0, _⟩ := DataW.trod_bool Tryd.underlying4 g0
    obtain ⟨e, h3, _, hwf⟩ := DataW.trod_int Tryd.underlying3 g2
    obtain ⟨zs, m, _, _, _, hlen2, hg2⟩ := DataW.trod_struct Tryd.underlying25 g1
    match zs, hlen2 with
    | [z0, z1], _ =>
      have k0 : DataW.trod enc Tryd.prog W base sp hd m 4 (List.take (Tryd.prog.cellsOf 4) [c1, c2]) = some z0 := hg2 0 _ rfl
      have k1 : DataW.trod enc Tryd.prog W base sp hd m 23 (List.take (Tryd.prog.cellsOf 23) [c2]) = some z1 := hg2 1 _ rfl
      rw [cells4] at k0
      rw [cells23] at k1
      obtain ⟨s, h1, _⟩ := DataW.trod_bool Tryd.underlying4 k0
      have hb := bounds_i64 hwf
      have e0 : c0 = .bool bd := by injection h0
      have e1 : c1 = .bool s := by injection h1
      have e3 : c3 = .int .i64 e := by injection h3
      rcases open_ints Tryd.underlying23 Tryd.underlying22 cells22 k1 with ⟨h2, _⟩ | ⟨a, len, cap, ns, h2, _, hle, hmax, hl, _, hall, hns⟩
      · have e2 : c2 = .slice none 0 0 := by injection h2
        exact ⟨bd, s, none, 0, 0, 0, e, e0, e1, e2, e3, Mag.nil W, hb⟩
      · have e2 : c2 = .slice (some a) len cap := by injection h2
        rw [hsp, if_pos rfl] at hl
        obtain ⟨y, hy⟩ := mag_of_ints hle hmax (by omega) hall hns
        exact ⟨bd, s, some a, len, cap, y, e, e0, e1, e2, e3, hy, hb⟩

set_option maxRecDepth 100000 in
/-- A parameter that is a dyad: its parts, and its magnitude in memory. -/
theorem dyad_open {H : Type} {enc : TypeId × Value → H} {W : World} {base : Nat} {sp : Nat → Bool} {hd : Bool} {r : Reach} {b0 : Nat} {v : Value} {d : DataW H} {p : List MemPlace} (hsp : ∀ b, sp b = true)
    (hv : Value.okWide Tryd.prog W r b0 27 v) (h : DataW.Trod enc Tryd.prog W base sp hd 27 v d p) :
    ∃ (bd s : Bool) (a : Option Addr) (n cap x : Nat) (e : Int), v = .agg #[.bool bd, .bool s, .slice a n cap, .int .i64 e] ∧ Mag W a n cap x ∧ (-9223372036854775808 ≤ e ∧ e ≤ 9223372036854775807) := by
  obtain ⟨cs, rfl, hsz⟩ := okWide_struct Tryd.underlying27 hv
  obtain ⟨l⟩ := cs
  match l, hsz.trans cells27 with
  | [c0, c1, c2, c3], _ =>
    obtain ⟨fuel, hf⟩ := h
    obtain ⟨bd, s, a, n, cap, y, e, rfl, rfl, rfl, rfl, hm, hb⟩ := dyad_cells hsp hf
    exact ⟨bd, s, a, n, cap, y, e, rfl, hm, hb⟩

theorem laidOutA : laidOutB Tryd.prog = true := by kernel_rfl
theorem readDyad : Tryd.prog.readableRec 27 = true := by kernel_rfl
theorem rowDyad : 27 < Tryd.prog.types.size := of_decide_eq_true (by kernel_rfl)
theorem readInt : Tryd.prog.readableRec 3 = true := by kernel_rfl
theorem rowInt : 3 < Tryd.prog.types.size := of_decide_eq_true (by kernel_rfl)

/-- A reading of what was there: with a spare set in which all its places are. -/
theorem trod_kept {H : Type} {enc : TypeId × Value → H} {W W' : World} {t : TypeId} {v : Value} {d : DataW H} {ps : List MemPlace} (hr : Tryd.prog.readableRec t = true) (hrow : t < Tryd.prog.types.size)
    (h : DataW.Trod enc Tryd.prog W 0 (fun _ => true) true t v d ps) (hb : Below W.heap.size W W') (hlt : ∀ x ∈ ps, x.block < W.heap.size) (sp : Nat → Bool) (hs : ∀ x ∈ ps, sp x.block = true) :
    DataW.Trod enc Tryd.prog W' 0 sp true t v d ps :=
  Go.WideElems.Trod_stays laidOutA hr hrow h (fun x hx => hb.same (hlt x hx)) (fun x hx => hs x hx)

end Go.Proofs.YtjhngehajahbnaaDoor

namespace Go.Proofs.YtjhngehajahbnaaDoor
open Go.ChangeShapes Go.WideShapes Go.ChangeAt Go.RowKit Sp

instance : Inhabited El := ⟨⟨false, false, none, 0, 0, 0, 0⟩⟩

theorem readDyads : Tryd.prog.readableRec 37 = true := by kernel_rfl
theorem rowDyads : 37 < Tryd.prog.types.size := of_decide_eq_true (by kernel_rfl)

set_option maxRecDepth 100000 in
theorem dyads_open {H : Type} {enc : TypeId × Value → H} {W : World} {base : Nat} {sp : Nat → Bool} {hd : Bool} {r : Reach} {b0 : Nat} {v : Value} {d : DataW H} {p : List MemPlace} (hsp : ∀ b, sp b = true)
    (hv : Value.okWide Tryd.prog W r b0 37 v) (h : DataW.Trod enc Tryd.prog W base sp hd 37 v d p) :
    ∃ (a : Option Addr) (n cap : Nat) (L : Nat → El), v = .slice a n cap ∧ Dys W a n cap L := by
  obtain ⟨a0, n0, c0, rfl⟩ := okWide_slice Tryd.underlying37 hv
  obtain ⟨fuel, hf⟩ := h
  rcases Go.Deep.open_slice Tryd.underlying37 hf with ⟨hcs, _⟩ | ⟨a, len, cap, m, n, D, Pl, hcs, hb, hl, hm, hmm, hx, hi⟩
  · simp [Value.cells] at hcs
    obtain ⟨rfl, rfl, rfl⟩ := hcs
    exact ⟨none, 0, 0, fun _ => default, rfl, ⟨by omega, by omega, by omega, fun i hi => by omega, fun i hi => by omega, fun i hi => by omega, fun i hi => by omega, fun i hi => by omega, fun i hi => by omega, by omega⟩⟩
  · simp [Value.cells] at hcs
    obtain ⟨rfl, rfl, rfl⟩ := hcs
    rw [hsp, if_pos rfl] at hmm
    have each : ∀ i, i < n0 → ∃ E : El, W.cell? (a.add (i * 4)) = some (.bool E.bd) ∧ W.cell? ((a.add (i * 4)).add 1) = some (.bool E.s) ∧ W.cell? ((a.add (i * 4)).add 2) = some (.slice E.a E.n E.p) ∧ W.cell? ((a.add (i * 4)).add 3) = some (.int .i64 E.e) ∧ Mag W E.a E.n E.p E.x ∧ (-9223372036854775808 ≤ E.e ∧ E.e ≤ 9223372036854775807) := by
      intro i hin
      obtain ⟨cs, h1, h2⟩ := hi i (by omega)
      rw [cells27] at h1
      obtain ⟨_, hcl, hat⟩ := World.cells?_some h1
      match cs, hcl with
      | [q0, q1, q2, q3], _ =>
        obtain ⟨bd, s, b, k, cp, y, e, rfl, rfl, rfl, rfl, hmg, hbd⟩ := dyad_cells hsp h2
        have t0 := hat 0 (by omega)
        have t1 := hat 1 (by omega)
        have t2 := hat 2 (by omega)
        have t3 := hat 3 (by omega)
        rw [Addr.add_zero'] at t0
        exact ⟨⟨bd, s, b, k, cp, e, y⟩, t0, t1, t2, t3, hmg, hbd⟩
    obtain ⟨L, hL⟩ := Go.Deep.choose_lt each
    have hspot : 0 < n0 → a.spot = none := fun h0 => by
      obtain ⟨_, _, _, _, hs⟩ := World.shape?_of_cell? (hL 0 h0).1
      exact hs
    obtain ⟨b, o, q⟩ := a
    have conv : ∀ i j, 0 < n0 → W.cell? ((({ block := b, off := o, spot := q } : Addr).add (i * 4)).add j) = W.cell? ⟨b, o + i * 4 + j, none⟩ := fun i j h0 => by
      have hq : q = none := hspot h0
      subst hq
      rw [Addr.add_lit, Addr.add_lit]
    have conv0 : ∀ i, 0 < n0 → W.cell? (({ block := b, off := o, spot := q } : Addr).add (i * 4)) = W.cell? ⟨b, o + i * 4, none⟩ := fun i h0 => by
      have hq : q = none := hspot h0
      subst hq
      rw [Addr.add_lit]
    refine ⟨_, _, _, L, rfl, ⟨by omega, by unfold maxLen at hm; omega, fun h0 => ?_, fun i hi => ?_, fun i hi => ?_, fun i hi => ?_, fun i hi => ?_, fun i hi => (hL i hi).2.2.2.2.1, fun i hi => (hL i hi).2.2.2.2.2, fun h0 => ?_⟩⟩
    · have hq : q = none := hspot h0
      subst hq; rfl
    · rw [← (hL i hi).1, conv0 i (by omega)]; rfl
    · rw [← (hL i hi).2.1, conv i 1 (by omega)]; rfl
    · rw [← (hL i hi).2.2.1, conv i 2 (by omega)]; rfl
    · rw [← (hL i hi).2.2.2.1, conv i 3 (by omega)]; rfl
    · exact lt_of_cell2 (hL 0 h0).1

end Go.Proofs.YtjhngehajahbnaaDoor

namespace Go.Proofs.YtjhngehajahbnaaDoor
open Go.ChangeShapes Go.WideShapes Go.ChangeAt Go.RowKit Sp

theorem own : ownKnob Tryd.prog.godebug = none := by kernel_rfl
theorem gTab : Tryd.prog.globalNamed "math/bits.deBruijn32tab" = some 0 := by kernel_rfl
theorem gTabType : (Tryd.prog.globals[0]?).map (·.type) = some 102 := by kernel_rfl
theorem undTab : Tryd.prog.underlying 102 = some (.array 32 5) := by kernel_rfl
theorem cellsTab : Tryd.prog.cellsOf 102 = 32 := by kernel_rfl
theorem cellsU8 : Tryd.prog.cellsOf 5 = 1 := by kernel_rfl

/-- What the row's list gives: the table lies in its variable. -/
theorem tab_of_laid {W : World} (h : laidMetH Tryd.prog Rows.dyadSumsRow.laid W) : Tab W := by
  have ht : Lib.TabIs Tryd.prog W "math/bits.deBruijn32tab" .u8 (tab32.map fun k : Nat => Int.ofNat k) := Lib.tabIs_of_head (rest := []) gTab gTabType undTab Tryd.underlying5 cellsU8 cellsTab h
  refine ⟨fun i hi => ?_, lt_of_cell2 (ht.cell gTab 0 (by decide))⟩
  rw [ht.cell gTab i (by simpa [tab32] using hi)]
  have : ∀ k : Fin 32, (tab32.map fun k : Nat => Int.ofNat k).getD k.val 0 = ((tab32.getD k.val 0 : Nat) : Int) := by decide
  rw [this ⟨i, hi⟩]

/-- The law's post, off a contract that turns nothing that was there. -/
theorem post_of_below {H : Type} {enc : TypeId × Value → H} {P : Program} {f : Func} {s : ChangeSpec} {apart fresh handsOn : Bool} {W W' : World} {args : Array Value} {v : Value} {ds gs : List (DataW H)} {before pa pv : List MemPlace}
    (hW : DataW.Whole enc P f.params.toList s.vars apart W args.toList ds gs before)
    (hres : ∀ (b : Nat) (sp : Nat → Bool) (hd : Bool), DataW.TrodAll enc P W' b sp hd f.resultTypes.toList (v.resultList f.resultTypes.size) (s.fn H (ds ++ gs)).results [])
    (hargs : ∀ sp : Nat → Bool, (∀ p ∈ before, sp p.block = true) → DataW.TrodAll enc P W' 0 sp true f.params.toList args.toList (s.fn H (ds ++ gs)).args pa)
    (hvars : ∀ sp : Nat → Bool, (∀ p ∈ before, sp p.block = true) → DataW.TrodVars enc P W' sp s.vars (s.fn H (ds ++ gs)).vars pv) (hb : Below W.heap.size W W') :
    s.post enc P f apart fresh handsOn false W args v W' := by
  have hold : ∀ p ∈ before, (fun b => decide (b < W.heap.size)) p.block = true := fun p hp => by simpa using hW.lt p hp
  exact ⟨ds, gs, before, [], pa, pv, hW, hres _ _ _, hargs _ hold, hvars _ hold, hb.frame _, fun h => by cases h⟩

set_option maxRecDepth 100000 in
theorem contract (H : Type) (enc : TypeId × Value → H) (W : World) (base : Nat) (args : Array Value) (ds gs : List (DataW H)) (before : List MemPlace)
    (hval : ∀ (j : Nat) t v, Tryd.f4.params[j]? = some t → args[j]? = some v → Value.okWide Tryd.prog W .any base t v)
    (hW : DataW.Whole enc Tryd.prog Tryd.f4.params.toList Rows.dyadSumsSpec.vars false W args.toList ds gs before) (hL : laidMetH Tryd.prog Rows.dyadSumsRow.laid W) :
    Calls Tryd.prog 4 args W fun e W' => ∃ v, e = .returned v ∧ Rows.dyadSumsSpec.post enc Tryd.prog Tryd.f4 false true false false W args v W' := by
  have hW' := hW
  obtain ⟨p, q, hA0, hV, rfl, hfz, hnd⟩ := hW
  have hA : DataW.TrodAll enc Tryd.prog W 0 (fun _ => true) true Tryd.f4.params.toList args.toList ds p := hA0
  rw [Tryd.params4] at hA hval
  obtain ⟨v0, vs0, d0, ds0, p0, q0, hargs0, rfl, rfl, h0, r0⟩ := trodAll_cons hA
  obtain ⟨v1, vs1, d1, ds1, p1, q1, hargs1, rfl, rfl, h1, r1⟩ := trodAll_cons r0
  obtain ⟨rfl, rfl, rfl⟩ := trodAll_nil r1
  subst hargs1
  obtain rfl : args = #[v0, v1] := by cases args; simp_all
  obtain ⟨rfl, rfl⟩ := trodVars_none hV
  clear hA0
  have hlt := hW'.lt
  have k0 := h0
  obtain ⟨a0, n0, c0, L0, rfl, M0⟩ := dyads_open (fun _ => rfl) (hval 0 37 v0 rfl rfl) h0
  obtain ⟨e1, rfl, rfl, rfl, wf1⟩ := open_int Tryd.underlying3 (hval 1 3 v1 rfl rfl) h1
  have u1 := bounds_i64 wf1
  refine (sums_any W (tab_of_laid hL) a0 n0 c0 e1 L0 M0).mono fun e W' ⟨he, hb⟩ => ?_
  subst he
  exact ⟨_, rfl, post_of_below (pa := _) (pv := []) hW' (fun _ _ _ => trodAll_cons_mk (shut_bool Tryd.underlying4 _) trodAll_mk0)
    (fun sp hsp => trodAll_cons_mk (trod_kept readDyads rowDyads k0 hb (fun x hx => hlt x (by simp [hx])) sp (fun x hx => hsp x (by simp [hx]))) (trodAll_cons_mk (shut_int Tryd.underlying3 wf1) trodAll_mk0)) (fun _ _ => rfl) hb⟩

/-- A world for the witness: the settled one, the table as its initialiser lays it. -/
noncomputable def laidWorld (os : Os) : World :=
  { World.holding Tryd.prog os ⟨#[], #[], []⟩ with heap := (World.holding Tryd.prog os ⟨#[], #[], []⟩).heap.modify 0 fun
      | .cells _ t frozen => .cells (tab32.map fun k : Nat => Value.int .u8 (Int.ofNat k)).toArray t frozen
      | o => o }
theorem laid_met (os : Os) : laidMet Tryd.prog Rows.dyadSumsRow.laid ((laidWorld os).forCall (fun _ _ => 0) ⟨#[], #[Value.slice none 0 0, Value.int .i64 0], []⟩).memory :=
  laidMet_of_run' 8 (by kernel_rfl) (by kernel_rfl)
theorem reads (os : Os) {H : Type} (enc : TypeId × Value → H) : ∃ places, DataW.whole enc Tryd.prog ((laidWorld os).forCall (fun _ _ => 0) ⟨#[], #[Value.slice none 0 0, Value.int .i64 0], []⟩).memory Tryd.f4.params.toList Rows.dyadSumsSpec.vars false #[Value.slice none 0 0, Value.int .i64 0].toList 8 = some ([.nil, .lit (.int .i64 0)], [], places) :=
  ⟨[], by kernel_rfl⟩

set_option maxRecDepth 100000 in
theorem lifted (os : Os) (started : os.Started) (H : Type) (enc : TypeId × Value → H) (F : Stop.Interp) :
    ReturnsInHanded {} Tryd.checked os 4 .any ((OpenSpec.ofChange Rows.dyadSumsSpec).preRow enc Tryd.prog Tryd.f4 Rows.dyadSumsRow.domain false Rows.dyadSumsRow.laid) (((OpenSpec.ofChange Rows.dyadSumsSpec).at F).post enc Tryd.prog Tryd.f4 false true false false) := by
  obtain ⟨places, hx⟩ := reads os enc
  refine returnsInHanded_of_row (C := Tryd.checked) (s := OpenSpec.ofChange Rows.dyadSumsSpec) own started (by kernel_rfl) Tryd.func4
    (witness_row_at (enc := enc) (C := Tryd.checked) false (laidWorld os) #[Value.slice none 0 0, Value.int .i64 0] rfl (by kernel_rfl) (by kernel_rfl) (by kernel_rfl)
      (OpenSpec.preRow_of_cond 8 hx (by kernel_rfl) (fun k hk => by cases hk) (by kernel_rfl) (laid_met os))) ?_
  intro W base args ds gs before hval hW _ _ _ hL _ _
  exact contract H enc W base args ds gs before hval hW hL

theorem said : Rows.DyadSumsSaid :=
  OpenClaim.holds_of_cond 4 Tryd.f4 rfl rfl rfl rfl rfl rfl rfl ⟨rfl, rfl, rfl, rfl, rfl⟩ rfl rfl rfl rfl rfl (by kernel_rfl) Tryd.func4 (by kernel_rfl)
    (of_decide_eq_true (by kernel_rfl)) (by unfold Func.isWrapper; first | (rw [if_pos (by decide +kernel)]; kernel_rfl) | (rw [if_neg (by decide +kernel)]; exact ⟨rfl, rfl⟩))
    (fun os started H enc _ F => by rw [OpenClaim.pre_eq_preRow]; exact lifted os started H enc F)

/-- No parameter wants a stand-in; the program's own looks are off: what the card asks. -/
theorem plain (f : FuncId) (fn : Func) (hf : Tryd.pinned.checked.prog.funcNamed "sparse/sparselaw02.DyadSums" = some f) (hfn : Tryd.pinned.checked.prog.funcs[f]? = some fn) :
    false = Tryd.pinned.checked.prog.looks [] ∧ ∀ (j : Nat) t, fn.params[j]? = some t → Tryd.pinned.checked.prog.wantsStandIn t = false := by
  obtain rfl : f = 4 := Option.some.inj ((show Tryd.prog.funcNamed "sparse/sparselaw02.DyadSums" = some 4 by kernel_rfl).symm.trans hf) |>.symm
  obtain rfl : fn = Tryd.f4 := (Option.some.inj (Tryd.func4.symm.trans hfn)).symm
  refine ⟨by kernel_rfl, fun j t ht => ?_⟩
  rw [Tryd.params4] at ht
  have hm : t = 37 ∨ t = 3 := by have h1 := Array.mem_of_getElem? ht; simp at h1; omega
  rcases hm with rfl | rfl
  · exact (show Tryd.prog.wantsStandIn 37 = false by kernel_rfl)
  · exact (show Tryd.prog.wantsStandIn 3 = false by kernel_rfl)

theorem card : Rows.DyadSumsCardSaid :=
  Claim7.holds_tied_plain_at .later [] _ _ _ _ said (fun _ h => by cases h) (by kernel_rfl) (fun _ h => by cases h) dyadSums_row_tie rfl ⟨rfl, rfl⟩ (by kernel_rfl) rfl plain (by kernel_rfl)

end Go.Proofs.YtjhngehajahbnaaDoor


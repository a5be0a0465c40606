/-
  Parameters that are dyads, laid open: what the walks take of them; and they read as they did where nothing that was there has turned. The frame of a card.
-/
import Derived.Test.YtakbappmkdaioaaGreatDoorCards
import Derived.Test.YtakbappmkdaioaaGreatDoorTie
import Derived.WalkKit
import Derived.ProofKit
import Derived.OpenShut
import Derived.Carry
import Derived.Laws.LoneSync
import Derived.Deep.DeepHandedRow
import Derived.Lib.LaidTab
import Derived.Test.YtakbappmkdaioaaGreatDoorZlBd
namespace Go.Proofs.YtakbappmkdaioaaGreatDoor
open Go.ChangeShapes Go.WideShapes Go.ChangeAt Go.RowKit Sp

theorem from_digs (f : Nat → Nat) : ∀ n, (∀ i, i < n → f i < B) → ∃ x, x < B ^ n ∧ ∀ i, i < n → dig x i = f i
  | 0, _ => ⟨0, Bpow_pos 0, fun i hi => absurd hi (Nat.not_lt_zero i)⟩
  | n + 1, h => by
    obtain ⟨x, hx, hd⟩ := from_digs f n (fun i hi => h i (by omega))
    have hf := h n (by omega)
    refine ⟨x + f n * B ^ n, ?_, fun i hi => ?_⟩
    · rw [Bpow_succ]
      have h1 : (f n + 1) * B ^ n ≤ B * B ^ n := Nat.mul_le_mul_right _ hf
      rw [Nat.add_mul, Nat.one_mul, Nat.mul_comm B] at h1
      omega
    · by_cases hin : i < n
      · rw [dig_lo hin]; exact hd i hin
      · obtain rfl : i = n := by omega
        have := dig_of_split (l := x) (d := f i) (h := 0) hx hf
        rwa [Nat.zero_mul, Nat.add_zero] at this

theorem lt_of_cell2 {w : World} {a : Addr} {v : Value} (h : w.cell? a = some v) : a.block < w.heap.size := by
  rcases Nat.lt_or_ge a.block w.heap.size with h1 | h1
  · exact h1
  · unfold World.cell? at h
    rw [show w.heap[a.block]? = none from Array.getElem?_eq_none h1] at h
    cases h

theorem mag_of_ints {W : World} {a : Addr} {len cap : Nat} {zs : List Int} (hle : len ≤ cap) (hmax : cap ≤ maxLen) (hlen : len ≤ zs.length) (hall : ∀ i, i < zs.length → W.cell? (a.add i) = some (.int .u32 (zs.getD i 0)))
    (hwf : ∀ n ∈ zs, (Lit.int .u32 n).wf = true) : ∃ x, Mag W (some a) len cap x := by
  have hr : ∀ i, 0 ≤ zs.getD i 0 ∧ zs.getD i 0 ≤ 4294967295 := fun i => by
    have := range_u32 hwf i
    rwa [List.getD_eq_getElem?_getD]
  obtain ⟨x, hx, hd⟩ := from_digs (fun i => (zs.getD i 0).toNat) len (fun i _ => by have := hr i; rw [B_eq]; show (zs.getD i 0).toNat < _; omega)
  have hsp : 0 < len → a.spot = none := fun h0 => by
    obtain ⟨_, _, _, _, hs⟩ := World.shape?_of_cell? (hall 0 (by omega))
    exact hs
  obtain ⟨b, o, sp⟩ := a
  refine ⟨x, hx, hle, by unfold maxLen at hmax; omega, fun h0 => ?_, fun i hi => ?_, fun h0 => ?_⟩
  · have : sp = none := hsp h0
    subst this; rfl
  · have : sp = none := hsp (by omega)
    subst this
    rw [hd i hi]
    have h1 := hall i (by omega)
    have h2 := hr i
    rw [show (((zs.getD i 0).toNat : Nat) : Int) = zs.getD i 0 by omega]
    rw [Addr.add_lit] at h1
    exact h1
  · exact lt_of_cell2 (hall 0 (by omega))

theorem cells27 : Tryz.prog.cellsOf 26 = 4 := by kernel_rfl
theorem cells25 : Tryz.prog.cellsOf 24 = 2 := by kernel_rfl
theorem cells23 : Tryz.prog.cellsOf 22 = 1 := by kernel_rfl
theorem cells22 : Tryz.prog.cellsOf 87 = 1 := by kernel_rfl
theorem cells4 : Tryz.prog.cellsOf 4 = 1 := by kernel_rfl
theorem cells3 : Tryz.prog.cellsOf 3 = 1 := by kernel_rfl

theorem dyad_cells {H : Type} {enc : TypeId × Value → H} {W : World} {base : Nat} {sp : Nat → Bool} {hd : Bool} {fuel : Nat} {c0 c1 c2 c3 : Value} {x : DataW H × List MemPlace} (hsp : ∀ b, sp b = true)
    (hf : DataW.trod enc Tryz.prog W base sp hd fuel 26 [c0, c1, c2, c3] = some x) :
    ∃ (bd s : Bool) (a : Option Addr) (n cap y : Nat) (e : Int), c0 = .bool bd ∧ c1 = .bool s ∧ c2 = .slice a n cap ∧ c3 = .int .i64 e ∧ Mag W a n cap y ∧ (-9223372036854775808 ≤ e ∧ e ≤ 9223372036854775807) := by
  obtain ⟨xs, n, _, hx, _, hlen, hg⟩ := DataW.trod_struct Tryz.underlying26 hf
  match xs, hlen with
  | [y0, y1, y2], _ =>
    have g0 := hg 0 _ rfl
    have g1 := hg 1 _ rfl
    have g2 := hg 2 _ rfl
    have g0 : DataW.trod enc Tryz.prog W base sp hd n 4 (List.take (Tryz.prog.cellsOf 4) [c0, c1, c2, c3]) = some y0 := g0
    have g1 : DataW.trod enc Tryz.prog W base sp hd n 24 (List.take (Tryz.prog.cellsOf 24) [c1, c2, c3]) = some y1 := g1
    have g2 : DataW.trod enc Tryz.prog W base sp hd n 3 (List.take (Tryz.prog.cellsOf 3) [c3]) = some y2 := g2
    rw [cells4] at g0
    rw [cells25] at g1
    rw [cells3] at g2
    obtain ⟨bd, h0, _⟩ := DataW.trod_bool Tryz.underlying4 g0
    obtain ⟨e, h3, _, hwf⟩ := DataW.trod_int Tryz.underlying3 g2
    obtain ⟨zs, m, _, _, _, hlen2, hg2⟩ := DataW.trod_struct Tryz.underlying24 g1
    match zs, hlen2 with
    | [z0, z1], _ =>
      have k0 : DataW.trod enc Tryz.prog W base sp hd m 4 (List.take (Tryz.prog.cellsOf 4) [c1, c2]) = some z0 := hg2 0 _ rfl
      have k1 : DataW.trod enc Tryz.prog W base sp hd m 22 (List.take (Tryz.prog.cellsOf 22) [c2]) = some z1 := hg2 1 _ rfl
      rw [cells4] at k0
      rw [cells23] at k1
      obtain ⟨s, h1, _⟩ := DataW.trod_bool Tryz.underlying4 k0
      have hb := bounds_i64 hwf
      have e0 : c0 = .bool bd := by injection h0
      have e1 : c1 = .bool s := by injection h1
      have e3 : c3 = .int .i64 e := by injection h3
      rcases open_ints Tryz.underlying22 Tryz.underlying87 cells22 k1 with ⟨h2, _⟩ | ⟨a, len, cap, ns, h2, _, hle, hmax, hl, _, hall, hns⟩
      · have e2 : c2 = .slice none 0 0 := by injection h2
        exact ⟨bd, s, none, 0, 0, 0, e, e0, e1, e2, e3, Mag.nil W, hb⟩
      · have e2 : c2 = .slice (some a) len cap := by injection h2
        rw [hsp, if_pos rfl] at hl
        obtain ⟨y, hy⟩ := mag_of_ints hle hmax (by omega) hall hns
        exact ⟨bd, s, some a, len, cap, y, e, e0, e1, e2, e3, hy, hb⟩

set_option maxRecDepth 100000 in
/-- A parameter that is a dyad: its parts, and its magnitude in memory. -/
theorem dyad_open {H : Type} {enc : TypeId × Value → H} {W : World} {base : Nat} {sp : Nat → Bool} {hd : Bool} {r : Reach} {b0 : Nat} {v : Value} {d : DataW H} {p : List MemPlace} (hsp : ∀ b, sp b = true)
    (hv : Value.okWide Tryz.prog W r b0 26 v) (h : DataW.Trod enc Tryz.prog W base sp hd 26 v d p) :
    ∃ (bd s : Bool) (a : Option Addr) (n cap x : Nat) (e : Int), v = .agg #[.bool bd, .bool s, .slice a n cap, .int .i64 e] ∧ Mag W a n cap x ∧ (-9223372036854775808 ≤ e ∧ e ≤ 9223372036854775807) := by
  obtain ⟨cs, rfl, hsz⟩ := okWide_struct Tryz.underlying26 hv
  obtain ⟨l⟩ := cs
  match l, hsz.trans cells27 with
  | [c0, c1, c2, c3], _ =>
    obtain ⟨fuel, hf⟩ := h
    obtain ⟨bd, s, a, n, cap, y, e, rfl, rfl, rfl, rfl, hm, hb⟩ := dyad_cells hsp hf
    exact ⟨bd, s, a, n, cap, y, e, rfl, hm, hb⟩

theorem laidOutA : laidOutB Tryz.prog = true := by kernel_rfl
theorem readDyad : Tryz.prog.readableRec 26 = true := by kernel_rfl
theorem rowDyad : 26 < Tryz.prog.types.size := of_decide_eq_true (by kernel_rfl)
/-- A reading of what was there: with a spare set in which all its places are. -/
theorem trod_kept {H : Type} {enc : TypeId × Value → H} {W W' : World} {t : TypeId} {v : Value} {d : DataW H} {ps : List MemPlace} (hr : Tryz.prog.readableRec t = true) (hrow : t < Tryz.prog.types.size)
    (h : DataW.Trod enc Tryz.prog W 0 (fun _ => true) true t v d ps) (hb : Below W.heap.size W W') (hlt : ∀ x ∈ ps, x.block < W.heap.size) (sp : Nat → Bool) (hs : ∀ x ∈ ps, sp x.block = true) :
    DataW.Trod enc Tryz.prog W' 0 sp true t v d ps :=
  Go.WideElems.Trod_stays laidOutA hr hrow h (fun x hx => hb.same (hlt x hx)) (fun x hx => hs x hx)

end Go.Proofs.YtakbappmkdaioaaGreatDoor


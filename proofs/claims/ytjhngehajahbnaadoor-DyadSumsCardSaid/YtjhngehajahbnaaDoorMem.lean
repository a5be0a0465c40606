/-
  How numbers lie in memory: a slice of limbs that reads as a number (Mag); a row of limbs of the call's own (Row, Acc). No program in sight.
-/
import Derived.WalkKit
import Derived.Lib.Hide
import Derived.Deep.QuietTactic
import Derived.Laws.CopyOwn
import Derived.Test.YtjhngehajahbnaaDoorNat
import Derived.Test.YtjhngehajahbnaaDoorBits
namespace Sp
open Go Go.RowKit

def ab (a : Option Addr) : Nat := (a.getD default).block
def ao (a : Option Addr) : Nat := (a.getD default).off

theorem ab_some (b o : Nat) : ab (some ⟨b, o, none⟩) = b := rfl
theorem ao_some (b o : Nat) : ao (some ⟨b, o, none⟩) = o := rfl

/-- In world w the slice (a, n, cap) of limbs reads as the number x. -/
structure Mag (w : World) (a : Option Addr) (n cap x : Nat) : Prop where
  lt : x < B ^ n
  fits : n ≤ cap
  lim : cap ≤ 9223372036854775807
  addr : 0 < n → a = some ⟨ab a, ao a, none⟩
  cell : ∀ i, i < n → w.cell? ⟨ab a, ao a + i, none⟩ = some (.int .u32 (dig x i))
  old : 0 < n → ab a < w.heap.size

theorem Mag.nil (w : World) : Mag w none 0 0 0 := ⟨by simp, Nat.le_refl _, by omega, by omega, by omega, by omega⟩
theorem Mag.empty (w : World) (a : Option Addr) (cap : Nat) (h : cap ≤ 9223372036854775807) : Mag w a 0 cap 0 := ⟨by simp, Nat.zero_le _, h, by omega, by omega, by omega⟩

theorem Mag.zero {w : World} {a : Option Addr} {cap x : Nat} (h : Mag w a 0 cap x) : x = 0 := by
  have := h.lt; simp at this; exact this

theorem Mag.below {w w' : World} {a : Option Addr} {n cap x : Nat} (h : Mag w a n cap x) (hb : Below w.heap.size w w') : Mag w' a n cap x :=
  ⟨h.lt, h.fits, h.lim, h.addr, fun i hi => by rw [hb.cell (p := ⟨ab a, ao a + i, none⟩) (h.old (by omega))]; exact h.cell i hi, fun hn => Nat.lt_of_lt_of_le (h.old hn) hb.size⟩

/-- The same below a greater number, where the slice lies lower. -/
theorem Mag.below' {B' : Nat} {w w' : World} {a : Option Addr} {n cap x : Nat} (h : Mag w a n cap x) (hb : Below B' w w') (hl : 0 < n → ab a < B') : Mag w' a n cap x :=
  ⟨h.lt, h.fits, h.lim, h.addr, fun i hi => by rw [hb.cell (p := ⟨ab a, ao a + i, none⟩) (hl (by omega))]; exact h.cell i hi, fun hn => Nat.lt_of_lt_of_le (h.old hn) hb.size⟩

/-- An index in range, at a slice whose address is not laid open: the walk takes it as a rule. -/
theorem Mag.idx {P : Program} {w : World} {a : Option Addr} {n cap x : Nat} (h : Mag w a n cap x) (t : TypeId) (hu : P.underlying t = some (.slice (P.elem t)))
    (hs : ∀ w, (Go.sizeOf (P.elem t)).run P w = .ok 1 w) (i : Nat) (hi : i < n) (w' : World) :
    (Instr.indexAt t (.slice a n cap) (.int .i64 i)).run P w' = .ok (.pointer (some ⟨ab a, ao a + i, none⟩)) w' := by
  have ha := h.addr (by omega)
  generalize ab a = b at *
  generalize ao a = o at *
  subst ha
  rw [run_indexAt_slice _ _ _ _ _ _ _ hu, if_pos ⟨by omega, by omega⟩, hs]
  simp only [Result.andThen, Int.toNat_natCast, Nat.mul_one, Addr.add_lit]

/-- The same, the index written otherwise. -/
theorem Mag.idx' {P : Program} {w : World} {a : Option Addr} {n cap x : Nat} (h : Mag w a n cap x) (t : TypeId) (hu : P.underlying t = some (.slice (P.elem t)))
    (hs : ∀ w, (Go.sizeOf (P.elem t)).run P w = .ok 1 w) (i : Nat) (hi : i < n) (j : Int) (hj : j = i) (w' : World) :
    (Instr.indexAt t (.slice a n cap) (.int .i64 j)).run P w' = .ok (.pointer (some ⟨ab a, ao a + i, none⟩)) w' := by
  subst hj; exact h.idx t hu hs i hi w'

/-- The first i limbs. -/
theorem Mag.take {w : World} {a : Option Addr} {n cap x : Nat} (h : Mag w a n cap x) (i : Nat) (hi : i ≤ n) : Mag w a i cap (x % B ^ i) :=
  ⟨mod_lt' x i, Nat.le_trans hi h.fits, h.lim, fun h0 => h.addr (by omega), fun j hj => by rw [dig_mod hj]; exact h.cell j (by omega), fun h0 => h.old (by omega)⟩

theorem Mag.trim {w : World} {a : Option Addr} {n cap x : Nat} (h : Mag w a n cap x) : Mag w a (nl x) cap x := by
  have hn := nl_le h.lt
  exact ⟨lt_nl x, Nat.le_trans hn h.fits, h.lim, fun h0 => h.addr (by omega), fun i hi => h.cell i (by omega), fun h0 => h.old (by omega)⟩

theorem Mag.bl {w : World} {a : Option Addr} {n cap x : Nat} (h : Mag w a n cap x) {g : Nat} (hg : w.heap.size ≤ g) : 0 < n → ab a < g := fun h0 => Nat.lt_of_lt_of_le (h.old h0) hg

/-- A call's result: a slice that reads as z, as many limbs as z has, and nothing that was there has turned. -/
def RetNat (w : World) (z : Nat) (e : Ending) (w' : World) : Prop :=
  ∃ a cap, e = .returned (.slice a (nl z) cap) ∧ Mag w' a (nl z) cap z ∧ Below w.heap.size w w' ∧ (0 < nl z → w.heap.size ≤ ab a)

theorem nl0 {g : Nat} {a : Option Addr} : 0 < nl 0 → g ≤ ab a := fun h => absurd h (by decide)

/-! ### A row of the call's own: block g, n limbs -/
structure Row (w : World) (g n : Nat) (e : TypeId) (z : Nat) : Prop where
  lt : z < B ^ n
  lim : n ≤ 9223372036854775807
  row : ∃ cur : Array Value, w.heap[g]? = some (.cells cur e (0, 0)) ∧ cur.size = n ∧ ∀ i, i < n → cur[i]? = some (.int .u32 (dig z i))

theorem Row.old {w : World} {g n : Nat} {e : TypeId} {z : Nat} (h : Row w g n e z) : g < w.heap.size := by
  obtain ⟨cur, hc, _⟩ := h.row
  exact (Array.getElem?_eq_some_iff.1 hc).1

theorem Row.cell {w : World} {g n : Nat} {e : TypeId} {z : Nat} (h : Row w g n e z) (i : Nat) (hi : i < n) : w.cell? ⟨g, i, none⟩ = some (.int .u32 (dig z i)) := by
  obtain ⟨cur, hc, hs, hd⟩ := h.row
  rw [cell_of_row w g i cur e (0, 0) hc]; exact hd i hi

theorem Row.free {w : World} {g n : Nat} {e : TypeId} {z : Nat} (h : Row w g n e z) (i : Nat) : w.frozen? ⟨g, i, none⟩ = false := by
  obtain ⟨cur, hc, hs, hd⟩ := h.row
  exact frozen_of_row w g i cur e hc

theorem Row.store {w : World} {g n : Nat} {e : TypeId} {z : Nat} (h : Row w g n e z) (i d : Nat) (hi : i < n) (hd : d < 4294967296) :
    Row (w.setCell ⟨g, i, none⟩ (.int .u32 d)) g n e (setd z i d) := by
  obtain ⟨cur, hc, hs, hdig⟩ := h.row
  refine ⟨setd_lt hd hi h.lt, h.lim, cur.setIfInBounds i (.int .u32 d), heap_setCell_same w g i cur e _ hc, by simpa using hs, fun k hk => ?_⟩
  by_cases hki : k = i
  · subst hki; rw [dig_setd_same _ _ _ hd]; simp [hs, hk]
  · rw [dig_setd_other hd hki, Array.getElem?_setIfInBounds_ne (Ne.symm hki)]; exact hdig k hk

theorem Row.below {B' : Nat} {w w' : World} {g n : Nat} {e : TypeId} {z : Nat} (h : Row w g n e z) (hb : Below B' w w') (hg : g < B') : Row w' g n e z := by
  obtain ⟨cur, hc, hs, hd⟩ := h.row
  exact ⟨h.lt, h.lim, cur, by rw [hb.block g hg]; exact hc, hs, hd⟩

theorem Row.mag {w : World} {g n : Nat} {e : TypeId} {z : Nat} (h : Row w g n e z) : Mag w (some ⟨g, 0, none⟩) n n z :=
  ⟨h.lt, Nat.le_refl _, h.lim, fun _ => rfl, fun i hi => by rw [ab_some, ao_some, Nat.zero_add]; exact h.cell i hi, fun _ => h.old⟩

theorem Row.made (w : World) (n : Nat) (e : TypeId) (hn : n ≤ 9223372036854775807) : Row (w.alloc (.cells (madeCells #[.int .u32 0] n) e)) w.heap.size n e 0 := by
  refine ⟨Bpow_pos n, hn, _, heap_alloc_new w _, size_madeCells _ _, fun i hi => ?_⟩
  rw [dig_zero]
  have := toList_madeCells_one (.int .u32 0) n
  rw [← Array.getElem?_toList, this]
  simp [hi]

/-! ### A list that grows by append: its first k limbs are those of z -/
def digs (z k : Nat) : List Value := (List.range k).map fun i => .int .u32 (dig z i)

theorem digs_length (z k : Nat) : (digs z k).length = k := by simp [digs]
theorem digs_succ (z k : Nat) : digs z (k + 1) = digs z k ++ [.int .u32 (dig z k)] := by simp [digs, List.range_succ]
theorem digs_get {z k i : Nat} (h : i < k) : (digs z k)[i]? = some (.int .u32 (dig z i)) := by simp [digs, h]

/-- What the call has appended so far reads as a number. -/
theorem mag_of_owns {w : World} {base : Nat} {e : TypeId} {v : Value} {n z : Nat} (h : w.ownsRow base e 1 v n (digs z n)) (hz : z < B ^ n) :
    ∃ a cap, v = .slice a n cap ∧ Mag w a n cap z ∧ (0 < n → base ≤ ab a) := by
  rcases h.2 with ⟨rfl, rfl⟩ | ⟨g, cap, cur, rfl, hbg, hg, hnc, hcm, hcs, htake⟩
  · have : z = 0 := by simpa using hz
    subst this
    exact ⟨none, 0, rfl, Mag.nil w, by omega⟩
  · refine ⟨some ⟨g, 0, none⟩, cap, rfl, ⟨hz, hnc, by simp only [maxLen] at hcm; omega, fun _ => rfl, fun i hi => ?_, fun _ => (Array.getElem?_eq_some_iff.1 hg).1⟩, fun _ => hbg⟩
    rw [ab_some, ao_some, Nat.zero_add, cell_of_row w g i cur e (0, 0) hg]
    have h1 : (digs z n)[i]? = some (.int .u32 (dig z i)) := digs_get hi
    rw [← htake, List.getElem?_take, if_pos (by omega)] at h1
    simpa using h1

/-! ### Calls that only read (and may draw), inside a region that draws its order -/
section
variable {P : Program} {f : FuncId} {args : Array Value} {w : World} {v : Value}
/-- A contract that keeps the world, as one that may draw. -/
theorem may (h : Calls P f args w fun e w' => e = .returned v ∧ w = w') : Calls P f args w fun e w' => e = .returned v ∧ ∃ m, w' = w.drewN m :=
  h.mono fun _ _ ⟨he, hw⟩ => ⟨he, 0, hw.symm⟩
theorem qfirst {n : Nat} (h : Calls P f args (w.drewN n) fun e w' => e = .returned v ∧ ∃ m, w' = (w.drewN n).drewN m) :
    Calls P f args (w.drewN n) fun e w' => e = .returned v ∧ ∃ m, w' = w.drewN m :=
  h.mono fun _ _ ⟨he, m, hm⟩ => ⟨he, n + m, by rw [hm, World.drewN_drewN]⟩
theorem qnext {a n : Nat} (h : Calls P f args (w.drewN (a + n)) fun e w' => e = .returned v ∧ ∃ m, w' = (w.drewN (a + n)).drewN m) :
    Calls P f args (w.drewN (a + n)) fun e w' => e = .returned v ∧ ∃ m, w' = w.drewN (a + m) :=
  h.mono fun _ _ ⟨he, m, hm⟩ => ⟨he, n + m, by rw [hm, World.drewN_drewN, Nat.add_assoc]⟩
end

theorem Mag.drewN {w : World} {a : Option Addr} {n cap x : Nat} (h : Mag w a n cap x) (q : Nat) : Mag (w.drewN q) a n cap x :=
  ⟨h.lt, h.fits, h.lim, h.addr, h.cell, h.old⟩

theorem beq0_true {d : Nat} (h : ((d : Int) == 0) = true) : d = 0 := by simpa using h
theorem beq0_false {d : Nat} (h : ((d : Int) == 0) = false) : d ≠ 0 := by simpa using h

/-! ### bits of 64 -/
@[go_sem] theorem and_low (n : Int) : Go.bits .and .u64 n 4294967295 = n % 4294967296 := by
  have h1 : (BitVec.ofInt 64 4294967295).toNat = 4294967295 := by decide
  have h2 : (BitVec.ofInt 64 n).toNat = (n % 18446744073709551616).toNat := by simp [BitVec.toNat_ofInt]
  have h3 : (n % 18446744073709551616).toNat &&& 4294967295 = (n % 18446744073709551616).toNat % 4294967296 := Nat.and_two_pow_sub_one_eq_mod _ 32
  show IntKind.u64.wrap ((BitVec.ofInt 64 n &&& BitVec.ofInt 64 4294967295).toNat : Int) = _
  rw [BitVec.toNat_and, h1, h2, h3, IntKind.wrap_u64]
  omega

@[go_sem] theorem and_one (n : Int) : Go.bits .and .u64 n 1 = n % 2 := by
  have h1 : (BitVec.ofInt 64 1).toNat = 1 := by decide
  have h2 : (BitVec.ofInt 64 n).toNat = (n % 18446744073709551616).toNat := by simp [BitVec.toNat_ofInt]
  have h3 : (n % 18446744073709551616).toNat &&& 1 = (n % 18446744073709551616).toNat % 2 := Nat.and_two_pow_sub_one_eq_mod _ 1
  show IntKind.u64.wrap ((BitVec.ofInt 64 n &&& BitVec.ofInt 64 1).toNat : Int) = _
  rw [BitVec.toNat_and, h1, h2, h3, IntKind.wrap_u64]
  omega

/-- One limb of a difference, in words of 64 bits. -/
theorem sub_word (x y d k : Nat) (h : y + d = x) :
    IntKind.u64.wrap (IntKind.u64.wrap ((dig x k : Int) - (car y d k : Nat)) - (dig y k : Nat)) % 4294967296 = ((dig d k : Nat) : Int) ∧
    IntKind.u64.wrap (IntKind.u64.wrap ((dig x k : Int) - (car y d k : Nat)) - (dig y k : Nat)) / 4294967296 % 2 = ((car y d (k + 1) : Nat) : Int) := by
  subst h
  obtain ⟨h1, h2⟩ := sub_dig y d k
  have h3 := car_le y d k
  have h5 := dig_lt y k
  have h6 := dig_lt (y + d) k
  simp only [IntKind.wrap_u64]
  rw [h1, h2]
  constructor
  · omega
  · split <;> omega

theorem sub_word0 (x y d k : Nat) (h : y + d = x) (h0 : dig y k = 0) :
    IntKind.u64.wrap ((dig x k : Int) - (car y d k : Nat)) % 4294967296 = ((dig d k : Nat) : Int) ∧
    IntKind.u64.wrap ((dig x k : Int) - (car y d k : Nat)) / 4294967296 % 2 = ((car y d (k + 1) : Nat) : Int) := by
  subst h
  obtain ⟨h1, h2⟩ := sub_dig y d k
  have h3 := car_le y d k
  have h6 := dig_lt (y + d) k
  rw [h0] at h1 h2
  simp only [IntKind.wrap_u64]
  rw [h1, h2]
  constructor
  · omega
  · split <;> omega

theorem wrap_u64_nat {t : Nat} (h : t < 18446744073709551616) : IntKind.u64.wrap (t : Int) = t := by rw [IntKind.wrap_u64]; omega

theorem up_words {x k s Z : Nat} (hZ : Z = x % B ^ k * 2 ^ s) :
    Go.bits .or .u32 (dig Z (s / 32 + k) : Nat) (IntKind.u64.wrap ((dig x k : Nat) * 2 ^ (s % 32)) % 4294967296) = ((dig Z (s / 32 + k) + dig x k * 2 ^ (s % 32) % B : Nat) : Int) ∧
    IntKind.u64.wrap ((dig x k : Nat) * 2 ^ (s % 32)) / 4294967296 % 4294967296 = ((dig x k * 2 ^ (s % 32) / B : Nat) : Int) := by
  obtain ⟨h1, h2⟩ := up_carry hZ
  obtain ⟨h3, h4, h5⟩ := up_limb (x := x) (k := k) (s := s)
  have e : ((dig x k : Nat) : Int) * 2 ^ (s % 32) = ((dig x k * 2 ^ (s % 32) : Nat) : Int) := by simp
  rw [e, wrap_u64_nat h3]
  have hr : dig x k * 2 ^ (s % 32) % B < 4294967296 := Nat.mod_lt _ B_pos
  have e2 : ((dig x k * 2 ^ (s % 32) : Nat) : Int) % 4294967296 = ((dig x k * 2 ^ (s % 32) % B : Nat) : Int) := by rw [B_eq]; rfl
  constructor
  · rw [e2, u32_or_nat _ _ (dig_lt _ _) hr, or_add h1 h5]
  · have e3 : ((dig x k * 2 ^ (s % 32) : Nat) : Int) / 4294967296 = ((dig x k * 2 ^ (s % 32) / B : Nat) : Int) := by rw [B_eq]; rfl
    rw [e3]; omega

theorem pow_cast (p : Nat) : ((2 ^ p : Nat) : Int) = (2 : Int) ^ p := by simp

/-- The lower bits of a limb. -/
theorem low_bits {d p : Nat} (hd : d < 4294967296) (hp : p < 32) : Go.bits .and .u32 (d : Int) ((2 ^ p - 1) % 4294967296) = ((d % 2 ^ p : Nat) : Int) := by
  have h1 : 2 ^ p ≤ 2147483648 := Nat.pow_le_pow_right (n := 2) (by omega) (show p ≤ 31 by omega)
  have h2 : 0 < 2 ^ p := Nat.pow_pos (by decide)
  have e : ((2 : Int) ^ p - 1) % 4294967296 = ((2 ^ p - 1 : Nat) : Int) := by rw [← pow_cast]; omega
  rw [e, u32_and_nat _ _ hd (by omega), Nat.and_two_pow_sub_one_eq_mod]

theorem down_word (x s k : Nat) :
    Go.bits .or .u64 (dig x (s / 32 + k) : Nat) ((dig x (s / 32 + k + 1) : Nat) * 4294967296) / 2 ^ (s % 32) % 4294967296 = ((dig (x / 2 ^ s) k : Nat) : Int) := by
  have h1 := dig_lt x (s / 32 + k)
  have h2 := dig_lt x (s / 32 + k + 1)
  have e : ((dig x (s / 32 + k + 1) : Nat) : Int) * 4294967296 = ((4294967296 * dig x (s / 32 + k + 1) : Nat) : Int) := by simp; omega
  have e2 : dig x (s / 32 + k) ||| 4294967296 * dig x (s / 32 + k + 1) = dig x (s / 32 + k) + 4294967296 * dig x (s / 32 + k + 1) :=
    or_add (p := 32) h1 ⟨_, rfl⟩
  rw [e, u64_or_nat _ _ (by omega) (by omega), e2, dig_div, ← pow_cast, B_eq, Nat.mul_comm 4294967296]
  rfl

theorem down_word0 (x s k : Nat) (h : dig x (s / 32 + k + 1) = 0) : ((dig x (s / 32 + k) : Nat) : Int) / 2 ^ (s % 32) % 4294967296 = ((dig (x / 2 ^ s) k : Nat) : Int) := by
  rw [dig_div, h, ← pow_cast, B_eq, Nat.zero_mul, Nat.add_zero]
  rfl

theorem or_limb {r d : Nat} (hr : r < 4294967296) (hd : d < 4294967296) : Go.bits .or .u64 ((r : Int) * 4294967296) (d : Int) = (r : Int) * 4294967296 + d := by
  have e : ((r : Nat) : Int) * 4294967296 = ((4294967296 * r : Nat) : Int) := by simp; omega
  have e2 : d ||| 4294967296 * r = d + 4294967296 * r := or_add (p := 32) hd ⟨_, rfl⟩
  rw [e, u64_or_nat _ _ (by omega) (by omega), Nat.or_comm, e2]
  simp; omega

theorem short_words {r d t : Nat} (hq : (r * B + t) / d < B) : ((r : Int) * 4294967296 + t) % d = (((r * B + t) % d : Nat) : Int) ∧ ((r : Int) * 4294967296 + t) / d % 4294967296 = (((r * B + t) / d : Nat) : Int) := by
  have e : ((r : Nat) : Int) * 4294967296 + t = ((r * B + t : Nat) : Int) := by rw [B_eq]; simp
  rw [e]
  refine ⟨rfl, ?_⟩
  have : ((r * B + t : Nat) : Int) / (d : Int) = (((r * B + t) / d : Nat) : Int) := rfl
  rw [this]
  generalize (r * B + t) / d = q at *
  rw [B_eq] at hq
  omega

/-- A difference of two limbs and a borrow, in words of 64 bits. -/
theorem word_sub {t r s : Int} (ht0 : 0 ≤ t) (ht : t < 4294967296) (hr0 : 0 ≤ r) (hr : r < 4294967296) (hs0 : 0 ≤ s) (hs : s ≤ 1) :
    IntKind.u64.wrap (IntKind.u64.wrap (t - r) - s) % 4294967296 = (t - r - s) % 4294967296 ∧ IntKind.u64.wrap (IntKind.u64.wrap (t - r) - s) / 4294967296 % 2 = if t - r - s < 0 then 1 else 0 := by
  simp only [IntKind.wrap_u64]
  constructor
  · omega
  · split <;> omega

/-! ### Only block g has turned -/
theorem only_refl (w : World) (g : Nat) : w.grownBy w (some g) := ⟨rfl, rfl, rfl, Nat.le_refl _, fun _ _ _ => rfl⟩
theorem only_trans {a b c : World} {g : Nat} (h : a.grownBy b (some g)) (k : b.grownBy c (some g)) : a.grownBy c (some g) :=
  ⟨k.os.trans h.os, k.tape.trans h.tape, k.output.trans h.output, Nat.le_trans h.size k.size, fun i hi hn => (k.block i (Nat.lt_of_lt_of_le hi h.size) hn).trans (h.block i hi hn)⟩
theorem only_draws {a w : World} {g : Nat} (h : a.grownBy w (some g)) (n : Nat) : a.grownBy (w.drewN n) (some g) := ⟨h.os, h.tape, h.output, h.size, h.block⟩
theorem only_set {a w : World} {g : Nat} (h : a.grownBy w (some g)) (i : Nat) (u : Value) : a.grownBy (w.setCell ⟨g, i, none⟩ u) (some g) :=
  only_trans h ⟨rfl, rfl, rfl, by simp [World.setCell], fun k _ hk => Below.heap_setCell _ _ _ _ (fun e => hk (by rw [e]))⟩
theorem Mag.only {w w' : World} {a : Option Addr} {n cap x g : Nat} (h : Mag w a n cap x) (hg : w.grownBy w' (some g)) (hne : ab a ≠ g) : Mag w' a n cap x :=
  ⟨h.lt, h.fits, h.lim, h.addr, fun i hi => by
    rw [World.cell?_of_block (a := ⟨ab a, ao a + i, none⟩) (hg.block (ab a) (h.old (by omega)) (by simpa using hne))]; exact h.cell i hi,
    fun hn => Nat.lt_of_lt_of_le (h.old hn) hg.size⟩
/-- A store into another block. -/
theorem Mag.set {w : World} {a : Option Addr} {n cap x g : Nat} (h : Mag w a n cap x) (hne : 0 < n → ab a ≠ g) (i : Nat) (u : Value) : Mag (w.setCell ⟨g, i, none⟩ u) a n cap x :=
  ⟨h.lt, h.fits, h.lim, h.addr, fun j hj => by
    rw [World.cell?_of_block (a := ⟨ab a, ao a + j, none⟩) (Below.heap_setCell _ _ _ _ (hne (by omega)))]; exact h.cell j hj,
    fun hn => by simp only [World.size_setCell]; exact h.old hn⟩
theorem Row.drewN {w : World} {g n : Nat} {e : TypeId} {z : Nat} (h : Row w g n e z) (q : Nat) : Row (w.drewN q) g n e z := ⟨h.lt, h.lim, h.row⟩
theorem Below.of_only {B' : Nat} {a w w' : World} {g : Nat} (h : Below B' a w) (hg : w.grownBy w' (some g)) (hb : B' ≤ w.heap.size) (hB : B' ≤ g) : Below B' a w' :=
  h.trans ⟨hg.os, hg.tape, hg.output, hg.size, fun k hk => hg.block k (by omega) (fun e => by injection e; omega)⟩

theorem Row.only {w w' : World} {g h n : Nat} {e : TypeId} {z : Nat} (hr : Row w h n e z) (hg : w.grownBy w' (some g)) (hne : h ≠ g) : Row w' h n e z := by
  obtain ⟨cur, hc, hs, hd⟩ := hr.row
  exact ⟨hr.lt, hr.lim, cur, by rw [hg.block h hr.old (by simpa using hne)]; exact hc, hs, hd⟩

theorem digs_one (z k : Nat) : ∀ u ∈ digs z k, u.oneCell' = true := by
  intro u hu
  simp only [digs, List.mem_map] at hu
  obtain ⟨i, _, rfl⟩ := hu; rfl

theorem Mag.news {w : World} {a : Option Addr} {n cap x : Nat} (h : Mag w a n cap x) {ad : Addr} (ha : a = some ad) : ∀ j u, (digs x n)[j]? = some u → w.cell? (ad.add j) = some u := by
  intro j u hu
  have hj : j < n := by
    rcases Nat.lt_or_ge j n with h' | h'
    · exact h'
    · rw [List.getElem?_eq_none (by rw [digs_length]; exact h')] at hu; cases hu
  rw [digs_get hj] at hu
  have hc := h.cell j hj
  have h2 := h.addr (by omega)
  subst ha
  injection h2 with h2
  rw [h2, Addr.add_lit, hc]; exact hu

/-- copy(u, l): a row of zeros takes the limbs of a number. -/
theorem copy_limbs {P : Program} {ops : Array Oper} {rest : List Oper} {o : Oper} {a : Act} {Q : Exit → Act → World → Prop} {w : World} (hgd : o.guard = none) (d s : Operand) (t e : TypeId)
    (ho : o.op = .call { callee := .builtin .copy, args := #[d, s], argTypes := #[t, t] }) (hu : P.underlying t = some (.slice e)) (hP : (P.info? e).map (fun i => (i.zero, i.size, i.bytes)) = some (some (.int .u32 0), 1, 4))
    (g N : Nat) (hd : a.eval d = .slice (some ⟨g, 0, none⟩) N N) (ad : Option Addr) (n cap x : Nat) (hs : a.eval s = .slice ad n cap) (hx : Mag w ad n cap x) (hrow : Row w g N e 0) (hn : n ≤ N) (B' : Nat) (w0 : World)
    (hb : Below B' w0 w) (hB : B' ≤ g) (h : ∀ v w', Row w' g N e x → Below B' w0 w' → wpList P ops Q rest (a.put o.dst v) w') : wpList P ops Q (o :: rest) a w := by
  obtain ⟨i0, hi, hz0, hz1, hz2⟩ := info_parts hP
  obtain ⟨cur, hc, hsz, hdig⟩ := hrow.row
  have hmin : Nat.min n N = n := Nat.min_eq_left hn
  refine wpList_copy_splice hgd d s t t ho e hu (by rw [hi]; simp [hz1]) _ _ _ _ _ _ hd hs g 0 cur.toList e (by simpa using hc) (digs x n) (by rw [digs_length, hmin]) ?_ (by rw [digs_length]; simp; omega) (digs_one x n) B' w0 hb hB ?_
  · intro h0
    rw [digs_length] at h0
    refine ⟨rfl, ⟨ab ad, ao ad, none⟩, hx.addr h0, hx.news (hx.addr h0)⟩
  · intro w' hw' hb'
    refine h _ w' ⟨?_, hrow.lim, _, hw'.out, ?_, ?_⟩ hb'
    · exact Nat.lt_of_lt_of_le hx.lt (Bpow_mono hn)
    · simp [splice, digs_length, hsz]; omega
    · intro i hi'
      simp only [splice, List.take_zero, List.nil_append, Nat.zero_add, digs_length]
      rw [List.getElem?_toArray]
      rcases Nat.lt_or_ge i n with h' | h'
      · rw [List.getElem?_append_left (by rw [digs_length]; exact h'), digs_get h']
      · rw [List.getElem?_append_right (by rw [digs_length]; exact h'), digs_length, List.getElem?_drop, show n + (i - n) = i by omega, dig_of_lt hx.lt h']
        have := hdig i hi'
        rw [dig_zero] at this
        simpa using this

/-- A list of one limb, just made. -/
theorem Mag.one (w : World) (e : TypeId) (d : Nat) (hd : d < 4294967296) : Mag (w.alloc (.cells #[.int .u32 d] e)) (some ⟨w.heap.size, 0, none⟩) 1 1 d := by
  refine ⟨by rw [Nat.pow_one, B_eq]; exact hd, Nat.le_refl _, by omega, fun _ => rfl, fun i hi => ?_, fun _ => by rw [ab_some, World.size_alloc]; omega⟩
  obtain rfl : i = 0 := by omega
  rw [ab_some, ao_some, World.cell?_alloc_new]
  have : dig d 0 = d := by unfold dig; rw [Nat.pow_zero, Nat.div_one, Nat.mod_eq_of_lt (by rw [B_eq]; exact hd)]
  rw [this]; rfl

/-- A list of two limbs, just made. -/
theorem Mag.two (w : World) (e : TypeId) (d0 d1 : Nat) (h0 : d0 < 4294967296) (h1 : d1 < 4294967296) : Mag (w.alloc (.cells #[.int .u32 d0, .int .u32 d1] e)) (some ⟨w.heap.size, 0, none⟩) 2 2 (d0 + d1 * B) := by
  refine ⟨?_, Nat.le_refl _, by omega, fun _ => rfl, fun i hi => ?_, fun _ => by rw [ab_some, World.size_alloc]; omega⟩
  · rw [Nat.pow_succ, Nat.pow_one, B_eq]; omega
  · rw [ab_some, ao_some, World.cell?_alloc_new]
    have e0 : dig (d0 + d1 * B) 0 = d0 := by
      unfold dig; rw [Nat.pow_zero, Nat.div_one, Nat.add_mul_mod_self_right, Nat.mod_eq_of_lt (by rw [B_eq]; exact h0)]
    have e1 : dig (d0 + d1 * B) 1 = d1 := by
      unfold dig; rw [Nat.pow_one, Nat.add_mul_div_right _ _ B_pos, Nat.div_eq_of_lt (by rw [B_eq]; exact h0), Nat.zero_add, Nat.mod_eq_of_lt (by rw [B_eq]; exact h1)]
    rcases (show i = 0 ∨ i = 1 by omega) with rfl | rfl
    · rw [e0]; rfl
    · rw [e1]; rfl

theorem bne0_true {d : Nat} (h : ((d : Int) != 0) = true) : d ≠ 0 := by rw [bne_iff_ne] at h; omega
theorem bne0_false {d : Nat} (h : ((d : Int) != 0) = false) : d = 0 := by
  have : ¬ ((d : Int) != 0) = true := by rw [h]; simp
  rw [bne_iff_ne] at this; omega
theorem bne_true {d e : Nat} (h : ((d : Int) != (e : Int)) = true) : d ≠ e := by rw [bne_iff_ne] at h; omega
theorem bne_false {d e : Nat} (h : ((d : Int) != (e : Int)) = false) : d = e := by
  have : ¬ ((d : Int) != (e : Int)) = true := by rw [h]; simp
  rw [bne_iff_ne] at this; omega

/-! ### make -/
section
variable {P : Program} (t e : TypeId)
/-- make([]uint32, 0, c) -/
theorem make_cap (hP : (P.info? e).map (fun i => (i.zero, i.size, i.bytes)) = some (some (.int .u32 0), 1, 4)) (ht : P.underlying t = some (.slice e)) (c : Int) (h0 : 0 ≤ c) (hc : c ≤ 4398046511104) (W : World) :
    (Instr.makeSlice t (.int .i64 0) (.int .i64 c)).run P W = .ok (.slice (some ⟨W.heap.size, 0, none⟩) 0 c.toNat) (W.alloc (.cells (madeCells #[.int .u32 0] c.toNat) e)) := by
  obtain ⟨i0, hi, hz0, hz1, hz2⟩ := info_parts hP
  have := run_make (P := P) W t e i0 _ ht hi hz0 .i64 .i64 0 c (Int.le_refl _) h0 (by rw [hz2]; omega) (by omega)
  rw [this, hz1, Nat.mul_one]; rfl
/-- make([]uint32, c) -/
theorem make_len (hP : (P.info? e).map (fun i => (i.zero, i.size, i.bytes)) = some (some (.int .u32 0), 1, 4)) (ht : P.underlying t = some (.slice e)) (c : Int) (h0 : 0 ≤ c) (hc : c ≤ 4398046511104) (W : World) :
    (Instr.makeSlice t (.int .i64 c) (.int .i64 c)).run P W = .ok (.slice (some ⟨W.heap.size, 0, none⟩) c.toNat c.toNat) (W.alloc (.cells (madeCells #[.int .u32 0] c.toNat) e)) := by
  obtain ⟨i0, hi, hz0, hz1, hz2⟩ := info_parts hP
  have := run_make (P := P) W t e i0 _ ht hi hz0 .i64 .i64 c c h0 (Int.le_refl _) (by rw [hz2]; omega) (by omega)
  rw [this, hz1, Nat.mul_one]; rfl
end

/-! ### append of one limb to a list of the call's own -/
theorem below_of_owns {w w' : World} {base : Nat} {e : TypeId} {size : Nat} {v : Value} {n : Nat} {xs : List Value} (h : w.ownsRow base e size v n xs) (hg : w.grownBy w' v.ownBlock) (hb : base ≤ w.heap.size) : Below base w w' :=
  (Below.refl _ _).grown hg hb fun k hk => (h.lt k hk).1

theorem app_u32 {P : Program} {ops : Array Oper} {rest : List Oper} {o : Oper} {a : Act} {Q : Exit → Act → World → Prop} {w : World} (t e : TypeId)
    (hP : (P.info? e).map (fun i => (i.zero, i.size, i.bytes)) = some (some (.int .u32 0), 1, 4)) (ht : P.underlying t = some (.slice e)) (hgd : o.guard = none) (s x : Operand)
    (ho : o.op = .call { callee := .builtin .append, args := #[s, x], argTypes := #[t, t] }) (base : Nat) (v : Value) (n z : Nat) (hs : a.eval s = v) (g : Nat) (d : Int)
    (hx : a.eval x = .slice (some ⟨g, 0, none⟩) 1 1) (hown : w.ownsRow base e 1 v n (digs z n)) (hcell : w.cell? ⟨g, 0, none⟩ = some (.int .u32 d)) (hd : d = dig z n) (hn : n ≤ 4398046511104)
    (hbase : base ≤ w.heap.size) (h : ∀ v' w', w'.ownsRow base e 1 v' (n + 1) (digs z (n + 1)) → Below base w w' → wpList P ops Q rest (a.put o.dst v') w') : wpList P ops Q (o :: rest) a w := by
  obtain ⟨i0, hi, hz0, hz1, hz2⟩ := info_parts hP
  refine wpList_append_own w hgd s x t ho base e i0 (.int .u32 0) 1 4 ht hi hz0 hz1 hz2 rfl (by decide) v n _ hs hown ⟨g, 0, none⟩ 1 1 [.int .u32 d] hx rfl ?_ ?_ ?_ ?_ hbase ?_
  · intro j u hu
    have : j = 0 := by
      rcases Nat.eq_zero_or_pos j with h | h
      · exact h
      · rw [List.getElem?_eq_none (by simp; omega)] at hu; cases hu
    subst this
    simp at hu; subst hu
    rw [Addr.add_zero']; exact hcell
  · intro u hu; simp at hu; subst hu; rfl
  · unfold maxLen; omega
  · omega
  · intro v' w' h1 h2 _
    refine h v' w' ?_ (below_of_owns hown h2 hbase)
    rw [digs_succ, ← hd]; exact h1

theorem bcell {W w1 : World} {n : Nat} (hb : Below n W w1) : (∀ b o, b < n → w1.cell? ⟨b, o, none⟩ = W.cell? ⟨b, o, none⟩) ∧ (∀ b o, b < n → w1.frozen? ⟨b, o, none⟩ = W.frozen? ⟨b, o, none⟩) :=
  ⟨fun b o h => hb.cell (p := ⟨b, o, none⟩) h, fun b o h => hb.frozen (p := ⟨b, o, none⟩) h⟩

end Sp

/-
  Plain law: the quotients rounded down and up enclose the exact one. No program in sight.
  Plain laws: slim dyads form a ring; scaling, Log2, Floor; rounding; square roots. No program in sight.
-/
import Derived.Test.YtablcbgeeeboeaaGreatDoorZhBe
namespace Go.Proofs.YtablcbgeeeboeaaGreatDoor
open Go.RowKit Sp
theorem zEa {m e : Int} (h1 : -65536 ≤ e) (h2 : e + zA4 m.natAbs ≤ 65536) : nrm m e ≠ none := by
 intro h; have := nrm_none.1 h; omega
theorem zEs (x y : Nat) : zA4 (x * y) ≤ zA4 x + zA4 y := by
 refine zAq ?_
 rw [Nat.pow_add]
 exact Nat.mul_lt_mul'' (zAH x) (zAH y)
theorem zD5 (x y : Nat) : zA4 (x + y) ≤ max (zA4 x) (zA4 y) + 1 := by
 refine zAq ?_
 rw [Nat.pow_succ]
 have h1 := Nat.lt_of_lt_of_le (zAH x) (Nat.pow_le_pow_right (n := 2) (by omega) (Nat.le_max_left (zA4 x) (zA4 y)))
 have h2 := Nat.lt_of_lt_of_le (zAH y) (Nat.pow_le_pow_right (n := 2) (by omega) (Nat.le_max_right (zA4 x) (zA4 y)))
 omega
theorem zDL (x c : Nat) : zA4 (x / 2 ^ c) ≤ zA4 x - c := by
 by_cases h : c ≤ zA4 x
 · refine zAq ?_
   rw [Nat.div_lt_iff_lt_mul (Nat.pow_pos (by decide)), ← Nat.pow_add, show zA4 x - c + c = zA4 x by omega]
   exact zAH x
 · have : x / 2 ^ c = 0 := Nat.div_eq_of_lt (Nat.lt_of_lt_of_le (zAH x) (Nat.pow_le_pow_right (by decide) (by omega)))
   rw [this]; exact Nat.zero_le _
theorem zHp (x : Nat) : sgn true x = -(x : Int) := rfl
theorem zFO (x : Nat) : sgn false x = (x : Int) := rfl
theorem cmpI_le {m n : Int} : zAr m n ≤ 0 ↔ m ≤ n := by unfold zAr; split <;> (try split) <;> omega
theorem cmpI_eq0 {m n : Int} : zAr m n = 0 ↔ m = n := by unfold zAr; split <;> (try split) <;> omega
theorem zMX (M N : Int) : zA4 (M + N).natAbs ≤ max (zA4 M.natAbs) (zA4 N.natAbs) + 1 :=
 Nat.le_trans (zBm (Int.natAbs_add_le M N)) (zD5 _ _)
theorem zL4 (M N : Int) : zA4 (M * N).natAbs ≤ zA4 M.natAbs + zA4 N.natAbs := by
 rw [Int.natAbs_mul]; exact zEs _ _
theorem zKg (x : Nat) : ∃ r, r * r ≤ x ∧ x < (r + 1) * (r + 1) := by
 induction x with
 | zero => exact ⟨0, by decide⟩
 | succ n ih =>
  obtain ⟨r, h1, h2⟩ := ih
  by_cases h : n + 1 < (r + 1) * (r + 1)
  · exact ⟨r, by omega, h⟩
  · refine ⟨r + 1, by omega, ?_⟩
    have h3 : (r + 1 + 1) * (r + 1 + 1) = (r + 1) * (r + 1) + 2 * r + 3 := by grind
    omega
noncomputable def isq (x : Nat) : Nat := Classical.choose (zKg x)
theorem zDI (x : Nat) : isq x * isq x ≤ x := (Classical.choose_spec (zKg x)).1
theorem zDH (x : Nat) : x < (isq x + 1) * (isq x + 1) := (Classical.choose_spec (zKg x)).2
theorem zOb {a b : Nat} (h : a < b) : a * a < b * b := Nat.mul_self_lt_mul_self h
theorem zId {a b : Nat} (h : a ≤ b) : a * a ≤ b * b := Nat.mul_self_le_mul_self h
theorem zOD (k : Nat) : isq (k * k) = k := by
 have h1 := zDI (k * k)
 have h2 := zDH (k * k)
 rcases Nat.lt_trichotomy (isq (k * k)) k with h | h | h
 · have := zId (show isq (k * k) + 1 ≤ k by omega); omega
 · exact h
 · have := zOb h; omega
def rsh (m e p : Int) : Nat :=
 if (e - (max 0 (2 * (p + 3) - zA4 m.natAbs)).toNat) % 2 ≠ 0 then (max 0 (2 * (p + 3) - zA4 m.natAbs)).toNat + 1 else (max 0 (2 * (p + 3) - zA4 m.natAbs)).toNat
theorem zHt (m e p : Int) : (e - rsh m e p) % 2 = 0 := by unfold rsh; split <;> omega
theorem zMH (m e p : Int) : 2 * (p + 3) ≤ zA4 m.natAbs + rsh m e p := by unfold rsh; split <;> omega
theorem zMG (m e p : Int) (hp : 0 ≤ p) : (rsh m e p : Int) ≤ 2 * (p + 3) + 1 := by unfold rsh; split <;> omega
end Go.Proofs.YtablcbgeeeboeaaGreatDoor
namespace Go.Proofs.YtablcbgeeeboeaaGreatDoor
open Go.RowKit Sp
def fS (f : Nat) : Bool := decide (9223372036854775808 ≤ f)
def fM (f : Nat) : Nat := f % 9223372036854775808
def fE (f : Nat) : Nat := f / 4503599627370496 % 2048
def fR (f : Nat) : Nat := f % 4503599627370496
def zP6 (f : Nat) : Bool := decide (9218868437227405312 < fM f)
def zP7 (f : Nat) : Bool := decide (fM f = 9218868437227405312)
def zCY (f : Nat) : Bool := decide (fM f = 0)
def zB0 (f : Nat) : Bool := decide (fM f < 9218868437227405312)
def zIU : Nat := 9221120237041090560
def zKC : Nat := 9218868437227405312
def zMT : Nat := 9218868437227405311
def zFy (f : Nat) : Int := if zP6 f then 3 else if zP7 f then 2 else if zCY f then 0 else 1
def zCH (s : Bool) (c : Nat) : Nat := if s then c + 9223372036854775808 else c
theorem zKt {s : Bool} {c : Nat} (h : c < 9223372036854775808) : zCH s c < 18446744073709551616 := by unfold zCH; split <;> omega
theorem zKB (f : Nat) : fM f = fE f * 4503599627370496 + fR f := by unfold fM fE fR; omega
theorem zEn (f : Nat) : fR f < 4503599627370496 := Nat.mod_lt _ (by decide)
theorem zEo (f : Nat) : fE f < 2048 := Nat.mod_lt _ (by decide)
theorem zDh (f : Nat) : zB0 f = decide (fE f ≠ 2047) := by
 have := zKB f; have := zEn f; have := zEo f
 unfold zB0; exact decide_eq_decide.2 (by omega)
theorem zMQ (f : Nat) : zP6 f = decide (fE f = 2047 ∧ fR f ≠ 0) := by
 have := zKB f; have := zEn f; have := zEo f
 unfold zP6; exact decide_eq_decide.2 (by omega)
theorem zMS (f : Nat) : zP7 f = decide (fE f = 2047 ∧ fR f = 0) := by
 have := zKB f; have := zEn f; have := zEo f
 unfold zP7; exact decide_eq_decide.2 (by omega)
theorem zKr (f : Nat) : zCY f = decide (fE f = 0 ∧ fR f = 0) := by
 have := zKB f; have := zEn f; have := zEo f
 unfold zCY; exact decide_eq_decide.2 (by omega)
def fzN (c : Nat) : Nat := if c < 4503599627370496 then c else (c % 4503599627370496 + 4503599627370496) * 2 ^ (c / 4503599627370496 - 1)
def fz (f : Nat) : Int := sgn (fS f) (fzN (fM f))
def fof (f : Nat) : Option (Int × Int) := if zB0 f then nrm (fz f) (-1074) else none
theorem zDY (k n : Nat) (hn : n ≤ 9007199254740992) (h : 4503599627370496 ≤ n ∨ k = 0) : fzN (k * 4503599627370496 + n) = n * 2 ^ k := by
 unfold fzN
 rcases Nat.lt_or_ge n 4503599627370496 with h1 | h1
 · have hk : k = 0 := by omega
   subst hk; simp; omega
 · rw [if_neg (by omega)]
   rcases Nat.lt_or_ge n 9007199254740992 with h2 | h2
   · have e1 : (k * 4503599627370496 + n) % 4503599627370496 = n - 4503599627370496 := by omega
     have e2 : (k * 4503599627370496 + n) / 4503599627370496 - 1 = k := by omega
     rw [e1, e2]; congr 1; omega
   · have hn2 : n = 9007199254740992 := by omega
     subst hn2
     have e1 : (k * 4503599627370496 + 9007199254740992) % 4503599627370496 = 0 := by omega
     have e2 : (k * 4503599627370496 + 9007199254740992) / 4503599627370496 - 1 = k + 1 := by omega
     rw [e1, e2, Nat.pow_succ]; omega
theorem zIR (c : Nat) : ∃ k n, c = k * 4503599627370496 + n ∧ n < 9007199254740992 ∧ (4503599627370496 ≤ n ∨ k = 0) := by
 by_cases h : c < 4503599627370496
 · exact ⟨0, c, by omega, by omega, Or.inr rfl⟩
 · exact ⟨c / 4503599627370496 - 1, c % 4503599627370496 + 4503599627370496, by omega, by omega, Or.inl (by omega)⟩
theorem zLZ {k n : Nat} (hn : n < 9007199254740992) (h : 4503599627370496 ≤ n ∨ k = 0) : fzN (k * 4503599627370496 + n + 1) = fzN (k * 4503599627370496 + n) + 2 ^ k := by
 rw [zDY k n (by omega) h, Nat.add_assoc, zDY k (n + 1) (by omega) (by omega), Nat.add_mul, Nat.one_mul]
theorem zEl (c : Nat) : fzN c < fzN (c + 1) := by
 obtain ⟨k, n, rfl, hn, h⟩ := zIR c
 rw [zLZ hn h]
 have := Nat.pow_pos (n := k) (show 0 < 2 by omega); omega
theorem zKs (c : Nat) : ∀ d, fzN c + d ≤ fzN (c + d)
 | 0 => Nat.le_refl _
 | d + 1 => by have := zKs c d; have := zEl (c + d); show _ ≤ fzN (c + d + 1); omega
theorem zOF {a b : Nat} (h : a < b) : fzN a < fzN b := by
 have := zKs (a + 1) (b - (a + 1))
 rw [show a + 1 + (b - (a + 1)) = b by omega] at this
 have := zEl a; omega
theorem zNA : fzN 9218868437227405312 = 9007199254740992 * 2 ^ 2045 := by
 have := zDY 2045 9007199254740992 (by omega) (by omega)
 rwa [show 2045 * 4503599627370496 + 9007199254740992 = 9218868437227405312 by decide] at this
theorem p53 (k n : Nat) (h : 53 + k = n) : 9007199254740992 * 2 ^ k = 2 ^ n := by subst h; rw [Nat.pow_add]
theorem zMs {c : Nat} (h : c < 9218868437227405312) : zA4 (fzN c) ≤ 2098 := by
 refine zAq ?_
 have := zOF h
 rw [zNA, p53 2045 2098 (by decide)] at this
 exact this
theorem zOE (f : Nat) : (fz f).natAbs = fzN (fM f) := by unfold fz sgn; cases fS f <;> simp
theorem zEt {f : Nat} (h : zB0 f = true) : zA4 (fz f).natAbs ≤ 2098 := by
 rw [zOE]; exact zMs (by unfold zB0 at h; simpa using h)
theorem zFv {f : Nat} (h : zB0 f = true) : nrm (fz f) (-1074) ≠ none := zEa (by omega) (by have := zEt h; omega)
theorem zEm {f : Nat} (h : zB0 f = true) : fof f = nrm (fz f) (-1074) := by unfold fof; rw [if_pos h]
theorem zKw {f : Nat} (h : zB0 f = false) : fof f = none := by unfold fof; rw [if_neg (by rw [h]; decide)]
theorem zBI (f : Nat) : IsN (fof f) := by
 unfold fof; split
 · exact zB7 _ _
 · exact zBM
theorem zHP (f : Nat) : nrm (fz f) (-1074) = nrm (sgn (fS f) (if fE f = 0 then fR f else fR f + 4503599627370496)) (if fE f = 0 then -1074 else (fE f : Int) - 1075) := by
 have h1 := zKB f
 have h2 := zEn f
 unfold fz
 by_cases h : fE f = 0
 · rw [if_pos h, if_pos h]
   congr 2
   rw [h1, h]; unfold fzN; rw [if_pos (by omega)]; omega
 · rw [if_neg h, if_neg h]
   have e1 : fzN (fM f) = (fR f + 4503599627370496) * 2 ^ (fE f - 1) := by
    have := zDY (fE f - 1) (fR f + 4503599627370496) (by omega) (by omega)
    rw [← this]; refine congrArg fzN ?_; rw [h1]
    obtain ⟨j, hj⟩ : ∃ j, fE f = j + 1 := ⟨fE f - 1, by omega⟩
    rw [hj, Nat.add_sub_cancel]; omega
   have e2 : sgn (fS f) (fzN (fM f)) = sgn (fS f) (fR f + 4503599627370496) * 2 ^ (fE f - 1) := by
    rw [e1]; unfold sgn; cases fS f <;> simp [Int.neg_mul]
   rw [e2, zEc]; congr 1; omega
def zND (s : Bool) (X : Nat) (E : Int) (more : Bool) (mode : Int) : Nat :=
 (max (rlg X E - 52) (-1074) + 1074).toNat * 4503599627370496 + zE3 s X E more (max (rlg X E - 52) (-1074)) mode
def zCP (s : Bool) (mode : Int) : Nat :=
 if mode = 3 ∨ mode = 1 ∧ s = false ∨ mode = 2 ∧ s = true then zCH s zMT else zCH s zKC
def zOM (s : Bool) (c : Nat) (mode : Int) : Nat := if zKC ≤ c then zCP s mode else zCH s c
def zCf (s : Bool) (X : Nat) (E : Int) (more : Bool) (mode : Int) : Nat := zOM s (zND s X E more mode) mode
def zAF (d : Option (Int × Int)) (mode : Int) : Nat :=
 match d with
 | none => zIU
 | some (m, e) => if m = 0 then 0 else zCf (decide (m < 0)) m.natAbs e false mode
def zH0 (d d' : Option (Int × Int)) (mode : Int) : Nat :=
 match d, d' with
 | some (a, e), some (b, f) =>
  if b = 0 then zIU else if a = 0 then 0 else
  zCf (decide (a < 0) != decide (b < 0)) (a.natAbs * 2 ^ qsh a b 56 / b.natAbs) (e - qsh a b 56 - f) (decide (a.natAbs * 2 ^ qsh a b 56 % b.natAbs ≠ 0)) mode
 | _, _ => zIU
noncomputable def zBE (d : Option (Int × Int)) (mode : Int) : Nat :=
 match d with
 | none => zIU
 | some (m, e) => if m < 0 then zIU else if m = 0 then 0 else
  zCf false (isq (m.natAbs * 2 ^ rsh m e 56)) ((e - rsh m e 56) / 2) (decide (isq (m.natAbs * 2 ^ rsh m e 56) * isq (m.natAbs * 2 ^ rsh m e 56) ≠ m.natAbs * 2 ^ rsh m e 56)) mode
theorem zG9 {X : Nat} (hX : 0 < X) (E : Int) (q : Int) (hq : q = max (rlg X E - 52) (-1074)) :
 rdn X E q < 9007199254740992 ∧ (4503599627370496 ≤ rdn X E q ∨ (q + 1074).toNat = 0) := by
 have hb := zCp hX
 have hlt := zAH X
 have hge := zB2 hX
 unfold rdn
 by_cases h : q ≤ E
 · rw [if_pos h]
   have h1 := zAi hX (E - q).toNat
   have hx1 : 0 < X * 2 ^ (E - q).toNat := Nat.mul_pos hX (Nat.pow_pos (by decide))
   have h2 := zAH (X * 2 ^ (E - q).toNat)
   have h3 := zB2 hx1
   generalize hW : X * 2 ^ (E - q).toNat = V at h1 h2 h3 ⊢
   have hle : zA4 V ≤ 53 := by unfold rlg at hq; omega
   refine ⟨Nat.lt_of_lt_of_le h2 (Nat.le_trans (Nat.pow_le_pow_right (by decide) hle) (by decide)), ?_⟩
   by_cases hk : (q + 1074).toNat = 0
   · exact Or.inr hk
   · have he : zA4 V = 53 := by unfold rlg at hq; omega
     rw [he] at h3; exact Or.inl h3
 · rw [if_neg h]
   have h0 := zDL X (q - E).toNat
   have h2 := zAH (X / 2 ^ (q - E).toNat)
   have hle : zA4 (X / 2 ^ (q - E).toNat) ≤ 53 := by unfold rlg at hq; omega
   refine ⟨Nat.lt_of_lt_of_le h2 (Nat.le_trans (Nat.pow_le_pow_right (by decide) hle) (by decide)), ?_⟩
   by_cases hk : (q + 1074).toNat = 0
   · exact Or.inr hk
   · refine Or.inl ?_
     have he : zA4 X - 1 = 52 + (q - E).toNat := by unfold rlg at hq; omega
     rw [he, Nat.pow_add] at hge
     exact (Nat.le_div_iff_mul_le (Nat.pow_pos (by decide))).2 hge
theorem cmpI_one {m n : Int} : zAr m n = 1 ↔ n < m := by unfold zAr; split <;> (try split) <;> constructor <;> intro h <;> omega
theorem cmpI_m1 {m n : Int} : zAr m n = -1 ↔ m < n := by unfold zAr; split <;> (try split) <;> constructor <;> intro h <;> omega
theorem zPJ {P Q X Y : Nat} {more : Bool} (hQ : 0 < Q) (hX : X = P / Q) (hm : more = decide (P % Q ≠ 0)) :
 zAr ((P : Nat) : Int) ((Y * Q : Nat) : Int) = if X < Y then -1 else if X = Y then (if more then 1 else 0) else 1 := by
 have h1 := Nat.div_add_mod P Q
 have h2 := Nat.mod_lt P hQ
 rw [← hX] at h1
 rw [Nat.mul_comm] at h1
 by_cases hlt : X < Y
 · rw [if_pos hlt]
   have := Nat.mul_le_mul_right Q (show X + 1 ≤ Y by omega)
   rw [Nat.add_mul, Nat.one_mul] at this
   exact cmpI_m1.2 (by omega)
 · rw [if_neg hlt]
   by_cases he : X = Y
   · subst he
     rw [if_pos rfl, hm]
     by_cases h0 : P % Q = 0
     · simp only [h0, ne_eq, not_true_eq_false, decide_false, Bool.false_eq_true, if_false]
       exact cmpI_eq0.2 (by omega)
     · simp only [ne_eq, h0, not_false_eq_true, decide_true, if_true]
       exact cmpI_one.2 (by omega)
   · rw [if_neg he]
     have := Nat.mul_le_mul_right Q (show Y + 1 ≤ X by omega)
     rw [Nat.add_mul, Nat.one_mul] at this
     exact cmpI_one.2 (by omega)
theorem zEY {x y x' y' : Nat} {p q : Nat} (hp : 0 < p) (hq : 0 < q) (h1 : x * p = x' * q) (h2 : y * p = y' * q) : zAr (x : Int) (y : Int) = zAr (x' : Int) (y' : Int) := by
 have e1 := zHY (m := (x : Int)) (n := (y : Int)) (p := (p : Int)) (by omega)
 have e2 := zHY (m := (x' : Int)) (n := (y' : Int)) (p := (q : Int)) (by omega)
 rw [← e1, ← e2, ← Int.natCast_mul, ← Int.natCast_mul, h1, h2, Int.natCast_mul, Int.natCast_mul]
theorem zGF (k : Nat) : 0 < 2 ^ k := Nat.pow_pos (by decide)
theorem zOs {a b : Int} (h : b ≠ 0) (ha : a ≠ 0) : 58 ≤ zA4 (a.natAbs * 2 ^ qsh a b 56 / b.natAbs) := by
 have ha' : 0 < a.natAbs := by omega
 have hb' : 0 < b.natAbs := by omega
 have h1 := zAi ha' (qsh a b 56)
 have h2 := zB2 (show 0 < a.natAbs * 2 ^ qsh a b 56 from Nat.mul_pos ha' (zGF _))
 have h3 := zAH b.natAbs
 have h4 : zA4 a.natAbs + qsh a b 56 ≥ 59 + zA4 b.natAbs := by unfold qsh; omega
 refine zKe ((Nat.le_div_iff_mul_le hb').2 ?_)
 rw [h1] at h2
 refine Nat.le_trans ?_ h2
 refine Nat.le_trans (Nat.mul_le_mul_left _ (Nat.le_of_lt h3)) ?_
 rw [← Nat.pow_add]
 exact Nat.pow_le_pow_right (by decide) (by omega)
theorem zKA (s : Bool) (c : Nat) (mode : Int) : zOM s c mode < 18446744073709551616 := by
 unfold zOM zCP
 split
 · split <;> exact zKt (by decide)
 · rename_i h; exact zKt (by unfold zKC at h; omega)
theorem g0 : (-1074 : Int) = -1074 - ((0 : Nat) : Int) := by decide
theorem g3 : (-3000 : Int) = -1074 - ((1926 : Nat) : Int) := by decide
theorem zHQ {a b : Nat} (ha : zB0 a = true) (hb : zB0 b = true) : zCZ (fof a) (fof b) = nrm (fz a * fz b) (-2148) ∧ nrm (fz a * fz b) (-2148) ≠ none := by
 refine ⟨?_, zEa (by omega) (by have := zL4 (fz a) (fz b); have := zEt ha; have := zEt hb; omega)⟩
 rw [zEm ha, zEm hb]
 exact zMi _ _ _ _ (zFv ha) (zFv hb)
theorem dbad_nn {d : Option (Int × Int)} : zA3 d = false ↔ d ≠ none := by cases d <;> simp [zA3]
theorem ofNat_le {x y : Nat} (h : x ≤ y) : zAr (x : Int) (y : Int) ≤ 0 := cmpI_le.2 (by omega)
theorem zNY (n : Int) : Go.bits .and .u64 n 2047 = n % 2048 := by
 have h1 : (BitVec.ofInt 64 2047).toNat = 2047 := by decide
 have h2 : (BitVec.ofInt 64 n).toNat = (n % 18446744073709551616).toNat := by simp [BitVec.toNat_ofInt]
 have h3 : (n % 18446744073709551616).toNat &&& 2047 = (n % 18446744073709551616).toNat % 2048 := Nat.and_two_pow_sub_one_eq_mod _ 11
 show IntKind.u64.wrap ((BitVec.ofInt 64 n &&& BitVec.ofInt 64 2047).toNat : Int) = _
 rw [BitVec.toNat_and, h1, h2, h3, IntKind.wrap_u64]
 omega
theorem zNX (n : Int) : Go.bits .and .u64 n 4503599627370495 = n % 4503599627370496 := by
 have h1 : (BitVec.ofInt 64 4503599627370495).toNat = 4503599627370495 := by decide
 have h2 : (BitVec.ofInt 64 n).toNat = (n % 18446744073709551616).toNat := by simp [BitVec.toNat_ofInt]
 have h3 : (n % 18446744073709551616).toNat &&& 4503599627370495 = (n % 18446744073709551616).toNat % 4503599627370496 := Nat.and_two_pow_sub_one_eq_mod _ 52
 show IntKind.u64.wrap ((BitVec.ofInt 64 n &&& BitVec.ofInt 64 4503599627370495).toNat : Int) = _
 rw [BitVec.toNat_and, h1, h2, h3, IntKind.wrap_u64]
 omega
theorem zHZ (f : Nat) : Go.bits .and .u64 ((f : Int) / 4503599627370496) 2047 = ((fE f : Nat) : Int) := by rw [zNY]; unfold fE; omega
theorem zL5 (f : Nat) : Go.bits .and .u64 (f : Int) 4503599627370495 = ((fR f : Nat) : Int) := by rw [zNX]; unfold fR; omega
theorem zOz (f : Nat) (h : f < 18446744073709551616) : f &&& 9223372036854775808 = if fS f then 9223372036854775808 else 0 := by
 have e : (9223372036854775808 : Nat) = 2 ^ 63 := by decide
 by_cases hs : 9223372036854775808 ≤ f
 · have hS : fS f = true := by unfold fS; simpa using hs
   rw [hS, if_pos rfl, e]
   obtain ⟨g, rfl⟩ : ∃ g, f = 2 ^ 63 + g := ⟨f - 2 ^ 63, by omega⟩
   apply Nat.eq_of_testBit_eq
   intro i
   rw [Nat.testBit_and, Nat.testBit_two_pow]
   by_cases hi : 63 = i
   · subst hi; rw [Nat.testBit_two_pow_add_eq, Nat.testBit_lt_two_pow (show g < 2 ^ 63 by omega)]; rfl
   · simp [hi]
 · have hS : fS f = false := by unfold fS; simpa using hs
   rw [hS, if_neg (by decide), e]
   apply Nat.eq_of_testBit_eq
   intro i
   rw [Nat.testBit_and, Nat.testBit_two_pow, Nat.zero_testBit]
   by_cases hi : 63 = i
   · subst hi; rw [Nat.testBit_lt_two_pow (show f < 2 ^ 63 by omega)]; rfl
   · simp [hi]
theorem zGy {f : Nat} (h : f < 18446744073709551616) : Go.bits .and .u64 (f : Int) 9223372036854775808 = if fS f then 9223372036854775808 else 0 := by
 have := u64_and_nat f 9223372036854775808 h (by decide)
 rw [zOz f h] at this
 cases hs : fS f <;> (rw [hs] at this; exact this)
theorem zDM {c : Nat} (h : c < 9223372036854775808) : Go.bits .or .u64 (c : Int) 9223372036854775808 = ((zCH true c : Nat) : Int) := by
 have h1 := u64_or_nat c 9223372036854775808 (by omega) (by decide)
 have h2 : c ||| 9223372036854775808 = c + 9223372036854775808 := by
  have := zDG (p := 63) (z := c) (u := 9223372036854775808) h ⟨1, rfl⟩
  exact this
 rw [h2] at h1
 exact h1
theorem zDm {E m : Nat} (hE : E < 2048) (hm : m < 4503599627370496) : Go.bits .or .u64 ((E : Int) * 4503599627370496) (m : Int) = ((E * 4503599627370496 + m : Nat) : Int) := by
 have e : (E : Int) * 4503599627370496 = ((4503599627370496 * E : Nat) : Int) := by omega
 rw [e, u64_or_nat _ _ (by omega) (by omega), Nat.or_comm, zDG (p := 52) hm ⟨E, rfl⟩]
 congr 1; omega
theorem zD6 {m : Nat} (hm : m < 4503599627370496) : Go.bits .or .u64 (m : Int) 4503599627370496 = ((m + 4503599627370496 : Nat) : Int) := by
 have h1 := u64_or_nat m 4503599627370496 (by omega) (by decide)
 have h2 : m ||| 4503599627370496 = m + 4503599627370496 := zDG (p := 52) (z := m) (u := 4503599627370496) hm ⟨1, rfl⟩
 rw [h2] at h1
 exact h1
theorem zEu {x c : Nat} (h : 0 < zA4 (x / 2 ^ c)) : zA4 x = zA4 (x / 2 ^ c) + c := by
 have h1 := zDL x c
 have h2 : x < 2 ^ (zA4 (x / 2 ^ c) + c) := by
  rw [Nat.pow_add]
  exact (Nat.div_lt_iff_lt_mul (Nat.pow_pos (by decide))).1 (zAH (x / 2 ^ c))
 have h3 := zAq h2
 generalize zA4 (x / 2 ^ c) = b at *
 generalize zA4 x = y at *
 omega
def cxX (X : Nat) (more : Bool) (k j : Nat) : Int := if X < j * 2 ^ (k - 1) then -1 else if X = j * 2 ^ (k - 1) then (if more then 1 else 0) else 1
def awc (s : Bool) (n : Nat) (cx : Nat → Int) (mode : Int) : Bool :=
 if cx (2 * n) = 0 then false else if mode = 1 then s else if mode = 2 then !s else if mode = 3 then false else decide (0 < cx (2 * n + 1)) || (decide (cx (2 * n + 1) = 0) && decide (n % 2 = 1))
theorem zHN {k : Nat} (hk : 1 ≤ k) : 2 * 2 ^ (k - 1) = 2 ^ k := by
 obtain ⟨j, rfl⟩ : ∃ j, k = j + 1 := ⟨k - 1, by omega⟩
 rw [Nat.add_sub_cancel, Nat.pow_succ, Nat.mul_comm]
theorem zDn {k : Nat} (hk : 1 ≤ k) (n : Nat) : 2 * n * 2 ^ (k - 1) = n * 2 ^ k := by
 rw [← zHN hk]; ac_rfl
theorem zMI (s : Bool) (X : Nat) (more : Bool) {k : Nat} (hk : 1 ≤ k) (mode : Int) :
 raw s (X / 2 ^ k) (rcm X more k) (rex X more k) mode = awc s (X / 2 ^ k) (cxX X more k) mode := by
 have hd := Nat.div_add_mod X (2 ^ k)
 have hm := Nat.mod_lt X (Nat.pow_pos (n := k) (show 0 < 2 by decide))
 have hh := zHN hk
 have e0 : 2 * (X / 2 ^ k) * 2 ^ (k - 1) = 2 ^ k * (X / 2 ^ k) := by rw [zDn hk, Nat.mul_comm]
 have e1 : (2 * (X / 2 ^ k) + 1) * 2 ^ (k - 1) = 2 ^ k * (X / 2 ^ k) + 2 ^ (k - 1) := by rw [Nat.add_mul, e0, Nat.one_mul]
 have c0 : cxX X more k (2 * (X / 2 ^ k)) = 0 ↔ rex X more k = true := by
  unfold cxX rex
  rw [e0]
  cases more
  · simp only [Bool.not_false, Bool.and_true, decide_eq_true_eq]
    constructor
    · intro h; split at h
      · cases h
      · split at h
        · omega
        · cases h
    · intro h; rw [if_neg (by omega), if_pos (by omega)]; rfl
  · simp only [Bool.not_true, Bool.and_false, Bool.false_eq_true, iff_false]
    intro h; split at h
    · cases h
    · split at h <;> cases h
 have c1 : cxX X more k (2 * (X / 2 ^ k) + 1) = rcm X more k := by
  unfold cxX rcm
  rw [e1]
  rcases Nat.lt_trichotomy (X % 2 ^ k) (2 ^ (k - 1)) with h | h | h
  · have : zAr ((X % 2 ^ k : Nat) : Int) ((2 ^ (k - 1) : Nat) : Int) = -1 := zAT (by omega)
    rw [this, if_pos (by omega), if_neg (by simp)]
  · have : zAr ((X % 2 ^ k : Nat) : Int) ((2 ^ (k - 1) : Nat) : Int) = 0 := zBZ (by omega)
    rw [this, if_neg (by omega), if_pos (by omega)]
    cases more <;> simp
  · have : zAr ((X % 2 ^ k : Nat) : Int) ((2 ^ (k - 1) : Nat) : Int) = 1 := zB1 (by omega)
    rw [this, if_neg (by omega), if_neg (by omega), if_neg (by simp)]
 unfold raw awc
 rw [c1]
 by_cases h : rex X more k = true
 · rw [if_pos h, if_pos (c0.2 h)]
 · rw [if_neg h, if_neg (fun h1 => h (c0.1 h1))]
theorem zOR (X : Nat) (more : Bool) {k : Nat} (hk : 1 ≤ k) : 0 ≤ cxX X more k (2 * (X / 2 ^ k)) ∧ cxX X more k (2 * (X / 2 ^ k + 1)) = -1 := by
 have hd := Nat.div_add_mod X (2 ^ k)
 have hm := Nat.mod_lt X (Nat.pow_pos (n := k) (show 0 < 2 by decide))
 unfold cxX
 rw [zDn hk, zDn hk, Nat.add_mul, Nat.one_mul, Nat.mul_comm]
 refine ⟨?_, by rw [if_pos (by omega)]⟩
 rw [if_neg (by omega)]
 split
 · cases more <;> decide
 · decide
theorem zKU {X : Nat} {more : Bool} {k i j : Nat} (h : i ≤ j) (hj : 0 ≤ cxX X more k j) : 0 ≤ cxX X more k i := by
 have hm : i * 2 ^ (k - 1) ≤ j * 2 ^ (k - 1) := Nat.mul_le_mul_right _ h
 unfold cxX at *
 split at hj
 · exact absurd hj (by decide)
 · rw [if_neg (by omega)]
   split
   · cases more <;> decide
   · decide
theorem zKb (s : Bool) {X X' : Nat} {more more' : Bool} {k k' : Nat} (hk : 1 ≤ k) (hk' : 1 ≤ k') (h : ∀ j, cxX X more k j = cxX X' more' k' j) (mode : Int) :
 X / 2 ^ k + (if raw s (X / 2 ^ k) (rcm X more k) (rex X more k) mode then 1 else 0) = X' / 2 ^ k' + (if raw s (X' / 2 ^ k') (rcm X' more' k') (rex X' more' k') mode then 1 else 0) := by
 have hc : cxX X more k = cxX X' more' k' := funext h
 rw [zMI s X more hk, zMI s X' more' hk', hc]
 have l1 := zOR X more hk
 have l2 := zOR X' more' hk'
 rw [hc] at l1
 have hn : X / 2 ^ k = X' / 2 ^ k' := by
  rcases Nat.lt_trichotomy (X / 2 ^ k) (X' / 2 ^ k') with h1 | h1 | h1
  · have := zKU (i := 2 * (X / 2 ^ k + 1)) (by omega) l2.1; omega
  · exact h1
  · have := zKU (i := 2 * (X' / 2 ^ k' + 1)) (by omega) l1.1; omega
 rw [hn]
theorem zHw (s : Bool) (X : Nat) (E : Int) (more : Bool) (q : Int) (k : Nat) (hk : 1 ≤ k) (hq : q = E + k) (mode : Int) :
 zE3 s X E more q mode = X / 2 ^ k + if raw s (X / 2 ^ k) (rcm X more k) (rex X more k) mode then 1 else 0 := by
 have e : (q - E).toNat = k := by omega
 have h1 : ¬ q ≤ E := by omega
 unfold zE3 rax rdn
 simp only [if_neg h1, e]
theorem zKV {P Q X : Nat} {more : Bool} (hQ : 0 < Q) (hX : X = P / Q) (hm : more = decide (P % Q ≠ 0)) (k j : Nat) :
 cxX X more k j = zAr (P : Int) ((j * 2 ^ (k - 1) * Q : Nat) : Int) := (zPJ hQ hX hm).symm
theorem zLJ {A B k i : Nat} : A * 2 ^ (k + i) / B / 2 ^ i = A * 2 ^ k / B := by
 rw [Nat.pow_add, ← Nat.mul_assoc, Nat.div_div_eq_div_mul, Nat.mul_div_mul_right _ _ (Nat.pow_pos (by decide))]
theorem zLU {M t : Nat} (h1 : t * t ≤ M) (h2 : M < (t + 1) * (t + 1)) : isq M = t := by
 have k1 := zDI M
 have k2 := zDH M
 rcases Nat.lt_trichotomy (isq M) t with h | h | h
 · have := zId (show isq M + 1 ≤ t by omega); omega
 · exact h
 · have := zId (show t + 1 ≤ isq M by omega); omega
theorem zHX {M : Nat} (k j : Nat) : cxX (isq M) (decide (isq M * isq M ≠ M)) k j = zAr (M : Int) ((j * 2 ^ (k - 1) * (j * 2 ^ (k - 1)) : Nat) : Int) := by
 have k1 := zDI M
 have k2 := zDH M
 unfold cxX
 generalize j * 2 ^ (k - 1) = Y
 rcases Nat.lt_trichotomy (isq M) Y with h | h | h
 · have := zId (show isq M + 1 ≤ Y by omega)
   rw [if_pos h, zAT (by omega)]
 · subst h
   rw [if_neg (by omega), if_pos rfl]
   by_cases he : isq M * isq M = M
   · rw [zBZ (by omega)]; simp [he]
   · rw [zB1 (by omega)]; simp [he]
 · have := zOb h
   rw [if_neg (by omega), if_neg (by omega), zB1 (by omega)]
theorem zLV (M i : Nat) : isq (M * 2 ^ (2 * i)) / 2 ^ i = isq M := by
 have k1 := zDI (M * 2 ^ (2 * i))
 have k2 := zDH (M * 2 ^ (2 * i))
 have hp : 0 < 2 ^ i := Nat.pow_pos (by decide)
 have e : 2 ^ (2 * i) = 2 ^ i * 2 ^ i := by rw [← Nat.pow_add]; congr 1; omega
 rw [e] at k1 k2 ⊢
 have hd := Nat.div_add_mod (isq (M * (2 ^ i * 2 ^ i))) (2 ^ i)
 have hm := Nat.mod_lt (isq (M * (2 ^ i * 2 ^ i))) hp
 generalize isq (M * (2 ^ i * 2 ^ i)) = r at *
 generalize 2 ^ i = D at *
 refine (zLU ?_ ?_).symm
 · refine Nat.le_of_mul_le_mul_right (c := D * D) ?_ (Nat.mul_pos hp hp)
   refine Nat.le_trans ?_ k1
   have := zId (show D * (r / D) ≤ r by omega)
   refine Nat.le_trans (Nat.le_of_eq ?_) this
   ac_rfl
 · refine Nat.lt_of_mul_lt_mul_right (a := D * D) ?_
   refine Nat.lt_of_lt_of_le k2 ?_
   have h3 : r + 1 ≤ D * (r / D + 1) := by rw [Nat.mul_add, Nat.mul_one]; omega
   have := zId h3
   refine Nat.le_trans this (Nat.le_of_eq ?_)
   ac_rfl
theorem zES (s : Bool) {X X' : Nat} {E E' : Int} {more more' : Bool} (mode : Int) (hb : 53 < zA4 X) (hb' : 53 < zA4 X') (hq : E + zA4 X = E' + zA4 X')
 (h : ∀ k k' j : Nat, 1 ≤ k → 1 ≤ k' → E + (k : Int) = E' + (k' : Int) → cxX X more k j = cxX X' more' k' j) : zCf s X E more mode = zCf s X' E' more' mode := by
 have hr : rlg X E = rlg X' E' := by unfold rlg; omega
 obtain ⟨q, hqq⟩ : ∃ q, q = max (rlg X' E' - 52) (-1074) := ⟨_, rfl⟩
 have h1 : E + 1 ≤ q := by rw [hqq, ← hr]; unfold rlg; omega
 have h2 : E' + 1 ≤ q := by rw [hqq]; unfold rlg; omega
 have k1 : 1 ≤ (q - E).toNat := by omega
 have k2 : 1 ≤ (q - E').toNat := by omega
 have k3 : q = E + ((q - E).toNat : Int) := by omega
 have k4 : q = E' + ((q - E').toNat : Int) := by omega
 unfold zCf zND
 rw [hr, ← hqq, zHw s X E more q (q - E).toNat k1 k3 mode, zHw s X' E' more' q (q - E').toNat k2 k4 mode,
  zKb s k1 k2 (fun j => h _ _ j k1 k2 (by omega)) mode]
theorem zGp (s : Bool) {A B k i : Nat} (E : Int) (mode : Int) (hB : 0 < B) (hb : 53 < zA4 (A * 2 ^ k / B)) :
 zCf s (A * 2 ^ (k + i) / B) (E - ((k + i : Nat) : Int)) (decide (A * 2 ^ (k + i) % B ≠ 0)) mode = zCf s (A * 2 ^ k / B) (E - (k : Nat)) (decide (A * 2 ^ k % B ≠ 0)) mode := by
 have hg := @zLJ A B k i
 have hl1 : zA4 (A * 2 ^ (k + i) / B) = zA4 (A * 2 ^ k / B) + i := by
  have hl := @zEu (A * 2 ^ (k + i) / B) i
  rw [hg] at hl; exact hl (by omega)
 refine zES s mode (by rw [hl1]; omega) hb (by rw [hl1]; omega) fun a b j ha hb2 hab => ?_
 rw [zKV hB rfl rfl, zKV hB rfl rfl]
 refine zEY (p := 1) (q := 2 ^ i) (by decide) (Nat.pow_pos (by decide)) ?_ ?_
 · rw [Nat.mul_one, Nat.pow_add, Nat.mul_assoc]
 · have e : a - 1 = (b - 1) + i := by omega
   rw [e, Nat.pow_add]; simp only [Nat.mul_one]; ac_rfl
theorem zIL (s : Bool) {A B k k' : Nat} (E : Int) (mode : Int) (hB : 0 < B) (hb : 53 < zA4 (A * 2 ^ k / B)) (hb' : 53 < zA4 (A * 2 ^ k' / B)) :
 zCf s (A * 2 ^ k / B) (E - (k : Nat)) (decide (A * 2 ^ k % B ≠ 0)) mode = zCf s (A * 2 ^ k' / B) (E - (k' : Nat)) (decide (A * 2 ^ k' % B ≠ 0)) mode := by
 rcases Nat.le_total k k' with h | h
 · obtain ⟨i, rfl⟩ : ∃ i, k' = k + i := ⟨k' - k, by omega⟩
   exact (zGp s E mode hB hb).symm
 · obtain ⟨i, rfl⟩ : ∃ i, k = k' + i := ⟨k - k', by omega⟩
   exact zGp s E mode hB hb'
theorem zIK (M i : Nat) (E : Int) (mode : Int) (hb : 53 < zA4 (isq M)) :
 zCf false (isq (M * 2 ^ (2 * i))) (E - (i : Nat)) (decide (isq (M * 2 ^ (2 * i)) * isq (M * 2 ^ (2 * i)) ≠ M * 2 ^ (2 * i))) mode = zCf false (isq M) E (decide (isq M * isq M ≠ M)) mode := by
 have hg := zLV M i
 have hl1 : zA4 (isq (M * 2 ^ (2 * i))) = zA4 (isq M) + i := by
  have hl := @zEu (isq (M * 2 ^ (2 * i))) i
  rw [hg] at hl; exact hl (by omega)
 refine zES false mode (by omega) hb (by omega) fun a b j ha hb2 hab => ?_
 rw [zHX, zHX]
 refine zEY (p := 1) (q := 2 ^ (2 * i)) (by decide) (Nat.pow_pos (by decide)) (by rw [Nat.mul_one]) ?_
 have e : a - 1 = (b - 1) + i := by omega
 have e2 : 2 ^ (2 * i) = 2 ^ i * 2 ^ i := by rw [← Nat.pow_add]; congr 1; omega
 rw [e, Nat.pow_add, e2]; simp only [Nat.mul_one]; ac_rfl
theorem zGX {m k k' : Nat} (e : Int) (mode : Int) (h1 : (e - (k : Nat)) % 2 = 0) (h2 : (e - (k' : Nat)) % 2 = 0) (hb : 53 < zA4 (isq (m * 2 ^ k))) (hb' : 53 < zA4 (isq (m * 2 ^ k'))) :
 zCf false (isq (m * 2 ^ k)) ((e - (k : Nat)) / 2) (decide (isq (m * 2 ^ k) * isq (m * 2 ^ k) ≠ m * 2 ^ k)) mode = zCf false (isq (m * 2 ^ k')) ((e - (k' : Nat)) / 2) (decide (isq (m * 2 ^ k') * isq (m * 2 ^ k') ≠ m * 2 ^ k')) mode := by
 have key : ∀ (a b : Nat), a ≤ b → (e - (a : Nat)) % 2 = 0 → (e - (b : Nat)) % 2 = 0 → 53 < zA4 (isq (m * 2 ^ a)) →
  zCf false (isq (m * 2 ^ b)) ((e - (b : Nat)) / 2) (decide (isq (m * 2 ^ b) * isq (m * 2 ^ b) ≠ m * 2 ^ b)) mode = zCf false (isq (m * 2 ^ a)) ((e - (a : Nat)) / 2) (decide (isq (m * 2 ^ a) * isq (m * 2 ^ a) ≠ m * 2 ^ a)) mode := by
  intro a b hab ha hb' hbl
  obtain ⟨i, rfl⟩ : ∃ i, b = a + 2 * i := ⟨(b - a) / 2, by omega⟩
  have h := zIK (m * 2 ^ a) i ((e - (a : Nat)) / 2) mode hbl
  have e1 : m * 2 ^ (a + 2 * i) = m * 2 ^ a * 2 ^ (2 * i) := by rw [Nat.pow_add, Nat.mul_assoc]
  have e2 : (e - ((a + 2 * i : Nat) : Int)) / 2 = (e - (a : Nat)) / 2 - (i : Nat) := by omega
  rw [e1, e2]; exact h
 rcases Nat.le_total k k' with h | h
 · exact (key k k' h h1 h2 hb).symm
 · exact key k' k h h2 h1 hb'
end Go.Proofs.YtablcbgeeeboeaaGreatDoor

/-
  Walks: the reference's dyads: Up, Cut.
-/
import Derived.Test.YtablcbgeeeboeaaGreatDoorZhRt
import Derived.Test.YtablcbgeeeboeaaGreatDoorZhCm
import Derived.Deep.DeepCutAuto
import Derived.Test.YtablcbgeeeboeaaGreatDoorZhBg
import Derived.Test.YtablcbgeeeboeaaGreatDoorZhGi
set_option maxRecDepth 100000
set_option maxHeartbeats 20000000
namespace Go.Proofs.YtablcbgeeeboeaaGreatDoor
open Go.RowKit Sp
theorem zJW {x : Nat} (h0 : x ≠ 0) (ht : tz x = 0) : x % 2 = 1 := by
 have := zJX (Nat.pos_of_ne_zero h0)
 rw [ht, Nat.pow_zero, Nat.div_one] at this
 exact this
theorem zLH (x : Nat) (more : Bool) : rcm x more 0 = -1 := by
 unfold rcm
 rw [show x % 2 ^ 0 = 0 by omega, show ((2 ^ (0 - 1) : Nat) : Int) = 1 by rfl]
 rfl
theorem zNe (x : Nat) (more : Bool) (m : Nat) : rcm x more (m + 1) = if (x / 2 ^ m) % 2 = 0 then -1 else if more || decide (x % 2 ^ m ≠ 0) then 1 else 0 := by
 unfold rcm
 rw [show m + 1 - 1 = m by omega]
 have hp : 0 < 2 ^ m := Nat.pow_pos (by decide)
 have h1 : x % 2 ^ (m + 1) = x % 2 ^ m + 2 ^ m * ((x / 2 ^ m) % 2) := by rw [Nat.pow_succ, Nat.mod_mul]
 rw [h1]
 have h2 := Nat.mod_lt x hp
 generalize x % 2 ^ m = r at h2 ⊢
 generalize 2 ^ m = P at hp h2 ⊢
 rcases Nat.mod_two_eq_zero_or_one (x / P) with h | h
 · rw [h, Nat.mul_zero, Nat.add_zero]
   have : zAr (r : Int) (P : Int) = -1 := by unfold zAr; rw [if_pos (by omega)]
   rw [this]
   simp
 · rw [h, Nat.mul_one]
   by_cases hr : r = 0
   · have : zAr ((r + P : Nat) : Int) (P : Int) = 0 := by unfold zAr; rw [if_neg (by omega), if_neg (by omega)]
     rw [this]
     cases more <;> simp [hr]
   · have : zAr ((r + P : Nat) : Int) (P : Int) = 1 := by unfold zAr; rw [if_neg (by omega), if_pos (by omega)]
     rw [this]
     simp [hr]
def upB (neg : Bool) (half : Int) (odd : Bool) (mode : Int) : Bool := if mode = 1 then neg else if mode = 2 then !neg else if mode = 3 then false else decide (0 < half) || (decide (half = 0) && odd)
theorem zOp (s : Bool) (n : Nat) (c : Int) (mode : Int) : raw s n c false mode = upB s c (decide (n % 2 = 1)) mode := rfl
theorem zN8 (w : World) (neg odd : Bool) (half mode : Int) :
 Calls Tryz.prog 181 #[.bool neg, .int .i64 half, .bool odd, .int .i64 mode] w fun e w' => e = .returned (.bool (upB neg half odd mode)) ∧ Below w.heap.size w w' := by
 by_cases h1 : mode = 1
 · subst h1
   rw [show upB neg half odd 1 = neg from rfl]
   go_enter Tryz.func181, Tryz.ntmps181
   go_wp2_with fail
   go_ret
   exact ⟨rfl, Below.refl _ _⟩
 · by_cases h2 : mode = 2
   · subst h2
     rw [show upB neg half odd 2 = !neg from rfl]
     go_enter Tryz.func181, Tryz.ntmps181
     go_wp2_with fail
     go_ret
     exact ⟨rfl, Below.refl _ _⟩
   · by_cases h3 : mode = 3
     · subst h3
       rw [show upB neg half odd 3 = false from rfl]
       go_enter Tryz.func181, Tryz.ntmps181
       go_wp2_with fail
       go_ret
       exact ⟨rfl, Below.refl _ _⟩
     · have k1 : (mode == 1) = false := by simpa using h1
       have k2 : (mode == 2) = false := by simpa using h2
       have k3 : (mode == 3) = false := by simpa using h3
       rw [show upB neg half odd mode = (decide (0 < half) || (decide (half = 0) && odd)) by unfold upB; rw [if_neg h1, if_neg h2, if_neg h3]]
       clear h1 h2 h3
       rcases Int.lt_trichotomy half 0 with h | h | h
       · have e1 : decide (0 < half) = false := by simp; omega
         have e2 : (half == 0) = false := by rw [beq_eq_false_iff_ne]; omega
         have e3 : decide (half = 0) = false := by simp; omega
         rw [e1, e3]
         clear h
         go_enter Tryz.func181, Tryz.ntmps181
         go_wp2_with fail
         go_ret
         exact ⟨rfl, Below.refl _ _⟩
       · subst h
         rw [show (decide ((0 : Int) < 0) || (decide ((0 : Int) = 0) && odd)) = odd by simp]
         go_enter Tryz.func181, Tryz.ntmps181
         go_wp2_with fail
         go_ret
         exact ⟨rfl, Below.refl _ _⟩
       · have e1 : decide (0 < half) = true := by simpa using h
         rw [e1, Bool.true_or]
         clear h
         go_enter Tryz.func181, Tryz.ntmps181
         go_wp2_with fail
         go_ret
         exact ⟨rfl, Below.refl _ _⟩
def zO6 (s : Bool) (x n : Nat) (more : Bool) (mode : Int) : Nat := x / 2 ^ n + if raw s (x / 2 ^ n) (rcm x more n) (rex x more n) mode then 1 else 0
attribute [local irreducible] Calls
theorem zMM (q : Nat) : decide (q % 2 = 1) = (decide (q ≠ 0) && decide (tz q = 0)) := by
 by_cases h : q = 0
 · subst h; rfl
 · by_cases t : tz q = 0
   · rw [decide_eq_true (zJW h t), decide_eq_true h, decide_eq_true t]; rfl
   · rw [decide_eq_false t, Bool.and_false, decide_eq_false]
     intro k; exact t (zJ3 k)
theorem zEe {L : World} {b : Nat} {s : Bool} {sl : Value} [h : BB L b s sl] {n : Nat} {a : Option Addr} (f : 0 < n → L.heap.size ≤ ab a) : 0 < n → ab a ≠ b :=
 fun k e => by have := f k; have := h.out.lt; omega
theorem zID (W : World) (b : Nat) {L : World} [f : From L W] {s : Bool} {sl : Value} [h : BB L b s sl] : ¬ W.heap.size = b ∧ ¬ b = W.heap.size := by
 have := f.out.size; have := h.out.lt; omega
theorem zJm (z : Int) : (sg z != 0) = decide (z.natAbs ≠ 0) := by
 rw [Bool.eq_iff_iff, bne_iff_ne, decide_eq_true_eq]
 rcases zBy z with ⟨s, q⟩ | ⟨s, q⟩ | ⟨s, q⟩ <;> rw [s] <;> omega
theorem zLG (w : World) (hT : Tab w) (neg more : Bool) (a : Option Addr) (cap x n : Nat) (mode : Int) (hx : Mag w a (nl x) cap x) (hl : nl x ≤ 549755813888) (hn : n ≤ 1048576) (v : Int) (hv : v = ((zO6 neg x n more mode : Nat) : Int)) :
 Calls Tryz.prog 167 #[.bool neg, .agg #[.bool false, .slice a (nl x) cap], .int .i64 n, .bool more, .int .i64 mode] w (zAj w v) := by
 have HT : Tb w := ⟨hT⟩
 have HM : BI w a (nl x) cap x := ⟨hx⟩
 have hd : ∀ k : Nat, nl (((x / 2 ^ k : Nat) : Int)).natAbs ≤ 549755813888 := fun k => Nat.le_trans (zAR (Nat.div_le_self _ _)) hl
 have HD := fun W [i : BI W a (nl x) cap x] => Lib.hid (frb (zE4 W a (nl x) cap x n i.out hl hn))
 have HL := fun W [i : BI W a (nl x) cap x] => Lib.hid (frm (zG2 W false a (nl x) cap x n i.out hl hn))
 obtain ⟨Q, hQ⟩ : ∃ Q : Int, Q = ((x / 2 ^ n : Nat) : Int) := ⟨_, rfl⟩
 have lQ := hd n
 have hQa : Q.natAbs = x / 2 ^ n := by rw [hQ]; exact Int.natAbs_natCast _
 rw [← hQ] at HD lQ
 obtain ⟨lb, hlb⟩ : ∃ lb, lb = decide (x % 2 ^ n ≠ 0) := ⟨_, rfl⟩
 rw [← hlb] at HL
 by_cases hex : (lb || more) = false
 · have e1 : lb = false := by revert hex; cases lb <;> simp
   have e2 : more = false := by revert hex; cases more <;> simp
   have hvQ : v = Q := by
    rw [hv, hQ]; unfold zO6 rex raw
    rw [e2, show decide (x % 2 ^ n = 0) = true by rw [e1] at hlb; simpa using hlb.symm]; simp
   subst hvQ e1 e2
   clear hv hQ hlb hex hQa lQ hd
   go_enter Tryz.func167, Tryz.ntmps167
   go_wp2_with fail
   refine (HD _).out.mono ?_
   rintro e w1 ⟨a1, c1, rfl, i1, b1, f1⟩
   go_wp2_with fail
   refine (HL _).out.mono ?_
   rintro e w2 ⟨rfl, b2⟩
   go_wp2_with fail
   refine bodyPost_ret (v := .agg #[.bool (decide (v < 0)), .slice a1 (nl v.natAbs) c1]) (by simp only [results, Tryz.results167]; go_simp) rfl ?_
   exact ⟨a1, c1, rfl, (by repeat (first | exact i1.out.on | refine Mag.set ?_ (zEe f1) _ _)), zbh, zBN b1 f1⟩
 · have hup : ∃ H : Int, H = rcm x more n := ⟨_, rfl⟩
   obtain ⟨H, hH⟩ := hup
   have hv2 : v = Q + if upB neg H (decide (Q.natAbs ≠ 0) && decide (tz Q.natAbs = 0)) mode then 1 else 0 := by
    rw [hv, hQ, Int.natAbs_natCast, ← zMM, ← zOp, hH]; unfold zO6 rex
    rw [show (decide (x % 2 ^ n = 0) && !more) = false by
     revert hex; rw [hlb]; by_cases h0 : x % 2 ^ n = 0 <;> cases more <;> simp [h0]]
    split <;> simp
   have HG := fun W b c [i : BI W b (nl Q.natAbs) c Q.natAbs] => Lib.hid (frm (zCR W b c Q _ rfl i.out lQ))
   have HZ := fun W b c [i : BI W b (nl Q.natAbs) c Q.natAbs] [Tb W] => Lib.hid (frm (zCh W tb (decide (Q < 0)) b (nl Q.natAbs) c Q.natAbs i.out (by omega)))
   have HA := fun W b c b' c' [i : BI W b (nl Q.natAbs) c Q.natAbs] [j : BI W b' (nl (1 : Int).natAbs) c' (1 : Int).natAbs] => Lib.hid (frb (zJN W b b' c c' Q 1 _ rfl i.out j.out lQ (by decide)))
   obtain ⟨g, hg⟩ : ∃ g, g = (sg Q : Int) := ⟨_, rfl⟩
   obtain ⟨tq, htq⟩ : ∃ t : Int, t = (tz Q.natAbs : Int) := ⟨_, rfl⟩
   have hgz : (g != 0) = decide (Q.natAbs ≠ 0) := by rw [hg]; exact zJm Q
   have htz : (tq == 0) = decide (tz Q.natAbs = 0) := by rw [htq, Bool.eq_iff_iff]; simp
   rw [← hg] at HG
   rw [← htq] at HZ
   rw [← hgz, ← htz] at hv2
   replace hv2 := Lib.hid hv2
   obtain ⟨o, ho⟩ : ∃ o : Int, o = 1 := ⟨_, rfl⟩
   rw [← ho] at HA
   have HO := fun W => Lib.hid (show Calls Tryz.prog 99 #[.int .i64 1] W fun e w' => ∃ a c, e = .returned (.agg #[.bool (decide (o < 0)), .slice a (nl o.natAbs) c]) ∧ BI w' a (nl o.natAbs) c o.natAbs ∧ From W w' ∧ (0 < nl o.natAbs → W.heap.size ≤ ab a) from by
    rw [ho]; exact frb (zCy W 1 (by omega) (by omega)))
   obtain ⟨mr, hmr⟩ : ∃ mr, mr = more := ⟨_, rfl⟩
   have HHv0 : n = 0 ∧ H = -1 ∨ ∃ m, n = m + 1 ∧ H = if (x / 2 ^ m) % 2 = 0 then -1 else if mr || decide (x % 2 ^ m ≠ 0) then 1 else 0 := by
    rw [hmr]
    rcases Nat.eq_zero_or_pos n with h | h
    · left; refine ⟨h, ?_⟩; rw [hH, h, zLH]
    · right; exact ⟨n - 1, by omega, by rw [hH]; rw [show n = n - 1 + 1 by omega]; exact zNe _ _ _⟩
   have HHv := Lib.hid HHv0
   have ho2 := Lib.hid ho
   clear hv hQ hlb hQa hgz htz hg htq ho hH HHv0
   generalize hQn : nl Q.natAbs = nq at *
   go_enter Tryz.func167, Tryz.ntmps167
   go_wp2_with fail
   refine (HD _).out.mono ?_
   rintro e w1 ⟨a1, c1, rfl, i1, b1, f1⟩
   go_wp2_with fail
   refine (HL _).out.mono ?_
   rintro e w2 ⟨rfl, b2⟩
   go_upto_region 3 with fail
   go_cut [27] (fun t wx => t = .bool false ∧ From w2 wx)
   case first =>
    cases lb
    · cases more
      · exact absurd rfl hex
      · go_wp2_with fail
        go_meet
        exact ⟨rfl, ⟨zbh⟩⟩
    · go_wp2_with fail
      go_meet
      exact ⟨rfl, ⟨zbh⟩⟩
   case rest =>
   obtain ⟨rfl, b3⟩ := hcut
   generalize wc = v1 at *
   clear hex HL
   go_upto_if 30 with fail
   go_cut [13] (fun h wx => h = .int .i64 H ∧ From v1 wx)
   case first =>
    rcases HHv.out with ⟨h0, hH⟩ | ⟨m, h0, hH⟩
    · subst h0 hH
      go_wp2_with fail
      go_meet
      exact ⟨rfl, ⟨zbh⟩⟩
    · subst h0
      have HE := fun W [i : BI W a (nl x) cap x] => Lib.hid (frb (zE4 W a (nl x) cap x m i.out hl (by omega)))
      have HK := fun W [i : BI W a (nl x) cap x] => Lib.hid (frm (zG2 W false a (nl x) cap x m i.out hl (by omega)))
      have lD := hd m
      obtain ⟨D, hD⟩ : ∃ D : Int, D = ((x / 2 ^ m : Nat) : Int) := ⟨_, rfl⟩
      rw [← hD] at HE lD
      have HY := fun W b c [i : BI W b (nl D.natAbs) c D.natAbs] [Tb W] => Lib.hid (frm (zCh W tb (decide (D < 0)) b (nl D.natAbs) c D.natAbs i.out (by omega)))
      have HF := fun W b c [i : BI W b (nl D.natAbs) c D.natAbs] => Lib.hid (frm (zCR W b c D _ rfl i.out lD))
      obtain ⟨tD, htD⟩ : ∃ t : Int, t = (tz D.natAbs : Int) := ⟨_, rfl⟩
      obtain ⟨gD, hgD⟩ : ∃ g, g = (sg D : Int) := ⟨_, rfl⟩
      obtain ⟨lk, hlk⟩ : ∃ l, l = decide (x % 2 ^ m ≠ 0) := ⟨_, rfl⟩
      have ho : decide ((x / 2 ^ m) % 2 = 1) = ((gD != 0) && (tD == 0)) := by
       rw [zMM, hgD, htD, zJm, hD, Int.natAbs_natCast]; congr 1; rw [Bool.eq_iff_iff]; simp
      rw [← htD] at HY
      rw [← hgD] at HF
      rw [← hlk] at HK hH
      have hm1 : ((m + 1 : Nat) : Int) - 1 = m := by omega
      have hm2 : IntKind.i64.wrap (((m + 1 : Nat) : Int) - 1) = m := by rw [IntKind.wrap_i64]; omega
      have hm0 : (0 : Int) < ((m + 1 : Nat) : Int) := by omega
      have hH2 : H = if decide ((x / 2 ^ m) % 2 = 1) then (if mr || lk then 1 else 0) else -1 := by
       rw [hH]; rcases Nat.mod_two_eq_zero_or_one (x / 2 ^ m) with q | q <;> simp [q]
      rw [ho, hmr] at hH2
      clear ho hH hlk htD hgD hD hd hmr HHv hv2 HA HO HD HG HZ
      generalize ((m + 1 : Nat) : Int) = n1 at *
      generalize D.natAbs = nD at *
      generalize nl nD = nnD at *
      have hw : ∀ _ : Unit, (¬ tD = 0 ∧ (tD == 0) = false ∧ H = -1) ∨ (tD = 0 ∧ gD = 0 ∧ H = -1) ∨ (tD = 0 ∧ (gD != 0) = true ∧ more = true ∧ H = 1) ∨ (tD = 0 ∧ (gD != 0) = true ∧ more = false ∧ lk = true ∧ H = 1) ∨ (tD = 0 ∧ (gD != 0) = true ∧ more = false ∧ lk = false ∧ H = 0) := fun _ => by
       by_cases q1 : tD = 0
       · by_cases q2 : gD = 0
         · right; left; exact ⟨q1, q2, by rw [hH2]; simp [q2]⟩
         · have q3 : (gD != 0) = true := by simpa using q2
           right; right
           rw [q3, q1] at hH2
           cases more
           · right; cases lk
             · right; exact ⟨q1, q3, rfl, rfl, hH2⟩
             · left; exact ⟨q1, q3, rfl, rfl, hH2⟩
           · left; exact ⟨q1, q3, rfl, by rw [hH2]; simp⟩
       · left
         have q2 : (tD == 0) = false := by simpa using q1
         exact ⟨q1, q2, by rw [hH2]; simp [q2]⟩
      clear hH2
      rcases hw () with ⟨q1, q2, rfl⟩ | ⟨rfl, rfl, rfl⟩ | ⟨rfl, q2, rfl, rfl⟩ | ⟨rfl, q2, rfl, rfl, rfl⟩ | ⟨rfl, q2, rfl, rfl, rfl⟩
      all_goals (
       clear hw
       go_wp2_with fail
       refine (HE _).out.mono ?_
       rintro e w3 ⟨a3, c3, rfl, i3, b3, f3⟩
       go_wp2_with fail
       refine (HY _ _ _).out.mono ?_
       rintro e w4 ⟨rfl, b4⟩
       go_wp2_with fail
       (try (refine (HF _ _ _).out.mono ?_; rintro e w5 ⟨rfl, b5⟩; go_wp2_with fail))
       (try (refine (HK _).out.mono ?_; rintro e w6 ⟨rfl, b6⟩; go_wp2_with fail))
       go_meet
       exact ⟨rfl, ⟨zbh⟩⟩)
   case rest =>
   obtain ⟨rfl, b4⟩ := hcut
   generalize wc = v2 at *
   clear HD HHv hmr hd
   have hod : ∀ _ : Unit, (g = 0 ∧ (g != 0 && tq == 0) = false) ∨ ((g != 0) = true ∧ tq = 0 ∧ (g != 0 && tq == 0) = true) ∨ ((g != 0) = true ∧ ¬ tq = 0 ∧ (tq == 0) = false ∧ (g != 0 && tq == 0) = false) := fun _ => by
    by_cases q2 : g = 0
    · left; exact ⟨q2, by rw [q2]; rfl⟩
    · right
      have q3 : (g != 0) = true := by simpa using q2
      by_cases q1 : tq = 0
      · left; exact ⟨q3, q1, by rw [q3, q1]; rfl⟩
      · right
        have q4 : (tq == 0) = false := by simpa using q1
        exact ⟨q3, q1, q4, by rw [q4, Bool.and_false]⟩
   obtain ⟨od, hodd⟩ : ∃ od, od = (g != 0 && tq == 0) := ⟨_, rfl⟩
   have hv4 := hv2.out
   rw [← hodd] at hv4 hod
   have HU := fun W => Lib.hid (frm (zN8 W neg od H mode))
   clear hv2 hodd
   go_upto_region 12 with fail
   go_cut [15] (fun t wx => t = .bool od ∧ From v2 wx)
   case first =>
    clear hv4 HA HU HO
    rcases hod () with ⟨rfl, rfl⟩ | ⟨q1, rfl, rfl⟩ | ⟨q1, q2, q3, rfl⟩
    all_goals (
     clear hod
     go_wp2_with fail
     refine (HG _ _ _).out.mono ?_
     rintro e w4 ⟨rfl, b4⟩
     go_wp2_with fail
     (try (refine (HZ _ _ _).out.mono ?_; rintro e w5 ⟨rfl, b5⟩; go_wp2_with fail))
     go_meet
     exact ⟨rfl, ⟨zbh⟩⟩)
   case rest =>
   obtain ⟨rfl, b5⟩ := hcut
   clear hod HG HZ
   cases q5 : upB neg H od mode
   · rw [q5] at HU hv4
     have hB : v = Q := by rw [hv4, if_neg (by decide), Int.add_zero]
     clear hv4
     subst hB
     go_wp2_with fail
     refine (HU _).out.mono ?_
     rintro e w6 ⟨rfl, b6⟩
     go_wp2_with fail
     refine bodyPost_ret (v := .agg #[.bool (decide (v < 0)), .slice a1 nq c1]) (by simp only [results, Tryz.results167]; go_simp) rfl ?_
     exact ⟨a1, c1, by rw [hQn], by rw [hQn]; exact (by repeat (first | exact i1.out.on | refine Mag.set ?_ (zEe f1) _ _)), zbh, by rw [hQn]; exact zBN b1 f1⟩
   · rw [q5] at HU hv4
     have hA : Q + o = v := by rw [hv4, ho2.out, if_pos rfl]
     rw [hA] at HA
     clear hA hv4
     go_wp2_with fail
     refine (HU _).out.mono ?_
     rintro e w6 ⟨rfl, b6⟩
     go_wp2_with fail
     obtain ⟨n1, n2⟩ := zID w1 (w.heap.size + 1)
     first
     | go_region_with (first
      | (go_at_call 99; refine (HO _).out.mono ?_; rintro e w7 ⟨a7, c7, rfl, i7, b7, f7⟩)
      | (go_at_call 62; refine (HA _ _ _ _ _).out.mono ?_; rintro e w8 ⟨a8, c8, rfl, i8, b8, f8⟩)
      | fail)
     | fail "region"
     all_goals (
      go_wp2_with fail
      refine bodyPost_ret (v := .agg #[.bool (decide (v < 0)), .slice a8 (nl v.natAbs) c8]) (by simp only [results, Tryz.results167]; go_simp) rfl ?_
      exact ⟨a8, c8, rfl, (by repeat (first | exact i8.out | refine Mag.set ?_ (zEe f8) _ _)), zbh, zBN b8 f8⟩)
end Go.Proofs.YtablcbgeeeboeaaGreatDoor
set_option maxRecDepth 100000
set_option maxHeartbeats 2000000
namespace Go.Proofs.YtablcbgeeeboeaaGreatDoor
open Go.RowKit Sp
def zP1 (w : World) (s : Bool) (x E : Int) (more : Bool) (e : Ending) (w' : World) : Prop :=
 ∃ a c, e = .returned (.agg #[.bool s, .bool (decide (x < 0)), .slice a (nl x.natAbs) c, .int .i64 E, .bool more]) ∧ Mag w' a (nl x.natAbs) c x.natAbs ∧ Below w.heap.size w w' ∧ (0 < nl x.natAbs → w.heap.size ≤ ab a)
theorem zCx (w : World) (s more : Bool) (a : Option Addr) (c : Nat) (x E k : Int) (hx : Mag w a (nl x.natAbs) c x.natAbs) (hl : nl x.natAbs ≤ 1099511627776) (hk : IntKind.i64.wrap (IntKind.i64.wrap (E + (zA4 x.natAbs : Int)) - 1) = k) :
 Calls Tryz.prog 157 #[.agg #[.bool s, .bool (decide (x < 0)), .slice a (nl x.natAbs) c, .int .i64 E, .bool more]] w fun o w' => o = .returned (.int .i64 k) ∧ Below w.heap.size w w' := by
 have HB := fun W b c h => Lib.hid (zCN W b c x h hl)
 go_enter Tryz.func157, Tryz.ntmps157
 go_wp2_with fail
 go_region_held3 (fun w' => w'.cell? ⟨w.heap.size, 1, none⟩ = some (.bool (decide (x < 0))) ∧ w'.cell? ⟨w.heap.size, 2, none⟩ = some (.slice a (nl x.natAbs) c) ∧ w'.cell? ⟨w.heap.size, 3, none⟩ = some (.int .i64 E)) (first | (go_keep; done) | (go_simp; done))
  (first | (go_at_call 148; refine (HB _ a c (hx.below zbh)).out.mono ?_; rintro e w3 ⟨rfl, hb3⟩; obtain ⟨hc3, hz3⟩ := zA8 (hb3.mono (show w.heap.size + 1 ≤ _ by simp))))
 have hbw := zA0 (w := w) zbh hb3
 go_wp2_with fail
 go_ret
 exact ⟨rfl, (have := Beh.mk hbw; zbh)⟩
theorem zOx (w : World) (bd : Bool) (a : Option Addr) (c : Nat) (z f y : Int) (hx : Mag w a (nl z.natAbs) c z.natAbs) (hl : nl z.natAbs ≤ 1099511627776) (hy : y = (z.natAbs : Int)) :
 Calls Tryz.prog 130 #[.agg #[.bool bd, .bool (decide (z < 0)), .slice a (nl z.natAbs) c, .int .i64 f]] w (zP1 w (decide (z < 0)) y f false) := by
 have HA := fun W b c h => Lib.hid (zGC W b c z y hy h hl)
 clear hy
 have e1 : ¬ w.heap.size + 1 = w.heap.size := by omega
 go_enter Tryz.func130, Tryz.ntmps130
 go_wp2_with fail
 go_region_held3 (fun w' => w'.cell? ⟨w.heap.size, 1, none⟩ = some (.bool (decide (z < 0))) ∧ w'.cell? ⟨w.heap.size, 2, none⟩ = some (.slice a (nl z.natAbs) c) ∧ w'.cell? ⟨w.heap.size, 3, none⟩ = some (.int .i64 f)) (first | (go_keep; done) | (go_simp; done))
  (first | (go_at_call 159; refine (HA _ a c (hx.below zbh)).out.mono ?_; rintro e w1 ⟨a1, c1, rfl, hm1, hb1, hf1⟩; obtain ⟨hc1, hz1⟩ := zA8 (hb1.mono (show w.heap.size + 2 ≤ _ by simp))))
 have hfr1 : 0 < nl y.natAbs → w.heap.size + 2 ≤ ab a1 := fun h => by have := hf1 h; (try simp at this); omega
 have hbw := zA0 (w := w) zbh hb1
 go_wp2_with fail
 refine bodyPost_ret (v := .agg #[.bool (decide (z < 0)), .bool (decide (y < 0)), .slice a1 (nl y.natAbs) c1, .int .i64 f, .bool false]) (by simp only [results, Tryz.results130]; go_simp) rfl ?_
 exact ⟨a1, c1, rfl, (by repeat (with_reducible first | refine Mag.set ?_ (fun h => by have := hfr1 h; omega) _ _ | refine Mag.drew ?_ | refine Mag.alloc ?_ _ | refine Mag.drewN ?_ _ | refine Mag.below ?_ (Below.drew (Below.refl _ _)) | refine Mag.below ?_ ((Below.refl _ _).alloc (Nat.le_refl _) _) | exact hm1)), (by have hszw := hbw.size; repeat (with_reducible first | refine Below.setCell ?_ (by first | omega | (simp <;> omega)) _ | refine Below.alloc ?_ (by first | omega | (simp <;> omega)) _ | refine Below.drew ?_ | refine below_drewN ?_ _ | exact hbw)), fun h => by have := hfr1 h; omega⟩
def zLd (w : World) (n c : Int) (ex : Bool) (e : Ending) (w' : World) : Prop :=
 ∃ a cap, e = .returned (.tuple #[.agg #[.bool (decide (n < 0)), .slice a (nl n.natAbs) cap], .int .i64 c, .bool ex]) ∧ Mag w' a (nl n.natAbs) cap n.natAbs ∧ Below w.heap.size w w' ∧ (0 < nl n.natAbs → w.heap.size ≤ ab a)
theorem zNS (w : World) (s more : Bool) (a : Option Addr) (c : Nat) (x E k : Int) (hx : Mag w a (nl x.natAbs) c x.natAbs) (hl : nl x.natAbs ≤ 1099511627776) (hk : (zA4 x.natAbs : Int) < k) :
 Calls Tryz.prog 177 #[.agg #[.bool s, .bool (decide (x < 0)), .slice a (nl x.natAbs) c, .int .i64 E, .bool more], .int .i64 k] w (zLd w 0 (-1) false) := by
 have HB := fun W b c h => Lib.hid (zCN W b c x h hl)
 have e1 : ¬ w.heap.size + 1 = w.heap.size := by omega
 go_enter Tryz.func177, Tryz.ntmps177
 go_wp2_with fail
 refine (HB _ a c (hx.below zbh)).out.mono ?_
 rintro e w1 ⟨rfl, hb1⟩
 obtain ⟨hc1, hz1⟩ := zA8 (hb1.mono (show w.heap.size + 2 ≤ _ by simp))
 have hbw := zA0 (w := w) zbh hb1
 go_wp2_with fail
 refine zAa (v := .tuple #[.agg #[.bool false, .slice none 0 0], .int .i64 (-1), .bool false]) (by simp only [results, Tryz.results177]; go_simp) rfl ?_
 exact ⟨none, 0, rfl, Mag.nil _, (have := Beh.mk hbw; zbh), nl0⟩
end Go.Proofs.YtablcbgeeeboeaaGreatDoor
namespace Go.Proofs.YtablcbgeeeboeaaGreatDoor
open Go.RowKit Sp
class N5 (W : World) (b : Nat) (x0 x1 x2 x3 x4 : outParam Value) : Prop where
 c0 : W.cell? ⟨b, 0, none⟩ = some x0
 c1 : W.cell? ⟨b, 1, none⟩ = some x1
 c2 : W.cell? ⟨b, 2, none⟩ = some x2
 c3 : W.cell? ⟨b, 3, none⟩ = some x3
 c4 : W.cell? ⟨b, 4, none⟩ = some x4
 z : ∀ i, W.frozen? ⟨b, i, none⟩ = false
 lt : b < W.heap.size
theorem N5.below {W W' : World} {b : Nat} {x0 x1 x2 x3 x4 : Value} (h : N5 W b x0 x1 x2 x3 x4) (hb : Below W.heap.size W W') : N5 W' b x0 x1 x2 x3 x4 := by
 obtain ⟨h1, h2⟩ := zA8 hb
 exact ⟨(h1 _ _ h.lt).trans h.c0, (h1 _ _ h.lt).trans h.c1, (h1 _ _ h.lt).trans h.c2, (h1 _ _ h.lt).trans h.c3, (h1 _ _ h.lt).trans h.c4, fun i => (h2 _ _ h.lt).trans (h.z i), Nat.lt_of_lt_of_le h.lt hb.size⟩
instance N5.dr (W : World) (b : Nat) (x0 x1 x2 x3 x4 : Value) [h : N5 W b x0 x1 x2 x3 x4] : N5 W.drew b x0 x1 x2 x3 x4 := ⟨h.c0, h.c1, h.c2, h.c3, h.c4, h.z, h.lt⟩
instance N5.dn (W : World) (b : Nat) (x0 x1 x2 x3 x4 : Value) (q : Nat) [h : N5 W b x0 x1 x2 x3 x4] : N5 (W.drewN q) b x0 x1 x2 x3 x4 := ⟨h.c0, h.c1, h.c2, h.c3, h.c4, h.z, h.lt⟩
instance N5.al (W : World) (b : Nat) (x0 x1 x2 x3 x4 : Value) (o : Obj) [h : N5 W b x0 x1 x2 x3 x4] : N5 (W.alloc o) b x0 x1 x2 x3 x4 := N5.below h ((Below.refl _ _).alloc (Nat.le_refl _) _)
instance N5.fr (L w' : World) (b : Nat) (x0 x1 x2 x3 x4 : Value) [f : From L w'] [h : N5 L b x0 x1 x2 x3 x4] : N5 w' b x0 x1 x2 x3 x4 := N5.below h f.out
theorem N5.made (W : World) (t : TypeId) (x0 x1 x2 x3 x4 : Value) {n : Nat} (hn : n = W.heap.size) : N5 (W.alloc (.cells #[x0, x1, x2, x3, x4] t)) n x0 x1 x2 x3 x4 := by
 subst hn
 exact ⟨by rw [World.cell?_alloc_new]; rfl, by rw [World.cell?_alloc_new]; rfl, by rw [World.cell?_alloc_new]; rfl, by rw [World.cell?_alloc_new]; rfl, by rw [World.cell?_alloc_new]; rfl, fun i => by simp [go_sem], by rw [World.size_alloc]; omega⟩
instance N5.mk' (W : World) (t : TypeId) (x0 x1 x2 x3 x4 : Value) (n : Nat) [h : Sz W n] : N5 (W.alloc (.cells #[x0, x1, x2, x3, x4] t)) n x0 x1 x2 x3 x4 := N5.made W t x0 x1 x2 x3 x4 h.out
@[go_sem] theorem N5.r0 (W : World) (b : Nat) {x0 x1 x2 x3 x4 : Value} [h : N5 W b x0 x1 x2 x3 x4] : W.cell? ⟨b, 0, none⟩ = some x0 := h.c0
@[go_sem] theorem N5.r1 (W : World) (b : Nat) {x0 x1 x2 x3 x4 : Value} [h : N5 W b x0 x1 x2 x3 x4] : W.cell? ⟨b, 1, none⟩ = some x1 := h.c1
@[go_sem] theorem N5.r2 (W : World) (b : Nat) {x0 x1 x2 x3 x4 : Value} [h : N5 W b x0 x1 x2 x3 x4] : W.cell? ⟨b, 2, none⟩ = some x2 := h.c2
@[go_sem] theorem N5.r3 (W : World) (b : Nat) {x0 x1 x2 x3 x4 : Value} [h : N5 W b x0 x1 x2 x3 x4] : W.cell? ⟨b, 3, none⟩ = some x3 := h.c3
@[go_sem] theorem N5.r4 (W : World) (b : Nat) {x0 x1 x2 x3 x4 : Value} [h : N5 W b x0 x1 x2 x3 x4] : W.cell? ⟨b, 4, none⟩ = some x4 := h.c4
@[go_sem] theorem N5.rz (W : World) (b i : Nat) {x0 x1 x2 x3 x4 : Value} [h : N5 W b x0 x1 x2 x3 x4] : W.frozen? ⟨b, i, none⟩ = false := h.z i
class DS (w : World) (v s : Bool) (a : Option Addr) (n cap : Nat) (e : Int) (d : outParam (Option (Int × Int))) : Prop where out : DyIs w v s a n cap e d
theorem DyIn.set {W : World} {v s : Bool} {a : Option Addr} {n cap g : Nat} {e : Int} {d : Option (Int × Int)} (h : DyIn W v s a n cap e d) (k : 0 < n → ab a ≠ g) (i : Nat) (u : Value) : DyIn (W.setCell ⟨g, i, none⟩ u) v s a n cap e d := by
 obtain ⟨x, h1, h2⟩ := h; exact ⟨x, h1.set k i u, h2⟩
section
variable {W : World} {v s : Bool} {a : Option Addr} {n cap : Nat} {e : Int} {d : Option (Int × Int)}
instance DS.dr [h : DS W v s a n cap e d] : DS W.drew v s a n cap e d := ⟨h.out.below (Below.refl _ _).drew⟩
instance DS.dn (q : Nat) [h : DS W v s a n cap e d] : DS (W.drewN q) v s a n cap e d := ⟨h.out.below (below_drewN (Below.refl _ _) _)⟩
instance DS.al (o : Obj) [h : DS W v s a n cap e d] : DS (W.alloc o) v s a n cap e d := ⟨h.out.below ((Below.refl _ _).alloc (Nat.le_refl _) _)⟩
instance DS.fr (L : World) [k : From L W] [h : DS L v s a n cap e d] : DS W v s a n cap e d := ⟨h.out.below k.out⟩
instance DS.se {g : Nat} (i : Nat) (u : Value) [h : DS W v s a n cap e d] [k : NA a n g] : DS (W.setCell ⟨g, i, none⟩ u) v s a n cap e d := ⟨h.out.1.set k.out i u, h.out.2⟩
instance DI.se {g : Nat} (i : Nat) (u : Value) [h : DI W v s a n cap e d] [k : NA a n g] : DI (W.setCell ⟨g, i, none⟩ u) v s a n cap e d := ⟨h.out.set k.out i u⟩
end
theorem zBp {w : World} {d : Option (Int × Int)} {a : Option Addr} {c : Nat} (hd : IsN d) (hm : Mag w a (nl (zA1 d).natAbs) c (zA1 d).natAbs) : DyIs w (zA3 d) (decide (zA1 d < 0)) a (nl (zA1 d).natAbs) c (zA2 d) d :=
 ⟨zAI hd hm, Nat.le_trans (zAe _) (Nat.le_trans (zA7 hd).1 (by decide))⟩
theorem frs {P : Program} {f : FuncId} {args : Array Value} {W : World} {d : Option (Int × Int)} (hd : IsN d) (h : Calls P f args W (zAy W d)) :
 Calls P f args W fun e w' => ∃ a c, e = .returned (.agg #[.bool (zA3 d), .bool (decide (zA1 d < 0)), .slice a (nl (zA1 d).natAbs) c, .int .i64 (zA2 d)]) ∧
  DS w' (zA3 d) (decide (zA1 d < 0)) a (nl (zA1 d).natAbs) c (zA2 d) d ∧ From W w' :=
 h.mono fun _ _ ⟨a, c, he, hm, hb, _⟩ => ⟨a, c, he, ⟨zBp hd hm⟩, ⟨hb⟩⟩
theorem zM0 {P : Program} {f : FuncId} {args : Array Value} {W : World} {d : Option (Int × Int)} (hd : IsN d) (h : Calls P f args W (zAy W d)) :
 Calls P f args W fun e w' => ∃ a c, e = .returned (.agg #[.bool (zA3 d), .bool (decide (zA1 d < 0)), .slice a (nl (zA1 d).natAbs) c, .int .i64 (zA2 d)]) ∧
  DS w' (zA3 d) (decide (zA1 d < 0)) a (nl (zA1 d).natAbs) c (zA2 d) d ∧ From W w' ∧ BI w' a (nl (zA1 d).natAbs) c (zA1 d).natAbs ∧ (0 < nl (zA1 d).natAbs → W.heap.size ≤ ab a) :=
 h.mono fun _ _ ⟨a, c, he, hm, hb, hf⟩ => ⟨a, c, he, ⟨zBp hd hm⟩, ⟨hb⟩, ⟨hm⟩, hf⟩
theorem DyV.st4 {W : World} {b : Nat} {v s : Bool} {sl : Value} {f : Int} (h : DyV W b v s sl f) (v' s' : Bool) (sl' : Value) (f' : Int) :
 DyV ((((W.setCell ⟨b, 0, none⟩ (.bool v')).setCell ⟨b, 1, none⟩ (.bool s')).setCell ⟨b, 2, none⟩ sl').setCell ⟨b, 3, none⟩ (.int .i64 f')) b v' s' sl' f' := (DB.pt4 ⟨h⟩ v' s' sl' f').out
instance DB.se4 {W : World} {b : Nat} {v s v' s' : Bool} {sl sl' : Value} {f f' : Int} [h : DB W b v s sl f] :
 DB ((((W.setCell ⟨b, 0, none⟩ (.bool v')).setCell ⟨b, 1, none⟩ (.bool s')).setCell ⟨b, 2, none⟩ sl').setCell ⟨b, 3, none⟩ (.int .i64 f')) b v' s' sl' f' := h.pt4 _ _ _ _
theorem zHF {L : World} {b : Nat} {v s : Bool} {sl : Value} {f : Int} [h : DB L b v s sl f] {n : Nat} {a : Option Addr} (k : 0 < n → L.heap.size ≤ ab a) : 0 < n → ab a ≠ b :=
 fun q e => by have := k q; have := h.out.lt; omega
theorem zEC {d : Option (Int × Int)} (hb : zA3 d = false) : d = some (zA1 d, zA2 d) := by cases d with | none => cases hb | some p => rfl
instance N5.sen {W : World} {b g i : Nat} {v x0 x1 x2 x3 x4 : Value} [h : N5 W b x0 x1 x2 x3 x4] [k : NB b g] : N5 (W.setCell ⟨g, i, none⟩ v) b x0 x1 x2 x3 x4 :=
 ⟨(zAk k.out _ _ _).trans h.c0, (zAk k.out _ _ _).trans h.c1, (zAk k.out _ _ _).trans h.c2, (zAk k.out _ _ _).trans h.c3, (zAk k.out _ _ _).trans h.c4, fun j => (zAn j _ _).trans (h.z j), by rw [World.size_setCell]; exact h.lt⟩
instance NB.n1 (W : World) (b : Nat) {L : World} {x0 x1 x2 x3 x4 : Value} [f : From L W] [h : N5 L b x0 x1 x2 x3 x4] : NB b W.heap.size := ⟨fun e => by have := f.out.size; have := h.lt; omega⟩
instance NB.n0 (W : World) (b : Nat) {x0 x1 x2 x3 x4 : Value} [h : N5 W b x0 x1 x2 x3 x4] : NB b W.heap.size := ⟨fun e => by have := h.lt; omega⟩
end Go.Proofs.YtablcbgeeeboeaaGreatDoor

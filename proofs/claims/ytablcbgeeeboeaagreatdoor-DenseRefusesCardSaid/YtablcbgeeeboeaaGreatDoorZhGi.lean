/-
  Walks: the reference's package sparseref02: Bad, Make, Norm, Valid, Sign.
-/
import Derived.Test.YtablcbgeeeboeaaGreatDoorZhCm
import Derived.Test.YtablcbgeeeboeaaGreatDoorZhBd
set_option maxRecDepth 100000
set_option maxHeartbeats 2000000
namespace Go.Proofs.YtablcbgeeeboeaaGreatDoor
open Go.RowKit Sp
theorem zCk (w : World) :
 Calls Tryz.prog 58 #[] w fun e w' => e = .returned (.agg #[.bool true, .bool false, .slice none 0 0, .int .i64 0]) ∧ Below w.heap.size w w' := by
 go_enter Tryz.func58, Tryz.ntmps58
 go_wp2_with fail
 refine bodyPost_ret (v := .agg #[.bool true, .bool false, .slice none 0 0, .int .i64 0]) (by simp only [results, Tryz.results58]; go_simp) rfl ?_
 exact ⟨rfl, zbh⟩
theorem zIq (w : World) (_hT : Tab w) (s : Bool) (a : Option Addr) (n cap x : Nat) (E : Int) (z : Int) (hz : z = sgn s x) (hx : Mag w a n cap x) (hlim : n ≤ 549755813888) (hz0 : z = 0) :
 Calls Tryz.prog 56 #[.agg #[.bool s, .slice a n cap], .int .i64 E] w (zAy w (some (0, 0))) := by
 haveI hX : BI w a n cap x := ⟨hx⟩
 have HN := fun W [i : BI W a n cap x] => Lib.hid (frb (zBj W s a n cap x i.out (by omega)))
 rw [← hz, hz0] at HN
 clear hz hz0 hx
 go_enter Tryz.func56, Tryz.ntmps56
 go_wp2_with fail
 refine (HN _).out.mono ?_; rintro o w1 ⟨a1, c1, rfl, m1, b1, f1⟩
 have e1 := b1.out.size
 simp at e1
 go_wp2_with fail
 refine bodyPost_ret (v := .agg #[.bool false, .bool false, .slice none 0 0, .int .i64 0]) (by simp only [results, Tryz.results56]; go_simp) rfl ?_
 exact ⟨none, 0, rfl, Mag.nil _, zbh, nl0⟩
theorem zJw (w : World) (_hT : Tab w) (s : Bool) (a : Option Addr) (n cap x : Nat) (E : Int) (z : Int) (hz : z = sgn s x) (hx : Mag w a n cap x) (hlim : n ≤ 549755813888) (hz0 : z ≠ 0) (hE : 65536 < E) :
 Calls Tryz.prog 56 #[.agg #[.bool s, .slice a n cap], .int .i64 E] w (zAy w none) := by
 haveI hX : BI w a n cap x := ⟨hx⟩
 have HN := fun W [i : BI W a n cap x] => Lib.hid (frb (zBj W s a n cap x i.out (by omega)))
 rw [← hz] at HN
 have HB := fun W => Lib.hid (frm (zCk W))
 have hn1 : (((nl z.natAbs : Nat) : Int) == 0) = false := by rw [beq_eq_false_iff_ne]; have := zBB (x := z.natAbs) (by omega); omega
 clear hz hz0 hx
 go_enter Tryz.func56, Tryz.ntmps56
 go_wp2_with fail
 refine (HN _).out.mono ?_; rintro o w1 ⟨a1, c1, rfl, m1, b1, f1⟩
 have e1 := b1.out.size
 simp at e1
 go_wp2_with fail
 refine (HB _).out.mono ?_; rintro o w9 ⟨rfl, b9⟩
 go_wp2_with fail
 refine bodyPost_ret (v := .agg #[.bool true, .bool false, .slice none 0 0, .int .i64 0]) (by simp only [results, Tryz.results56]; go_simp) rfl ?_
 exact ⟨none, 0, rfl, Mag.nil _, zbh, nl0⟩
theorem zFc (w : World) (hT : Tab w) (s : Bool) (a : Option Addr) (n cap x : Nat) (E : Int) (z : Int) (hz : z = sgn s x) (hx : Mag w a n cap x) (hlim : n ≤ 549755813888) (hz0 : z ≠ 0) (u v e : Int) (T bl : Nat) (hu : u = (z.natAbs : Int)) (hTT : T = tz z.natAbs) (hT2 : T ≤ 1048576) (hv : v = ((z.natAbs / 2 ^ T : Nat) : Int)) (hbl : bl = zA4 v.natAbs) (hbl2 : bl ≤ 1048576) (hE0 : -9223372036854775808 ≤ E) (hE : E ≤ 65536) (he : e = E + T) (res : Option (Int × Int))
 (hc : (e < -65536 ∧ res = none) ∨ (-65536 ≤ e ∧ 65536 < e + bl ∧ res = none) ∨ (-65536 ≤ e ∧ e + bl ≤ 65536 ∧ ∃ d : Int, s = decide (d < 0) ∧ v.natAbs = d.natAbs ∧ res = some (d, e))) :
 Calls Tryz.prog 56 #[.agg #[.bool s, .slice a n cap], .int .i64 E] w (zAy w res) := by
 haveI hX : BI w a n cap x := ⟨hx⟩
 haveI hTb : Tb w := ⟨hT⟩
 have hnz : nl z.natAbs ≤ n := by rw [hz, zAb]; exact zAB hx.lt
 have HN := fun W [i : BI W a n cap x] => Lib.hid (frb (zBj W s a n cap x i.out (by omega)))
 rw [← hz] at HN
 have HB := fun W => Lib.hid (frm (zCk W))
 have hn1 : (((nl z.natAbs : Nat) : Int) == 0) = false := by rw [beq_eq_false_iff_ne]; have := zBB (x := z.natAbs) (by omega); omega
 have hE1 : decide ((65536 : Int) < E) = false := decide_eq_false (by omega)
 have HT := fun W b c [Tb W] [i : BI W b (nl z.natAbs) c z.natAbs] => Lib.hid (frm (zCh W tb (decide (z < 0)) b (nl z.natAbs) c z.natAbs i.out (by omega)))
 have HA := fun W b c [i : BI W b (nl z.natAbs) c z.natAbs] => Lib.hid (frb (zHz W (decide (z < 0)) b (nl z.natAbs) c z.natAbs i.out (by omega)))
 have eu : sgn false z.natAbs = u := by rw [hu]; rfl
 rw [eu] at HA
 have huz : u.natAbs = z.natAbs := by omega
 have hu0 : decide (u < 0) = false := decide_eq_false (by omega)
 have HD := fun W b c [i : BI W b (nl u.natAbs) c u.natAbs] => Lib.hid (frb (zE4 W b (nl u.natAbs) c u.natAbs T i.out (by rw [huz]; omega) hT2))
 rw [← hTT] at HT
 rw [huz, ← hv] at HD
 rw [← huz] at HD
 have hvl : nl v.natAbs ≤ 549755813888 := by
  have : v.natAbs ≤ z.natAbs := by rw [hv, Int.natAbs_natCast]; exact Nat.div_le_self z.natAbs (2 ^ T)
  exact Nat.le_trans (zAR this) (by omega)
 have hv0 : decide (v < 0) = false := decide_eq_false (by rw [hv]; exact Int.not_lt.2 (Int.natCast_nonneg _))
 have HL := fun W b c [i : BI W b (nl v.natAbs) c v.natAbs] => Lib.hid (frm (zBr W false b (nl v.natAbs) c v.natAbs i.out (by omega)))
 rw [← hbl] at HL
 have hw1 : IntKind.i64.wrap (E + (T : Int)) = e := by rw [IntKind.wrap_i64]; omega
 have heB : e ≤ 65536 + 1048576 := by omega
 have HC := Lib.hid hc
 clear hz hnz hz0 hu hTT hv eu huz he hvl hc hx hbl hT
 go_enter Tryz.func56, Tryz.ntmps56
 go_wp2_with fail
 refine (HN _).out.mono ?_; rintro o w1 ⟨a1, c1, rfl, m1, b1, f1⟩
 have e1 := b1.out.size
 simp at e1
 go_wp2_with fail
 have p0 : BB (w1.alloc (.cells #[.bool (decide (z < 0)), .slice a1 (nl z.natAbs) c1] 44)) w.heap.size s (.slice a n cap) := inferInstance
 have p1 : DB (w1.alloc (.cells #[.bool (decide (z < 0)), .slice a1 (nl z.natAbs) c1] 44)) (w.heap.size + 1) false false (.slice none 0 0) 0 := inferInstance
 have p2 : BB (w1.alloc (.cells #[.bool (decide (z < 0)), .slice a1 (nl z.natAbs) c1] 44)) w1.heap.size (decide (z < 0)) (.slice a1 (nl z.natAbs) c1) := inferInstance
 have p3 : BI (w1.alloc (.cells #[.bool (decide (z < 0)), .slice a1 (nl z.natAbs) c1] 44)) a1 (nl z.natAbs) c1 z.natAbs := inferInstance
 have p4 : Below w.heap.size w (w1.alloc (.cells #[.bool (decide (z < 0)), .slice a1 (nl z.natAbs) c1] 44)) := zbh
 generalize (w1.alloc (.cells #[.bool (decide (z < 0)), .slice a1 (nl z.natAbs) c1] 44)) = W1 at *
 generalize w1.heap.size = b5 at *
 haveI p5 : From w W1 := ⟨p4⟩
 clear m1 b1 f1 p4
 refine (HT _ _ _).out.mono ?_; rintro o w2 ⟨rfl, b2⟩
 go_wp2_with fail
 refine (HA _ _ _).out.mono ?_; rintro o w3 ⟨a3, c3, rfl, m3, b3, f3⟩
 have x3 : BB w3 b5 (decide (z < 0)) (.slice a1 (nl z.natAbs) c1) := inferInstance
 have l3 := x3.out.lt
 have g3 : 0 < nl u.natAbs → ab a3 ≠ b5 := fun h => by have h1 := f3 h; have h2 := (inferInstance : BB w2 b5 (decide (z < 0)) (.slice a1 (nl z.natAbs) c1)).out.lt; omega
 have q0 : BB w3 w.heap.size s (.slice a n cap) := inferInstance
 have q1 : DB w3 (w.heap.size + 1) false false (.slice none 0 0) 0 := inferInstance
 have q4 : Below w.heap.size w w3 := zbh
 have y0 := q0.st2 (g := b5) (by omega) (.bool false) (.slice a3 (nl u.natAbs) c3)
 have y1 : DB ((w3.setCell ⟨b5, 0, none⟩ (.bool false)).setCell ⟨b5, 1, none⟩ (.slice a3 (nl u.natAbs) c3)) (w.heap.size + 1) false false (.slice none 0 0) 0 := ⟨(q1.out.set (by omega) 0 _).set (by omega) 1 _⟩
 have y2 := x3.pt2 false (.slice a3 (nl u.natAbs) c3)
 have y3 : BI _ a3 (nl u.natAbs) c3 u.natAbs := ⟨Mag.st2 m3.out g3 (.bool false) (.slice a3 (nl u.natAbs) c3)⟩
 have y4 := (q4.setCell (p := ⟨b5, 0, none⟩) (by show w.heap.size ≤ b5; omega) (.bool false)).setCell (p := ⟨b5, 1, none⟩) (by show w.heap.size ≤ b5; omega) (.slice a3 (nl u.natAbs) c3)
 go_wp2_with fail
 generalize ((w3.setCell ⟨b5, 0, none⟩ (.bool false)).setCell ⟨b5, 1, none⟩ (.slice a3 (nl u.natAbs) c3)) = W4 at *
 haveI y5 : From w W4 := ⟨y4⟩
 clear p0 p1 p2 p3 p5 b2 b3 m3 f3 x3 q0 q1 q4 g3 y4 HT HA HN
 refine (HD _ _ _).out.mono ?_; rintro o w5 ⟨a5, c5, rfl, m5, b5', f5⟩
 have x3 : BB w5 b5 false (.slice a3 (nl u.natAbs) c3) := inferInstance
 have l5 := x3.out.lt
 have l4 := y2.out.lt
 have g3 : 0 < nl v.natAbs → ab a5 ≠ b5 := fun h => by have h1 := f5 h; omega
 have g4 : 0 < nl v.natAbs → w.heap.size + 1 < ab a5 := fun h => by have h1 := f5 h; omega
 have q0 : BB w5 w.heap.size s (.slice a n cap) := inferInstance
 have q1 : DB w5 (w.heap.size + 1) false false (.slice none 0 0) 0 := inferInstance
 have q4 : Below w.heap.size w w5 := zbh
 have z0 := q0.st2 (g := b5) (by omega) (.bool false) (.slice a5 (nl v.natAbs) c5)
 have z1 : DB ((w5.setCell ⟨b5, 0, none⟩ (.bool false)).setCell ⟨b5, 1, none⟩ (.slice a5 (nl v.natAbs) c5)) (w.heap.size + 1) false false (.slice none 0 0) 0 := ⟨(q1.out.set (by omega) 0 _).set (by omega) 1 _⟩
 have z2 := x3.pt2 false (.slice a5 (nl v.natAbs) c5)
 have z3 : BI _ a5 (nl v.natAbs) c5 v.natAbs := ⟨Mag.st2 m5.out g3 (.bool false) (.slice a5 (nl v.natAbs) c5)⟩
 have z4 := (q4.setCell (p := ⟨b5, 0, none⟩) (by show w.heap.size ≤ b5; omega) (.bool false)).setCell (p := ⟨b5, 1, none⟩) (by show w.heap.size ≤ b5; omega) (.slice a5 (nl v.natAbs) c5)
 have HNE := g3
 clear y0 y1 y2 y3 y5 b5' m5 f5 g3 HD
 rcases HC.out with ⟨h1, rfl⟩ | ⟨h1, h2, rfl⟩ | ⟨h1, h2, d, h3, h4, rfl⟩
 · have hlo : decide (e < -65536) = true := decide_eq_true h1
   clear h1 HC
   go_wp2_with fail
   generalize ((w5.setCell ⟨b5, 0, none⟩ (.bool false)).setCell ⟨b5, 1, none⟩ (.slice a5 (nl v.natAbs) c5)) = W6 at *
   haveI z5 : From w W6 := ⟨z4⟩
   go_wp2_with fail
   refine (HB _).out.mono ?_; rintro o w9 ⟨rfl, b9⟩
   go_wp2_with fail
   refine bodyPost_ret (v := .agg #[.bool true, .bool false, .slice none 0 0, .int .i64 0]) (by simp only [results, Tryz.results56]; go_simp) rfl ?_
   exact ⟨none, 0, rfl, Mag.nil _, zbh, nl0⟩
 · have hlo : decide (e < -65536) = false := decide_eq_false (by omega)
   have hhi : decide (65536 < e + (bl : Int)) = true := decide_eq_true h2
   have hw2 : IntKind.i64.wrap (e + (bl : Int)) = e + (bl : Int) := by rw [IntKind.wrap_i64]; omega
   clear h1 h2 HC
   go_wp2_with fail
   generalize ((w5.setCell ⟨b5, 0, none⟩ (.bool false)).setCell ⟨b5, 1, none⟩ (.slice a5 (nl v.natAbs) c5)) = W6 at *
   haveI z5 : From w W6 := ⟨z4⟩
   refine (HL _ _ _).out.mono ?_; rintro o w7 ⟨rfl, b7⟩
   go_wp2_with fail
   refine (HB _).out.mono ?_; rintro o w9 ⟨rfl, b9⟩
   go_wp2_with fail
   refine bodyPost_ret (v := .agg #[.bool true, .bool false, .slice none 0 0, .int .i64 0]) (by simp only [results, Tryz.results56]; go_simp) rfl ?_
   exact ⟨none, 0, rfl, Mag.nil _, zbh, nl0⟩
 · have hlo : decide (e < -65536) = false := decide_eq_false (by omega)
   have hhi : decide (65536 < e + (bl : Int)) = false := decide_eq_false (by omega)
   have hw2 : IntKind.i64.wrap (e + (bl : Int)) = e + (bl : Int) := by rw [IntKind.wrap_i64]; omega
   have HS := Lib.hid h3
   have HV := Lib.hid h4
   clear h1 h2 h3 h4 HC HB
   go_wp2_with fail
   generalize ((w5.setCell ⟨b5, 0, none⟩ (.bool false)).setCell ⟨b5, 1, none⟩ (.slice a5 (nl v.natAbs) c5)) = W6 at *
   haveI z5 : From w W6 := ⟨z4⟩
   refine (HL _ _ _).out.mono ?_; rintro o w7 ⟨rfl, b7⟩
   have t2 : BB w7 b5 false (.slice a5 (nl v.natAbs) c5) := inferInstance
   have t1 : DB w7 (w.heap.size + 1) false false (.slice none 0 0) 0 := inferInstance
   have t3 : BI w7 a5 (nl v.natAbs) c5 v.natAbs := inferInstance
   have t4 : Below w.heap.size w w7 := zbh
   have t5 := t3.out.old
   have kk : 0 < nl v.natAbs → ab a5 ≠ w.heap.size + 1 := fun h => by have := g4 h; omega
   have I7 := ((((t3.out.set (g := b5) HNE 0 (.bool s)).set kk 0 (.bool false)).set kk 1 (.bool s)).set kk 2 (.slice a5 (nl v.natAbs) c5)).set kk 3 (.int .i64 e)
   have L7 := ((((t4.setCell (p := ⟨b5, 0, none⟩) (by show w.heap.size ≤ b5; omega) (.bool s)).setCell (p := ⟨w.heap.size + 1, 0, none⟩) (Nat.le_succ _) (.bool false)).setCell (p := ⟨w.heap.size + 1, 1, none⟩) (Nat.le_succ _) (.bool s)).setCell (p := ⟨w.heap.size + 1, 2, none⟩) (Nat.le_succ _) (.slice a5 (nl v.natAbs) c5)).setCell (p := ⟨w.heap.size + 1, 3, none⟩) (Nat.le_succ _) (.int .i64 e)
   go_wp2_with fail
   refine bodyPost_ret (v := .agg #[.bool false, .bool s, .slice a5 (nl v.natAbs) c5, .int .i64 e]) (by simp only [results, Tryz.results56]; go_simp) rfl ?_
   refine ⟨a5, c5, ?_, ?_, L7, fun h => ?_⟩
   · show _ = Ending.returned (.agg #[.bool false, .bool (decide (d < 0)), .slice a5 (nl d.natAbs) c5, .int .i64 e])
     rw [← HS.out, ← HV.out]
   · show Mag _ a5 (nl d.natAbs) c5 d.natAbs
     rw [← HV.out]; exact I7
   · have h : 0 < nl d.natAbs := h
     rw [← HV.out] at h
     have := g4 h; omega
theorem zHd {x : Nat} (h : 0 < x) : zA4 (x / 2 ^ tz x) + tz x = zA4 x := by
 obtain ⟨q, hq⟩ := zJ4 h
 have hp : 0 < 2 ^ tz x := Nat.pow_pos (by decide)
 have e : x / 2 ^ tz x = q := by
  conv => lhs; lhs; rw [hq]
  rw [Nat.mul_div_cancel_left _ hp]
 have hq0 : 0 < q := by
  rcases Nat.eq_zero_or_pos q with h0 | h0
  · rw [h0, Nat.mul_zero] at hq; omega
  · exact h0
 rw [e]
 have := zAi hq0 (tz x)
 rw [Nat.mul_comm, ← hq] at this
 exact this.symm
theorem zCw (w : World) (s : Bool) (a : Option Addr) (n cap x : Nat) (E : Int) (hx : Mag w a n cap x) (hlim : n ≤ 549755813888) (hT : Tab w) (hB : zA4 x ≤ 1048576) (he0 : -9223372036854775808 ≤ E) :
 Calls Tryz.prog 56 #[.agg #[.bool s, .slice a n cap], .int .i64 E] w (zAy w (nrm (sgn s x) E)) := by
 have hza := zAb s x
 by_cases hz0 : sgn s x = 0
 · rw [hz0, zBc]
   exact zIq w hT s a n cap x E _ rfl hx hlim hz0
 · have hp : 0 < x := Nat.pos_of_ne_zero fun h => hz0 (by subst h; cases s <;> rfl)
   have hbt := zHd hp
   have hbp := zCp hp
   have htl := zDC hB
   by_cases hE : E ≤ 65536
   · have hv2 : ((((sgn s x).natAbs / 2 ^ tz (sgn s x).natAbs : Nat) : Int)).natAbs = x / 2 ^ tz x := by rw [hza]; exact Int.natAbs_natCast _
     by_cases he1 : E + (tz x : Int) < -65536
     · have := zFc w hT s a n cap x E _ rfl hx hlim hz0 _ _ _ _ _ rfl rfl (by rw [hza]; exact htl) rfl rfl (by rw [hv2]; omega) he0 hE rfl none (.inl ⟨by rw [hza]; exact he1, rfl⟩)
       rwa [nrm_none.2 ⟨hz0, .inr (by rw [hza]; omega)⟩]
     · by_cases he2 : 65536 < E + (zA4 x : Int)
       · have := zFc w hT s a n cap x E _ rfl hx hlim hz0 _ _ _ _ _ rfl rfl (by rw [hza]; exact htl) rfl rfl (by rw [hv2]; omega) he0 hE rfl none (.inr (.inl ⟨by rw [hza]; omega, by rw [hv2, hza]; omega, rfl⟩))
         rwa [nrm_none.2 ⟨hz0, .inl (by rw [hza]; omega)⟩]
       · obtain ⟨y, hy, hodd, hdiv⟩ := zEi hz0
         have hya : y.natAbs = x / 2 ^ tz x := by
          have h1 : x = y.natAbs * 2 ^ tz x := by
           conv => lhs; rw [← hza, hy, zB9]
           rw [hza]
          conv => rhs; lhs; rw [h1]
          rw [Nat.mul_div_cancel _ (Nat.pow_pos (by decide))]
         have hys : s = decide (y < 0) := by
          have h1 := (zGU y (tz (sgn s x).natAbs)).1
          rw [← hy] at h1
          rw [decide_eq_decide.2 h1.symm, zFN]
          rw [decide_eq_true hp, Bool.and_true]
         have := zFc w hT s a n cap x E _ rfl hx hlim hz0 _ _ _ _ _ rfl rfl (by rw [hza]; exact htl) rfl rfl (by rw [hv2]; omega) he0 hE rfl _ (.inr (.inr ⟨by rw [hza]; omega, by rw [hv2, hza]; omega, y, hys, by rw [hv2, hya], rfl⟩))
         have hn : nrm (sgn s x) E = some (y, E + (tz (sgn s x).natAbs : Int)) := by
          unfold nrm
          rw [if_neg hz0, if_neg (by rw [hza]; omega), hdiv]
         rwa [hn]
   · have := zJw w hT s a n cap x E _ rfl hx hlim hz0 (by omega)
     rwa [nrm_none.2 ⟨hz0, .inl (by rw [hza]; omega)⟩]
theorem zLD (w : World) (s : Bool) (a : Option Addr) (n cap : Nat) (e : Int) :
 Calls Tryz.prog 55 #[.agg #[.bool true, .bool s, .slice a n cap, .int .i64 e]] w (zAy w none) := by
 have HB := fun W => Lib.hid (zCk W)
 go_enter Tryz.func55, Tryz.ntmps55
 go_wp2_with fail
 have I1 := DyV.made' (w.alloc (.cells #[.bool true, .bool s, .slice a n cap, .int .i64 e] 46)) 46 false false (.slice none 0 0) 0 (n := w.heap.size + 1) (by rw [World.size_alloc])
 refine (HB _).out.mono ?_
 rintro e w1 ⟨rfl, hb⟩
 have hbw := zA0 (w := w) zbh hb
 have J1 := I1.below hb
 clear I1 hb
 obtain ⟨r0, r1, r2, r3, r4, r5⟩ := J1
 go_wp2_with fail
 refine bodyPost_ret (v := .agg #[.bool true, .bool false, .slice none 0 0, .int .i64 0]) (by simp only [results, Tryz.results55]; go_simp) rfl ?_
 exact ⟨none, 0, rfl, Mag.nil _, (have := Beh.mk hbw; zbh), nl0⟩
theorem zLE (w : World) (hT : Tab w) (s : Bool) (a : Option Addr) (n cap x : Nat) (e : Int) (hx : Mag w a n cap x) (hlim : n ≤ 549755813888) (hB : zA4 x ≤ 1048576) (he0 : -9223372036854775808 ≤ e) :
 Calls Tryz.prog 55 #[.agg #[.bool false, .bool s, .slice a n cap, .int .i64 e]] w (zAy w (nrm (sgn s x) e)) := by
 have HM := fun W h ht => Lib.hid (zCw W s a n cap x e h hlim ht hB he0)
 generalize nrm (sgn s x) e = d at HM ⊢
 go_enter Tryz.func55, Tryz.ntmps55
 go_wp2_with fail
 have I1 := DyV.made' (w.alloc (.cells #[.bool false, .bool s, .slice a n cap, .int .i64 e] 46)) 46 false false (.slice none 0 0) 0 (n := w.heap.size + 1) (by rw [World.size_alloc])
 refine (HM _ (hx.below zbh) (hT.below zbh)).out.mono ?_
 rintro e w1 ⟨a1, c1, rfl, hm1, hb, hf1⟩
 have hbw := zA0 (w := w) zbh hb
 have J1 := I1.below hb
 have hfr1 : 0 < nl (zA1 d).natAbs → w.heap.size + 2 ≤ ab a1 := fun h => by have := hf1 h; simpa using this
 clear I1 hb hf1
 obtain ⟨r0, r1, r2, r3, r4, r5⟩ := J1
 go_wp2_with fail
 refine bodyPost_ret (v := .agg #[.bool (zA3 d), .bool (decide (zA1 d < 0)), .slice a1 (nl (zA1 d).natAbs) c1, .int .i64 (zA2 d)]) (by simp only [results, Tryz.results55]; go_simp) rfl ?_
 exact ⟨a1, c1, rfl, (by repeat (with_reducible first | refine Mag.set ?_ (fun h => by have := hfr1 h; omega) _ _ | refine Mag.drew ?_ | refine Mag.alloc ?_ _ | refine Mag.drewN ?_ _ | exact hm1)), (by have hszw := (hbw).size; repeat (with_reducible first | refine Below.setCell ?_ (by first | omega | (simp <;> omega)) _ | refine Below.alloc ?_ (by first | omega | (simp <;> omega)) _ | refine Below.drew ?_ | refine below_drewN ?_ _ | exact hbw)), fun h => by have := hfr1 h; omega⟩
theorem zIs (w : World) (hT : Tab w) (bd s : Bool) (a : Option Addr) (n cap x : Nat) (e : Int) (hx : Mag w a n cap x) (hlim : n ≤ 549755813888) (hB : zA4 x ≤ 1048576) (he0 : -9223372036854775808 ≤ e) :
 Calls Tryz.prog 55 #[.agg #[.bool bd, .bool s, .slice a n cap, .int .i64 e]] w (zAy w (zFm bd (sgn s x) e)) := by
 cases bd
 · exact zLE w hT s a n cap x e hx hlim hB he0
 · exact zLD w s a n cap e
def DyIs (w : World) (bd s : Bool) (a : Option Addr) (n cap : Nat) (e : Int) (d : Option (Int × Int)) : Prop := DyIn w bd s a n cap e d ∧ n ≤ 549755813888
theorem DyIs.below {w w' : World} {bd s : Bool} {a : Option Addr} {n cap : Nat} {e : Int} {d : Option (Int × Int)} (h : DyIs w bd s a n cap e d) (hb : Below w.heap.size w w') : DyIs w' bd s a n cap e d := ⟨h.1.below hb, h.2⟩
theorem zAt (w : World) {bd s : Bool} {a : Option Addr} {n cap : Nat} {e : Int} {d : Option (Int × Int)} (h : DyIs w bd s a n cap e d) (hT : Tab w) :
 Calls Tryz.prog 55 #[.agg #[.bool bd, .bool s, .slice a n cap, .int .i64 e]] w (zAy w d) := by
 obtain ⟨⟨x, h1, h2, h3, h4, h5, h6⟩, hl⟩ := h
 have := zIs w hT bd s a n cap x e h1 hl h3 h4
 rwa [h6] at this
theorem zNC (v s : Bool) (sl : Value) (f : Int) (W : World) : (Instr.field 46 (.agg #[.bool v, .bool s, sl, .int .i64 f]) 0).run Tryz.prog W = .ok (.bool v) W := by kernel_rfl
theorem zDq (w : World) (bd s : Bool) (a : Option Addr) (n cap : Nat) (e : Int) (d : Option (Int × Int)) (hx : DyIs w bd s a n cap e d) (hT : Tab w) :
 Calls Tryz.prog 23 #[.agg #[.bool bd, .bool s, .slice a n cap, .int .i64 e]] w fun o w' => o = .returned (.bool (!zA3 d)) ∧ Below w.heap.size w w' := by
 have HF := zNC
 have HN := fun W h ht => Lib.hid (@zAt W bd s a n cap e d h ht)
 go_enter Tryz.func23, Tryz.ntmps23
 go_wp2_with fail
 refine (HN _ (hx.below zbh) (hT.below zbh)).out.mono ?_
 rintro e w1 ⟨a1, c1, rfl, hm1, hb, hf1⟩
 have hbw := zA0 (w := w) zbh hb
 go_wp2_with fail
 go_ret
 exact ⟨rfl, (have := Beh.mk hbw; zbh)⟩
theorem zLA (w : World) (bd s : Bool) (a : Option Addr) (n cap : Nat) (e : Int) (hx : DyIs w bd s a n cap e none) (hT : Tab w) :
 Calls Tryz.prog 21 #[.agg #[.bool bd, .bool s, .slice a n cap, .int .i64 e]] w fun o w' => o = .returned (.int .i64 0) ∧ Below w.heap.size w w' := by
 have HN := fun W h ht => Lib.hid (@zAt W bd s a n cap e none h ht)
 go_enter Tryz.func21, Tryz.ntmps21
 go_wp2_with fail
 have I0 := DyV.made w 46 bd s (.slice a n cap) e
 refine (HN _ (hx.below zbh) (hT.below zbh)).out.mono ?_
 rintro e w1 ⟨a1, c1, rfl, hm1, hb, hf1⟩
 have hbw := zA0 (w := w) zbh hb
 have J1 := I0.below hb
 clear I0 hb hf1
 obtain ⟨r0, r1, r2, r3, r4, r5⟩ := J1
 have eb : zA3 none = true := rfl
 go_wp2_with fail
 go_ret
 exact ⟨rfl, (have := Beh.mk hbw; zbh)⟩
theorem zLB (w : World) (bd s : Bool) (a : Option Addr) (n cap : Nat) (e z f g : Int) (hx : DyIs w bd s a n cap e (some (z, f))) (hT : Tab w) (hg : g = sg z) :
 Calls Tryz.prog 21 #[.agg #[.bool bd, .bool s, .slice a n cap, .int .i64 e]] w fun o w' => o = .returned (.int .i64 g) ∧ Below w.heap.size w w' := by
 have hbz := (zA7 hx.1.isN).1
 have HN := fun W h ht => Lib.hid (@zAt W bd s a n cap e (some (z, f)) h ht)
 have HS := fun W b c h => Lib.hid (zC9 W (decide (z < 0)) b (nl z.natAbs) c z.natAbs h (Nat.le_trans (zAe _) (Nat.le_trans hbz (by omega))))
 rw [zAg, ← hg] at HS
 obtain ⟨d, hd⟩ : ∃ d, d = some (z, f) := ⟨_, rfl⟩
 have d0 : zA3 d = false := by rw [hd]; rfl
 have d1 : zA1 d = z := by rw [hd]; rfl
 have d2 : zA2 d = f := by rw [hd]; rfl
 rw [← hd] at HN hx
 clear hbz hd hg
 go_enter Tryz.func21, Tryz.ntmps21
 go_wp2_with fail
 have I0 := DyV.made w 46 bd s (.slice a n cap) e
 refine (HN _ (hx.below zbh) (hT.below zbh)).out.mono ?_
 rintro e w1 ⟨a1, c1, rfl, hm1, hb, hf1⟩
 rw [d1] at hm1 hf1
 have hfr1 : 0 < nl z.natAbs → w.heap.size + 1 ≤ ab a1 := fun h => by have := hf1 h; simpa using this
 have hbw := zA0 (w := w) zbh hb
 have J1 := I0.below hb
 clear I0 hb hf1
 obtain ⟨r0, r1, r2, r3, r4, r5⟩ := J1
 go_wp2_with fail
 refine (HS _ a1 c1 (by repeat (with_reducible first | refine Mag.set ?_ (fun h => by have := hfr1 h; omega) _ _ | refine Mag.drew ?_ | refine Mag.alloc ?_ _ | refine Mag.drewN ?_ _ | exact hm1))).out.mono ?_
 rintro e w2 ⟨rfl, hb⟩
 have hbw2 := zA0 (w := w) (have := Beh.mk hbw; zbh) hb
 go_wp2_with fail
 go_ret
 exact ⟨rfl, (have := Beh.mk hbw2; zbh)⟩
theorem zIr (w : World) (bd s : Bool) (a : Option Addr) (n cap : Nat) (e : Int) (d : Option (Int × Int)) (hx : DyIs w bd s a n cap e d) (hT : Tab w) :
 Calls Tryz.prog 21 #[.agg #[.bool bd, .bool s, .slice a n cap, .int .i64 e]] w fun o w' => o = .returned (.int .i64 (sg (zA1 d))) ∧ Below w.heap.size w w' := by
 cases d with
 | none => exact zLA w bd s a n cap e hx hT
 | some p => obtain ⟨z, f⟩ := p; exact zLB w bd s a n cap e z f _ hx hT rfl
end Go.Proofs.YtablcbgeeeboeaaGreatDoor
set_option maxRecDepth 100000
set_option maxHeartbeats 2000000
namespace Go.Proofs.YtablcbgeeeboeaaGreatDoor
open Go.RowKit Sp
theorem zHM {x k : Nat} (h : k = 0 ∨ k = 1) : Go.bits .or .u64 ((x % B ^ k : Nat) : Int) (IntKind.u64.wrap (IntKind.u64.wrap (dig x k : Nat) * 2 ^ (32 * k))) = ((x % B ^ (k + 1) : Nat) : Int) := by
 have hdl := zA6 x k
 rw [zBz (show dig x k < 18446744073709551616 by omega)]
 rcases h with rfl | rfl
 · rw [zAh x 0, Nat.pow_zero, Nat.mod_one]
   have e : ((dig x 0 : Nat) : Int) * 2 ^ (32 * 0) = ((dig x 0 : Nat) : Int) := by simp
   rw [e, zBz (by omega), u64_or_nat _ _ (by decide) (by omega)]
   simp
 · have e : ((dig x 1 : Nat) : Int) * 2 ^ (32 * 1) = ((dig x 1 * 4294967296 : Nat) : Int) := by simp
   have hm : x % B ^ 1 < 2 ^ 32 := by rw [Nat.pow_one, zAW]; exact Nat.mod_lt _ (by decide)
   rw [e, zBz (by omega), u64_or_nat _ _ (by omega) (by omega), zDG (p := 32) (z := x % B ^ 1) hm ⟨dig x 1, by omega⟩, zAh x 1, Nat.pow_one, zAW]
theorem zEj (w : World) (a : Option Addr) (cap x : Nat) (hx : Mag w a (nl x) cap x) (hb : x ≤ 9007199254740992) :
 Calls Tryz.prog 158 #[.agg #[.bool false, .slice a (nl x) cap]] w fun e w' => e = .returned (.tuple #[.int .i64 x, .bool true]) ∧ Below w.heap.size w w' := by
 have hn : nl x ≤ 2 := zAB (x := x) (n := 2) (by rw [show B ^ 2 = 18446744073709551616 by decide]; omega)
 have l1 := hx.lim
 have l2 := hx.fits
 have hd : decide ((2 : Int) < ((nl x : Nat) : Int)) = false := by simp; omega
 have HT := fun W h => Lib.hid (zAd W a (nl x) cap x h)
 have hlt := Lib.hid hx.lt
 obtain ⟨n, hnn⟩ : ∃ n, n = nl x := ⟨_, rfl⟩
 rw [← hnn] at hx hn l2 hd HT hlt ⊢
 clear hnn
 go_enter Tryz.func158, Tryz.ntmps158
 go_wp2_with fail
 refine (HT _ (hx.below zbh)).out.mono ?_
 rintro e w1 ⟨rfl, rfl⟩
 go_wp2_with fail
 go_loop [5, 16] (fun u i => ∃ k : Nat, k ≤ n ∧ i = .int .i64 k ∧ u = .int .u64 (x % B ^ k : Nat)) (fun _ i => n - (intOf i).toNat)
 case atStart => exact ⟨0, Nat.zero_le _, rfl, by rw [Nat.pow_zero, Nat.mod_one]; rfl⟩
 case round =>
  obtain ⟨k, hk, rfl, rfl⟩ := hrel
  by_cases h0 : k < n
  · have c1 := (hx.below (w' := w.alloc (.cells #[.bool false, .slice a n cap] 44)) zbh).cell k h0
    have i1 := hx.idx 42 und siz k h0
    have hval := zHM (x := x) (k := k) (by omega)
    generalize hy : ((x % B ^ (k + 1) : Nat) : Int) = y at hval
    generalize ((x % B ^ k : Nat) : Int) = U at hval ⊢
    generalize ((dig x k : Nat) : Int) = D at hval c1
    have HY := Lib.hid hy
    clear hy
    go_wp2
    go_round
    case rel => exact ⟨k + 1, by omega, by go_num, by rw [HY.out]⟩
    case measure => simp [intOf]; omega
  · obtain rfl : k = n := by omega
    have hval : x % B ^ k = x := zA9 hlt.out
    have h1 : IntKind.i64.wrap (x : Int) = x := by rw [IntKind.wrap_i64]; omega
    have h2 : decide ((x : Int) < 9223372036854775808) = true := by simp; omega
    rw [hval]
    go_wp2
    refine bodyPost_ret (v := .tuple #[.int .i64 x, .bool true]) (by simp only [results, Tryz.results158]; go_simp) rfl ?_
    exact ⟨rfl, zbh⟩
end Go.Proofs.YtablcbgeeeboeaaGreatDoor

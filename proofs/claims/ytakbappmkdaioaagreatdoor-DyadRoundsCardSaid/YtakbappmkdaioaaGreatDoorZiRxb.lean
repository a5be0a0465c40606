/-
  Walks: the reference's dyads: Round.
-/
import Derived.Test.YtakbappmkdaioaaGreatDoorZiRxa
import Derived.Test.YtakbappmkdaioaaGreatDoorZiCs
import Derived.Test.YtakbappmkdaioaaGreatDoorZiCm
namespace Go.Proofs.YtakbappmkdaioaaGreatDoor
open Go.RowKit Sp

attribute [local irreducible] Calls
theorem sgn_shift (s : Bool) (x k : Nat) : sgn s (x * 2 ^ k) = sgn s x * 2 ^ k := by
  cases s <;> simp [sgn, Int.neg_mul]
theorem rounded_dfix (s : Bool) (x : Nat) (e : Int) (more : Bool) (p mode : Int) (N : Nat) (hN : N = (blen x - p).toNat) (hm : more = true → p < blen x) :
    nrm (sgn s (cutn s x N more mode)) (e + N) = dfix s x e more p mode := by
  unfold dfix
  have hq : rlg x e + 1 - p = e + blen x - p := by unfold rlg; omega
  rw [hq]
  by_cases h : p < blen x
  · have e1 : e + blen x - p = e + N := by omega
    have e2 : (e + (N : Int) - e).toNat = N := by omega
    have e3 : ¬ (e + (N : Int) ≤ e) := by omega
    rw [e1]
    congr 2
    unfold cutn rmag rax rdn
    rw [if_neg e3, if_neg e3, e2]
  · have hmf : more = false := by cases more with | false => rfl | true => exact absurd (hm rfl) h
    have hN0 : N = 0 := by omega
    subst hmf
    rw [hN0]
    obtain ⟨k, hk⟩ : ∃ k : Nat, e = e + blen x - p + k := ⟨(p - blen x).toNat, by omega⟩
    have e3 : e + blen x - p ≤ e := by omega
    have e2 : (e - (e + blen x - p)).toNat = k := by omega
    have c0 : cutn s x 0 false mode = x := by
      unfold cutn rex raw
      simp [Nat.mod_one]
    rw [c0]
    unfold rmag rax rdn
    rw [if_pos e3, if_pos e3, e2, if_neg (by decide), Nat.add_zero, sgn_shift, nrm_scale]
    congr 1
    omega

set_option maxRecDepth 100000 in
theorem rrounded_dfix (w : World) (hT : Tab w) (neg more : Bool) (a : Option Addr) (cap x : Nat) (e prec mode : Int) (hx : Mag w a (nl x) cap x) (hbl : blen x ≤ 524288) (he0 : -1099511627776 ≤ e) (he1 : e ≤ 1099511627776) (hp0 : 1 ≤ prec) (hp1 : prec ≤ 4096) (hm : more = true → prec < blen x) :
    Calls Tryz.prog 138 #[.bool neg, .agg #[.bool false, .slice a (nl x) cap], .int .i64 e, .bool more, .int .i64 prec, .int .i64 mode] w (RetDy w (dfix neg x e more prec mode)) := by
  rw [← rounded_dfix neg x e more prec mode _ rfl hm]
  exact rrounded_any w hT neg more a cap x e prec mode hx hbl he0 he1 hp0 hp1 _ rfl
theorem prc_cases (p : Int) : p < 1 ∧ prc p = false ∨ ¬ p < 1 ∧ 4096 < p ∧ prc p = false ∨ ¬ p < 1 ∧ ¬ 4096 < p ∧ ¬ prc p = false := by
  unfold prc
  rcases Int.lt_or_le p 1 with h | h
  · left; exact ⟨h, by rw [decide_eq_false (by omega)]; rfl⟩
  · rcases Int.lt_or_le 4096 p with k | k
    · right; left; exact ⟨by omega, k, by rw [decide_eq_false (p := p ≤ 4096) (by omega), Bool.and_false]⟩
    · right; right; refine ⟨by omega, by omega, ?_⟩; rw [decide_eq_true (by omega), decide_eq_true (by omega)]; decide
set_option maxRecDepth 100000 in
set_option maxHeartbeats 20000000 in
theorem rdround_any (w : World) (v s : Bool) (A : Option Addr) (n c : Nat) (e : Int) (d : Option (Int × Int)) (p mode : Int) (hx : DyIs w v s A n c e d) (hT : Tab w) :
    Calls Tryz.prog 18 #[.agg #[.bool v, .bool s, .slice A n c, .int .i64 e], .int .i64 p, .int .i64 mode] w (RetDy w (dround d p mode)) := by
  have HT : Tb w := ⟨hT⟩
  have HX : DS w v s A n c e d := ⟨hx⟩
  have hN := hx.1.isN
  have HN := fun W [i : DS W v s A n c e d] [Tb W] => Lib.hid (frsF hN (rdnorm_in W i.out tb))
  have hB := isN_bounds hN
  have HB := fun W => Lib.hid (frm (rbad_any W))
  clear hx
  cases hb : dbad d with
  | true =>
    rw [show dround d p mode = none by rw [dbad_none hb]; rfl]
    rw [hb] at HN
    go_enter Tryz.func18, Tryz.ntmps18
    go_wp2_with fail
    refine (HN _).out.mono ?_
    rintro e w1 ⟨a1, c1, rfl, i1, b1, j1, f1⟩
    haveI g1 := FA.mk f1
    haveI T1 : Tb w1 := ⟨hT.below zbh⟩
    go_wp2_with fail
    refine (HB _).out.mono ?_
    rintro o w8 ⟨rfl, b8⟩
    go_wp2_with fail
    refine bodyPost_ret (v := .agg #[.bool true, .bool false, .slice none 0 0, .int .i64 0]) (by simp only [results, Tryz.results18]; go_simp) rfl ?_
    exact ⟨none, 0, rfl, Mag.nil _, zbh, nl0⟩
  | false =>
    rw [hb] at HN
    have hd := dsome hb
    have hu : dround d p mode = if prc p = false then none else if dman d = 0 then some (0, 0) else dfix (decide (dman d < 0)) (dman d).natAbs (dexp d) false p mode := by
      conv => lhs; rw [hd]
      rfl
    rcases prc_cases p with ⟨p0, hp⟩ | ⟨p0, p1, hp⟩ | ⟨p0, p1, hp⟩
    · rw [show dround d p mode = none by rw [hu, if_pos hp]]
      clear hu hB hp hd
      go_enter Tryz.func18, Tryz.ntmps18
      go_wp2_with fail
      refine (HN _).out.mono ?_
      rintro e w1 ⟨a1, c1, rfl, i1, b1, j1, f1⟩
      haveI g1 := FA.mk f1
      haveI T1 : Tb w1 := ⟨hT.below zbh⟩
      go_wp2_with fail
      refine (HB _).out.mono ?_
      rintro o w8 ⟨rfl, b8⟩
      go_wp2_with fail
      refine bodyPost_ret (v := .agg #[.bool true, .bool false, .slice none 0 0, .int .i64 0]) (by simp only [results, Tryz.results18]; go_simp) rfl ?_
      exact ⟨none, 0, rfl, Mag.nil _, zbh, nl0⟩
    · rw [show dround d p mode = none by rw [hu, if_pos hp]]
      clear hu hB hp hd
      go_enter Tryz.func18, Tryz.ntmps18
      go_wp2_with fail
      refine (HN _).out.mono ?_
      rintro e w1 ⟨a1, c1, rfl, i1, b1, j1, f1⟩
      haveI g1 := FA.mk f1
      haveI T1 : Tb w1 := ⟨hT.below zbh⟩
      go_wp2_with fail
      refine (HB _).out.mono ?_
      rintro o w8 ⟨rfl, b8⟩
      go_wp2_with fail
      refine bodyPost_ret (v := .agg #[.bool true, .bool false, .slice none 0 0, .int .i64 0]) (by simp only [results, Tryz.results18]; go_simp) rfl ?_
      exact ⟨none, 0, rfl, Mag.nil _, zbh, nl0⟩
    rw [if_neg hp] at hu
    clear hp
    have hv : dround d p mode = dfix (decide (dman d < 0)) (dman d).natAbs (dexp d) false p mode := by
      rw [hu]
      by_cases h0 : dman d = 0
      · rw [if_pos h0, ← rounded_dfix _ _ _ _ _ _ _ rfl (fun h => by cases h), h0]
        have c0 : ∀ (s : Bool) (N : Nat), sgn s (cutn s 0 N false mode) = 0 := by
          intro s N
          have : cutn s 0 N false mode = 0 := by unfold cutn rex raw; simp
          rw [this]; cases s <;> rfl
        rw [show (0 : Int).natAbs = 0 from rfl, c0, nrm_zero]
      · rw [if_neg h0]
    have nu : IsN (dround d p mode) := by rw [hv]; exact isN_nrm _ _
    generalize dround d p mode = u at *
    have HA := fun W b c [i : BI W b (nl (dman d).natAbs) c (dman d).natAbs] => Lib.hid (frbn (rabs_z W b c (dman d) _ rfl i.out (nl_lim5 (by omega))))
    have HO := fun W b c [i : BI W b (nl (dman d).natAbs) c (dman d).natAbs] [Tb W] => Lib.hid (frsF nu (hv ▸ rrounded_dfix W tb (decide (dman d < 0)) false b c (dman d).natAbs (dexp d) p mode i.out (by omega) (by omega) (by omega) (by omega) (by omega) (fun h => by cases h)))
    clear hu hv nu hB hb hN
    generalize decide (dman d < 0) = sd at *
    generalize (dman d).natAbs = x at *
    generalize dexp d = E at *
    go_enter Tryz.func18, Tryz.ntmps18
    go_wp2_with fail
    refine (HN _).out.mono ?_
    rintro e w1 ⟨a1, c1, rfl, i1, b1, j1, f1⟩
    haveI g1 := FA.mk f1
    haveI T1 : Tb w1 := ⟨hT.below zbh⟩
    go_wp2_with fail
    first
    | go_region_with
        (first
          | (go_at_call 139; refine (HA _ _ _).out.mono ?_; rintro o w5 ⟨a5, c5, rfl, i5, b5, f5⟩; haveI T5 : Tb w5 := ⟨hT.below zbh⟩)
          | (go_at_call 138; refine (HO _ _ _).out.mono ?_; rintro o w9 ⟨a9, c9, rfl, i9, b9, j9, f9⟩; haveI g9 := FA.mk f9)
          | fail)
    | fail "region"
    all_goals (
      go_wp2_with fail
      refine bodyPost_ret (v := .agg #[.bool (dbad u), .bool (decide (dman u < 0)), .slice a9 (nl (dman u).natAbs) c9, .int .i64 (dexp u)]) (by simp only [results, Tryz.results18]; go_simp) rfl ?_
      exact ⟨a9, c9, rfl, BI.out, zbh, fresh_of b9 f9⟩)

end Go.Proofs.YtakbappmkdaioaaGreatDoor


/-
  Walks: package float: FMA, Sqrt.
-/
import Derived.Test.YtakbappmkdaioaaGreatDoorZuGm
import Derived.Test.YtakbappmkdaioaaGreatDoorZuGu
namespace Go.Proofs.YtakbappmkdaioaaGreatDoor
open Go.RowKit Sp

set_option maxRecDepth 100000 in
set_option maxHeartbeats 2000000 in
theorem wsqrt_any (w : World) (f : Nat) (hf : f < 18446744073709551616) (mode : Int) (hT : Tab w) :
    Calls Tryz.prog 80 #[.int .u64 f, .int .i64 mode] w fun o w' => o = .returned (.int .u64 (fsqrt f mode : Nat)) ∧ Below w.heap.size w w' := by
  have HN := fun W g h => Lib.hid (nan1 W g f h)
  have HZ := fun W => Lib.hid (fzero_any W f)
  have HS := fun W => Lib.hid (fsign_any W f hf)
  have hi : ((f : Int) == 9218868437227405312) = decide (f = fInf) := by rw [Bool.eq_iff_iff, beq_iff_eq, decide_eq_true_eq]; unfold fInf; omega
  have hv : fsqrt f mode = if fnan f then fNaN else if fzero f || decide (f = fInf) then f else if fS f then fNaN else froot (fof f) mode := rfl
  rw [← hi] at hv
  cases hn : fnan f with
  | true =>
    rw [hn] at HN hv
    have hv : ((fsqrt f mode : Nat) : Int) = 9221120237041090560 := by rw [hv]; rfl
    rw [hv]
    clear hv hi
    go_enter Tryz.func80, Tryz.ntmps80
    go_wp2_with fail
    refine (HN _ _ (by go_simp)).out.mono ?_
    rintro e w1 ⟨rfl, rfl⟩
    go_wp2_with fail
    go_ret
    exact ⟨rfl, (by repeat (with_reducible first | refine Below.setCell ?_ (by simp <;> omega) _ | refine Below.alloc ?_ (by simp <;> omega) _ | refine Below.drew ?_ | refine below_drewN ?_ _ | exact Below.refl _ _))⟩
  | false =>
    rw [hn] at HN hv
    have HH := Lib.hid hi
    clear hi
    cases hz : fzero f with
    | true =>
      rw [hz] at HZ hv
      have hv : ((fsqrt f mode : Nat) : Int) = f := by rw [hv]; rfl
      rw [hv]
      clear hv
      go_enter Tryz.func80, Tryz.ntmps80
      go_wp2_with fail
      refine (HN _ _ (by go_simp)).out.mono ?_
      rintro e w1 ⟨rfl, rfl⟩
      go_wp2_with fail
      refine (HZ _).out.mono ?_
      rintro e w1 ⟨rfl, rfl⟩
      go_wp2_with fail
      go_ret
      exact ⟨rfl, (by repeat (with_reducible first | refine Below.setCell ?_ (by simp <;> omega) _ | refine Below.alloc ?_ (by simp <;> omega) _ | refine Below.drew ?_ | refine below_drewN ?_ _ | exact Below.refl _ _))⟩
    | false =>
      rw [hz] at HZ hv
      cases hb : ((f : Int) == 9218868437227405312) with
      | true =>
        rw [hb] at hv
        have hv : ((fsqrt f mode : Nat) : Int) = f := by rw [hv]; rfl
        rw [hv]
        clear hv
        go_enter Tryz.func80, Tryz.ntmps80
        go_wp2_with fail
        refine (HN _ _ (by go_simp)).out.mono ?_
        rintro e w1 ⟨rfl, rfl⟩
        go_wp2_with fail
        refine (HZ _).out.mono ?_
        rintro e w1 ⟨rfl, rfl⟩
        go_wp2_with fail
        go_ret
        exact ⟨rfl, (by repeat (with_reducible first | refine Below.setCell ?_ (by simp <;> omega) _ | refine Below.alloc ?_ (by simp <;> omega) _ | refine Below.drew ?_ | refine below_drewN ?_ _ | exact Below.refl _ _))⟩
      | false =>
        rw [hb] at hv
        cases hs : fS f with
        | true =>
          rw [hs] at HS hv
          have hv : ((fsqrt f mode : Nat) : Int) = 9221120237041090560 := by rw [hv]; rfl
          rw [hv]
          clear hv
          go_enter Tryz.func80, Tryz.ntmps80
          go_wp2_with fail
          refine (HN _ _ (by go_simp)).out.mono ?_
          rintro e w1 ⟨rfl, rfl⟩
          go_wp2_with fail
          refine (HZ _).out.mono ?_
          rintro e w1 ⟨rfl, rfl⟩
          go_wp2_with fail
          refine (HS _).out.mono ?_
          rintro e w1 ⟨rfl, rfl⟩
          go_wp2_with fail
          go_ret
          exact ⟨rfl, (by repeat (with_reducible first | refine Below.setCell ?_ (by simp <;> omega) _ | refine Below.alloc ?_ (by simp <;> omega) _ | refine Below.drew ?_ | refine below_drewN ?_ _ | exact Below.refl _ _))⟩
        | false =>
          rw [hs] at HS hv
          have hv : fsqrt f mode = froot (fof f) mode := hv
          rw [hv]
          have HO := fun W ht => Lib.hid (fof_any W f hf ht)
          have N := Lib.hid (isN_fof f)
          clear hv
          generalize fof f = d at *
          have HR := fun W b q (h : Mag W b (nl (dman d).natAbs) q (dman d).natAbs) ht => Lib.hid (wroot_any W _ _ _ _ _ _ mode _ (dyin_of N.out h) ht)
          generalize ((froot d mode : Nat) : Int) = V at *
          go_enter Tryz.func80, Tryz.ntmps80
          go_wp2_with fail
          refine (HN _ _ (by go_simp)).out.mono ?_
          rintro e w1 ⟨rfl, rfl⟩
          go_wp2_with fail
          refine (HZ _).out.mono ?_
          rintro e w1 ⟨rfl, rfl⟩
          go_wp2_with fail
          refine (HS _).out.mono ?_
          rintro e w1 ⟨rfl, rfl⟩
          go_wp2_with fail
          refine (HO _ (hT.below (by repeat (with_reducible first | refine Below.setCell ?_ (by simp <;> omega) _ | refine Below.alloc ?_ (by simp <;> omega) _ | refine Below.drew ?_ | refine below_drewN ?_ _ | exact Below.refl _ _)))).out.mono ?_
          rintro e w1 ⟨a1, c1, rfl, M1, hb, _⟩
          have B1 := below_box (w := w) (by repeat (with_reducible first | refine Below.setCell ?_ (by simp <;> omega) _ | refine Below.alloc ?_ (by simp <;> omega) _ | refine Below.drew ?_ | refine below_drewN ?_ _ | exact Below.refl _ _)) hb
          clear hb
          go_wp2_with fail
          refine (HR _ a1 c1 (by repeat (with_reducible first | refine Mag.set ?_ (fun h => by have := M1 h; omega) _ _ | refine Mag.drew ?_ | refine Mag.alloc ?_ _ | refine Mag.drewN ?_ _ | exact M1)) (hT.below (by have hszw := (B1).size; repeat (with_reducible first | refine Below.setCell ?_ (by first | omega | (simp <;> omega)) _ | refine Below.alloc ?_ (by first | omega | (simp <;> omega)) _ | refine Below.drew ?_ | refine below_drewN ?_ _ | exact B1)))).out.mono ?_
          rintro e w2 ⟨rfl, hb⟩
          have B2 := below_box (w := w) (by have hszw := (B1).size; repeat (with_reducible first | refine Below.setCell ?_ (by first | omega | (simp <;> omega)) _ | refine Below.alloc ?_ (by first | omega | (simp <;> omega)) _ | refine Below.drew ?_ | refine below_drewN ?_ _ | exact B1)) hb
          clear hb
          go_wp2_with fail
          go_ret
          exact ⟨rfl, (by have hszw := (B2).size; repeat (with_reducible first | refine Below.setCell ?_ (by first | omega | (simp <;> omega)) _ | refine Below.alloc ?_ (by first | omega | (simp <;> omega)) _ | refine Below.drew ?_ | refine below_drewN ?_ _ | exact B2))⟩

end Go.Proofs.YtakbappmkdaioaaGreatDoor


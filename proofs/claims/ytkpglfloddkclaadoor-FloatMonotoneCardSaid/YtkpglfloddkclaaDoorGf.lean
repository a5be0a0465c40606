/-
  Walks: package float: FMA, Sqrt.
-/
import Derived.Test.YtkpglfloddkclaaDoorGm
import Derived.Test.YtkpglfloddkclaaDoorGu
namespace Go.Proofs.YtkpglfloddkclaaDoor
open Go.RowKit Sp

theorem nan3 (w : World) (g a b c : Nat) (h0 : w.cell? ⟨g, 0, none⟩ = some (.int .u64 a)) (h1 : w.cell? ⟨g, 1, none⟩ = some (.int .u64 b)) (h2 : w.cell? ⟨g, 2, none⟩ = some (.int .u64 c)) :
    Calls Tryd.prog 35 #[.slice (some ⟨g, 0, none⟩) 3 3] w fun e w' => e = .returned (.bool (fnan a || fnan b || fnan c)) ∧ w = w' := by
  have h := fnan_any w g 3 (fun i => if i = 0 then a else if i = 1 then b else c) (by decide) (fun i hi => by
    rcases (show i = 0 ∨ i = 1 ∨ i = 2 by omega) with rfl | rfl | rfl
    · exact h0
    · exact h1
    · exact h2)
  have e : nanL (fun i => if i = 0 then a else if i = 1 then b else c) 3 = (fnan a || fnan b || fnan c) := by simp [nanL]
  rwa [e] at h

set_option maxRecDepth 100000 in
set_option maxHeartbeats 2000000 in
theorem wfma_nan (w : World) (a b c : Nat) (ha : a < 18446744073709551616) (hb : b < 18446744073709551616) (hc : c < 18446744073709551616) (mode : Int) (_hT : Tab w) (hn : (fnan a || fnan b || fnan c) = true)  :
    Calls Tryd.prog 21 #[.int .u64 a, .int .u64 b, .int .u64 c, .int .i64 mode] w fun o w' => o = .returned (.int .u64 9221120237041090560) ∧ Below w.heap.size w w' := by
  have HN := fun W g h0 h1 h2 => Lib.hid (nan3 W g a b c h0 h1 h2)
  rw [hn] at HN
  have HSa := fun W => Lib.hid (fsign_any W a ha)
  have HSb := fun W => Lib.hid (fsign_any W b hb)
  have HSc := fun W => Lib.hid (fsign_any W c hc)
  generalize fS a = sa at *
  generalize fS b = sb at *
  generalize fS c = sc at *
  (try (have k1 : (sc == !(sa == sb)) = _ := _hse; clear _hsc _hse))
  go_enter Tryd.func21, Tryd.ntmps21
  go_wp2_with (first | (go_at_call 35; refine (HN _ _ (by go_simp) (by go_simp) (by go_simp)).out.mono ?_; rintro e w1 ⟨rfl, rfl⟩) | (go_at_call 37; (first | refine (HIa _).out.mono ?_ | refine (HIb _).out.mono ?_ | refine (HIc _).out.mono ?_); rintro e w1 ⟨rfl, rfl⟩) | (go_at_call 38; (first | refine (HZa _).out.mono ?_ | refine (HZb _).out.mono ?_ | refine (HZc _).out.mono ?_); rintro e w1 ⟨rfl, rfl⟩) | (go_at_call 36; (first | refine (HSa _).out.mono ?_ | refine (HSb _).out.mono ?_ | refine (HSc _).out.mono ?_); rintro e w1 ⟨rfl, rfl⟩) | (go_at_call 39; refine (HG _).out.mono ?_; rintro e w1 ⟨rfl, rfl⟩) | (go_at_call 43; refine (HO _).out.mono ?_; rintro e w1 ⟨rfl, rfl⟩))
  go_ret
  exact ⟨rfl, (by repeat (with_reducible first | refine Below.setCell ?_ (by simp <;> omega) _ | refine Below.alloc ?_ (by simp <;> omega) _ | refine Below.drew ?_ | refine below_drewN ?_ _ | exact Below.refl _ _))⟩

set_option maxRecDepth 100000 in
set_option maxHeartbeats 2000000 in
theorem wfma_iz (w : World) (a b c : Nat) (ha : a < 18446744073709551616) (hb : b < 18446744073709551616) (hc : c < 18446744073709551616) (mode : Int) (_hT : Tab w) (hn : (fnan a || fnan b || fnan c) = false) (_hia : finf a = true) (_hza : fzero a = false) (_hib : finf b = false) (_hzb : fzero b = true)  :
    Calls Tryd.prog 21 #[.int .u64 a, .int .u64 b, .int .u64 c, .int .i64 mode] w fun o w' => o = .returned (.int .u64 9221120237041090560) ∧ Below w.heap.size w w' := by
  have HN := fun W g h0 h1 h2 => Lib.hid (nan3 W g a b c h0 h1 h2)
  rw [hn] at HN
  have HSa := fun W => Lib.hid (fsign_any W a ha)
  have HSb := fun W => Lib.hid (fsign_any W b hb)
  have HSc := fun W => Lib.hid (fsign_any W c hc)
  have HIa := fun W => Lib.hid (finf_any W a)
  rw [_hia] at HIa
  have HZa := fun W => Lib.hid (fzero_any W a)
  rw [_hza] at HZa
  have HIb := fun W => Lib.hid (finf_any W b)
  rw [_hib] at HIb
  have HZb := fun W => Lib.hid (fzero_any W b)
  rw [_hzb] at HZb
  generalize fS a = sa at *
  generalize fS b = sb at *
  generalize fS c = sc at *
  (try (have k1 : (sc == !(sa == sb)) = _ := _hse; clear _hsc _hse))
  go_enter Tryd.func21, Tryd.ntmps21
  go_wp2_with (first | (go_at_call 35; refine (HN _ _ (by go_simp) (by go_simp) (by go_simp)).out.mono ?_; rintro e w1 ⟨rfl, rfl⟩) | (go_at_call 37; (first | refine (HIa _).out.mono ?_ | refine (HIb _).out.mono ?_ | refine (HIc _).out.mono ?_); rintro e w1 ⟨rfl, rfl⟩) | (go_at_call 38; (first | refine (HZa _).out.mono ?_ | refine (HZb _).out.mono ?_ | refine (HZc _).out.mono ?_); rintro e w1 ⟨rfl, rfl⟩) | (go_at_call 36; (first | refine (HSa _).out.mono ?_ | refine (HSb _).out.mono ?_ | refine (HSc _).out.mono ?_); rintro e w1 ⟨rfl, rfl⟩) | (go_at_call 39; refine (HG _).out.mono ?_; rintro e w1 ⟨rfl, rfl⟩) | (go_at_call 43; refine (HO _).out.mono ?_; rintro e w1 ⟨rfl, rfl⟩))
  go_ret
  exact ⟨rfl, (by repeat (with_reducible first | refine Below.setCell ?_ (by simp <;> omega) _ | refine Below.alloc ?_ (by simp <;> omega) _ | refine Below.drew ?_ | refine below_drewN ?_ _ | exact Below.refl _ _))⟩

set_option maxRecDepth 100000 in
set_option maxHeartbeats 2000000 in
theorem wfma_zi (w : World) (a b c : Nat) (ha : a < 18446744073709551616) (hb : b < 18446744073709551616) (hc : c < 18446744073709551616) (mode : Int) (_hT : Tab w) (hn : (fnan a || fnan b || fnan c) = false) (_hia : finf a = false) (_hza : fzero a = true) (_hib : finf b = true) (_hzb : fzero b = false)  :
    Calls Tryd.prog 21 #[.int .u64 a, .int .u64 b, .int .u64 c, .int .i64 mode] w fun o w' => o = .returned (.int .u64 9221120237041090560) ∧ Below w.heap.size w w' := by
  have HN := fun W g h0 h1 h2 => Lib.hid (nan3 W g a b c h0 h1 h2)
  rw [hn] at HN
  have HSa := fun W => Lib.hid (fsign_any W a ha)
  have HSb := fun W => Lib.hid (fsign_any W b hb)
  have HSc := fun W => Lib.hid (fsign_any W c hc)
  have HIa := fun W => Lib.hid (finf_any W a)
  rw [_hia] at HIa
  have HZa := fun W => Lib.hid (fzero_any W a)
  rw [_hza] at HZa
  have HIb := fun W => Lib.hid (finf_any W b)
  rw [_hib] at HIb
  have HZb := fun W => Lib.hid (fzero_any W b)
  rw [_hzb] at HZb
  generalize fS a = sa at *
  generalize fS b = sb at *
  generalize fS c = sc at *
  (try (have k1 : (sc == !(sa == sb)) = _ := _hse; clear _hsc _hse))
  go_enter Tryd.func21, Tryd.ntmps21
  go_wp2_with (first | (go_at_call 35; refine (HN _ _ (by go_simp) (by go_simp) (by go_simp)).out.mono ?_; rintro e w1 ⟨rfl, rfl⟩) | (go_at_call 37; (first | refine (HIa _).out.mono ?_ | refine (HIb _).out.mono ?_ | refine (HIc _).out.mono ?_); rintro e w1 ⟨rfl, rfl⟩) | (go_at_call 38; (first | refine (HZa _).out.mono ?_ | refine (HZb _).out.mono ?_ | refine (HZc _).out.mono ?_); rintro e w1 ⟨rfl, rfl⟩) | (go_at_call 36; (first | refine (HSa _).out.mono ?_ | refine (HSb _).out.mono ?_ | refine (HSc _).out.mono ?_); rintro e w1 ⟨rfl, rfl⟩) | (go_at_call 39; refine (HG _).out.mono ?_; rintro e w1 ⟨rfl, rfl⟩) | (go_at_call 43; refine (HO _).out.mono ?_; rintro e w1 ⟨rfl, rfl⟩))
  go_ret
  exact ⟨rfl, (by repeat (with_reducible first | refine Below.setCell ?_ (by simp <;> omega) _ | refine Below.alloc ?_ (by simp <;> omega) _ | refine Below.drew ?_ | refine below_drewN ?_ _ | exact Below.refl _ _))⟩

set_option maxRecDepth 100000 in
set_option maxHeartbeats 2000000 in
theorem wfma_iin (w : World) (a b c : Nat) (ha : a < 18446744073709551616) (hb : b < 18446744073709551616) (hc : c < 18446744073709551616) (mode : Int) (_hT : Tab w) (hn : (fnan a || fnan b || fnan c) = false) (_hia : finf a = true) (_hza : fzero a = false) (_hib : finf b = true) (_hzb : fzero b = false) (_hic : finf c = true) (_hsc : (fS c != (fS a != fS b)) = true) (_hse : (fS c == (fS a != fS b)) = false) :
    Calls Tryd.prog 21 #[.int .u64 a, .int .u64 b, .int .u64 c, .int .i64 mode] w fun o w' => o = .returned (.int .u64 9221120237041090560) ∧ Below w.heap.size w w' := by
  have HN := fun W g h0 h1 h2 => Lib.hid (nan3 W g a b c h0 h1 h2)
  rw [hn] at HN
  have HSa := fun W => Lib.hid (fsign_any W a ha)
  have HSb := fun W => Lib.hid (fsign_any W b hb)
  have HSc := fun W => Lib.hid (fsign_any W c hc)
  have HIa := fun W => Lib.hid (finf_any W a)
  rw [_hia] at HIa
  have HZa := fun W => Lib.hid (fzero_any W a)
  rw [_hza] at HZa
  have HIb := fun W => Lib.hid (finf_any W b)
  rw [_hib] at HIb
  have HZb := fun W => Lib.hid (fzero_any W b)
  rw [_hzb] at HZb
  have HIc := fun W => Lib.hid (finf_any W c)
  rw [_hic] at HIc
  generalize fS a = sa at *
  generalize fS b = sb at *
  generalize fS c = sc at *
  (try (have k1 : (sc == !(sa == sb)) = _ := _hse; clear _hsc _hse))
  go_enter Tryd.func21, Tryd.ntmps21
  go_wp2_with (first | (go_at_call 35; refine (HN _ _ (by go_simp) (by go_simp) (by go_simp)).out.mono ?_; rintro e w1 ⟨rfl, rfl⟩) | (go_at_call 37; (first | refine (HIa _).out.mono ?_ | refine (HIb _).out.mono ?_ | refine (HIc _).out.mono ?_); rintro e w1 ⟨rfl, rfl⟩) | (go_at_call 38; (first | refine (HZa _).out.mono ?_ | refine (HZb _).out.mono ?_ | refine (HZc _).out.mono ?_); rintro e w1 ⟨rfl, rfl⟩) | (go_at_call 36; (first | refine (HSa _).out.mono ?_ | refine (HSb _).out.mono ?_ | refine (HSc _).out.mono ?_); rintro e w1 ⟨rfl, rfl⟩) | (go_at_call 39; refine (HG _).out.mono ?_; rintro e w1 ⟨rfl, rfl⟩) | (go_at_call 43; refine (HO _).out.mono ?_; rintro e w1 ⟨rfl, rfl⟩))
  go_ret
  exact ⟨rfl, (by repeat (with_reducible first | refine Below.setCell ?_ (by simp <;> omega) _ | refine Below.alloc ?_ (by simp <;> omega) _ | refine Below.drew ?_ | refine below_drewN ?_ _ | exact Below.refl _ _))⟩

set_option maxRecDepth 100000 in
set_option maxHeartbeats 2000000 in
theorem wfma_iis (w : World) (a b c : Nat) (ha : a < 18446744073709551616) (hb : b < 18446744073709551616) (hc : c < 18446744073709551616) (mode : Int) (_hT : Tab w) (hn : (fnan a || fnan b || fnan c) = false) (_hia : finf a = true) (_hza : fzero a = false) (_hib : finf b = true) (_hzb : fzero b = false) (_hic : finf c = true) (_hsc : (fS c != (fS a != fS b)) = false) (_hse : (fS c == (fS a != fS b)) = true) :
    Calls Tryd.prog 21 #[.int .u64 a, .int .u64 b, .int .u64 c, .int .i64 mode] w fun o w' => o = .returned (.int .u64 ((fsgn (fS a != fS b) fInf : Nat) : Int)) ∧ Below w.heap.size w w' := by
  have HN := fun W g h0 h1 h2 => Lib.hid (nan3 W g a b c h0 h1 h2)
  rw [hn] at HN
  have HSa := fun W => Lib.hid (fsign_any W a ha)
  have HSb := fun W => Lib.hid (fsign_any W b hb)
  have HSc := fun W => Lib.hid (fsign_any W c hc)
  have HIa := fun W => Lib.hid (finf_any W a)
  rw [_hia] at HIa
  have HZa := fun W => Lib.hid (fzero_any W a)
  rw [_hza] at HZa
  have HIb := fun W => Lib.hid (finf_any W b)
  rw [_hib] at HIb
  have HZb := fun W => Lib.hid (fzero_any W b)
  rw [_hzb] at HZb
  have HIc := fun W => Lib.hid (finf_any W c)
  rw [_hic] at HIc
  have HG := fun W => Lib.hid (show Calls Tryd.prog 39 #[.int .u64 9218868437227405312, .bool (fS a != fS b)] W fun e w' => e = .returned (.int .u64 (fsgn (fS a != fS b) fInf : Nat)) ∧ W = w' from fsigned_any W fInf (fS a != fS b) (by decide))
  generalize ((fsgn (fS a != fS b) fInf : Nat) : Int) = V at *
  generalize fS a = sa at *
  generalize fS b = sb at *
  generalize fS c = sc at *
  (try (have k1 : (sc == !(sa == sb)) = _ := _hse; clear _hsc _hse))
  go_enter Tryd.func21, Tryd.ntmps21
  go_wp2_with (first | (go_at_call 35; refine (HN _ _ (by go_simp) (by go_simp) (by go_simp)).out.mono ?_; rintro e w1 ⟨rfl, rfl⟩) | (go_at_call 37; (first | refine (HIa _).out.mono ?_ | refine (HIb _).out.mono ?_ | refine (HIc _).out.mono ?_); rintro e w1 ⟨rfl, rfl⟩) | (go_at_call 38; (first | refine (HZa _).out.mono ?_ | refine (HZb _).out.mono ?_ | refine (HZc _).out.mono ?_); rintro e w1 ⟨rfl, rfl⟩) | (go_at_call 36; (first | refine (HSa _).out.mono ?_ | refine (HSb _).out.mono ?_ | refine (HSc _).out.mono ?_); rintro e w1 ⟨rfl, rfl⟩) | (go_at_call 39; refine (HG _).out.mono ?_; rintro e w1 ⟨rfl, rfl⟩) | (go_at_call 43; refine (HO _).out.mono ?_; rintro e w1 ⟨rfl, rfl⟩))
  go_ret
  exact ⟨rfl, (by repeat (with_reducible first | refine Below.setCell ?_ (by simp <;> omega) _ | refine Below.alloc ?_ (by simp <;> omega) _ | refine Below.drew ?_ | refine below_drewN ?_ _ | exact Below.refl _ _))⟩

set_option maxRecDepth 100000 in
set_option maxHeartbeats 2000000 in
theorem wfma_iif (w : World) (a b c : Nat) (ha : a < 18446744073709551616) (hb : b < 18446744073709551616) (hc : c < 18446744073709551616) (mode : Int) (_hT : Tab w) (hn : (fnan a || fnan b || fnan c) = false) (_hia : finf a = true) (_hza : fzero a = false) (_hib : finf b = true) (_hzb : fzero b = false) (_hic : finf c = false)  :
    Calls Tryd.prog 21 #[.int .u64 a, .int .u64 b, .int .u64 c, .int .i64 mode] w fun o w' => o = .returned (.int .u64 ((fsgn (fS a != fS b) fInf : Nat) : Int)) ∧ Below w.heap.size w w' := by
  have HN := fun W g h0 h1 h2 => Lib.hid (nan3 W g a b c h0 h1 h2)
  rw [hn] at HN
  have HSa := fun W => Lib.hid (fsign_any W a ha)
  have HSb := fun W => Lib.hid (fsign_any W b hb)
  have HSc := fun W => Lib.hid (fsign_any W c hc)
  have HIa := fun W => Lib.hid (finf_any W a)
  rw [_hia] at HIa
  have HZa := fun W => Lib.hid (fzero_any W a)
  rw [_hza] at HZa
  have HIb := fun W => Lib.hid (finf_any W b)
  rw [_hib] at HIb
  have HZb := fun W => Lib.hid (fzero_any W b)
  rw [_hzb] at HZb
  have HIc := fun W => Lib.hid (finf_any W c)
  rw [_hic] at HIc
  have HG := fun W => Lib.hid (show Calls Tryd.prog 39 #[.int .u64 9218868437227405312, .bool (fS a != fS b)] W fun e w' => e = .returned (.int .u64 (fsgn (fS a != fS b) fInf : Nat)) ∧ W = w' from fsigned_any W fInf (fS a != fS b) (by decide))
  generalize ((fsgn (fS a != fS b) fInf : Nat) : Int) = V at *
  generalize fS a = sa at *
  generalize fS b = sb at *
  generalize fS c = sc at *
  (try (have k1 : (sc == !(sa == sb)) = _ := _hse; clear _hsc _hse))
  go_enter Tryd.func21, Tryd.ntmps21
  go_wp2_with (first | (go_at_call 35; refine (HN _ _ (by go_simp) (by go_simp) (by go_simp)).out.mono ?_; rintro e w1 ⟨rfl, rfl⟩) | (go_at_call 37; (first | refine (HIa _).out.mono ?_ | refine (HIb _).out.mono ?_ | refine (HIc _).out.mono ?_); rintro e w1 ⟨rfl, rfl⟩) | (go_at_call 38; (first | refine (HZa _).out.mono ?_ | refine (HZb _).out.mono ?_ | refine (HZc _).out.mono ?_); rintro e w1 ⟨rfl, rfl⟩) | (go_at_call 36; (first | refine (HSa _).out.mono ?_ | refine (HSb _).out.mono ?_ | refine (HSc _).out.mono ?_); rintro e w1 ⟨rfl, rfl⟩) | (go_at_call 39; refine (HG _).out.mono ?_; rintro e w1 ⟨rfl, rfl⟩) | (go_at_call 43; refine (HO _).out.mono ?_; rintro e w1 ⟨rfl, rfl⟩))
  go_ret
  exact ⟨rfl, (by repeat (with_reducible first | refine Below.setCell ?_ (by simp <;> omega) _ | refine Below.alloc ?_ (by simp <;> omega) _ | refine Below.drew ?_ | refine below_drewN ?_ _ | exact Below.refl _ _))⟩

set_option maxRecDepth 100000 in
set_option maxHeartbeats 2000000 in
theorem wfma_inn (w : World) (a b c : Nat) (ha : a < 18446744073709551616) (hb : b < 18446744073709551616) (hc : c < 18446744073709551616) (mode : Int) (_hT : Tab w) (hn : (fnan a || fnan b || fnan c) = false) (_hia : finf a = true) (_hza : fzero a = false) (_hib : finf b = false) (_hzb : fzero b = false) (_hic : finf c = true) (_hsc : (fS c != (fS a != fS b)) = true) (_hse : (fS c == (fS a != fS b)) = false) :
    Calls Tryd.prog 21 #[.int .u64 a, .int .u64 b, .int .u64 c, .int .i64 mode] w fun o w' => o = .returned (.int .u64 9221120237041090560) ∧ Below w.heap.size w w' := by
  have HN := fun W g h0 h1 h2 => Lib.hid (nan3 W g a b c h0 h1 h2)
  rw [hn] at HN
  have HSa := fun W => Lib.hid (fsign_any W a ha)
  have HSb := fun W => Lib.hid (fsign_any W b hb)
  have HSc := fun W => Lib.hid (fsign_any W c hc)
  have HIa := fun W => Lib.hid (finf_any W a)
  rw [_hia] at HIa
  have HZa := fun W => Lib.hid (fzero_any W a)
  rw [_hza] at HZa
  have HIb := fun W => Lib.hid (finf_any W b)
  rw [_hib] at HIb
  have HZb := fun W => Lib.hid (fzero_any W b)
  rw [_hzb] at HZb
  have HIc := fun W => Lib.hid (finf_any W c)
  rw [_hic] at HIc
  generalize fS a = sa at *
  generalize fS b = sb at *
  generalize fS c = sc at *
  (try (have k1 : (sc == !(sa == sb)) = _ := _hse; clear _hsc _hse))
  go_enter Tryd.func21, Tryd.ntmps21
  go_wp2_with (first | (go_at_call 35; refine (HN _ _ (by go_simp) (by go_simp) (by go_simp)).out.mono ?_; rintro e w1 ⟨rfl, rfl⟩) | (go_at_call 37; (first | refine (HIa _).out.mono ?_ | refine (HIb _).out.mono ?_ | refine (HIc _).out.mono ?_); rintro e w1 ⟨rfl, rfl⟩) | (go_at_call 38; (first | refine (HZa _).out.mono ?_ | refine (HZb _).out.mono ?_ | refine (HZc _).out.mono ?_); rintro e w1 ⟨rfl, rfl⟩) | (go_at_call 36; (first | refine (HSa _).out.mono ?_ | refine (HSb _).out.mono ?_ | refine (HSc _).out.mono ?_); rintro e w1 ⟨rfl, rfl⟩) | (go_at_call 39; refine (HG _).out.mono ?_; rintro e w1 ⟨rfl, rfl⟩) | (go_at_call 43; refine (HO _).out.mono ?_; rintro e w1 ⟨rfl, rfl⟩))
  go_ret
  exact ⟨rfl, (by repeat (with_reducible first | refine Below.setCell ?_ (by simp <;> omega) _ | refine Below.alloc ?_ (by simp <;> omega) _ | refine Below.drew ?_ | refine below_drewN ?_ _ | exact Below.refl _ _))⟩

set_option maxRecDepth 100000 in
set_option maxHeartbeats 2000000 in
theorem wfma_ins (w : World) (a b c : Nat) (ha : a < 18446744073709551616) (hb : b < 18446744073709551616) (hc : c < 18446744073709551616) (mode : Int) (_hT : Tab w) (hn : (fnan a || fnan b || fnan c) = false) (_hia : finf a = true) (_hza : fzero a = false) (_hib : finf b = false) (_hzb : fzero b = false) (_hic : finf c = true) (_hsc : (fS c != (fS a != fS b)) = false) (_hse : (fS c == (fS a != fS b)) = true) :
    Calls Tryd.prog 21 #[.int .u64 a, .int .u64 b, .int .u64 c, .int .i64 mode] w fun o w' => o = .returned (.int .u64 ((fsgn (fS a != fS b) fInf : Nat) : Int)) ∧ Below w.heap.size w w' := by
  have HN := fun W g h0 h1 h2 => Lib.hid (nan3 W g a b c h0 h1 h2)
  rw [hn] at HN
  have HSa := fun W => Lib.hid (fsign_any W a ha)
  have HSb := fun W => Lib.hid (fsign_any W b hb)
  have HSc := fun W => Lib.hid (fsign_any W c hc)
  have HIa := fun W => Lib.hid (finf_any W a)
  rw [_hia] at HIa
  have HZa := fun W => Lib.hid (fzero_any W a)
  rw [_hza] at HZa
  have HIb := fun W => Lib.hid (finf_any W b)
  rw [_hib] at HIb
  have HZb := fun W => Lib.hid (fzero_any W b)
  rw [_hzb] at HZb
  have HIc := fun W => Lib.hid (finf_any W c)
  rw [_hic] at HIc
  have HG := fun W => Lib.hid (show Calls Tryd.prog 39 #[.int .u64 9218868437227405312, .bool (fS a != fS b)] W fun e w' => e = .returned (.int .u64 (fsgn (fS a != fS b) fInf : Nat)) ∧ W = w' from fsigned_any W fInf (fS a != fS b) (by decide))
  generalize ((fsgn (fS a != fS b) fInf : Nat) : Int) = V at *
  generalize fS a = sa at *
  generalize fS b = sb at *
  generalize fS c = sc at *
  (try (have k1 : (sc == !(sa == sb)) = _ := _hse; clear _hsc _hse))
  go_enter Tryd.func21, Tryd.ntmps21
  go_wp2_with (first | (go_at_call 35; refine (HN _ _ (by go_simp) (by go_simp) (by go_simp)).out.mono ?_; rintro e w1 ⟨rfl, rfl⟩) | (go_at_call 37; (first | refine (HIa _).out.mono ?_ | refine (HIb _).out.mono ?_ | refine (HIc _).out.mono ?_); rintro e w1 ⟨rfl, rfl⟩) | (go_at_call 38; (first | refine (HZa _).out.mono ?_ | refine (HZb _).out.mono ?_ | refine (HZc _).out.mono ?_); rintro e w1 ⟨rfl, rfl⟩) | (go_at_call 36; (first | refine (HSa _).out.mono ?_ | refine (HSb _).out.mono ?_ | refine (HSc _).out.mono ?_); rintro e w1 ⟨rfl, rfl⟩) | (go_at_call 39; refine (HG _).out.mono ?_; rintro e w1 ⟨rfl, rfl⟩) | (go_at_call 43; refine (HO _).out.mono ?_; rintro e w1 ⟨rfl, rfl⟩))
  go_ret
  exact ⟨rfl, (by repeat (with_reducible first | refine Below.setCell ?_ (by simp <;> omega) _ | refine Below.alloc ?_ (by simp <;> omega) _ | refine Below.drew ?_ | refine below_drewN ?_ _ | exact Below.refl _ _))⟩

set_option maxRecDepth 100000 in
set_option maxHeartbeats 2000000 in
theorem wfma_inf (w : World) (a b c : Nat) (ha : a < 18446744073709551616) (hb : b < 18446744073709551616) (hc : c < 18446744073709551616) (mode : Int) (_hT : Tab w) (hn : (fnan a || fnan b || fnan c) = false) (_hia : finf a = true) (_hza : fzero a = false) (_hib : finf b = false) (_hzb : fzero b = false) (_hic : finf c = false)  :
    Calls Tryd.prog 21 #[.int .u64 a, .int .u64 b, .int .u64 c, .int .i64 mode] w fun o w' => o = .returned (.int .u64 ((fsgn (fS a != fS b) fInf : Nat) : Int)) ∧ Below w.heap.size w w' := by
  have HN := fun W g h0 h1 h2 => Lib.hid (nan3 W g a b c h0 h1 h2)
  rw [hn] at HN
  have HSa := fun W => Lib.hid (fsign_any W a ha)
  have HSb := fun W => Lib.hid (fsign_any W b hb)
  have HSc := fun W => Lib.hid (fsign_any W c hc)
  have HIa := fun W => Lib.hid (finf_any W a)
  rw [_hia] at HIa
  have HZa := fun W => Lib.hid (fzero_any W a)
  rw [_hza] at HZa
  have HIb := fun W => Lib.hid (finf_any W b)
  rw [_hib] at HIb
  have HZb := fun W => Lib.hid (fzero_any W b)
  rw [_hzb] at HZb
  have HIc := fun W => Lib.hid (finf_any W c)
  rw [_hic] at HIc
  have HG := fun W => Lib.hid (show Calls Tryd.prog 39 #[.int .u64 9218868437227405312, .bool (fS a != fS b)] W fun e w' => e = .returned (.int .u64 (fsgn (fS a != fS b) fInf : Nat)) ∧ W = w' from fsigned_any W fInf (fS a != fS b) (by decide))
  generalize ((fsgn (fS a != fS b) fInf : Nat) : Int) = V at *
  generalize fS a = sa at *
  generalize fS b = sb at *
  generalize fS c = sc at *
  (try (have k1 : (sc == !(sa == sb)) = _ := _hse; clear _hsc _hse))
  go_enter Tryd.func21, Tryd.ntmps21
  go_wp2_with (first | (go_at_call 35; refine (HN _ _ (by go_simp) (by go_simp) (by go_simp)).out.mono ?_; rintro e w1 ⟨rfl, rfl⟩) | (go_at_call 37; (first | refine (HIa _).out.mono ?_ | refine (HIb _).out.mono ?_ | refine (HIc _).out.mono ?_); rintro e w1 ⟨rfl, rfl⟩) | (go_at_call 38; (first | refine (HZa _).out.mono ?_ | refine (HZb _).out.mono ?_ | refine (HZc _).out.mono ?_); rintro e w1 ⟨rfl, rfl⟩) | (go_at_call 36; (first | refine (HSa _).out.mono ?_ | refine (HSb _).out.mono ?_ | refine (HSc _).out.mono ?_); rintro e w1 ⟨rfl, rfl⟩) | (go_at_call 39; refine (HG _).out.mono ?_; rintro e w1 ⟨rfl, rfl⟩) | (go_at_call 43; refine (HO _).out.mono ?_; rintro e w1 ⟨rfl, rfl⟩))
  go_ret
  exact ⟨rfl, (by repeat (with_reducible first | refine Below.setCell ?_ (by simp <;> omega) _ | refine Below.alloc ?_ (by simp <;> omega) _ | refine Below.drew ?_ | refine below_drewN ?_ _ | exact Below.refl _ _))⟩

set_option maxRecDepth 100000 in
set_option maxHeartbeats 2000000 in
theorem wfma_nin (w : World) (a b c : Nat) (ha : a < 18446744073709551616) (hb : b < 18446744073709551616) (hc : c < 18446744073709551616) (mode : Int) (_hT : Tab w) (hn : (fnan a || fnan b || fnan c) = false) (_hia : finf a = false) (_hza : fzero a = false) (_hib : finf b = true) (_hzb : fzero b = false) (_hic : finf c = true) (_hsc : (fS c != (fS a != fS b)) = true) (_hse : (fS c == (fS a != fS b)) = false) :
    Calls Tryd.prog 21 #[.int .u64 a, .int .u64 b, .int .u64 c, .int .i64 mode] w fun o w' => o = .returned (.int .u64 9221120237041090560) ∧ Below w.heap.size w w' := by
  have HN := fun W g h0 h1 h2 => Lib.hid (nan3 W g a b c h0 h1 h2)
  rw [hn] at HN
  have HSa := fun W => Lib.hid (fsign_any W a ha)
  have HSb := fun W => Lib.hid (fsign_any W b hb)
  have HSc := fun W => Lib.hid (fsign_any W c hc)
  have HIa := fun W => Lib.hid (finf_any W a)
  rw [_hia] at HIa
  have HZa := fun W => Lib.hid (fzero_any W a)
  rw [_hza] at HZa
  have HIb := fun W => Lib.hid (finf_any W b)
  rw [_hib] at HIb
  have HZb := fun W => Lib.hid (fzero_any W b)
  rw [_hzb] at HZb
  have HIc := fun W => Lib.hid (finf_any W c)
  rw [_hic] at HIc
  generalize fS a = sa at *
  generalize fS b = sb at *
  generalize fS c = sc at *
  (try (have k1 : (sc == !(sa == sb)) = _ := _hse; clear _hsc _hse))
  go_enter Tryd.func21, Tryd.ntmps21
  go_wp2_with (first | (go_at_call 35; refine (HN _ _ (by go_simp) (by go_simp) (by go_simp)).out.mono ?_; rintro e w1 ⟨rfl, rfl⟩) | (go_at_call 37; (first | refine (HIa _).out.mono ?_ | refine (HIb _).out.mono ?_ | refine (HIc _).out.mono ?_); rintro e w1 ⟨rfl, rfl⟩) | (go_at_call 38; (first | refine (HZa _).out.mono ?_ | refine (HZb _).out.mono ?_ | refine (HZc _).out.mono ?_); rintro e w1 ⟨rfl, rfl⟩) | (go_at_call 36; (first | refine (HSa _).out.mono ?_ | refine (HSb _).out.mono ?_ | refine (HSc _).out.mono ?_); rintro e w1 ⟨rfl, rfl⟩) | (go_at_call 39; refine (HG _).out.mono ?_; rintro e w1 ⟨rfl, rfl⟩) | (go_at_call 43; refine (HO _).out.mono ?_; rintro e w1 ⟨rfl, rfl⟩))
  go_ret
  exact ⟨rfl, (by repeat (with_reducible first | refine Below.setCell ?_ (by simp <;> omega) _ | refine Below.alloc ?_ (by simp <;> omega) _ | refine Below.drew ?_ | refine below_drewN ?_ _ | exact Below.refl _ _))⟩

set_option maxRecDepth 100000 in
set_option maxHeartbeats 2000000 in
theorem wfma_nis (w : World) (a b c : Nat) (ha : a < 18446744073709551616) (hb : b < 18446744073709551616) (hc : c < 18446744073709551616) (mode : Int) (_hT : Tab w) (hn : (fnan a || fnan b || fnan c) = false) (_hia : finf a = false) (_hza : fzero a = false) (_hib : finf b = true) (_hzb : fzero b = false) (_hic : finf c = true) (_hsc : (fS c != (fS a != fS b)) = false) (_hse : (fS c == (fS a != fS b)) = true) :
    Calls Tryd.prog 21 #[.int .u64 a, .int .u64 b, .int .u64 c, .int .i64 mode] w fun o w' => o = .returned (.int .u64 ((fsgn (fS a != fS b) fInf : Nat) : Int)) ∧ Below w.heap.size w w' := by
  have HN := fun W g h0 h1 h2 => Lib.hid (nan3 W g a b c h0 h1 h2)
  rw [hn] at HN
  have HSa := fun W => Lib.hid (fsign_any W a ha)
  have HSb := fun W => Lib.hid (fsign_any W b hb)
  have HSc := fun W => Lib.hid (fsign_any W c hc)
  have HIa := fun W => Lib.hid (finf_any W a)
  rw [_hia] at HIa
  have HZa := fun W => Lib.hid (fzero_any W a)
  rw [_hza] at HZa
  have HIb := fun W => Lib.hid (finf_any W b)
  rw [_hib] at HIb
  have HZb := fun W => Lib.hid (fzero_any W b)
  rw [_hzb] at HZb
  have HIc := fun W => Lib.hid (finf_any W c)
  rw [_hic] at HIc
  have HG := fun W => Lib.hid (show Calls Tryd.prog 39 #[.int .u64 9218868437227405312, .bool (fS a != fS b)] W fun e w' => e = .returned (.int .u64 (fsgn (fS a != fS b) fInf : Nat)) ∧ W = w' from fsigned_any W fInf (fS a != fS b) (by decide))
  generalize ((fsgn (fS a != fS b) fInf : Nat) : Int) = V at *
  generalize fS a = sa at *
  generalize fS b = sb at *
  generalize fS c = sc at *
  (try (have k1 : (sc == !(sa == sb)) = _ := _hse; clear _hsc _hse))
  go_enter Tryd.func21, Tryd.ntmps21
  go_wp2_with (first | (go_at_call 35; refine (HN _ _ (by go_simp) (by go_simp) (by go_simp)).out.mono ?_; rintro e w1 ⟨rfl, rfl⟩) | (go_at_call 37; (first | refine (HIa _).out.mono ?_ | refine (HIb _).out.mono ?_ | refine (HIc _).out.mono ?_); rintro e w1 ⟨rfl, rfl⟩) | (go_at_call 38; (first | refine (HZa _).out.mono ?_ | refine (HZb _).out.mono ?_ | refine (HZc _).out.mono ?_); rintro e w1 ⟨rfl, rfl⟩) | (go_at_call 36; (first | refine (HSa _).out.mono ?_ | refine (HSb _).out.mono ?_ | refine (HSc _).out.mono ?_); rintro e w1 ⟨rfl, rfl⟩) | (go_at_call 39; refine (HG _).out.mono ?_; rintro e w1 ⟨rfl, rfl⟩) | (go_at_call 43; refine (HO _).out.mono ?_; rintro e w1 ⟨rfl, rfl⟩))
  go_ret
  exact ⟨rfl, (by repeat (with_reducible first | refine Below.setCell ?_ (by simp <;> omega) _ | refine Below.alloc ?_ (by simp <;> omega) _ | refine Below.drew ?_ | refine below_drewN ?_ _ | exact Below.refl _ _))⟩

set_option maxRecDepth 100000 in
set_option maxHeartbeats 2000000 in
theorem wfma_nif (w : World) (a b c : Nat) (ha : a < 18446744073709551616) (hb : b < 18446744073709551616) (hc : c < 18446744073709551616) (mode : Int) (_hT : Tab w) (hn : (fnan a || fnan b || fnan c) = false) (_hia : finf a = false) (_hza : fzero a = false) (_hib : finf b = true) (_hzb : fzero b = false) (_hic : finf c = false)  :
    Calls Tryd.prog 21 #[.int .u64 a, .int .u64 b, .int .u64 c, .int .i64 mode] w fun o w' => o = .returned (.int .u64 ((fsgn (fS a != fS b) fInf : Nat) : Int)) ∧ Below w.heap.size w w' := by
  have HN := fun W g h0 h1 h2 => Lib.hid (nan3 W g a b c h0 h1 h2)
  rw [hn] at HN
  have HSa := fun W => Lib.hid (fsign_any W a ha)
  have HSb := fun W => Lib.hid (fsign_any W b hb)
  have HSc := fun W => Lib.hid (fsign_any W c hc)
  have HIa := fun W => Lib.hid (finf_any W a)
  rw [_hia] at HIa
  have HZa := fun W => Lib.hid (fzero_any W a)
  rw [_hza] at HZa
  have HIb := fun W => Lib.hid (finf_any W b)
  rw [_hib] at HIb
  have HZb := fun W => Lib.hid (fzero_any W b)
  rw [_hzb] at HZb
  have HIc := fun W => Lib.hid (finf_any W c)
  rw [_hic] at HIc
  have HG := fun W => Lib.hid (show Calls Tryd.prog 39 #[.int .u64 9218868437227405312, .bool (fS a != fS b)] W fun e w' => e = .returned (.int .u64 (fsgn (fS a != fS b) fInf : Nat)) ∧ W = w' from fsigned_any W fInf (fS a != fS b) (by decide))
  generalize ((fsgn (fS a != fS b) fInf : Nat) : Int) = V at *
  generalize fS a = sa at *
  generalize fS b = sb at *
  generalize fS c = sc at *
  (try (have k1 : (sc == !(sa == sb)) = _ := _hse; clear _hsc _hse))
  go_enter Tryd.func21, Tryd.ntmps21
  go_wp2_with (first | (go_at_call 35; refine (HN _ _ (by go_simp) (by go_simp) (by go_simp)).out.mono ?_; rintro e w1 ⟨rfl, rfl⟩) | (go_at_call 37; (first | refine (HIa _).out.mono ?_ | refine (HIb _).out.mono ?_ | refine (HIc _).out.mono ?_); rintro e w1 ⟨rfl, rfl⟩) | (go_at_call 38; (first | refine (HZa _).out.mono ?_ | refine (HZb _).out.mono ?_ | refine (HZc _).out.mono ?_); rintro e w1 ⟨rfl, rfl⟩) | (go_at_call 36; (first | refine (HSa _).out.mono ?_ | refine (HSb _).out.mono ?_ | refine (HSc _).out.mono ?_); rintro e w1 ⟨rfl, rfl⟩) | (go_at_call 39; refine (HG _).out.mono ?_; rintro e w1 ⟨rfl, rfl⟩) | (go_at_call 43; refine (HO _).out.mono ?_; rintro e w1 ⟨rfl, rfl⟩))
  go_ret
  exact ⟨rfl, (by repeat (with_reducible first | refine Below.setCell ?_ (by simp <;> omega) _ | refine Below.alloc ?_ (by simp <;> omega) _ | refine Below.drew ?_ | refine below_drewN ?_ _ | exact Below.refl _ _))⟩

set_option maxRecDepth 100000 in
set_option maxHeartbeats 2000000 in
theorem wfma_zc (w : World) (a b c : Nat) (ha : a < 18446744073709551616) (hb : b < 18446744073709551616) (hc : c < 18446744073709551616) (mode : Int) (_hT : Tab w) (hn : (fnan a || fnan b || fnan c) = false) (_hia : finf a = false) (_hza : fzero a = true) (_hib : finf b = false) (_hic : finf c = true)  :
    Calls Tryd.prog 21 #[.int .u64 a, .int .u64 b, .int .u64 c, .int .i64 mode] w fun o w' => o = .returned (.int .u64 (c : Int)) ∧ Below w.heap.size w w' := by
  have HN := fun W g h0 h1 h2 => Lib.hid (nan3 W g a b c h0 h1 h2)
  rw [hn] at HN
  have HSa := fun W => Lib.hid (fsign_any W a ha)
  have HSb := fun W => Lib.hid (fsign_any W b hb)
  have HSc := fun W => Lib.hid (fsign_any W c hc)
  have HIa := fun W => Lib.hid (finf_any W a)
  rw [_hia] at HIa
  have HZa := fun W => Lib.hid (fzero_any W a)
  rw [_hza] at HZa
  have HIb := fun W => Lib.hid (finf_any W b)
  rw [_hib] at HIb
  have HIc := fun W => Lib.hid (finf_any W c)
  rw [_hic] at HIc
  generalize fS a = sa at *
  generalize fS b = sb at *
  generalize fS c = sc at *
  (try (have k1 : (sc == !(sa == sb)) = _ := _hse; clear _hsc _hse))
  go_enter Tryd.func21, Tryd.ntmps21
  go_wp2_with (first | (go_at_call 35; refine (HN _ _ (by go_simp) (by go_simp) (by go_simp)).out.mono ?_; rintro e w1 ⟨rfl, rfl⟩) | (go_at_call 37; (first | refine (HIa _).out.mono ?_ | refine (HIb _).out.mono ?_ | refine (HIc _).out.mono ?_); rintro e w1 ⟨rfl, rfl⟩) | (go_at_call 38; (first | refine (HZa _).out.mono ?_ | refine (HZb _).out.mono ?_ | refine (HZc _).out.mono ?_); rintro e w1 ⟨rfl, rfl⟩) | (go_at_call 36; (first | refine (HSa _).out.mono ?_ | refine (HSb _).out.mono ?_ | refine (HSc _).out.mono ?_); rintro e w1 ⟨rfl, rfl⟩) | (go_at_call 39; refine (HG _).out.mono ?_; rintro e w1 ⟨rfl, rfl⟩) | (go_at_call 43; refine (HO _).out.mono ?_; rintro e w1 ⟨rfl, rfl⟩))
  go_ret
  exact ⟨rfl, (by repeat (with_reducible first | refine Below.setCell ?_ (by simp <;> omega) _ | refine Below.alloc ?_ (by simp <;> omega) _ | refine Below.drew ?_ | refine below_drewN ?_ _ | exact Below.refl _ _))⟩

set_option maxRecDepth 100000 in
set_option maxHeartbeats 2000000 in
theorem wfma_zr (w : World) (a b c : Nat) (ha : a < 18446744073709551616) (hb : b < 18446744073709551616) (hc : c < 18446744073709551616) (mode : Int) (_hT : Tab w) (hn : (fnan a || fnan b || fnan c) = false) (_hia : finf a = false) (_hza : fzero a = true) (_hib : finf b = false) (_hic : finf c = false) (hs0 : dman (dadd (dmul (fof a) (fof b)) (fof c)) ≠ 0) :
    Calls Tryd.prog 21 #[.int .u64 a, .int .u64 b, .int .u64 c, .int .i64 mode] w fun o w' => o = .returned (.int .u64 ((fround (dadd (dmul (fof a) (fof b)) (fof c)) mode : Nat) : Int)) ∧ Below w.heap.size w w' := by
  have HN := fun W g h0 h1 h2 => Lib.hid (nan3 W g a b c h0 h1 h2)
  rw [hn] at HN
  have HSa := fun W => Lib.hid (fsign_any W a ha)
  have HSb := fun W => Lib.hid (fsign_any W b hb)
  have HSc := fun W => Lib.hid (fsign_any W c hc)
  have HIa := fun W => Lib.hid (finf_any W a)
  rw [_hia] at HIa
  have HZa := fun W => Lib.hid (fzero_any W a)
  rw [_hza] at HZa
  have HIb := fun W => Lib.hid (finf_any W b)
  rw [_hib] at HIb
  have HIc := fun W => Lib.hid (finf_any W c)
  rw [_hic] at HIc
  have HOfa := fun W ht => Lib.hid (fof_any W a ha ht)
  have Na := Lib.hid (isN_fof a)
  have HOfb := fun W ht => Lib.hid (fof_any W b hb ht)
  have Nb := Lib.hid (isN_fof b)
  have HOfc := fun W ht => Lib.hid (fof_any W c hc ht)
  have Nc := Lib.hid (isN_fof c)
  generalize fof a = da at *
  generalize fof b = db at *
  generalize fof c = dc at *
  have HP := fun W ba qa bb qb (ha' : Mag W ba (nl (dman da).natAbs) qa (dman da).natAbs) (hb' : Mag W bb (nl (dman db).natAbs) qb (dman db).natAbs) ht => Lib.hid (dmul_any W _ _ _ _ _ _ _ _ _ _ _ _ _ _ (dyin_of Na.out ha') (dyin_of Nb.out hb') ht)
  have Np := Lib.hid (isN_mul da db)
  generalize dmul da db = dp at *
  have HA := fun W bp qp bc qc (hp' : Mag W bp (nl (dman dp).natAbs) qp (dman dp).natAbs) (hc' : Mag W bc (nl (dman dc).natAbs) qc (dman dc).natAbs) ht => Lib.hid (dadd_any W _ _ _ _ _ _ _ _ _ _ _ _ _ _ (dyin_of Np.out hp') (dyin_of Nc.out hc') ht)
  have Nu := Lib.hid (isN_add dp dc)
  generalize dadd dp dc = du at *
  have HSg := fun W bu qu (hu' : Mag W bu (nl (dman du).natAbs) qu (dman du).natAbs) ht => Lib.hid (dsign_any W _ _ _ _ _ _ _ (dyin_of Nu.out hu') ht)
  obtain ⟨g, hg⟩ : ∃ g, g = cmpI (dman du) 0 := ⟨_, rfl⟩
  rw [← hg] at HSg
  have hge : (g != 0) = true := by rw [hg]; unfold cmpI; split <;> (try split) <;> first | decide | (exfalso; omega)
  have HQ := Lib.hid hs0
  clear hs0 hg
  have HR := fun W bu qu (hu' : Mag W bu (nl (dman du).natAbs) qu (dman du).natAbs) ht => Lib.hid (fround_any W _ _ _ _ _ _ mode _ (dyin_of Nu.out hu') ht)
  generalize ((fround du mode : Nat) : Int) = V at *
  generalize fS a = sa at *
  generalize fS b = sb at *
  generalize fS c = sc at *
  (try (have k1 : (sc == !(sa == sb)) = _ := _hse; clear _hsc _hse))
  go_enter Tryd.func21, Tryd.ntmps21
  go_wp2_with (first | (go_at_call 35; refine (HN _ _ (by go_simp) (by go_simp) (by go_simp)).out.mono ?_; rintro e w1 ⟨rfl, rfl⟩) | (go_at_call 37; (first | refine (HIa _).out.mono ?_ | refine (HIb _).out.mono ?_ | refine (HIc _).out.mono ?_); rintro e w1 ⟨rfl, rfl⟩) | (go_at_call 38; (first | refine (HZa _).out.mono ?_ | refine (HZb _).out.mono ?_ | refine (HZc _).out.mono ?_); rintro e w1 ⟨rfl, rfl⟩) | (go_at_call 36; (first | refine (HSa _).out.mono ?_ | refine (HSb _).out.mono ?_ | refine (HSc _).out.mono ?_); rintro e w1 ⟨rfl, rfl⟩) | (go_at_call 39; refine (HG _).out.mono ?_; rintro e w1 ⟨rfl, rfl⟩) | (go_at_call 43; refine (HO _).out.mono ?_; rintro e w1 ⟨rfl, rfl⟩))
  refine (HOfa _ (_hT.below (by repeat (with_reducible first | refine Below.setCell ?_ (by simp <;> omega) _ | refine Below.alloc ?_ (by simp <;> omega) _ | refine Below.drew ?_ | refine below_drewN ?_ _ | exact Below.refl _ _)))).out.mono ?_
  rintro e w1 ⟨aa, ca, rfl, Ma, hb, _⟩
  have B1 := below_box (w := w) (by repeat (with_reducible first | refine Below.setCell ?_ (by simp <;> omega) _ | refine Below.alloc ?_ (by simp <;> omega) _ | refine Below.drew ?_ | refine below_drewN ?_ _ | exact Below.refl _ _)) hb
  clear hb
  go_wp2_with fail
  refine (HOfb _ (_hT.below (by have hszw := (B1).size; repeat (with_reducible first | refine Below.setCell ?_ (by first | omega | (simp <;> omega)) _ | refine Below.alloc ?_ (by first | omega | (simp <;> omega)) _ | refine Below.drew ?_ | refine below_drewN ?_ _ | exact B1)))).out.mono ?_
  rintro e w2 ⟨ab, cb, rfl, Mb, hb, _⟩
  have Ma : Mag w2 aa (nl (dman da).natAbs) ca (dman da).natAbs := Mag.below (by repeat (with_reducible first | refine Mag.set ?_ (fun h => by have := Ma h; omega) _ _ | refine Mag.drew ?_ | refine Mag.alloc ?_ _ | refine Mag.drewN ?_ _ | refine Mag.below ?_ (Below.drew (Below.refl _ _)) | refine Mag.below ?_ ((Below.refl _ _).alloc (Nat.le_refl _) _) | exact Ma)) hb
  have B2 := below_box (w := w) (by have hszw := (B1).size; repeat (with_reducible first | refine Below.setCell ?_ (by first | omega | (simp <;> omega)) _ | refine Below.alloc ?_ (by first | omega | (simp <;> omega)) _ | refine Below.drew ?_ | refine below_drewN ?_ _ | exact B1)) hb
  clear hb
  go_wp2_with fail
  refine (HP _ aa ca ab cb (by repeat (with_reducible first | refine Mag.set ?_ (fun h => by have := Ma h; omega) _ _ | refine Mag.drew ?_ | refine Mag.alloc ?_ _ | refine Mag.drewN ?_ _ | refine Mag.below ?_ (Below.drew (Below.refl _ _)) | refine Mag.below ?_ ((Below.refl _ _).alloc (Nat.le_refl _) _) | exact Ma)) (by repeat (with_reducible first | refine Mag.set ?_ (fun h => by have := Mb h; omega) _ _ | refine Mag.drew ?_ | refine Mag.alloc ?_ _ | refine Mag.drewN ?_ _ | refine Mag.below ?_ (Below.drew (Below.refl _ _)) | refine Mag.below ?_ ((Below.refl _ _).alloc (Nat.le_refl _) _) | exact Mb)) (_hT.below (by have hszw := (B2).size; repeat (with_reducible first | refine Below.setCell ?_ (by first | omega | (simp <;> omega)) _ | refine Below.alloc ?_ (by first | omega | (simp <;> omega)) _ | refine Below.drew ?_ | refine below_drewN ?_ _ | exact B2)))).out.mono ?_
  rintro e w3 ⟨ap, cp, rfl, Mp, hb, _⟩
  have B3 := below_box (w := w) (by have hszw := (B2).size; repeat (with_reducible first | refine Below.setCell ?_ (by first | omega | (simp <;> omega)) _ | refine Below.alloc ?_ (by first | omega | (simp <;> omega)) _ | refine Below.drew ?_ | refine below_drewN ?_ _ | exact B2)) hb
  clear hb
  go_wp2_with fail
  refine (HOfc _ (_hT.below (by have hszw := (B3).size; repeat (with_reducible first | refine Below.setCell ?_ (by first | omega | (simp <;> omega)) _ | refine Below.alloc ?_ (by first | omega | (simp <;> omega)) _ | refine Below.drew ?_ | refine below_drewN ?_ _ | exact B3)))).out.mono ?_
  rintro e w4 ⟨ac, cc, rfl, Mc, hb, _⟩
  have Mp : Mag w4 ap (nl (dman dp).natAbs) cp (dman dp).natAbs := Mag.below (by repeat (with_reducible first | refine Mag.set ?_ (fun h => by have := Mp h; omega) _ _ | refine Mag.drew ?_ | refine Mag.alloc ?_ _ | refine Mag.drewN ?_ _ | refine Mag.below ?_ (Below.drew (Below.refl _ _)) | refine Mag.below ?_ ((Below.refl _ _).alloc (Nat.le_refl _) _) | exact Mp)) hb
  have B4 := below_box (w := w) (by have hszw := (B3).size; repeat (with_reducible first | refine Below.setCell ?_ (by first | omega | (simp <;> omega)) _ | refine Below.alloc ?_ (by first | omega | (simp <;> omega)) _ | refine Below.drew ?_ | refine below_drewN ?_ _ | exact B3)) hb
  clear hb
  go_wp2_with fail
  refine (HA _ ap cp ac cc (by repeat (with_reducible first | refine Mag.set ?_ (fun h => by have := Mp h; omega) _ _ | refine Mag.drew ?_ | refine Mag.alloc ?_ _ | refine Mag.drewN ?_ _ | refine Mag.below ?_ (Below.drew (Below.refl _ _)) | refine Mag.below ?_ ((Below.refl _ _).alloc (Nat.le_refl _) _) | exact Mp)) (by repeat (with_reducible first | refine Mag.set ?_ (fun h => by have := Mc h; omega) _ _ | refine Mag.drew ?_ | refine Mag.alloc ?_ _ | refine Mag.drewN ?_ _ | refine Mag.below ?_ (Below.drew (Below.refl _ _)) | refine Mag.below ?_ ((Below.refl _ _).alloc (Nat.le_refl _) _) | exact Mc)) (_hT.below (by have hszw := (B4).size; repeat (with_reducible first | refine Below.setCell ?_ (by first | omega | (simp <;> omega)) _ | refine Below.alloc ?_ (by first | omega | (simp <;> omega)) _ | refine Below.drew ?_ | refine below_drewN ?_ _ | exact B4)))).out.mono ?_
  rintro e w5 ⟨au, cu, rfl, Mu, hb, _⟩
  have B5 := below_box (w := w) (by have hszw := (B4).size; repeat (with_reducible first | refine Below.setCell ?_ (by first | omega | (simp <;> omega)) _ | refine Below.alloc ?_ (by first | omega | (simp <;> omega)) _ | refine Below.drew ?_ | refine below_drewN ?_ _ | exact B4)) hb
  clear hb
  go_wp2_with fail
  have Vu := DyV.made w5 28 (dbad du) (decide (dman du < 0)) (.slice au (nl (dman du).natAbs) cu) (dexp du)
  refine (HSg _ au cu (by repeat (with_reducible first | refine Mag.set ?_ (fun h => by have := Mu h; omega) _ _ | refine Mag.drew ?_ | refine Mag.alloc ?_ _ | refine Mag.drewN ?_ _ | refine Mag.below ?_ (Below.drew (Below.refl _ _)) | refine Mag.below ?_ ((Below.refl _ _).alloc (Nat.le_refl _) _) | exact Mu)) (_hT.below (by have hszw := (B5).size; repeat (with_reducible first | refine Below.setCell ?_ (by first | omega | (simp <;> omega)) _ | refine Below.alloc ?_ (by first | omega | (simp <;> omega)) _ | refine Below.drew ?_ | refine below_drewN ?_ _ | exact B5)))).out.mono ?_
  rintro e w6 ⟨rfl, hb⟩
  obtain ⟨p0, p1, p2, p3, p4, p5⟩ := Vu.below hb
  have Mu : Mag w6 au (nl (dman du).natAbs) cu (dman du).natAbs := Mag.below (by repeat (with_reducible first | refine Mag.set ?_ (fun h => by have := Mu h; omega) _ _ | refine Mag.drew ?_ | refine Mag.alloc ?_ _ | refine Mag.drewN ?_ _ | refine Mag.below ?_ (Below.drew (Below.refl _ _)) | refine Mag.below ?_ ((Below.refl _ _).alloc (Nat.le_refl _) _) | exact Mu)) hb
  have B6 := below_box (w := w) (by have hszw := (B5).size; repeat (with_reducible first | refine Below.setCell ?_ (by first | omega | (simp <;> omega)) _ | refine Below.alloc ?_ (by first | omega | (simp <;> omega)) _ | refine Below.drew ?_ | refine below_drewN ?_ _ | exact B5)) hb
  clear hb
  go_wp2_with fail
  refine (HR _ au cu (by repeat (with_reducible first | refine Mag.set ?_ (fun h => by have := Mu h; omega) _ _ | refine Mag.drew ?_ | refine Mag.alloc ?_ _ | refine Mag.drewN ?_ _ | refine Mag.below ?_ (Below.drew (Below.refl _ _)) | refine Mag.below ?_ ((Below.refl _ _).alloc (Nat.le_refl _) _) | exact Mu)) (_hT.below (by have hszw := (B6).size; repeat (with_reducible first | refine Below.setCell ?_ (by first | omega | (simp <;> omega)) _ | refine Below.alloc ?_ (by first | omega | (simp <;> omega)) _ | refine Below.drew ?_ | refine below_drewN ?_ _ | exact B6)))).out.mono ?_
  rintro e w7 ⟨rfl, hb⟩
  have Mu : Mag w7 au (nl (dman du).natAbs) cu (dman du).natAbs := Mag.below (by repeat (with_reducible first | refine Mag.set ?_ (fun h => by have := Mu h; omega) _ _ | refine Mag.drew ?_ | refine Mag.alloc ?_ _ | refine Mag.drewN ?_ _ | refine Mag.below ?_ (Below.drew (Below.refl _ _)) | refine Mag.below ?_ ((Below.refl _ _).alloc (Nat.le_refl _) _) | exact Mu)) hb
  have B7 := below_box (w := w) (by have hszw := (B6).size; repeat (with_reducible first | refine Below.setCell ?_ (by first | omega | (simp <;> omega)) _ | refine Below.alloc ?_ (by first | omega | (simp <;> omega)) _ | refine Below.drew ?_ | refine below_drewN ?_ _ | exact B6)) hb
  clear hb
  go_wp2_with fail
  go_ret
  exact ⟨rfl, (by have hszw := (B7).size; repeat (with_reducible first | refine Below.setCell ?_ (by first | omega | (simp <;> omega)) _ | refine Below.alloc ?_ (by first | omega | (simp <;> omega)) _ | refine Below.drew ?_ | refine below_drewN ?_ _ | exact B7))⟩

set_option maxRecDepth 100000 in
set_option maxHeartbeats 2000000 in
theorem wfma_zs (w : World) (a b c : Nat) (ha : a < 18446744073709551616) (hb : b < 18446744073709551616) (hc : c < 18446744073709551616) (mode : Int) (_hT : Tab w) (hn : (fnan a || fnan b || fnan c) = false) (_hia : finf a = false) (_hza : fzero a = true) (_hib : finf b = false) (_hic : finf c = false) (hs0 : dman (dadd (dmul (fof a) (fof b)) (fof c)) = 0) (_hsc : (fS c != (fS a != fS b)) = false) (_hse : (fS c == (fS a != fS b)) = true) :
    Calls Tryd.prog 21 #[.int .u64 a, .int .u64 b, .int .u64 c, .int .i64 mode] w fun o w' => o = .returned (.int .u64 ((fsgn (fS a != fS b) 0 : Nat) : Int)) ∧ Below w.heap.size w w' := by
  have HN := fun W g h0 h1 h2 => Lib.hid (nan3 W g a b c h0 h1 h2)
  rw [hn] at HN
  have HSa := fun W => Lib.hid (fsign_any W a ha)
  have HSb := fun W => Lib.hid (fsign_any W b hb)
  have HSc := fun W => Lib.hid (fsign_any W c hc)
  have HIa := fun W => Lib.hid (finf_any W a)
  rw [_hia] at HIa
  have HZa := fun W => Lib.hid (fzero_any W a)
  rw [_hza] at HZa
  have HIb := fun W => Lib.hid (finf_any W b)
  rw [_hib] at HIb
  have HIc := fun W => Lib.hid (finf_any W c)
  rw [_hic] at HIc
  have HOfa := fun W ht => Lib.hid (fof_any W a ha ht)
  have Na := Lib.hid (isN_fof a)
  have HOfb := fun W ht => Lib.hid (fof_any W b hb ht)
  have Nb := Lib.hid (isN_fof b)
  have HOfc := fun W ht => Lib.hid (fof_any W c hc ht)
  have Nc := Lib.hid (isN_fof c)
  generalize fof a = da at *
  generalize fof b = db at *
  generalize fof c = dc at *
  have HP := fun W ba qa bb qb (ha' : Mag W ba (nl (dman da).natAbs) qa (dman da).natAbs) (hb' : Mag W bb (nl (dman db).natAbs) qb (dman db).natAbs) ht => Lib.hid (dmul_any W _ _ _ _ _ _ _ _ _ _ _ _ _ _ (dyin_of Na.out ha') (dyin_of Nb.out hb') ht)
  have Np := Lib.hid (isN_mul da db)
  generalize dmul da db = dp at *
  have HA := fun W bp qp bc qc (hp' : Mag W bp (nl (dman dp).natAbs) qp (dman dp).natAbs) (hc' : Mag W bc (nl (dman dc).natAbs) qc (dman dc).natAbs) ht => Lib.hid (dadd_any W _ _ _ _ _ _ _ _ _ _ _ _ _ _ (dyin_of Np.out hp') (dyin_of Nc.out hc') ht)
  have Nu := Lib.hid (isN_add dp dc)
  generalize dadd dp dc = du at *
  have HSg := fun W bu qu (hu' : Mag W bu (nl (dman du).natAbs) qu (dman du).natAbs) ht => Lib.hid (dsign_any W _ _ _ _ _ _ _ (dyin_of Nu.out hu') ht)
  obtain ⟨g, hg⟩ : ∃ g, g = cmpI (dman du) 0 := ⟨_, rfl⟩
  rw [← hg] at HSg
  have hge : (g != 0) = false := by rw [hg, hs0]; rfl
  have HQ := Lib.hid hs0
  clear hs0 hg
  have HG := fun W => Lib.hid (show Calls Tryd.prog 39 #[.int .u64 0, .bool (fS a != fS b)] W fun e w' => e = .returned (.int .u64 (fsgn (fS a != fS b) 0 : Nat)) ∧ W = w' from fsigned_any W 0 (fS a != fS b) (by decide))
  generalize ((fsgn (fS a != fS b) 0 : Nat) : Int) = V at *
  generalize fS a = sa at *
  generalize fS b = sb at *
  generalize fS c = sc at *
  (try (have k1 : (sc == !(sa == sb)) = _ := _hse; clear _hsc _hse))
  go_enter Tryd.func21, Tryd.ntmps21
  go_wp2_with (first | (go_at_call 35; refine (HN _ _ (by go_simp) (by go_simp) (by go_simp)).out.mono ?_; rintro e w1 ⟨rfl, rfl⟩) | (go_at_call 37; (first | refine (HIa _).out.mono ?_ | refine (HIb _).out.mono ?_ | refine (HIc _).out.mono ?_); rintro e w1 ⟨rfl, rfl⟩) | (go_at_call 38; (first | refine (HZa _).out.mono ?_ | refine (HZb _).out.mono ?_ | refine (HZc _).out.mono ?_); rintro e w1 ⟨rfl, rfl⟩) | (go_at_call 36; (first | refine (HSa _).out.mono ?_ | refine (HSb _).out.mono ?_ | refine (HSc _).out.mono ?_); rintro e w1 ⟨rfl, rfl⟩) | (go_at_call 39; refine (HG _).out.mono ?_; rintro e w1 ⟨rfl, rfl⟩) | (go_at_call 43; refine (HO _).out.mono ?_; rintro e w1 ⟨rfl, rfl⟩))
  refine (HOfa _ (_hT.below (by repeat (with_reducible first | refine Below.setCell ?_ (by simp <;> omega) _ | refine Below.alloc ?_ (by simp <;> omega) _ | refine Below.drew ?_ | refine below_drewN ?_ _ | exact Below.refl _ _)))).out.mono ?_
  rintro e w1 ⟨aa, ca, rfl, Ma, hb, _⟩
  have B1 := below_box (w := w) (by repeat (with_reducible first | refine Below.setCell ?_ (by simp <;> omega) _ | refine Below.alloc ?_ (by simp <;> omega) _ | refine Below.drew ?_ | refine below_drewN ?_ _ | exact Below.refl _ _)) hb
  clear hb
  go_wp2_with fail
  refine (HOfb _ (_hT.below (by have hszw := (B1).size; repeat (with_reducible first | refine Below.setCell ?_ (by first | omega | (simp <;> omega)) _ | refine Below.alloc ?_ (by first | omega | (simp <;> omega)) _ | refine Below.drew ?_ | refine below_drewN ?_ _ | exact B1)))).out.mono ?_
  rintro e w2 ⟨ab, cb, rfl, Mb, hb, _⟩
  have Ma : Mag w2 aa (nl (dman da).natAbs) ca (dman da).natAbs := Mag.below (by repeat (with_reducible first | refine Mag.set ?_ (fun h => by have := Ma h; omega) _ _ | refine Mag.drew ?_ | refine Mag.alloc ?_ _ | refine Mag.drewN ?_ _ | refine Mag.below ?_ (Below.drew (Below.refl _ _)) | refine Mag.below ?_ ((Below.refl _ _).alloc (Nat.le_refl _) _) | exact Ma)) hb
  have B2 := below_box (w := w) (by have hszw := (B1).size; repeat (with_reducible first | refine Below.setCell ?_ (by first | omega | (simp <;> omega)) _ | refine Below.alloc ?_ (by first | omega | (simp <;> omega)) _ | refine Below.drew ?_ | refine below_drewN ?_ _ | exact B1)) hb
  clear hb
  go_wp2_with fail
  refine (HP _ aa ca ab cb (by repeat (with_reducible first | refine Mag.set ?_ (fun h => by have := Ma h; omega) _ _ | refine Mag.drew ?_ | refine Mag.alloc ?_ _ | refine Mag.drewN ?_ _ | refine Mag.below ?_ (Below.drew (Below.refl _ _)) | refine Mag.below ?_ ((Below.refl _ _).alloc (Nat.le_refl _) _) | exact Ma)) (by repeat (with_reducible first | refine Mag.set ?_ (fun h => by have := Mb h; omega) _ _ | refine Mag.drew ?_ | refine Mag.alloc ?_ _ | refine Mag.drewN ?_ _ | refine Mag.below ?_ (Below.drew (Below.refl _ _)) | refine Mag.below ?_ ((Below.refl _ _).alloc (Nat.le_refl _) _) | exact Mb)) (_hT.below (by have hszw := (B2).size; repeat (with_reducible first | refine Below.setCell ?_ (by first | omega | (simp <;> omega)) _ | refine Below.alloc ?_ (by first | omega | (simp <;> omega)) _ | refine Below.drew ?_ | refine below_drewN ?_ _ | exact B2)))).out.mono ?_
  rintro e w3 ⟨ap, cp, rfl, Mp, hb, _⟩
  have B3 := below_box (w := w) (by have hszw := (B2).size; repeat (with_reducible first | refine Below.setCell ?_ (by first | omega | (simp <;> omega)) _ | refine Below.alloc ?_ (by first | omega | (simp <;> omega)) _ | refine Below.drew ?_ | refine below_drewN ?_ _ | exact B2)) hb
  clear hb
  go_wp2_with fail
  refine (HOfc _ (_hT.below (by have hszw := (B3).size; repeat (with_reducible first | refine Below.setCell ?_ (by first | omega | (simp <;> omega)) _ | refine Below.alloc ?_ (by first | omega | (simp <;> omega)) _ | refine Below.drew ?_ | refine below_drewN ?_ _ | exact B3)))).out.mono ?_
  rintro e w4 ⟨ac, cc, rfl, Mc, hb, _⟩
  have Mp : Mag w4 ap (nl (dman dp).natAbs) cp (dman dp).natAbs := Mag.below (by repeat (with_reducible first | refine Mag.set ?_ (fun h => by have := Mp h; omega) _ _ | refine Mag.drew ?_ | refine Mag.alloc ?_ _ | refine Mag.drewN ?_ _ | refine Mag.below ?_ (Below.drew (Below.refl _ _)) | refine Mag.below ?_ ((Below.refl _ _).alloc (Nat.le_refl _) _) | exact Mp)) hb
  have B4 := below_box (w := w) (by have hszw := (B3).size; repeat (with_reducible first | refine Below.setCell ?_ (by first | omega | (simp <;> omega)) _ | refine Below.alloc ?_ (by first | omega | (simp <;> omega)) _ | refine Below.drew ?_ | refine below_drewN ?_ _ | exact B3)) hb
  clear hb
  go_wp2_with fail
  refine (HA _ ap cp ac cc (by repeat (with_reducible first | refine Mag.set ?_ (fun h => by have := Mp h; omega) _ _ | refine Mag.drew ?_ | refine Mag.alloc ?_ _ | refine Mag.drewN ?_ _ | refine Mag.below ?_ (Below.drew (Below.refl _ _)) | refine Mag.below ?_ ((Below.refl _ _).alloc (Nat.le_refl _) _) | exact Mp)) (by repeat (with_reducible first | refine Mag.set ?_ (fun h => by have := Mc h; omega) _ _ | refine Mag.drew ?_ | refine Mag.alloc ?_ _ | refine Mag.drewN ?_ _ | refine Mag.below ?_ (Below.drew (Below.refl _ _)) | refine Mag.below ?_ ((Below.refl _ _).alloc (Nat.le_refl _) _) | exact Mc)) (_hT.below (by have hszw := (B4).size; repeat (with_reducible first | refine Below.setCell ?_ (by first | omega | (simp <;> omega)) _ | refine Below.alloc ?_ (by first | omega | (simp <;> omega)) _ | refine Below.drew ?_ | refine below_drewN ?_ _ | exact B4)))).out.mono ?_
  rintro e w5 ⟨au, cu, rfl, Mu, hb, _⟩
  have B5 := below_box (w := w) (by have hszw := (B4).size; repeat (with_reducible first | refine Below.setCell ?_ (by first | omega | (simp <;> omega)) _ | refine Below.alloc ?_ (by first | omega | (simp <;> omega)) _ | refine Below.drew ?_ | refine below_drewN ?_ _ | exact B4)) hb
  clear hb
  go_wp2_with fail
  refine (HSg _ au cu (by repeat (with_reducible first | refine Mag.set ?_ (fun h => by have := Mu h; omega) _ _ | refine Mag.drew ?_ | refine Mag.alloc ?_ _ | refine Mag.drewN ?_ _ | refine Mag.below ?_ (Below.drew (Below.refl _ _)) | refine Mag.below ?_ ((Below.refl _ _).alloc (Nat.le_refl _) _) | exact Mu)) (_hT.below (by have hszw := (B5).size; repeat (with_reducible first | refine Below.setCell ?_ (by first | omega | (simp <;> omega)) _ | refine Below.alloc ?_ (by first | omega | (simp <;> omega)) _ | refine Below.drew ?_ | refine below_drewN ?_ _ | exact B5)))).out.mono ?_
  rintro e w6 ⟨rfl, hb⟩
  have Mu : Mag w6 au (nl (dman du).natAbs) cu (dman du).natAbs := Mag.below (by repeat (with_reducible first | refine Mag.set ?_ (fun h => by have := Mu h; omega) _ _ | refine Mag.drew ?_ | refine Mag.alloc ?_ _ | refine Mag.drewN ?_ _ | refine Mag.below ?_ (Below.drew (Below.refl _ _)) | refine Mag.below ?_ ((Below.refl _ _).alloc (Nat.le_refl _) _) | exact Mu)) hb
  have B6 := below_box (w := w) (by have hszw := (B5).size; repeat (with_reducible first | refine Below.setCell ?_ (by first | omega | (simp <;> omega)) _ | refine Below.alloc ?_ (by first | omega | (simp <;> omega)) _ | refine Below.drew ?_ | refine below_drewN ?_ _ | exact B5)) hb
  clear hb
  go_wp2_with fail
  refine (HSc _).out.mono ?_
  rintro e wx ⟨rfl, rfl⟩
  go_wp2_with fail
  refine (HG _).out.mono ?_
  rintro e wx ⟨rfl, rfl⟩
  go_wp2_with fail
  go_ret
  exact ⟨rfl, (by have hszw := (B6).size; repeat (with_reducible first | refine Below.setCell ?_ (by first | omega | (simp <;> omega)) _ | refine Below.alloc ?_ (by first | omega | (simp <;> omega)) _ | refine Below.drew ?_ | refine below_drewN ?_ _ | exact B6))⟩

set_option maxRecDepth 100000 in
set_option maxHeartbeats 2000000 in
theorem wfma_zo (w : World) (a b c : Nat) (ha : a < 18446744073709551616) (hb : b < 18446744073709551616) (hc : c < 18446744073709551616) (mode : Int) (_hT : Tab w) (hn : (fnan a || fnan b || fnan c) = false) (_hia : finf a = false) (_hza : fzero a = true) (_hib : finf b = false) (_hic : finf c = false) (hs0 : dman (dadd (dmul (fof a) (fof b)) (fof c)) = 0) (_hsc : (fS c != (fS a != fS b)) = true) (_hse : (fS c == (fS a != fS b)) = false) :
    Calls Tryd.prog 21 #[.int .u64 a, .int .u64 b, .int .u64 c, .int .i64 mode] w fun o w' => o = .returned (.int .u64 ((fnothing mode : Nat) : Int)) ∧ Below w.heap.size w w' := by
  have HN := fun W g h0 h1 h2 => Lib.hid (nan3 W g a b c h0 h1 h2)
  rw [hn] at HN
  have HSa := fun W => Lib.hid (fsign_any W a ha)
  have HSb := fun W => Lib.hid (fsign_any W b hb)
  have HSc := fun W => Lib.hid (fsign_any W c hc)
  have HIa := fun W => Lib.hid (finf_any W a)
  rw [_hia] at HIa
  have HZa := fun W => Lib.hid (fzero_any W a)
  rw [_hza] at HZa
  have HIb := fun W => Lib.hid (finf_any W b)
  rw [_hib] at HIb
  have HIc := fun W => Lib.hid (finf_any W c)
  rw [_hic] at HIc
  have HOfa := fun W ht => Lib.hid (fof_any W a ha ht)
  have Na := Lib.hid (isN_fof a)
  have HOfb := fun W ht => Lib.hid (fof_any W b hb ht)
  have Nb := Lib.hid (isN_fof b)
  have HOfc := fun W ht => Lib.hid (fof_any W c hc ht)
  have Nc := Lib.hid (isN_fof c)
  generalize fof a = da at *
  generalize fof b = db at *
  generalize fof c = dc at *
  have HP := fun W ba qa bb qb (ha' : Mag W ba (nl (dman da).natAbs) qa (dman da).natAbs) (hb' : Mag W bb (nl (dman db).natAbs) qb (dman db).natAbs) ht => Lib.hid (dmul_any W _ _ _ _ _ _ _ _ _ _ _ _ _ _ (dyin_of Na.out ha') (dyin_of Nb.out hb') ht)
  have Np := Lib.hid (isN_mul da db)
  generalize dmul da db = dp at *
  have HA := fun W bp qp bc qc (hp' : Mag W bp (nl (dman dp).natAbs) qp (dman dp).natAbs) (hc' : Mag W bc (nl (dman dc).natAbs) qc (dman dc).natAbs) ht => Lib.hid (dadd_any W _ _ _ _ _ _ _ _ _ _ _ _ _ _ (dyin_of Np.out hp') (dyin_of Nc.out hc') ht)
  have Nu := Lib.hid (isN_add dp dc)
  generalize dadd dp dc = du at *
  have HSg := fun W bu qu (hu' : Mag W bu (nl (dman du).natAbs) qu (dman du).natAbs) ht => Lib.hid (dsign_any W _ _ _ _ _ _ _ (dyin_of Nu.out hu') ht)
  obtain ⟨g, hg⟩ : ∃ g, g = cmpI (dman du) 0 := ⟨_, rfl⟩
  rw [← hg] at HSg
  have hge : (g != 0) = false := by rw [hg, hs0]; rfl
  have HQ := Lib.hid hs0
  clear hs0 hg
  have HO := fun W => Lib.hid (fnothing_any W mode)
  generalize fS a = sa at *
  generalize fS b = sb at *
  generalize fS c = sc at *
  (try (have k1 : (sc == !(sa == sb)) = _ := _hse; clear _hsc _hse))
  go_enter Tryd.func21, Tryd.ntmps21
  go_wp2_with (first | (go_at_call 35; refine (HN _ _ (by go_simp) (by go_simp) (by go_simp)).out.mono ?_; rintro e w1 ⟨rfl, rfl⟩) | (go_at_call 37; (first | refine (HIa _).out.mono ?_ | refine (HIb _).out.mono ?_ | refine (HIc _).out.mono ?_); rintro e w1 ⟨rfl, rfl⟩) | (go_at_call 38; (first | refine (HZa _).out.mono ?_ | refine (HZb _).out.mono ?_ | refine (HZc _).out.mono ?_); rintro e w1 ⟨rfl, rfl⟩) | (go_at_call 36; (first | refine (HSa _).out.mono ?_ | refine (HSb _).out.mono ?_ | refine (HSc _).out.mono ?_); rintro e w1 ⟨rfl, rfl⟩) | (go_at_call 39; refine (HG _).out.mono ?_; rintro e w1 ⟨rfl, rfl⟩) | (go_at_call 43; refine (HO _).out.mono ?_; rintro e w1 ⟨rfl, rfl⟩))
  refine (HOfa _ (_hT.below (by repeat (with_reducible first | refine Below.setCell ?_ (by simp <;> omega) _ | refine Below.alloc ?_ (by simp <;> omega) _ | refine Below.drew ?_ | refine below_drewN ?_ _ | exact Below.refl _ _)))).out.mono ?_
  rintro e w1 ⟨aa, ca, rfl, Ma, hb, _⟩
  have B1 := below_box (w := w) (by repeat (with_reducible first | refine Below.setCell ?_ (by simp <;> omega) _ | refine Below.alloc ?_ (by simp <;> omega) _ | refine Below.drew ?_ | refine below_drewN ?_ _ | exact Below.refl _ _)) hb
  clear hb
  go_wp2_with fail
  refine (HOfb _ (_hT.below (by have hszw := (B1).size; repeat (with_reducible first | refine Below.setCell ?_ (by first | omega | (simp <;> omega)) _ | refine Below.alloc ?_ (by first | omega | (simp <;> omega)) _ | refine Below.drew ?_ | refine below_drewN ?_ _ | exact B1)))).out.mono ?_
  rintro e w2 ⟨ab, cb, rfl, Mb, hb, _⟩
  have Ma : Mag w2 aa (nl (dman da).natAbs) ca (dman da).natAbs := Mag.below (by repeat (with_reducible first | refine Mag.set ?_ (fun h => by have := Ma h; omega) _ _ | refine Mag.drew ?_ | refine Mag.alloc ?_ _ | refine Mag.drewN ?_ _ | refine Mag.below ?_ (Below.drew (Below.refl _ _)) | refine Mag.below ?_ ((Below.refl _ _).alloc (Nat.le_refl _) _) | exact Ma)) hb
  have B2 := below_box (w := w) (by have hszw := (B1).size; repeat (with_reducible first | refine Below.setCell ?_ (by first | omega | (simp <;> omega)) _ | refine Below.alloc ?_ (by first | omega | (simp <;> omega)) _ | refine Below.drew ?_ | refine below_drewN ?_ _ | exact B1)) hb
  clear hb
  go_wp2_with fail
  refine (HP _ aa ca ab cb (by repeat (with_reducible first | refine Mag.set ?_ (fun h => by have := Ma h; omega) _ _ | refine Mag.drew ?_ | refine Mag.alloc ?_ _ | refine Mag.drewN ?_ _ | refine Mag.below ?_ (Below.drew (Below.refl _ _)) | refine Mag.below ?_ ((Below.refl _ _).alloc (Nat.le_refl _) _) | exact Ma)) (by repeat (with_reducible first | refine Mag.set ?_ (fun h => by have := Mb h; omega) _ _ | refine Mag.drew ?_ | refine Mag.alloc ?_ _ | refine Mag.drewN ?_ _ | refine Mag.below ?_ (Below.drew (Below.refl _ _)) | refine Mag.below ?_ ((Below.refl _ _).alloc (Nat.le_refl _) _) | exact Mb)) (_hT.below (by have hszw := (B2).size; repeat (with_reducible first | refine Below.setCell ?_ (by first | omega | (simp <;> omega)) _ | refine Below.alloc ?_ (by first | omega | (simp <;> omega)) _ | refine Below.drew ?_ | refine below_drewN ?_ _ | exact B2)))).out.mono ?_
  rintro e w3 ⟨ap, cp, rfl, Mp, hb, _⟩
  have B3 := below_box (w := w) (by have hszw := (B2).size; repeat (with_reducible first | refine Below.setCell ?_ (by first | omega | (simp <;> omega)) _ | refine Below.alloc ?_ (by first | omega | (simp <;> omega)) _ | refine Below.drew ?_ | refine below_drewN ?_ _ | exact B2)) hb
  clear hb
  go_wp2_with fail
  refine (HOfc _ (_hT.below (by have hszw := (B3).size; repeat (with_reducible first | refine Below.setCell ?_ (by first | omega | (simp <;> omega)) _ | refine Below.alloc ?_ (by first | omega | (simp <;> omega)) _ | refine Below.drew ?_ | refine below_drewN ?_ _ | exact B3)))).out.mono ?_
  rintro e w4 ⟨ac, cc, rfl, Mc, hb, _⟩
  have Mp : Mag w4 ap (nl (dman dp).natAbs) cp (dman dp).natAbs := Mag.below (by repeat (with_reducible first | refine Mag.set ?_ (fun h => by have := Mp h; omega) _ _ | refine Mag.drew ?_ | refine Mag.alloc ?_ _ | refine Mag.drewN ?_ _ | refine Mag.below ?_ (Below.drew (Below.refl _ _)) | refine Mag.below ?_ ((Below.refl _ _).alloc (Nat.le_refl _) _) | exact Mp)) hb
  have B4 := below_box (w := w) (by have hszw := (B3).size; repeat (with_reducible first | refine Below.setCell ?_ (by first | omega | (simp <;> omega)) _ | refine Below.alloc ?_ (by first | omega | (simp <;> omega)) _ | refine Below.drew ?_ | refine below_drewN ?_ _ | exact B3)) hb
  clear hb
  go_wp2_with fail
  refine (HA _ ap cp ac cc (by repeat (with_reducible first | refine Mag.set ?_ (fun h => by have := Mp h; omega) _ _ | refine Mag.drew ?_ | refine Mag.alloc ?_ _ | refine Mag.drewN ?_ _ | refine Mag.below ?_ (Below.drew (Below.refl _ _)) | refine Mag.below ?_ ((Below.refl _ _).alloc (Nat.le_refl _) _) | exact Mp)) (by repeat (with_reducible first | refine Mag.set ?_ (fun h => by have := Mc h; omega) _ _ | refine Mag.drew ?_ | refine Mag.alloc ?_ _ | refine Mag.drewN ?_ _ | refine Mag.below ?_ (Below.drew (Below.refl _ _)) | refine Mag.below ?_ ((Below.refl _ _).alloc (Nat.le_refl _) _) | exact Mc)) (_hT.below (by have hszw := (B4).size; repeat (with_reducible first | refine Below.setCell ?_ (by first | omega | (simp <;> omega)) _ | refine Below.alloc ?_ (by first | omega | (simp <;> omega)) _ | refine Below.drew ?_ | refine below_drewN ?_ _ | exact B4)))).out.mono ?_
  rintro e w5 ⟨au, cu, rfl, Mu, hb, _⟩
  have B5 := below_box (w := w) (by have hszw := (B4).size; repeat (with_reducible first | refine Below.setCell ?_ (by first | omega | (simp <;> omega)) _ | refine Below.alloc ?_ (by first | omega | (simp <;> omega)) _ | refine Below.drew ?_ | refine below_drewN ?_ _ | exact B4)) hb
  clear hb
  go_wp2_with fail
  refine (HSg _ au cu (by repeat (with_reducible first | refine Mag.set ?_ (fun h => by have := Mu h; omega) _ _ | refine Mag.drew ?_ | refine Mag.alloc ?_ _ | refine Mag.drewN ?_ _ | refine Mag.below ?_ (Below.drew (Below.refl _ _)) | refine Mag.below ?_ ((Below.refl _ _).alloc (Nat.le_refl _) _) | exact Mu)) (_hT.below (by have hszw := (B5).size; repeat (with_reducible first | refine Below.setCell ?_ (by first | omega | (simp <;> omega)) _ | refine Below.alloc ?_ (by first | omega | (simp <;> omega)) _ | refine Below.drew ?_ | refine below_drewN ?_ _ | exact B5)))).out.mono ?_
  rintro e w6 ⟨rfl, hb⟩
  have Mu : Mag w6 au (nl (dman du).natAbs) cu (dman du).natAbs := Mag.below (by repeat (with_reducible first | refine Mag.set ?_ (fun h => by have := Mu h; omega) _ _ | refine Mag.drew ?_ | refine Mag.alloc ?_ _ | refine Mag.drewN ?_ _ | refine Mag.below ?_ (Below.drew (Below.refl _ _)) | refine Mag.below ?_ ((Below.refl _ _).alloc (Nat.le_refl _) _) | exact Mu)) hb
  have B6 := below_box (w := w) (by have hszw := (B5).size; repeat (with_reducible first | refine Below.setCell ?_ (by first | omega | (simp <;> omega)) _ | refine Below.alloc ?_ (by first | omega | (simp <;> omega)) _ | refine Below.drew ?_ | refine below_drewN ?_ _ | exact B5)) hb
  clear hb
  go_wp2_with fail
  refine (HSc _).out.mono ?_
  rintro e wx ⟨rfl, rfl⟩
  go_wp2_with fail
  refine (HO _).out.mono ?_
  rintro e wx ⟨rfl, rfl⟩
  go_wp2_with fail
  go_ret
  exact ⟨rfl, (by have hszw := (B6).size; repeat (with_reducible first | refine Below.setCell ?_ (by first | omega | (simp <;> omega)) _ | refine Below.alloc ?_ (by first | omega | (simp <;> omega)) _ | refine Below.drew ?_ | refine below_drewN ?_ _ | exact B6))⟩

set_option maxRecDepth 100000 in
set_option maxHeartbeats 2000000 in
theorem wfma_nc (w : World) (a b c : Nat) (ha : a < 18446744073709551616) (hb : b < 18446744073709551616) (hc : c < 18446744073709551616) (mode : Int) (_hT : Tab w) (hn : (fnan a || fnan b || fnan c) = false) (_hia : finf a = false) (_hza : fzero a = false) (_hib : finf b = false) (_hic : finf c = true)  :
    Calls Tryd.prog 21 #[.int .u64 a, .int .u64 b, .int .u64 c, .int .i64 mode] w fun o w' => o = .returned (.int .u64 (c : Int)) ∧ Below w.heap.size w w' := by
  have HN := fun W g h0 h1 h2 => Lib.hid (nan3 W g a b c h0 h1 h2)
  rw [hn] at HN
  have HSa := fun W => Lib.hid (fsign_any W a ha)
  have HSb := fun W => Lib.hid (fsign_any W b hb)
  have HSc := fun W => Lib.hid (fsign_any W c hc)
  have HIa := fun W => Lib.hid (finf_any W a)
  rw [_hia] at HIa
  have HZa := fun W => Lib.hid (fzero_any W a)
  rw [_hza] at HZa
  have HIb := fun W => Lib.hid (finf_any W b)
  rw [_hib] at HIb
  have HIc := fun W => Lib.hid (finf_any W c)
  rw [_hic] at HIc
  generalize fS a = sa at *
  generalize fS b = sb at *
  generalize fS c = sc at *
  (try (have k1 : (sc == !(sa == sb)) = _ := _hse; clear _hsc _hse))
  go_enter Tryd.func21, Tryd.ntmps21
  go_wp2_with (first | (go_at_call 35; refine (HN _ _ (by go_simp) (by go_simp) (by go_simp)).out.mono ?_; rintro e w1 ⟨rfl, rfl⟩) | (go_at_call 37; (first | refine (HIa _).out.mono ?_ | refine (HIb _).out.mono ?_ | refine (HIc _).out.mono ?_); rintro e w1 ⟨rfl, rfl⟩) | (go_at_call 38; (first | refine (HZa _).out.mono ?_ | refine (HZb _).out.mono ?_ | refine (HZc _).out.mono ?_); rintro e w1 ⟨rfl, rfl⟩) | (go_at_call 36; (first | refine (HSa _).out.mono ?_ | refine (HSb _).out.mono ?_ | refine (HSc _).out.mono ?_); rintro e w1 ⟨rfl, rfl⟩) | (go_at_call 39; refine (HG _).out.mono ?_; rintro e w1 ⟨rfl, rfl⟩) | (go_at_call 43; refine (HO _).out.mono ?_; rintro e w1 ⟨rfl, rfl⟩))
  go_ret
  exact ⟨rfl, (by repeat (with_reducible first | refine Below.setCell ?_ (by simp <;> omega) _ | refine Below.alloc ?_ (by simp <;> omega) _ | refine Below.drew ?_ | refine below_drewN ?_ _ | exact Below.refl _ _))⟩

set_option maxRecDepth 100000 in
set_option maxHeartbeats 2000000 in
theorem wfma_nr (w : World) (a b c : Nat) (ha : a < 18446744073709551616) (hb : b < 18446744073709551616) (hc : c < 18446744073709551616) (mode : Int) (_hT : Tab w) (hn : (fnan a || fnan b || fnan c) = false) (_hia : finf a = false) (_hza : fzero a = false) (_hib : finf b = false) (_hic : finf c = false) (hs0 : dman (dadd (dmul (fof a) (fof b)) (fof c)) ≠ 0) :
    Calls Tryd.prog 21 #[.int .u64 a, .int .u64 b, .int .u64 c, .int .i64 mode] w fun o w' => o = .returned (.int .u64 ((fround (dadd (dmul (fof a) (fof b)) (fof c)) mode : Nat) : Int)) ∧ Below w.heap.size w w' := by
  have HN := fun W g h0 h1 h2 => Lib.hid (nan3 W g a b c h0 h1 h2)
  rw [hn] at HN
  have HSa := fun W => Lib.hid (fsign_any W a ha)
  have HSb := fun W => Lib.hid (fsign_any W b hb)
  have HSc := fun W => Lib.hid (fsign_any W c hc)
  have HIa := fun W => Lib.hid (finf_any W a)
  rw [_hia] at HIa
  have HZa := fun W => Lib.hid (fzero_any W a)
  rw [_hza] at HZa
  have HIb := fun W => Lib.hid (finf_any W b)
  rw [_hib] at HIb
  have HIc := fun W => Lib.hid (finf_any W c)
  rw [_hic] at HIc
  have HOfa := fun W ht => Lib.hid (fof_any W a ha ht)
  have Na := Lib.hid (isN_fof a)
  have HOfb := fun W ht => Lib.hid (fof_any W b hb ht)
  have Nb := Lib.hid (isN_fof b)
  have HOfc := fun W ht => Lib.hid (fof_any W c hc ht)
  have Nc := Lib.hid (isN_fof c)
  generalize fof a = da at *
  generalize fof b = db at *
  generalize fof c = dc at *
  have HP := fun W ba qa bb qb (ha' : Mag W ba (nl (dman da).natAbs) qa (dman da).natAbs) (hb' : Mag W bb (nl (dman db).natAbs) qb (dman db).natAbs) ht => Lib.hid (dmul_any W _ _ _ _ _ _ _ _ _ _ _ _ _ _ (dyin_of Na.out ha') (dyin_of Nb.out hb') ht)
  have Np := Lib.hid (isN_mul da db)
  generalize dmul da db = dp at *
  have HA := fun W bp qp bc qc (hp' : Mag W bp (nl (dman dp).natAbs) qp (dman dp).natAbs) (hc' : Mag W bc (nl (dman dc).natAbs) qc (dman dc).natAbs) ht => Lib.hid (dadd_any W _ _ _ _ _ _ _ _ _ _ _ _ _ _ (dyin_of Np.out hp') (dyin_of Nc.out hc') ht)
  have Nu := Lib.hid (isN_add dp dc)
  generalize dadd dp dc = du at *
  have HSg := fun W bu qu (hu' : Mag W bu (nl (dman du).natAbs) qu (dman du).natAbs) ht => Lib.hid (dsign_any W _ _ _ _ _ _ _ (dyin_of Nu.out hu') ht)
  obtain ⟨g, hg⟩ : ∃ g, g = cmpI (dman du) 0 := ⟨_, rfl⟩
  rw [← hg] at HSg
  have hge : (g != 0) = true := by rw [hg]; unfold cmpI; split <;> (try split) <;> first | decide | (exfalso; omega)
  have HQ := Lib.hid hs0
  clear hs0 hg
  have HR := fun W bu qu (hu' : Mag W bu (nl (dman du).natAbs) qu (dman du).natAbs) ht => Lib.hid (fround_any W _ _ _ _ _ _ mode _ (dyin_of Nu.out hu') ht)
  generalize ((fround du mode : Nat) : Int) = V at *
  generalize fS a = sa at *
  generalize fS b = sb at *
  generalize fS c = sc at *
  (try (have k1 : (sc == !(sa == sb)) = _ := _hse; clear _hsc _hse))
  go_enter Tryd.func21, Tryd.ntmps21
  go_wp2_with (first | (go_at_call 35; refine (HN _ _ (by go_simp) (by go_simp) (by go_simp)).out.mono ?_; rintro e w1 ⟨rfl, rfl⟩) | (go_at_call 37; (first | refine (HIa _).out.mono ?_ | refine (HIb _).out.mono ?_ | refine (HIc _).out.mono ?_); rintro e w1 ⟨rfl, rfl⟩) | (go_at_call 38; (first | refine (HZa _).out.mono ?_ | refine (HZb _).out.mono ?_ | refine (HZc _).out.mono ?_); rintro e w1 ⟨rfl, rfl⟩) | (go_at_call 36; (first | refine (HSa _).out.mono ?_ | refine (HSb _).out.mono ?_ | refine (HSc _).out.mono ?_); rintro e w1 ⟨rfl, rfl⟩) | (go_at_call 39; refine (HG _).out.mono ?_; rintro e w1 ⟨rfl, rfl⟩) | (go_at_call 43; refine (HO _).out.mono ?_; rintro e w1 ⟨rfl, rfl⟩))
  refine (HOfa _ (_hT.below (by repeat (with_reducible first | refine Below.setCell ?_ (by simp <;> omega) _ | refine Below.alloc ?_ (by simp <;> omega) _ | refine Below.drew ?_ | refine below_drewN ?_ _ | exact Below.refl _ _)))).out.mono ?_
  rintro e w1 ⟨aa, ca, rfl, Ma, hb, _⟩
  have B1 := below_box (w := w) (by repeat (with_reducible first | refine Below.setCell ?_ (by simp <;> omega) _ | refine Below.alloc ?_ (by simp <;> omega) _ | refine Below.drew ?_ | refine below_drewN ?_ _ | exact Below.refl _ _)) hb
  clear hb
  go_wp2_with fail
  refine (HOfb _ (_hT.below (by have hszw := (B1).size; repeat (with_reducible first | refine Below.setCell ?_ (by first | omega | (simp <;> omega)) _ | refine Below.alloc ?_ (by first | omega | (simp <;> omega)) _ | refine Below.drew ?_ | refine below_drewN ?_ _ | exact B1)))).out.mono ?_
  rintro e w2 ⟨ab, cb, rfl, Mb, hb, _⟩
  have Ma : Mag w2 aa (nl (dman da).natAbs) ca (dman da).natAbs := Mag.below (by repeat (with_reducible first | refine Mag.set ?_ (fun h => by have := Ma h; omega) _ _ | refine Mag.drew ?_ | refine Mag.alloc ?_ _ | refine Mag.drewN ?_ _ | refine Mag.below ?_ (Below.drew (Below.refl _ _)) | refine Mag.below ?_ ((Below.refl _ _).alloc (Nat.le_refl _) _) | exact Ma)) hb
  have B2 := below_box (w := w) (by have hszw := (B1).size; repeat (with_reducible first | refine Below.setCell ?_ (by first | omega | (simp <;> omega)) _ | refine Below.alloc ?_ (by first | omega | (simp <;> omega)) _ | refine Below.drew ?_ | refine below_drewN ?_ _ | exact B1)) hb
  clear hb
  go_wp2_with fail
  refine (HP _ aa ca ab cb (by repeat (with_reducible first | refine Mag.set ?_ (fun h => by have := Ma h; omega) _ _ | refine Mag.drew ?_ | refine Mag.alloc ?_ _ | refine Mag.drewN ?_ _ | refine Mag.below ?_ (Below.drew (Below.refl _ _)) | refine Mag.below ?_ ((Below.refl _ _).alloc (Nat.le_refl _) _) | exact Ma)) (by repeat (with_reducible first | refine Mag.set ?_ (fun h => by have := Mb h; omega) _ _ | refine Mag.drew ?_ | refine Mag.alloc ?_ _ | refine Mag.drewN ?_ _ | refine Mag.below ?_ (Below.drew (Below.refl _ _)) | refine Mag.below ?_ ((Below.refl _ _).alloc (Nat.le_refl _) _) | exact Mb)) (_hT.below (by have hszw := (B2).size; repeat (with_reducible first | refine Below.setCell ?_ (by first | omega | (simp <;> omega)) _ | refine Below.alloc ?_ (by first | omega | (simp <;> omega)) _ | refine Below.drew ?_ | refine below_drewN ?_ _ | exact B2)))).out.mono ?_
  rintro e w3 ⟨ap, cp, rfl, Mp, hb, _⟩
  have B3 := below_box (w := w) (by have hszw := (B2).size; repeat (with_reducible first | refine Below.setCell ?_ (by first | omega | (simp <;> omega)) _ | refine Below.alloc ?_ (by first | omega | (simp <;> omega)) _ | refine Below.drew ?_ | refine below_drewN ?_ _ | exact B2)) hb
  clear hb
  go_wp2_with fail
  refine (HOfc _ (_hT.below (by have hszw := (B3).size; repeat (with_reducible first | refine Below.setCell ?_ (by first | omega | (simp <;> omega)) _ | refine Below.alloc ?_ (by first | omega | (simp <;> omega)) _ | refine Below.drew ?_ | refine below_drewN ?_ _ | exact B3)))).out.mono ?_
  rintro e w4 ⟨ac, cc, rfl, Mc, hb, _⟩
  have Mp : Mag w4 ap (nl (dman dp).natAbs) cp (dman dp).natAbs := Mag.below (by repeat (with_reducible first | refine Mag.set ?_ (fun h => by have := Mp h; omega) _ _ | refine Mag.drew ?_ | refine Mag.alloc ?_ _ | refine Mag.drewN ?_ _ | refine Mag.below ?_ (Below.drew (Below.refl _ _)) | refine Mag.below ?_ ((Below.refl _ _).alloc (Nat.le_refl _) _) | exact Mp)) hb
  have B4 := below_box (w := w) (by have hszw := (B3).size; repeat (with_reducible first | refine Below.setCell ?_ (by first | omega | (simp <;> omega)) _ | refine Below.alloc ?_ (by first | omega | (simp <;> omega)) _ | refine Below.drew ?_ | refine below_drewN ?_ _ | exact B3)) hb
  clear hb
  go_wp2_with fail
  refine (HA _ ap cp ac cc (by repeat (with_reducible first | refine Mag.set ?_ (fun h => by have := Mp h; omega) _ _ | refine Mag.drew ?_ | refine Mag.alloc ?_ _ | refine Mag.drewN ?_ _ | refine Mag.below ?_ (Below.drew (Below.refl _ _)) | refine Mag.below ?_ ((Below.refl _ _).alloc (Nat.le_refl _) _) | exact Mp)) (by repeat (with_reducible first | refine Mag.set ?_ (fun h => by have := Mc h; omega) _ _ | refine Mag.drew ?_ | refine Mag.alloc ?_ _ | refine Mag.drewN ?_ _ | refine Mag.below ?_ (Below.drew (Below.refl _ _)) | refine Mag.below ?_ ((Below.refl _ _).alloc (Nat.le_refl _) _) | exact Mc)) (_hT.below (by have hszw := (B4).size; repeat (with_reducible first | refine Below.setCell ?_ (by first | omega | (simp <;> omega)) _ | refine Below.alloc ?_ (by first | omega | (simp <;> omega)) _ | refine Below.drew ?_ | refine below_drewN ?_ _ | exact B4)))).out.mono ?_
  rintro e w5 ⟨au, cu, rfl, Mu, hb, _⟩
  have B5 := below_box (w := w) (by have hszw := (B4).size; repeat (with_reducible first | refine Below.setCell ?_ (by first | omega | (simp <;> omega)) _ | refine Below.alloc ?_ (by first | omega | (simp <;> omega)) _ | refine Below.drew ?_ | refine below_drewN ?_ _ | exact B4)) hb
  clear hb
  go_wp2_with fail
  have Vu := DyV.made w5 28 (dbad du) (decide (dman du < 0)) (.slice au (nl (dman du).natAbs) cu) (dexp du)
  refine (HSg _ au cu (by repeat (with_reducible first | refine Mag.set ?_ (fun h => by have := Mu h; omega) _ _ | refine Mag.drew ?_ | refine Mag.alloc ?_ _ | refine Mag.drewN ?_ _ | refine Mag.below ?_ (Below.drew (Below.refl _ _)) | refine Mag.below ?_ ((Below.refl _ _).alloc (Nat.le_refl _) _) | exact Mu)) (_hT.below (by have hszw := (B5).size; repeat (with_reducible first | refine Below.setCell ?_ (by first | omega | (simp <;> omega)) _ | refine Below.alloc ?_ (by first | omega | (simp <;> omega)) _ | refine Below.drew ?_ | refine below_drewN ?_ _ | exact B5)))).out.mono ?_
  rintro e w6 ⟨rfl, hb⟩
  obtain ⟨p0, p1, p2, p3, p4, p5⟩ := Vu.below hb
  have Mu : Mag w6 au (nl (dman du).natAbs) cu (dman du).natAbs := Mag.below (by repeat (with_reducible first | refine Mag.set ?_ (fun h => by have := Mu h; omega) _ _ | refine Mag.drew ?_ | refine Mag.alloc ?_ _ | refine Mag.drewN ?_ _ | refine Mag.below ?_ (Below.drew (Below.refl _ _)) | refine Mag.below ?_ ((Below.refl _ _).alloc (Nat.le_refl _) _) | exact Mu)) hb
  have B6 := below_box (w := w) (by have hszw := (B5).size; repeat (with_reducible first | refine Below.setCell ?_ (by first | omega | (simp <;> omega)) _ | refine Below.alloc ?_ (by first | omega | (simp <;> omega)) _ | refine Below.drew ?_ | refine below_drewN ?_ _ | exact B5)) hb
  clear hb
  go_wp2_with fail
  refine (HR _ au cu (by repeat (with_reducible first | refine Mag.set ?_ (fun h => by have := Mu h; omega) _ _ | refine Mag.drew ?_ | refine Mag.alloc ?_ _ | refine Mag.drewN ?_ _ | refine Mag.below ?_ (Below.drew (Below.refl _ _)) | refine Mag.below ?_ ((Below.refl _ _).alloc (Nat.le_refl _) _) | exact Mu)) (_hT.below (by have hszw := (B6).size; repeat (with_reducible first | refine Below.setCell ?_ (by first | omega | (simp <;> omega)) _ | refine Below.alloc ?_ (by first | omega | (simp <;> omega)) _ | refine Below.drew ?_ | refine below_drewN ?_ _ | exact B6)))).out.mono ?_
  rintro e w7 ⟨rfl, hb⟩
  have Mu : Mag w7 au (nl (dman du).natAbs) cu (dman du).natAbs := Mag.below (by repeat (with_reducible first | refine Mag.set ?_ (fun h => by have := Mu h; omega) _ _ | refine Mag.drew ?_ | refine Mag.alloc ?_ _ | refine Mag.drewN ?_ _ | refine Mag.below ?_ (Below.drew (Below.refl _ _)) | refine Mag.below ?_ ((Below.refl _ _).alloc (Nat.le_refl _) _) | exact Mu)) hb
  have B7 := below_box (w := w) (by have hszw := (B6).size; repeat (with_reducible first | refine Below.setCell ?_ (by first | omega | (simp <;> omega)) _ | refine Below.alloc ?_ (by first | omega | (simp <;> omega)) _ | refine Below.drew ?_ | refine below_drewN ?_ _ | exact B6)) hb
  clear hb
  go_wp2_with fail
  go_ret
  exact ⟨rfl, (by have hszw := (B7).size; repeat (with_reducible first | refine Below.setCell ?_ (by first | omega | (simp <;> omega)) _ | refine Below.alloc ?_ (by first | omega | (simp <;> omega)) _ | refine Below.drew ?_ | refine below_drewN ?_ _ | exact B7))⟩

set_option maxRecDepth 100000 in
set_option maxHeartbeats 2000000 in
theorem wfma_ns (w : World) (a b c : Nat) (ha : a < 18446744073709551616) (hb : b < 18446744073709551616) (hc : c < 18446744073709551616) (mode : Int) (_hT : Tab w) (hn : (fnan a || fnan b || fnan c) = false) (_hia : finf a = false) (_hza : fzero a = false) (_hib : finf b = false) (_hic : finf c = false) (hs0 : dman (dadd (dmul (fof a) (fof b)) (fof c)) = 0) (_hsc : (fS c != (fS a != fS b)) = false) (_hse : (fS c == (fS a != fS b)) = true) :
    Calls Tryd.prog 21 #[.int .u64 a, .int .u64 b, .int .u64 c, .int .i64 mode] w fun o w' => o = .returned (.int .u64 ((fsgn (fS a != fS b) 0 : Nat) : Int)) ∧ Below w.heap.size w w' := by
  have HN := fun W g h0 h1 h2 => Lib.hid (nan3 W g a b c h0 h1 h2)
  rw [hn] at HN
  have HSa := fun W => Lib.hid (fsign_any W a ha)
  have HSb := fun W => Lib.hid (fsign_any W b hb)
  have HSc := fun W => Lib.hid (fsign_any W c hc)
  have HIa := fun W => Lib.hid (finf_any W a)
  rw [_hia] at HIa
  have HZa := fun W => Lib.hid (fzero_any W a)
  rw [_hza] at HZa
  have HIb := fun W => Lib.hid (finf_any W b)
  rw [_hib] at HIb
  have HIc := fun W => Lib.hid (finf_any W c)
  rw [_hic] at HIc
  have HOfa := fun W ht => Lib.hid (fof_any W a ha ht)
  have Na := Lib.hid (isN_fof a)
  have HOfb := fun W ht => Lib.hid (fof_any W b hb ht)
  have Nb := Lib.hid (isN_fof b)
  have HOfc := fun W ht => Lib.hid (fof_any W c hc ht)
  have Nc := Lib.hid (isN_fof c)
  generalize fof a = da at *
  generalize fof b = db at *
  generalize fof c = dc at *
  have HP := fun W ba qa bb qb (ha' : Mag W ba (nl (dman da).natAbs) qa (dman da).natAbs) (hb' : Mag W bb (nl (dman db).natAbs) qb (dman db).natAbs) ht => Lib.hid (dmul_any W _ _ _ _ _ _ _ _ _ _ _ _ _ _ (dyin_of Na.out ha') (dyin_of Nb.out hb') ht)
  have Np := Lib.hid (isN_mul da db)
  generalize dmul da db = dp at *
  have HA := fun W bp qp bc qc (hp' : Mag W bp (nl (dman dp).natAbs) qp (dman dp).natAbs) (hc' : Mag W bc (nl (dman dc).natAbs) qc (dman dc).natAbs) ht => Lib.hid (dadd_any W _ _ _ _ _ _ _ _ _ _ _ _ _ _ (dyin_of Np.out hp') (dyin_of Nc.out hc') ht)
  have Nu := Lib.hid (isN_add dp dc)
  generalize dadd dp dc = du at *
  have HSg := fun W bu qu (hu' : Mag W bu (nl (dman du).natAbs) qu (dman du).natAbs) ht => Lib.hid (dsign_any W _ _ _ _ _ _ _ (dyin_of Nu.out hu') ht)
  obtain ⟨g, hg⟩ : ∃ g, g = cmpI (dman du) 0 := ⟨_, rfl⟩
  rw [← hg] at HSg
  have hge : (g != 0) = false := by rw [hg, hs0]; rfl
  have HQ := Lib.hid hs0
  clear hs0 hg
  have HG := fun W => Lib.hid (show Calls Tryd.prog 39 #[.int .u64 0, .bool (fS a != fS b)] W fun e w' => e = .returned (.int .u64 (fsgn (fS a != fS b) 0 : Nat)) ∧ W = w' from fsigned_any W 0 (fS a != fS b) (by decide))
  generalize ((fsgn (fS a != fS b) 0 : Nat) : Int) = V at *
  generalize fS a = sa at *
  generalize fS b = sb at *
  generalize fS c = sc at *
  (try (have k1 : (sc == !(sa == sb)) = _ := _hse; clear _hsc _hse))
  go_enter Tryd.func21, Tryd.ntmps21
  go_wp2_with (first | (go_at_call 35; refine (HN _ _ (by go_simp) (by go_simp) (by go_simp)).out.mono ?_; rintro e w1 ⟨rfl, rfl⟩) | (go_at_call 37; (first | refine (HIa _).out.mono ?_ | refine (HIb _).out.mono ?_ | refine (HIc _).out.mono ?_); rintro e w1 ⟨rfl, rfl⟩) | (go_at_call 38; (first | refine (HZa _).out.mono ?_ | refine (HZb _).out.mono ?_ | refine (HZc _).out.mono ?_); rintro e w1 ⟨rfl, rfl⟩) | (go_at_call 36; (first | refine (HSa _).out.mono ?_ | refine (HSb _).out.mono ?_ | refine (HSc _).out.mono ?_); rintro e w1 ⟨rfl, rfl⟩) | (go_at_call 39; refine (HG _).out.mono ?_; rintro e w1 ⟨rfl, rfl⟩) | (go_at_call 43; refine (HO _).out.mono ?_; rintro e w1 ⟨rfl, rfl⟩))
  refine (HOfa _ (_hT.below (by repeat (with_reducible first | refine Below.setCell ?_ (by simp <;> omega) _ | refine Below.alloc ?_ (by simp <;> omega) _ | refine Below.drew ?_ | refine below_drewN ?_ _ | exact Below.refl _ _)))).out.mono ?_
  rintro e w1 ⟨aa, ca, rfl, Ma, hb, _⟩
  have B1 := below_box (w := w) (by repeat (with_reducible first | refine Below.setCell ?_ (by simp <;> omega) _ | refine Below.alloc ?_ (by simp <;> omega) _ | refine Below.drew ?_ | refine below_drewN ?_ _ | exact Below.refl _ _)) hb
  clear hb
  go_wp2_with fail
  refine (HOfb _ (_hT.below (by have hszw := (B1).size; repeat (with_reducible first | refine Below.setCell ?_ (by first | omega | (simp <;> omega)) _ | refine Below.alloc ?_ (by first | omega | (simp <;> omega)) _ | refine Below.drew ?_ | refine below_drewN ?_ _ | exact B1)))).out.mono ?_
  rintro e w2 ⟨ab, cb, rfl, Mb, hb, _⟩
  have Ma : Mag w2 aa (nl (dman da).natAbs) ca (dman da).natAbs := Mag.below (by repeat (with_reducible first | refine Mag.set ?_ (fun h => by have := Ma h; omega) _ _ | refine Mag.drew ?_ | refine Mag.alloc ?_ _ | refine Mag.drewN ?_ _ | refine Mag.below ?_ (Below.drew (Below.refl _ _)) | refine Mag.below ?_ ((Below.refl _ _).alloc (Nat.le_refl _) _) | exact Ma)) hb
  have B2 := below_box (w := w) (by have hszw := (B1).size; repeat (with_reducible first | refine Below.setCell ?_ (by first | omega | (simp <;> omega)) _ | refine Below.alloc ?_ (by first | omega | (simp <;> omega)) _ | refine Below.drew ?_ | refine below_drewN ?_ _ | exact B1)) hb
  clear hb
  go_wp2_with fail
  refine (HP _ aa ca ab cb (by repeat (with_reducible first | refine Mag.set ?_ (fun h => by have := Ma h; omega) _ _ | refine Mag.drew ?_ | refine Mag.alloc ?_ _ | refine Mag.drewN ?_ _ | refine Mag.below ?_ (Below.drew (Below.refl _ _)) | refine Mag.below ?_ ((Below.refl _ _).alloc (Nat.le_refl _) _) | exact Ma)) (by repeat (with_reducible first | refine Mag.set ?_ (fun h => by have := Mb h; omega) _ _ | refine Mag.drew ?_ | refine Mag.alloc ?_ _ | refine Mag.drewN ?_ _ | refine Mag.below ?_ (Below.drew (Below.refl _ _)) | refine Mag.below ?_ ((Below.refl _ _).alloc (Nat.le_refl _) _) | exact Mb)) (_hT.below (by have hszw := (B2).size; repeat (with_reducible first | refine Below.setCell ?_ (by first | omega | (simp <;> omega)) _ | refine Below.alloc ?_ (by first | omega | (simp <;> omega)) _ | refine Below.drew ?_ | refine below_drewN ?_ _ | exact B2)))).out.mono ?_
  rintro e w3 ⟨ap, cp, rfl, Mp, hb, _⟩
  have B3 := below_box (w := w) (by have hszw := (B2).size; repeat (with_reducible first | refine Below.setCell ?_ (by first | omega | (simp <;> omega)) _ | refine Below.alloc ?_ (by first | omega | (simp <;> omega)) _ | refine Below.drew ?_ | refine below_drewN ?_ _ | exact B2)) hb
  clear hb
  go_wp2_with fail
  refine (HOfc _ (_hT.below (by have hszw := (B3).size; repeat (with_reducible first | refine Below.setCell ?_ (by first | omega | (simp <;> omega)) _ | refine Below.alloc ?_ (by first | omega | (simp <;> omega)) _ | refine Below.drew ?_ | refine below_drewN ?_ _ | exact B3)))).out.mono ?_
  rintro e w4 ⟨ac, cc, rfl, Mc, hb, _⟩
  have Mp : Mag w4 ap (nl (dman dp).natAbs) cp (dman dp).natAbs := Mag.below (by repeat (with_reducible first | refine Mag.set ?_ (fun h => by have := Mp h; omega) _ _ | refine Mag.drew ?_ | refine Mag.alloc ?_ _ | refine Mag.drewN ?_ _ | refine Mag.below ?_ (Below.drew (Below.refl _ _)) | refine Mag.below ?_ ((Below.refl _ _).alloc (Nat.le_refl _) _) | exact Mp)) hb
  have B4 := below_box (w := w) (by have hszw := (B3).size; repeat (with_reducible first | refine Below.setCell ?_ (by first | omega | (simp <;> omega)) _ | refine Below.alloc ?_ (by first | omega | (simp <;> omega)) _ | refine Below.drew ?_ | refine below_drewN ?_ _ | exact B3)) hb
  clear hb
  go_wp2_with fail
  refine (HA _ ap cp ac cc (by repeat (with_reducible first | refine Mag.set ?_ (fun h => by have := Mp h; omega) _ _ | refine Mag.drew ?_ | refine Mag.alloc ?_ _ | refine Mag.drewN ?_ _ | refine Mag.below ?_ (Below.drew (Below.refl _ _)) | refine Mag.below ?_ ((Below.refl _ _).alloc (Nat.le_refl _) _) | exact Mp)) (by repeat (with_reducible first | refine Mag.set ?_ (fun h => by have := Mc h; omega) _ _ | refine Mag.drew ?_ | refine Mag.alloc ?_ _ | refine Mag.drewN ?_ _ | refine Mag.below ?_ (Below.drew (Below.refl _ _)) | refine Mag.below ?_ ((Below.refl _ _).alloc (Nat.le_refl _) _) | exact Mc)) (_hT.below (by have hszw := (B4).size; repeat (with_reducible first | refine Below.setCell ?_ (by first | omega | (simp <;> omega)) _ | refine Below.alloc ?_ (by first | omega | (simp <;> omega)) _ | refine Below.drew ?_ | refine below_drewN ?_ _ | exact B4)))).out.mono ?_
  rintro e w5 ⟨au, cu, rfl, Mu, hb, _⟩
  have B5 := below_box (w := w) (by have hszw := (B4).size; repeat (with_reducible first | refine Below.setCell ?_ (by first | omega | (simp <;> omega)) _ | refine Below.alloc ?_ (by first | omega | (simp <;> omega)) _ | refine Below.drew ?_ | refine below_drewN ?_ _ | exact B4)) hb
  clear hb
  go_wp2_with fail
  refine (HSg _ au cu (by repeat (with_reducible first | refine Mag.set ?_ (fun h => by have := Mu h; omega) _ _ | refine Mag.drew ?_ | refine Mag.alloc ?_ _ | refine Mag.drewN ?_ _ | refine Mag.below ?_ (Below.drew (Below.refl _ _)) | refine Mag.below ?_ ((Below.refl _ _).alloc (Nat.le_refl _) _) | exact Mu)) (_hT.below (by have hszw := (B5).size; repeat (with_reducible first | refine Below.setCell ?_ (by first | omega | (simp <;> omega)) _ | refine Below.alloc ?_ (by first | omega | (simp <;> omega)) _ | refine Below.drew ?_ | refine below_drewN ?_ _ | exact B5)))).out.mono ?_
  rintro e w6 ⟨rfl, hb⟩
  have Mu : Mag w6 au (nl (dman du).natAbs) cu (dman du).natAbs := Mag.below (by repeat (with_reducible first | refine Mag.set ?_ (fun h => by have := Mu h; omega) _ _ | refine Mag.drew ?_ | refine Mag.alloc ?_ _ | refine Mag.drewN ?_ _ | refine Mag.below ?_ (Below.drew (Below.refl _ _)) | refine Mag.below ?_ ((Below.refl _ _).alloc (Nat.le_refl _) _) | exact Mu)) hb
  have B6 := below_box (w := w) (by have hszw := (B5).size; repeat (with_reducible first | refine Below.setCell ?_ (by first | omega | (simp <;> omega)) _ | refine Below.alloc ?_ (by first | omega | (simp <;> omega)) _ | refine Below.drew ?_ | refine below_drewN ?_ _ | exact B5)) hb
  clear hb
  go_wp2_with fail
  refine (HSc _).out.mono ?_
  rintro e wx ⟨rfl, rfl⟩
  go_wp2_with fail
  refine (HG _).out.mono ?_
  rintro e wx ⟨rfl, rfl⟩
  go_wp2_with fail
  go_ret
  exact ⟨rfl, (by have hszw := (B6).size; repeat (with_reducible first | refine Below.setCell ?_ (by first | omega | (simp <;> omega)) _ | refine Below.alloc ?_ (by first | omega | (simp <;> omega)) _ | refine Below.drew ?_ | refine below_drewN ?_ _ | exact B6))⟩

set_option maxRecDepth 100000 in
set_option maxHeartbeats 2000000 in
theorem wfma_no (w : World) (a b c : Nat) (ha : a < 18446744073709551616) (hb : b < 18446744073709551616) (hc : c < 18446744073709551616) (mode : Int) (_hT : Tab w) (hn : (fnan a || fnan b || fnan c) = false) (_hia : finf a = false) (_hza : fzero a = false) (_hib : finf b = false) (_hic : finf c = false) (hs0 : dman (dadd (dmul (fof a) (fof b)) (fof c)) = 0) (_hsc : (fS c != (fS a != fS b)) = true) (_hse : (fS c == (fS a != fS b)) = false) :
    Calls Tryd.prog 21 #[.int .u64 a, .int .u64 b, .int .u64 c, .int .i64 mode] w fun o w' => o = .returned (.int .u64 ((fnothing mode : Nat) : Int)) ∧ Below w.heap.size w w' := by
  have HN := fun W g h0 h1 h2 => Lib.hid (nan3 W g a b c h0 h1 h2)
  rw [hn] at HN
  have HSa := fun W => Lib.hid (fsign_any W a ha)
  have HSb := fun W => Lib.hid (fsign_any W b hb)
  have HSc := fun W => Lib.hid (fsign_any W c hc)
  have HIa := fun W => Lib.hid (finf_any W a)
  rw [_hia] at HIa
  have HZa := fun W => Lib.hid (fzero_any W a)
  rw [_hza] at HZa
  have HIb := fun W => Lib.hid (finf_any W b)
  rw [_hib] at HIb
  have HIc := fun W => Lib.hid (finf_any W c)
  rw [_hic] at HIc
  have HOfa := fun W ht => Lib.hid (fof_any W a ha ht)
  have Na := Lib.hid (isN_fof a)
  have HOfb := fun W ht => Lib.hid (fof_any W b hb ht)
  have Nb := Lib.hid (isN_fof b)
  have HOfc := fun W ht => Lib.hid (fof_any W c hc ht)
  have Nc := Lib.hid (isN_fof c)
  generalize fof a = da at *
  generalize fof b = db at *
  generalize fof c = dc at *
  have HP := fun W ba qa bb qb (ha' : Mag W ba (nl (dman da).natAbs) qa (dman da).natAbs) (hb' : Mag W bb (nl (dman db).natAbs) qb (dman db).natAbs) ht => Lib.hid (dmul_any W _ _ _ _ _ _ _ _ _ _ _ _ _ _ (dyin_of Na.out ha') (dyin_of Nb.out hb') ht)
  have Np := Lib.hid (isN_mul da db)
  generalize dmul da db = dp at *
  have HA := fun W bp qp bc qc (hp' : Mag W bp (nl (dman dp).natAbs) qp (dman dp).natAbs) (hc' : Mag W bc (nl (dman dc).natAbs) qc (dman dc).natAbs) ht => Lib.hid (dadd_any W _ _ _ _ _ _ _ _ _ _ _ _ _ _ (dyin_of Np.out hp') (dyin_of Nc.out hc') ht)
  have Nu := Lib.hid (isN_add dp dc)
  generalize dadd dp dc = du at *
  have HSg := fun W bu qu (hu' : Mag W bu (nl (dman du).natAbs) qu (dman du).natAbs) ht => Lib.hid (dsign_any W _ _ _ _ _ _ _ (dyin_of Nu.out hu') ht)
  obtain ⟨g, hg⟩ : ∃ g, g = cmpI (dman du) 0 := ⟨_, rfl⟩
  rw [← hg] at HSg
  have hge : (g != 0) = false := by rw [hg, hs0]; rfl
  have HQ := Lib.hid hs0
  clear hs0 hg
  have HO := fun W => Lib.hid (fnothing_any W mode)
  generalize fS a = sa at *
  generalize fS b = sb at *
  generalize fS c = sc at *
  (try (have k1 : (sc == !(sa == sb)) = _ := _hse; clear _hsc _hse))
  go_enter Tryd.func21, Tryd.ntmps21
  go_wp2_with (first | (go_at_call 35; refine (HN _ _ (by go_simp) (by go_simp) (by go_simp)).out.mono ?_; rintro e w1 ⟨rfl, rfl⟩) | (go_at_call 37; (first | refine (HIa _).out.mono ?_ | refine (HIb _).out.mono ?_ | refine (HIc _).out.mono ?_); rintro e w1 ⟨rfl, rfl⟩) | (go_at_call 38; (first | refine (HZa _).out.mono ?_ | refine (HZb _).out.mono ?_ | refine (HZc _).out.mono ?_); rintro e w1 ⟨rfl, rfl⟩) | (go_at_call 36; (first | refine (HSa _).out.mono ?_ | refine (HSb _).out.mono ?_ | refine (HSc _).out.mono ?_); rintro e w1 ⟨rfl, rfl⟩) | (go_at_call 39; refine (HG _).out.mono ?_; rintro e w1 ⟨rfl, rfl⟩) | (go_at_call 43; refine (HO _).out.mono ?_; rintro e w1 ⟨rfl, rfl⟩))
  refine (HOfa _ (_hT.below (by repeat (with_reducible first | refine Below.setCell ?_ (by simp <;> omega) _ | refine Below.alloc ?_ (by simp <;> omega) _ | refine Below.drew ?_ | refine below_drewN ?_ _ | exact Below.refl _ _)))).out.mono ?_
  rintro e w1 ⟨aa, ca, rfl, Ma, hb, _⟩
  have B1 := below_box (w := w) (by repeat (with_reducible first | refine Below.setCell ?_ (by simp <;> omega) _ | refine Below.alloc ?_ (by simp <;> omega) _ | refine Below.drew ?_ | refine below_drewN ?_ _ | exact Below.refl _ _)) hb
  clear hb
  go_wp2_with fail
  refine (HOfb _ (_hT.below (by have hszw := (B1).size; repeat (with_reducible first | refine Below.setCell ?_ (by first | omega | (simp <;> omega)) _ | refine Below.alloc ?_ (by first | omega | (simp <;> omega)) _ | refine Below.drew ?_ | refine below_drewN ?_ _ | exact B1)))).out.mono ?_
  rintro e w2 ⟨ab, cb, rfl, Mb, hb, _⟩
  have Ma : Mag w2 aa (nl (dman da).natAbs) ca (dman da).natAbs := Mag.below (by repeat (with_reducible first | refine Mag.set ?_ (fun h => by have := Ma h; omega) _ _ | refine Mag.drew ?_ | refine Mag.alloc ?_ _ | refine Mag.drewN ?_ _ | refine Mag.below ?_ (Below.drew (Below.refl _ _)) | refine Mag.below ?_ ((Below.refl _ _).alloc (Nat.le_refl _) _) | exact Ma)) hb
  have B2 := below_box (w := w) (by have hszw := (B1).size; repeat (with_reducible first | refine Below.setCell ?_ (by first | omega | (simp <;> omega)) _ | refine Below.alloc ?_ (by first | omega | (simp <;> omega)) _ | refine Below.drew ?_ | refine below_drewN ?_ _ | exact B1)) hb
  clear hb
  go_wp2_with fail
  refine (HP _ aa ca ab cb (by repeat (with_reducible first | refine Mag.set ?_ (fun h => by have := Ma h; omega) _ _ | refine Mag.drew ?_ | refine Mag.alloc ?_ _ | refine Mag.drewN ?_ _ | refine Mag.below ?_ (Below.drew (Below.refl _ _)) | refine Mag.below ?_ ((Below.refl _ _).alloc (Nat.le_refl _) _) | exact Ma)) (by repeat (with_reducible first | refine Mag.set ?_ (fun h => by have := Mb h; omega) _ _ | refine Mag.drew ?_ | refine Mag.alloc ?_ _ | refine Mag.drewN ?_ _ | refine Mag.below ?_ (Below.drew (Below.refl _ _)) | refine Mag.below ?_ ((Below.refl _ _).alloc (Nat.le_refl _) _) | exact Mb)) (_hT.below (by have hszw := (B2).size; repeat (with_reducible first | refine Below.setCell ?_ (by first | omega | (simp <;> omega)) _ | refine Below.alloc ?_ (by first | omega | (simp <;> omega)) _ | refine Below.drew ?_ | refine below_drewN ?_ _ | exact B2)))).out.mono ?_
  rintro e w3 ⟨ap, cp, rfl, Mp, hb, _⟩
  have B3 := below_box (w := w) (by have hszw := (B2).size; repeat (with_reducible first | refine Below.setCell ?_ (by first | omega | (simp <;> omega)) _ | refine Below.alloc ?_ (by first | omega | (simp <;> omega)) _ | refine Below.drew ?_ | refine below_drewN ?_ _ | exact B2)) hb
  clear hb
  go_wp2_with fail
  refine (HOfc _ (_hT.below (by have hszw := (B3).size; repeat (with_reducible first | refine Below.setCell ?_ (by first | omega | (simp <;> omega)) _ | refine Below.alloc ?_ (by first | omega | (simp <;> omega)) _ | refine Below.drew ?_ | refine below_drewN ?_ _ | exact B3)))).out.mono ?_
  rintro e w4 ⟨ac, cc, rfl, Mc, hb, _⟩
  have Mp : Mag w4 ap (nl (dman dp).natAbs) cp (dman dp).natAbs := Mag.below (by repeat (with_reducible first | refine Mag.set ?_ (fun h => by have := Mp h; omega) _ _ | refine Mag.drew ?_ | refine Mag.alloc ?_ _ | refine Mag.drewN ?_ _ | refine Mag.below ?_ (Below.drew (Below.refl _ _)) | refine Mag.below ?_ ((Below.refl _ _).alloc (Nat.le_refl _) _) | exact Mp)) hb
  have B4 := below_box (w := w) (by have hszw := (B3).size; repeat (with_reducible first | refine Below.setCell ?_ (by first | omega | (simp <;> omega)) _ | refine Below.alloc ?_ (by first | omega | (simp <;> omega)) _ | refine Below.drew ?_ | refine below_drewN ?_ _ | exact B3)) hb
  clear hb
  go_wp2_with fail
  refine (HA _ ap cp ac cc (by repeat (with_reducible first | refine Mag.set ?_ (fun h => by have := Mp h; omega) _ _ | refine Mag.drew ?_ | refine Mag.alloc ?_ _ | refine Mag.drewN ?_ _ | refine Mag.below ?_ (Below.drew (Below.refl _ _)) | refine Mag.below ?_ ((Below.refl _ _).alloc (Nat.le_refl _) _) | exact Mp)) (by repeat (with_reducible first | refine Mag.set ?_ (fun h => by have := Mc h; omega) _ _ | refine Mag.drew ?_ | refine Mag.alloc ?_ _ | refine Mag.drewN ?_ _ | refine Mag.below ?_ (Below.drew (Below.refl _ _)) | refine Mag.below ?_ ((Below.refl _ _).alloc (Nat.le_refl _) _) | exact Mc)) (_hT.below (by have hszw := (B4).size; repeat (with_reducible first | refine Below.setCell ?_ (by first | omega | (simp <;> omega)) _ | refine Below.alloc ?_ (by first | omega | (simp <;> omega)) _ | refine Below.drew ?_ | refine below_drewN ?_ _ | exact B4)))).out.mono ?_
  rintro e w5 ⟨au, cu, rfl, Mu, hb, _⟩
  have B5 := below_box (w := w) (by have hszw := (B4).size; repeat (with_reducible first | refine Below.setCell ?_ (by first | omega | (simp <;> omega)) _ | refine Below.alloc ?_ (by first | omega | (simp <;> omega)) _ | refine Below.drew ?_ | refine below_drewN ?_ _ | exact B4)) hb
  clear hb
  go_wp2_with fail
  refine (HSg _ au cu (by repeat (with_reducible first | refine Mag.set ?_ (fun h => by have := Mu h; omega) _ _ | refine Mag.drew ?_ | refine Mag.alloc ?_ _ | refine Mag.drewN ?_ _ | refine Mag.below ?_ (Below.drew (Below.refl _ _)) | refine Mag.below ?_ ((Below.refl _ _).alloc (Nat.le_refl _) _) | exact Mu)) (_hT.below (by have hszw := (B5).size; repeat (with_reducible first | refine Below.setCell ?_ (by first | omega | (simp <;> omega)) _ | refine Below.alloc ?_ (by first | omega | (simp <;> omega)) _ | refine Below.drew ?_ | refine below_drewN ?_ _ | exact B5)))).out.mono ?_
  rintro e w6 ⟨rfl, hb⟩
  have Mu : Mag w6 au (nl (dman du).natAbs) cu (dman du).natAbs := Mag.below (by repeat (with_reducible first | refine Mag.set ?_ (fun h => by have := Mu h; omega) _ _ | refine Mag.drew ?_ | refine Mag.alloc ?_ _ | refine Mag.drewN ?_ _ | refine Mag.below ?_ (Below.drew (Below.refl _ _)) | refine Mag.below ?_ ((Below.refl _ _).alloc (Nat.le_refl _) _) | exact Mu)) hb
  have B6 := below_box (w := w) (by have hszw := (B5).size; repeat (with_reducible first | refine Below.setCell ?_ (by first | omega | (simp <;> omega)) _ | refine Below.alloc ?_ (by first | omega | (simp <;> omega)) _ | refine Below.drew ?_ | refine below_drewN ?_ _ | exact B5)) hb
  clear hb
  go_wp2_with fail
  refine (HSc _).out.mono ?_
  rintro e wx ⟨rfl, rfl⟩
  go_wp2_with fail
  refine (HO _).out.mono ?_
  rintro e wx ⟨rfl, rfl⟩
  go_wp2_with fail
  go_ret
  exact ⟨rfl, (by have hszw := (B6).size; repeat (with_reducible first | refine Below.setCell ?_ (by first | omega | (simp <;> omega)) _ | refine Below.alloc ?_ (by first | omega | (simp <;> omega)) _ | refine Below.drew ?_ | refine below_drewN ?_ _ | exact B6))⟩

theorem sgn_both (x y : Bool) : ((x != y) = true ∧ (x == y) = false ∧ ¬ x = y) ∨ ((x != y) = false ∧ (x == y) = true ∧ x = y) := by cases x <;> cases y <;> decide
theorem wfma_any (w : World) (a b c : Nat) (ha : a < 18446744073709551616) (hb : b < 18446744073709551616) (hc : c < 18446744073709551616) (mode : Int) (hT : Tab w) :
    Calls Tryd.prog 21 #[.int .u64 a, .int .u64 b, .int .u64 c, .int .i64 mode] w fun o w' => o = .returned (.int .u64 (ffma a b c mode : Nat)) ∧ Below w.heap.size w w' := by
  cases hn : (fnan a || fnan b || fnan c) with
  | true =>
    have hv : ffma a b c mode = fNaN := by unfold ffma; rw [hn]; rfl
    rw [hv]; exact wfma_nan w a b c ha hb hc mode hT hn
  | false =>
    have fin : ∀ (_ : finf a = false) (_ : finf b = false), Calls Tryd.prog 21 #[.int .u64 a, .int .u64 b, .int .u64 c, .int .i64 mode] w fun o w' => o = .returned (.int .u64 (ffma a b c mode : Nat)) ∧ Below w.heap.size w w' := by
      intro i1 i2
      have hu : ffma a b c mode = if finf c then c else if dman (dadd (dmul (fof a) (fof b)) (fof c)) ≠ 0 then fround (dadd (dmul (fof a) (fof b)) (fof c)) mode else if fS c = (fS a != fS b) then fsgn (fS a != fS b) 0 else fnothing mode := by
        unfold ffma; rw [hn, i1, i2]; simp
      rw [hu]
      cases z1 : fzero a <;> cases i3 : finf c
      · rw [if_neg (by decide)]
        by_cases hs : dman (dadd (dmul (fof a) (fof b)) (fof c)) = 0
        · rw [if_neg (fun h => h hs)]
          rcases sgn_both (fS c) (fS a != fS b) with ⟨h1, h2, h3⟩ | ⟨h1, h2, h3⟩
          · rw [if_neg h3]; exact wfma_no w a b c ha hb hc mode hT hn i1 z1 i2 i3 hs h1 h2
          · rw [if_pos h3]; exact wfma_ns w a b c ha hb hc mode hT hn i1 z1 i2 i3 hs h1 h2
        · rw [if_pos hs]; exact wfma_nr w a b c ha hb hc mode hT hn i1 z1 i2 i3 hs
      · rw [if_pos rfl]; exact wfma_nc w a b c ha hb hc mode hT hn i1 z1 i2 i3
      · rw [if_neg (by decide)]
        by_cases hs : dman (dadd (dmul (fof a) (fof b)) (fof c)) = 0
        · rw [if_neg (fun h => h hs)]
          rcases sgn_both (fS c) (fS a != fS b) with ⟨h1, h2, h3⟩ | ⟨h1, h2, h3⟩
          · rw [if_neg h3]; exact wfma_zo w a b c ha hb hc mode hT hn i1 z1 i2 i3 hs h1 h2
          · rw [if_pos h3]; exact wfma_zs w a b c ha hb hc mode hT hn i1 z1 i2 i3 hs h1 h2
        · rw [if_pos hs]; exact wfma_zr w a b c ha hb hc mode hT hn i1 z1 i2 i3 hs
      · rw [if_pos rfl]; exact wfma_zc w a b c ha hb hc mode hT hn i1 z1 i2 i3
    rcases kinds a with ⟨i1, z1⟩ | ⟨i1, z1⟩ | ⟨i1, z1⟩ <;> rcases kinds b with ⟨i2, z2⟩ | ⟨i2, z2⟩ | ⟨i2, z2⟩
    · cases i3 : finf c with
      | true =>
        rcases sgn_both (fS c) (fS a != fS b) with ⟨h1, h2, h3⟩ | ⟨h1, h2, h3⟩
        · have hv : ffma a b c mode = fNaN := by unfold ffma; rw [hn, i1, i2, z1, z2, i3, h1]; rfl
          rw [hv]; exact wfma_iin w a b c ha hb hc mode hT hn i1 z1 i2 z2 i3 h1 h2
        · have hv : ffma a b c mode = fsgn (fS a != fS b) fInf := by unfold ffma; rw [hn, i1, i2, z1, z2, i3, h1]; rfl
          rw [hv]; exact wfma_iis w a b c ha hb hc mode hT hn i1 z1 i2 z2 i3 h1 h2
      | false =>
        have hv : ffma a b c mode = fsgn (fS a != fS b) fInf := by unfold ffma; rw [hn, i1, i2, z1, z2, i3]; rfl
        rw [hv]; exact wfma_iif w a b c ha hb hc mode hT hn i1 z1 i2 z2 i3
    · have hv : ffma a b c mode = fNaN := by unfold ffma; rw [hn, i1, i2, z1, z2]; rfl
      rw [hv]; exact wfma_iz w a b c ha hb hc mode hT hn i1 z1 i2 z2
    · cases i3 : finf c with
      | true =>
        rcases sgn_both (fS c) (fS a != fS b) with ⟨h1, h2, h3⟩ | ⟨h1, h2, h3⟩
        · have hv : ffma a b c mode = fNaN := by unfold ffma; rw [hn, i1, i2, z1, z2, i3, h1]; rfl
          rw [hv]; exact wfma_inn w a b c ha hb hc mode hT hn i1 z1 i2 z2 i3 h1 h2
        · have hv : ffma a b c mode = fsgn (fS a != fS b) fInf := by unfold ffma; rw [hn, i1, i2, z1, z2, i3, h1]; rfl
          rw [hv]; exact wfma_ins w a b c ha hb hc mode hT hn i1 z1 i2 z2 i3 h1 h2
      | false =>
        have hv : ffma a b c mode = fsgn (fS a != fS b) fInf := by unfold ffma; rw [hn, i1, i2, z1, z2, i3]; rfl
        rw [hv]; exact wfma_inf w a b c ha hb hc mode hT hn i1 z1 i2 z2 i3
    · have hv : ffma a b c mode = fNaN := by unfold ffma; rw [hn, i1, i2, z1, z2]; rfl
      rw [hv]; exact wfma_zi w a b c ha hb hc mode hT hn i1 z1 i2 z2
    · exact fin i1 i2
    · exact fin i1 i2
    · cases i3 : finf c with
      | true =>
        rcases sgn_both (fS c) (fS a != fS b) with ⟨h1, h2, h3⟩ | ⟨h1, h2, h3⟩
        · have hv : ffma a b c mode = fNaN := by unfold ffma; rw [hn, i1, i2, z1, z2, i3, h1]; rfl
          rw [hv]; exact wfma_nin w a b c ha hb hc mode hT hn i1 z1 i2 z2 i3 h1 h2
        · have hv : ffma a b c mode = fsgn (fS a != fS b) fInf := by unfold ffma; rw [hn, i1, i2, z1, z2, i3, h1]; rfl
          rw [hv]; exact wfma_nis w a b c ha hb hc mode hT hn i1 z1 i2 z2 i3 h1 h2
      | false =>
        have hv : ffma a b c mode = fsgn (fS a != fS b) fInf := by unfold ffma; rw [hn, i1, i2, z1, z2, i3]; rfl
        rw [hv]; exact wfma_nif w a b c ha hb hc mode hT hn i1 z1 i2 z2 i3
    · exact fin i1 i2
    · exact fin i1 i2

set_option maxRecDepth 100000 in
set_option maxHeartbeats 2000000 in
theorem wsqrt_any (w : World) (f : Nat) (hf : f < 18446744073709551616) (mode : Int) (hT : Tab w) :
    Calls Tryd.prog 33 #[.int .u64 f, .int .i64 mode] w fun o w' => o = .returned (.int .u64 (fsqrt f mode : Nat)) ∧ Below w.heap.size w w' := by
  have HN := fun W g h => Lib.hid (nan1 W g f h)
  have HZ := fun W => Lib.hid (fzero_any W f)
  have HS := fun W => Lib.hid (fsign_any W f hf)
  have hi : ((f : Int) == 9218868437227405312) = decide (f = fInf) := by rw [Bool.eq_iff_iff, beq_iff_eq, decide_eq_true_eq]; unfold fInf; omega
  have hv : fsqrt f mode = if fnan f then fNaN else if fzero f || decide (f = fInf) then f else if fS f then fNaN else froot (fof f) mode := rfl
  rw [← hi] at hv
  cases hn : fnan f with
  | true =>
    rw [hn] at HN hv
    have hv : ((fsqrt f mode : Nat) : Int) = 9221120237041090560 := by rw [hv]; rfl
    rw [hv]
    clear hv hi
    go_enter Tryd.func33, Tryd.ntmps33
    go_wp2_with fail
    refine (HN _ _ (by go_simp)).out.mono ?_
    rintro e w1 ⟨rfl, rfl⟩
    go_wp2_with fail
    go_ret
    exact ⟨rfl, (by repeat (with_reducible first | refine Below.setCell ?_ (by simp <;> omega) _ | refine Below.alloc ?_ (by simp <;> omega) _ | refine Below.drew ?_ | refine below_drewN ?_ _ | exact Below.refl _ _))⟩
  | false =>
    rw [hn] at HN hv
    have HH := Lib.hid hi
    clear hi
    cases hz : fzero f with
    | true =>
      rw [hz] at HZ hv
      have hv : ((fsqrt f mode : Nat) : Int) = f := by rw [hv]; rfl
      rw [hv]
      clear hv
      go_enter Tryd.func33, Tryd.ntmps33
      go_wp2_with fail
      refine (HN _ _ (by go_simp)).out.mono ?_
      rintro e w1 ⟨rfl, rfl⟩
      go_wp2_with fail
      refine (HZ _).out.mono ?_
      rintro e w1 ⟨rfl, rfl⟩
      go_wp2_with fail
      go_ret
      exact ⟨rfl, (by repeat (with_reducible first | refine Below.setCell ?_ (by simp <;> omega) _ | refine Below.alloc ?_ (by simp <;> omega) _ | refine Below.drew ?_ | refine below_drewN ?_ _ | exact Below.refl _ _))⟩
    | false =>
      rw [hz] at HZ hv
      cases hb : ((f : Int) == 9218868437227405312) with
      | true =>
        rw [hb] at hv
        have hv : ((fsqrt f mode : Nat) : Int) = f := by rw [hv]; rfl
        rw [hv]
        clear hv
        go_enter Tryd.func33, Tryd.ntmps33
        go_wp2_with fail
        refine (HN _ _ (by go_simp)).out.mono ?_
        rintro e w1 ⟨rfl, rfl⟩
        go_wp2_with fail
        refine (HZ _).out.mono ?_
        rintro e w1 ⟨rfl, rfl⟩
        go_wp2_with fail
        go_ret
        exact ⟨rfl, (by repeat (with_reducible first | refine Below.setCell ?_ (by simp <;> omega) _ | refine Below.alloc ?_ (by simp <;> omega) _ | refine Below.drew ?_ | refine below_drewN ?_ _ | exact Below.refl _ _))⟩
      | false =>
        rw [hb] at hv
        cases hs : fS f with
        | true =>
          rw [hs] at HS hv
          have hv : ((fsqrt f mode : Nat) : Int) = 9221120237041090560 := by rw [hv]; rfl
          rw [hv]
          clear hv
          go_enter Tryd.func33, Tryd.ntmps33
          go_wp2_with fail
          refine (HN _ _ (by go_simp)).out.mono ?_
          rintro e w1 ⟨rfl, rfl⟩
          go_wp2_with fail
          refine (HZ _).out.mono ?_
          rintro e w1 ⟨rfl, rfl⟩
          go_wp2_with fail
          refine (HS _).out.mono ?_
          rintro e w1 ⟨rfl, rfl⟩
          go_wp2_with fail
          go_ret
          exact ⟨rfl, (by repeat (with_reducible first | refine Below.setCell ?_ (by simp <;> omega) _ | refine Below.alloc ?_ (by simp <;> omega) _ | refine Below.drew ?_ | refine below_drewN ?_ _ | exact Below.refl _ _))⟩
        | false =>
          rw [hs] at HS hv
          have hv : fsqrt f mode = froot (fof f) mode := hv
          rw [hv]
          have HO := fun W ht => Lib.hid (fof_any W f hf ht)
          have N := Lib.hid (isN_fof f)
          clear hv
          generalize fof f = d at *
          have HR := fun W b q (h : Mag W b (nl (dman d).natAbs) q (dman d).natAbs) ht => Lib.hid (wroot_any W _ _ _ _ _ _ mode _ (dyin_of N.out h) ht)
          generalize ((froot d mode : Nat) : Int) = V at *
          go_enter Tryd.func33, Tryd.ntmps33
          go_wp2_with fail
          refine (HN _ _ (by go_simp)).out.mono ?_
          rintro e w1 ⟨rfl, rfl⟩
          go_wp2_with fail
          refine (HZ _).out.mono ?_
          rintro e w1 ⟨rfl, rfl⟩
          go_wp2_with fail
          refine (HS _).out.mono ?_
          rintro e w1 ⟨rfl, rfl⟩
          go_wp2_with fail
          refine (HO _ (hT.below (by repeat (with_reducible first | refine Below.setCell ?_ (by simp <;> omega) _ | refine Below.alloc ?_ (by simp <;> omega) _ | refine Below.drew ?_ | refine below_drewN ?_ _ | exact Below.refl _ _)))).out.mono ?_
          rintro e w1 ⟨a1, c1, rfl, M1, hb, _⟩
          have B1 := below_box (w := w) (by repeat (with_reducible first | refine Below.setCell ?_ (by simp <;> omega) _ | refine Below.alloc ?_ (by simp <;> omega) _ | refine Below.drew ?_ | refine below_drewN ?_ _ | exact Below.refl _ _)) hb
          clear hb
          go_wp2_with fail
          refine (HR _ a1 c1 (by repeat (with_reducible first | refine Mag.set ?_ (fun h => by have := M1 h; omega) _ _ | refine Mag.drew ?_ | refine Mag.alloc ?_ _ | refine Mag.drewN ?_ _ | refine Mag.below ?_ (Below.drew (Below.refl _ _)) | refine Mag.below ?_ ((Below.refl _ _).alloc (Nat.le_refl _) _) | exact M1)) (hT.below (by have hszw := (B1).size; repeat (with_reducible first | refine Below.setCell ?_ (by first | omega | (simp <;> omega)) _ | refine Below.alloc ?_ (by first | omega | (simp <;> omega)) _ | refine Below.drew ?_ | refine below_drewN ?_ _ | exact B1)))).out.mono ?_
          rintro e w2 ⟨rfl, hb⟩
          have B2 := below_box (w := w) (by have hszw := (B1).size; repeat (with_reducible first | refine Below.setCell ?_ (by first | omega | (simp <;> omega)) _ | refine Below.alloc ?_ (by first | omega | (simp <;> omega)) _ | refine Below.drew ?_ | refine below_drewN ?_ _ | exact B1)) hb
          clear hb
          go_wp2_with fail
          go_ret
          exact ⟨rfl, (by have hszw := (B2).size; repeat (with_reducible first | refine Below.setCell ?_ (by first | omega | (simp <;> omega)) _ | refine Below.alloc ?_ (by first | omega | (simp <;> omega)) _ | refine Below.drew ?_ | refine below_drewN ?_ _ | exact B2))⟩

end Go.Proofs.YtkpglfloddkclaaDoor


/-
  Walks: package float: Add, Sub.
-/
import Derived.Test.YtakbappmkdaioaaGreatDoorZfGq
import Derived.Test.YtakbappmkdaioaaGreatDoorZfBg
namespace Go.Proofs.YtakbappmkdaioaaGreatDoor
open Go.RowKit Sp

set_option maxRecDepth 100000 in
set_option maxHeartbeats 2000000 in
theorem wadd_nan (w : World) (a b : Nat) (ha : a < 18446744073709551616) (hb : b < 18446744073709551616) (mode : Int) (_hT : Tab w) (hn : (fnan a || fnan b) = true)   :
    Calls Tryz.prog 70 #[.int .u64 a, .int .u64 b, .int .i64 mode] w fun o w' => o = .returned (.int .u64 9221120237041090560) ∧ Below w.heap.size w w' := by
  have HN := fun W g h0 h1 => Lib.hid (nan2 W g a b h0 h1)
  rw [hn] at HN
  have HSa := fun W => Lib.hid (fsign_any W a ha)
  have HSb := fun W => Lib.hid (fsign_any W b hb)
  go_enter Tryz.func70, Tryz.ntmps70
  go_wp2_with (first | (go_at_call 162; refine (HN _ _ (by go_simp) (by go_simp)).out.mono ?_; rintro e w1 ⟨rfl, rfl⟩) | (go_at_call 177; (first | refine (HIa _).out.mono ?_ | refine (HIb _).out.mono ?_); rintro e w1 ⟨rfl, rfl⟩) | (go_at_call 174; (first | refine (HZa _).out.mono ?_ | refine (HZb _).out.mono ?_); rintro e w1 ⟨rfl, rfl⟩) | (go_at_call 170; (first | refine (HSa _).out.mono ?_ | refine (HSb _).out.mono ?_); rintro e w1 ⟨rfl, rfl⟩) | (go_at_call 183; refine (HG _).out.mono ?_; rintro e w1 ⟨rfl, rfl⟩) | (go_at_call 179; refine (HO _).out.mono ?_; rintro e w1 ⟨rfl, rfl⟩))
  go_ret
  exact ⟨rfl, zbh⟩

set_option maxRecDepth 100000 in
set_option maxHeartbeats 2000000 in
theorem wadd_ii (w : World) (a b : Nat) (ha : a < 18446744073709551616) (hb : b < 18446744073709551616) (mode : Int) (_hT : Tab w) (hn : (fnan a || fnan b) = false) (_hia : finf a = true) (_hza : fzero a = false) (_hib : finf b = true) (_hzb : fzero b = false) (_hne : ((a : Int) != (b : Int)) = true) (_heq : ((a : Int) == (b : Int)) = false) :
    Calls Tryz.prog 70 #[.int .u64 a, .int .u64 b, .int .i64 mode] w fun o w' => o = .returned (.int .u64 9221120237041090560) ∧ Below w.heap.size w w' := by
  have HN := fun W g h0 h1 => Lib.hid (nan2 W g a b h0 h1)
  rw [hn] at HN
  have HSa := fun W => Lib.hid (fsign_any W a ha)
  have HIa := fun W => Lib.hid (finf_any W a)
  rw [_hia] at HIa
  have HZa := fun W => Lib.hid (fzero_any W a)
  rw [_hza] at HZa
  have HSb := fun W => Lib.hid (fsign_any W b hb)
  have HIb := fun W => Lib.hid (finf_any W b)
  rw [_hib] at HIb
  have HZb := fun W => Lib.hid (fzero_any W b)
  rw [_hzb] at HZb
  go_enter Tryz.func70, Tryz.ntmps70
  go_wp2_with (first | (go_at_call 162; refine (HN _ _ (by go_simp) (by go_simp)).out.mono ?_; rintro e w1 ⟨rfl, rfl⟩) | (go_at_call 177; (first | refine (HIa _).out.mono ?_ | refine (HIb _).out.mono ?_); rintro e w1 ⟨rfl, rfl⟩) | (go_at_call 174; (first | refine (HZa _).out.mono ?_ | refine (HZb _).out.mono ?_); rintro e w1 ⟨rfl, rfl⟩) | (go_at_call 170; (first | refine (HSa _).out.mono ?_ | refine (HSb _).out.mono ?_); rintro e w1 ⟨rfl, rfl⟩) | (go_at_call 183; refine (HG _).out.mono ?_; rintro e w1 ⟨rfl, rfl⟩) | (go_at_call 179; refine (HO _).out.mono ?_; rintro e w1 ⟨rfl, rfl⟩))
  go_ret
  exact ⟨rfl, zbh⟩

set_option maxRecDepth 100000 in
set_option maxHeartbeats 2000000 in
theorem wadd_iq (w : World) (a b : Nat) (ha : a < 18446744073709551616) (hb : b < 18446744073709551616) (mode : Int) (_hT : Tab w) (hn : (fnan a || fnan b) = false) (_hia : finf a = true) (_hza : fzero a = false) (_hib : finf b = true) (_hzb : fzero b = false) (_hne : ((a : Int) != (b : Int)) = false) (_heq : ((a : Int) == (b : Int)) = true) :
    Calls Tryz.prog 70 #[.int .u64 a, .int .u64 b, .int .i64 mode] w fun o w' => o = .returned (.int .u64 (a : Int)) ∧ Below w.heap.size w w' := by
  have HN := fun W g h0 h1 => Lib.hid (nan2 W g a b h0 h1)
  rw [hn] at HN
  have HSa := fun W => Lib.hid (fsign_any W a ha)
  have HIa := fun W => Lib.hid (finf_any W a)
  rw [_hia] at HIa
  have HZa := fun W => Lib.hid (fzero_any W a)
  rw [_hza] at HZa
  have HSb := fun W => Lib.hid (fsign_any W b hb)
  have HIb := fun W => Lib.hid (finf_any W b)
  rw [_hib] at HIb
  have HZb := fun W => Lib.hid (fzero_any W b)
  rw [_hzb] at HZb
  go_enter Tryz.func70, Tryz.ntmps70
  go_wp2_with (first | (go_at_call 162; refine (HN _ _ (by go_simp) (by go_simp)).out.mono ?_; rintro e w1 ⟨rfl, rfl⟩) | (go_at_call 177; (first | refine (HIa _).out.mono ?_ | refine (HIb _).out.mono ?_); rintro e w1 ⟨rfl, rfl⟩) | (go_at_call 174; (first | refine (HZa _).out.mono ?_ | refine (HZb _).out.mono ?_); rintro e w1 ⟨rfl, rfl⟩) | (go_at_call 170; (first | refine (HSa _).out.mono ?_ | refine (HSb _).out.mono ?_); rintro e w1 ⟨rfl, rfl⟩) | (go_at_call 183; refine (HG _).out.mono ?_; rintro e w1 ⟨rfl, rfl⟩) | (go_at_call 179; refine (HO _).out.mono ?_; rintro e w1 ⟨rfl, rfl⟩))
  go_ret
  exact ⟨rfl, zbh⟩

set_option maxRecDepth 100000 in
set_option maxHeartbeats 2000000 in
theorem wadd_iz (w : World) (a b : Nat) (ha : a < 18446744073709551616) (hb : b < 18446744073709551616) (mode : Int) (_hT : Tab w) (hn : (fnan a || fnan b) = false) (_hia : finf a = true) (_hza : fzero a = false) (_hib : finf b = false) (_hzb : fzero b = true)  :
    Calls Tryz.prog 70 #[.int .u64 a, .int .u64 b, .int .i64 mode] w fun o w' => o = .returned (.int .u64 (a : Int)) ∧ Below w.heap.size w w' := by
  have HN := fun W g h0 h1 => Lib.hid (nan2 W g a b h0 h1)
  rw [hn] at HN
  have HSa := fun W => Lib.hid (fsign_any W a ha)
  have HIa := fun W => Lib.hid (finf_any W a)
  rw [_hia] at HIa
  have HZa := fun W => Lib.hid (fzero_any W a)
  rw [_hza] at HZa
  have HSb := fun W => Lib.hid (fsign_any W b hb)
  have HIb := fun W => Lib.hid (finf_any W b)
  rw [_hib] at HIb
  have HZb := fun W => Lib.hid (fzero_any W b)
  rw [_hzb] at HZb
  go_enter Tryz.func70, Tryz.ntmps70
  go_wp2_with (first | (go_at_call 162; refine (HN _ _ (by go_simp) (by go_simp)).out.mono ?_; rintro e w1 ⟨rfl, rfl⟩) | (go_at_call 177; (first | refine (HIa _).out.mono ?_ | refine (HIb _).out.mono ?_); rintro e w1 ⟨rfl, rfl⟩) | (go_at_call 174; (first | refine (HZa _).out.mono ?_ | refine (HZb _).out.mono ?_); rintro e w1 ⟨rfl, rfl⟩) | (go_at_call 170; (first | refine (HSa _).out.mono ?_ | refine (HSb _).out.mono ?_); rintro e w1 ⟨rfl, rfl⟩) | (go_at_call 183; refine (HG _).out.mono ?_; rintro e w1 ⟨rfl, rfl⟩) | (go_at_call 179; refine (HO _).out.mono ?_; rintro e w1 ⟨rfl, rfl⟩))
  go_ret
  exact ⟨rfl, zbh⟩

set_option maxRecDepth 100000 in
set_option maxHeartbeats 2000000 in
theorem wadd_zi (w : World) (a b : Nat) (ha : a < 18446744073709551616) (hb : b < 18446744073709551616) (mode : Int) (_hT : Tab w) (hn : (fnan a || fnan b) = false) (_hia : finf a = false) (_hza : fzero a = true) (_hib : finf b = true) (_hzb : fzero b = false)  :
    Calls Tryz.prog 70 #[.int .u64 a, .int .u64 b, .int .i64 mode] w fun o w' => o = .returned (.int .u64 (b : Int)) ∧ Below w.heap.size w w' := by
  have HN := fun W g h0 h1 => Lib.hid (nan2 W g a b h0 h1)
  rw [hn] at HN
  have HSa := fun W => Lib.hid (fsign_any W a ha)
  have HIa := fun W => Lib.hid (finf_any W a)
  rw [_hia] at HIa
  have HZa := fun W => Lib.hid (fzero_any W a)
  rw [_hza] at HZa
  have HSb := fun W => Lib.hid (fsign_any W b hb)
  have HIb := fun W => Lib.hid (finf_any W b)
  rw [_hib] at HIb
  have HZb := fun W => Lib.hid (fzero_any W b)
  rw [_hzb] at HZb
  go_enter Tryz.func70, Tryz.ntmps70
  go_wp2_with (first | (go_at_call 162; refine (HN _ _ (by go_simp) (by go_simp)).out.mono ?_; rintro e w1 ⟨rfl, rfl⟩) | (go_at_call 177; (first | refine (HIa _).out.mono ?_ | refine (HIb _).out.mono ?_); rintro e w1 ⟨rfl, rfl⟩) | (go_at_call 174; (first | refine (HZa _).out.mono ?_ | refine (HZb _).out.mono ?_); rintro e w1 ⟨rfl, rfl⟩) | (go_at_call 170; (first | refine (HSa _).out.mono ?_ | refine (HSb _).out.mono ?_); rintro e w1 ⟨rfl, rfl⟩) | (go_at_call 183; refine (HG _).out.mono ?_; rintro e w1 ⟨rfl, rfl⟩) | (go_at_call 179; refine (HO _).out.mono ?_; rintro e w1 ⟨rfl, rfl⟩))
  go_ret
  exact ⟨rfl, zbh⟩

set_option maxRecDepth 100000 in
set_option maxHeartbeats 2000000 in
theorem wadd_in (w : World) (a b : Nat) (ha : a < 18446744073709551616) (hb : b < 18446744073709551616) (mode : Int) (_hT : Tab w) (hn : (fnan a || fnan b) = false) (_hia : finf a = true) (_hza : fzero a = false) (_hib : finf b = false) (_hzb : fzero b = false)  :
    Calls Tryz.prog 70 #[.int .u64 a, .int .u64 b, .int .i64 mode] w fun o w' => o = .returned (.int .u64 (a : Int)) ∧ Below w.heap.size w w' := by
  have HN := fun W g h0 h1 => Lib.hid (nan2 W g a b h0 h1)
  rw [hn] at HN
  have HSa := fun W => Lib.hid (fsign_any W a ha)
  have HIa := fun W => Lib.hid (finf_any W a)
  rw [_hia] at HIa
  have HZa := fun W => Lib.hid (fzero_any W a)
  rw [_hza] at HZa
  have HSb := fun W => Lib.hid (fsign_any W b hb)
  have HIb := fun W => Lib.hid (finf_any W b)
  rw [_hib] at HIb
  have HZb := fun W => Lib.hid (fzero_any W b)
  rw [_hzb] at HZb
  go_enter Tryz.func70, Tryz.ntmps70
  go_wp2_with (first | (go_at_call 162; refine (HN _ _ (by go_simp) (by go_simp)).out.mono ?_; rintro e w1 ⟨rfl, rfl⟩) | (go_at_call 177; (first | refine (HIa _).out.mono ?_ | refine (HIb _).out.mono ?_); rintro e w1 ⟨rfl, rfl⟩) | (go_at_call 174; (first | refine (HZa _).out.mono ?_ | refine (HZb _).out.mono ?_); rintro e w1 ⟨rfl, rfl⟩) | (go_at_call 170; (first | refine (HSa _).out.mono ?_ | refine (HSb _).out.mono ?_); rintro e w1 ⟨rfl, rfl⟩) | (go_at_call 183; refine (HG _).out.mono ?_; rintro e w1 ⟨rfl, rfl⟩) | (go_at_call 179; refine (HO _).out.mono ?_; rintro e w1 ⟨rfl, rfl⟩))
  go_ret
  exact ⟨rfl, zbh⟩

set_option maxRecDepth 100000 in
set_option maxHeartbeats 2000000 in
theorem wadd_ni (w : World) (a b : Nat) (ha : a < 18446744073709551616) (hb : b < 18446744073709551616) (mode : Int) (_hT : Tab w) (hn : (fnan a || fnan b) = false) (_hia : finf a = false) (_hza : fzero a = false) (_hib : finf b = true) (_hzb : fzero b = false)  :
    Calls Tryz.prog 70 #[.int .u64 a, .int .u64 b, .int .i64 mode] w fun o w' => o = .returned (.int .u64 (b : Int)) ∧ Below w.heap.size w w' := by
  have HN := fun W g h0 h1 => Lib.hid (nan2 W g a b h0 h1)
  rw [hn] at HN
  have HSa := fun W => Lib.hid (fsign_any W a ha)
  have HIa := fun W => Lib.hid (finf_any W a)
  rw [_hia] at HIa
  have HZa := fun W => Lib.hid (fzero_any W a)
  rw [_hza] at HZa
  have HSb := fun W => Lib.hid (fsign_any W b hb)
  have HIb := fun W => Lib.hid (finf_any W b)
  rw [_hib] at HIb
  have HZb := fun W => Lib.hid (fzero_any W b)
  rw [_hzb] at HZb
  go_enter Tryz.func70, Tryz.ntmps70
  go_wp2_with (first | (go_at_call 162; refine (HN _ _ (by go_simp) (by go_simp)).out.mono ?_; rintro e w1 ⟨rfl, rfl⟩) | (go_at_call 177; (first | refine (HIa _).out.mono ?_ | refine (HIb _).out.mono ?_); rintro e w1 ⟨rfl, rfl⟩) | (go_at_call 174; (first | refine (HZa _).out.mono ?_ | refine (HZb _).out.mono ?_); rintro e w1 ⟨rfl, rfl⟩) | (go_at_call 170; (first | refine (HSa _).out.mono ?_ | refine (HSb _).out.mono ?_); rintro e w1 ⟨rfl, rfl⟩) | (go_at_call 183; refine (HG _).out.mono ?_; rintro e w1 ⟨rfl, rfl⟩) | (go_at_call 179; refine (HO _).out.mono ?_; rintro e w1 ⟨rfl, rfl⟩))
  go_ret
  exact ⟨rfl, zbh⟩

set_option maxRecDepth 100000 in
set_option maxHeartbeats 2000000 in
theorem wadd_zq (w : World) (a b : Nat) (ha : a < 18446744073709551616) (hb : b < 18446744073709551616) (mode : Int) (_hT : Tab w) (hn : (fnan a || fnan b) = false) (_hia : finf a = false) (_hza : fzero a = true) (_hib : finf b = false) (_hzb : fzero b = true) (_hne : ((a : Int) != (b : Int)) = false) (_heq : ((a : Int) == (b : Int)) = true) :
    Calls Tryz.prog 70 #[.int .u64 a, .int .u64 b, .int .i64 mode] w fun o w' => o = .returned (.int .u64 (a : Int)) ∧ Below w.heap.size w w' := by
  have HN := fun W g h0 h1 => Lib.hid (nan2 W g a b h0 h1)
  rw [hn] at HN
  have HSa := fun W => Lib.hid (fsign_any W a ha)
  have HIa := fun W => Lib.hid (finf_any W a)
  rw [_hia] at HIa
  have HZa := fun W => Lib.hid (fzero_any W a)
  rw [_hza] at HZa
  have HSb := fun W => Lib.hid (fsign_any W b hb)
  have HIb := fun W => Lib.hid (finf_any W b)
  rw [_hib] at HIb
  have HZb := fun W => Lib.hid (fzero_any W b)
  rw [_hzb] at HZb
  go_enter Tryz.func70, Tryz.ntmps70
  go_wp2_with (first | (go_at_call 162; refine (HN _ _ (by go_simp) (by go_simp)).out.mono ?_; rintro e w1 ⟨rfl, rfl⟩) | (go_at_call 177; (first | refine (HIa _).out.mono ?_ | refine (HIb _).out.mono ?_); rintro e w1 ⟨rfl, rfl⟩) | (go_at_call 174; (first | refine (HZa _).out.mono ?_ | refine (HZb _).out.mono ?_); rintro e w1 ⟨rfl, rfl⟩) | (go_at_call 170; (first | refine (HSa _).out.mono ?_ | refine (HSb _).out.mono ?_); rintro e w1 ⟨rfl, rfl⟩) | (go_at_call 183; refine (HG _).out.mono ?_; rintro e w1 ⟨rfl, rfl⟩) | (go_at_call 179; refine (HO _).out.mono ?_; rintro e w1 ⟨rfl, rfl⟩))
  go_ret
  exact ⟨rfl, zbh⟩

set_option maxRecDepth 100000 in
set_option maxHeartbeats 2000000 in
theorem wadd_zz0 (w : World) (a b : Nat) (ha : a < 18446744073709551616) (hb : b < 18446744073709551616) (mode : Int) (_hT : Tab w) (hn : (fnan a || fnan b) = false) (_hia : finf a = false) (_hza : fzero a = true) (_hib : finf b = false) (_hzb : fzero b = true) (_hne : ((a : Int) != (b : Int)) = true) (_heq : ((a : Int) == (b : Int)) = false) (hs0 : dman (dadd (fof a) (fof b)) = 0) :
    Calls Tryz.prog 70 #[.int .u64 a, .int .u64 b, .int .i64 mode] w fun o w' => o = .returned (.int .u64 ((fnothing mode : Nat) : Int)) ∧ Below w.heap.size w w' := by
  have HN := fun W g h0 h1 => Lib.hid (nan2 W g a b h0 h1)
  rw [hn] at HN
  have HSa := fun W => Lib.hid (fsign_any W a ha)
  have HIa := fun W => Lib.hid (finf_any W a)
  rw [_hia] at HIa
  have HZa := fun W => Lib.hid (fzero_any W a)
  rw [_hza] at HZa
  have HSb := fun W => Lib.hid (fsign_any W b hb)
  have HIb := fun W => Lib.hid (finf_any W b)
  rw [_hib] at HIb
  have HZb := fun W => Lib.hid (fzero_any W b)
  rw [_hzb] at HZb
  have HOfa := fun W ht => Lib.hid (fof_any W a ha ht)
  have Na := Lib.hid (isN_fof a)
  have HOfb := fun W ht => Lib.hid (fof_any W b hb ht)
  have Nb := Lib.hid (isN_fof b)
  generalize fof a = da at *
  generalize fof b = db at *
  have HP := fun W ba qa bb qb (ha' : Mag W ba (nl (dman da).natAbs) qa (dman da).natAbs) (hb' : Mag W bb (nl (dman db).natAbs) qb (dman db).natAbs) ht => Lib.hid (dadd_any W _ _ _ _ _ _ _ _ _ _ _ _ _ _ (dyin_of Na.out ha') (dyin_of Nb.out hb') ht)
  have Nu := Lib.hid (isN_add da db)
  generalize dadd da db = du at *
  have HSg := fun W bu qu (hu' : Mag W bu (nl (dman du).natAbs) qu (dman du).natAbs) ht => Lib.hid (dsign_any W _ _ _ _ _ _ _ (dyin_of Nu.out hu') ht)
  have HO := fun W => Lib.hid (fnothing_any W mode)
  obtain ⟨g, hg⟩ : ∃ g, g = cmpI (dman du) 0 := ⟨_, rfl⟩
  rw [← hg] at HSg
  have hge : (g == 0) = true := by rw [hg, hs0]; rfl
  have HQ := Lib.hid hs0
  clear hs0 hg
  go_enter Tryz.func70, Tryz.ntmps70
  go_wp2_with (first | (go_at_call 162; refine (HN _ _ (by go_simp) (by go_simp)).out.mono ?_; rintro e w1 ⟨rfl, rfl⟩) | (go_at_call 177; (first | refine (HIa _).out.mono ?_ | refine (HIb _).out.mono ?_); rintro e w1 ⟨rfl, rfl⟩) | (go_at_call 174; (first | refine (HZa _).out.mono ?_ | refine (HZb _).out.mono ?_); rintro e w1 ⟨rfl, rfl⟩) | (go_at_call 170; (first | refine (HSa _).out.mono ?_ | refine (HSb _).out.mono ?_); rintro e w1 ⟨rfl, rfl⟩) | (go_at_call 183; refine (HG _).out.mono ?_; rintro e w1 ⟨rfl, rfl⟩) | (go_at_call 179; refine (HO _).out.mono ?_; rintro e w1 ⟨rfl, rfl⟩))
  refine (HOfa _ (_hT.below zbh)).out.mono ?_
  rintro e w1 ⟨aa, ca, rfl, Ma, hb, _⟩
  have B1 := below_box (w := w) zbh hb
  clear hb
  go_wp2_with fail
  refine (HOfb _ (_hT.below (have := Beh.mk B1; zbh))).out.mono ?_
  rintro e w2 ⟨ab, cb, rfl, Mb, hb, _⟩
  have Ma : Mag w2 aa (nl (dman da).natAbs) ca (dman da).natAbs := Mag.below (by repeat (with_reducible first | refine Mag.set ?_ (fun h => by have := Ma h; omega) _ _ | refine Mag.drew ?_ | refine Mag.alloc ?_ _ | refine Mag.drewN ?_ _ | exact Ma)) hb
  have B2 := below_box (w := w) (have := Beh.mk B1; zbh) hb
  clear hb
  go_wp2_with fail
  refine (HP _ aa ca ab cb (by repeat (with_reducible first | refine Mag.set ?_ (fun h => by have := Ma h; omega) _ _ | refine Mag.drew ?_ | refine Mag.alloc ?_ _ | refine Mag.drewN ?_ _ | exact Ma)) (by repeat (with_reducible first | refine Mag.set ?_ (fun h => by have := Mb h; omega) _ _ | refine Mag.drew ?_ | refine Mag.alloc ?_ _ | refine Mag.drewN ?_ _ | exact Mb)) (_hT.below (by have hszw := (B2).size; repeat (with_reducible first | refine Below.setCell ?_ (by first | omega | (simp <;> omega)) _ | refine Below.alloc ?_ (by first | omega | (simp <;> omega)) _ | refine Below.drew ?_ | refine below_drewN ?_ _ | exact B2)))).out.mono ?_
  rintro e w3 ⟨au, cu, rfl, Mu, hb, _⟩
  have B3 := below_box (w := w) (have := Beh.mk B2; zbh) hb
  clear hb
  go_wp2_with fail
  refine (HSg _ au cu (by repeat (with_reducible first | refine Mag.set ?_ (fun h => by have := Mu h; omega) _ _ | refine Mag.drew ?_ | refine Mag.alloc ?_ _ | refine Mag.drewN ?_ _ | exact Mu)) (_hT.below (by have hszw := (B3).size; repeat (with_reducible first | refine Below.setCell ?_ (by first | omega | (simp <;> omega)) _ | refine Below.alloc ?_ (by first | omega | (simp <;> omega)) _ | refine Below.drew ?_ | refine below_drewN ?_ _ | exact B3)))).out.mono ?_
  rintro e w4 ⟨rfl, hb⟩
  have Mu : Mag w4 au (nl (dman du).natAbs) cu (dman du).natAbs := Mag.below (by repeat (with_reducible first | refine Mag.set ?_ (fun h => by have := Mu h; omega) _ _ | refine Mag.drew ?_ | refine Mag.alloc ?_ _ | refine Mag.drewN ?_ _ | exact Mu)) hb
  have B4 := below_box (w := w) (have := Beh.mk B3; zbh) hb
  clear hb
  go_wp2_with fail
  refine (HO _).out.mono ?_
  rintro e w1 ⟨rfl, rfl⟩
  go_wp2_with fail
  go_ret
  exact ⟨rfl, (have := Beh.mk B4; zbh)⟩

set_option maxRecDepth 100000 in
set_option maxHeartbeats 2000000 in
theorem wadd_zz1 (w : World) (a b : Nat) (ha : a < 18446744073709551616) (hb : b < 18446744073709551616) (mode : Int) (_hT : Tab w) (hn : (fnan a || fnan b) = false) (_hia : finf a = false) (_hza : fzero a = true) (_hib : finf b = false) (_hzb : fzero b = true) (_hne : ((a : Int) != (b : Int)) = true) (_heq : ((a : Int) == (b : Int)) = false) (hs0 : dman (dadd (fof a) (fof b)) ≠ 0) :
    Calls Tryz.prog 70 #[.int .u64 a, .int .u64 b, .int .i64 mode] w fun o w' => o = .returned (.int .u64 ((fround (dadd (fof a) (fof b)) mode : Nat) : Int)) ∧ Below w.heap.size w w' := by
  have HN := fun W g h0 h1 => Lib.hid (nan2 W g a b h0 h1)
  rw [hn] at HN
  have HSa := fun W => Lib.hid (fsign_any W a ha)
  have HIa := fun W => Lib.hid (finf_any W a)
  rw [_hia] at HIa
  have HZa := fun W => Lib.hid (fzero_any W a)
  rw [_hza] at HZa
  have HSb := fun W => Lib.hid (fsign_any W b hb)
  have HIb := fun W => Lib.hid (finf_any W b)
  rw [_hib] at HIb
  have HZb := fun W => Lib.hid (fzero_any W b)
  rw [_hzb] at HZb
  have HOfa := fun W ht => Lib.hid (fof_any W a ha ht)
  have Na := Lib.hid (isN_fof a)
  have HOfb := fun W ht => Lib.hid (fof_any W b hb ht)
  have Nb := Lib.hid (isN_fof b)
  generalize fof a = da at *
  generalize fof b = db at *
  have HP := fun W ba qa bb qb (ha' : Mag W ba (nl (dman da).natAbs) qa (dman da).natAbs) (hb' : Mag W bb (nl (dman db).natAbs) qb (dman db).natAbs) ht => Lib.hid (dadd_any W _ _ _ _ _ _ _ _ _ _ _ _ _ _ (dyin_of Na.out ha') (dyin_of Nb.out hb') ht)
  have Nu := Lib.hid (isN_add da db)
  generalize dadd da db = du at *
  have HSg := fun W bu qu (hu' : Mag W bu (nl (dman du).natAbs) qu (dman du).natAbs) ht => Lib.hid (dsign_any W _ _ _ _ _ _ _ (dyin_of Nu.out hu') ht)
  have HR := fun W bu qu (hu' : Mag W bu (nl (dman du).natAbs) qu (dman du).natAbs) ht => Lib.hid (fround_any W _ _ _ _ _ _ mode _ (dyin_of Nu.out hu') ht)
  obtain ⟨g, hg⟩ : ∃ g, g = cmpI (dman du) 0 := ⟨_, rfl⟩
  rw [← hg] at HSg
  have hge : (g == 0) = false := by rw [hg]; unfold cmpI; split <;> (try split) <;> first | decide | (exfalso; omega)
  have HQ := Lib.hid hs0
  clear hs0 hg
  generalize ((fround du mode : Nat) : Int) = V at *
  go_enter Tryz.func70, Tryz.ntmps70
  go_wp2_with (first | (go_at_call 162; refine (HN _ _ (by go_simp) (by go_simp)).out.mono ?_; rintro e w1 ⟨rfl, rfl⟩) | (go_at_call 177; (first | refine (HIa _).out.mono ?_ | refine (HIb _).out.mono ?_); rintro e w1 ⟨rfl, rfl⟩) | (go_at_call 174; (first | refine (HZa _).out.mono ?_ | refine (HZb _).out.mono ?_); rintro e w1 ⟨rfl, rfl⟩) | (go_at_call 170; (first | refine (HSa _).out.mono ?_ | refine (HSb _).out.mono ?_); rintro e w1 ⟨rfl, rfl⟩) | (go_at_call 183; refine (HG _).out.mono ?_; rintro e w1 ⟨rfl, rfl⟩) | (go_at_call 179; refine (HO _).out.mono ?_; rintro e w1 ⟨rfl, rfl⟩))
  refine (HOfa _ (_hT.below zbh)).out.mono ?_
  rintro e w1 ⟨aa, ca, rfl, Ma, hb, _⟩
  have B1 := below_box (w := w) zbh hb
  clear hb
  go_wp2_with fail
  refine (HOfb _ (_hT.below (have := Beh.mk B1; zbh))).out.mono ?_
  rintro e w2 ⟨ab, cb, rfl, Mb, hb, _⟩
  have Ma : Mag w2 aa (nl (dman da).natAbs) ca (dman da).natAbs := Mag.below (by repeat (with_reducible first | refine Mag.set ?_ (fun h => by have := Ma h; omega) _ _ | refine Mag.drew ?_ | refine Mag.alloc ?_ _ | refine Mag.drewN ?_ _ | exact Ma)) hb
  have B2 := below_box (w := w) (have := Beh.mk B1; zbh) hb
  clear hb
  go_wp2_with fail
  refine (HP _ aa ca ab cb (by repeat (with_reducible first | refine Mag.set ?_ (fun h => by have := Ma h; omega) _ _ | refine Mag.drew ?_ | refine Mag.alloc ?_ _ | refine Mag.drewN ?_ _ | exact Ma)) (by repeat (with_reducible first | refine Mag.set ?_ (fun h => by have := Mb h; omega) _ _ | refine Mag.drew ?_ | refine Mag.alloc ?_ _ | refine Mag.drewN ?_ _ | exact Mb)) (_hT.below (by have hszw := (B2).size; repeat (with_reducible first | refine Below.setCell ?_ (by first | omega | (simp <;> omega)) _ | refine Below.alloc ?_ (by first | omega | (simp <;> omega)) _ | refine Below.drew ?_ | refine below_drewN ?_ _ | exact B2)))).out.mono ?_
  rintro e w3 ⟨au, cu, rfl, Mu, hb, _⟩
  have B3 := below_box (w := w) (have := Beh.mk B2; zbh) hb
  clear hb
  go_wp2_with fail
  have Vu := DyV.made w3 26 (dbad du) (decide (dman du < 0)) (.slice au (nl (dman du).natAbs) cu) (dexp du)
  refine (HSg _ au cu (by repeat (with_reducible first | refine Mag.set ?_ (fun h => by have := Mu h; omega) _ _ | refine Mag.drew ?_ | refine Mag.alloc ?_ _ | refine Mag.drewN ?_ _ | exact Mu)) (_hT.below (by have hszw := (B3).size; repeat (with_reducible first | refine Below.setCell ?_ (by first | omega | (simp <;> omega)) _ | refine Below.alloc ?_ (by first | omega | (simp <;> omega)) _ | refine Below.drew ?_ | refine below_drewN ?_ _ | exact B3)))).out.mono ?_
  rintro e w4 ⟨rfl, hb⟩
  obtain ⟨p0, p1, p2, p3, p4, p5⟩ := Vu.below hb
  have Mu : Mag w4 au (nl (dman du).natAbs) cu (dman du).natAbs := Mag.below (by repeat (with_reducible first | refine Mag.set ?_ (fun h => by have := Mu h; omega) _ _ | refine Mag.drew ?_ | refine Mag.alloc ?_ _ | refine Mag.drewN ?_ _ | exact Mu)) hb
  have B4 := below_box (w := w) (have := Beh.mk B3; zbh) hb
  clear hb
  go_wp2_with fail
  refine (HR _ au cu (by repeat (with_reducible first | refine Mag.set ?_ (fun h => by have := Mu h; omega) _ _ | refine Mag.drew ?_ | refine Mag.alloc ?_ _ | refine Mag.drewN ?_ _ | exact Mu)) (_hT.below (by have hszw := (B4).size; repeat (with_reducible first | refine Below.setCell ?_ (by first | omega | (simp <;> omega)) _ | refine Below.alloc ?_ (by first | omega | (simp <;> omega)) _ | refine Below.drew ?_ | refine below_drewN ?_ _ | exact B4)))).out.mono ?_
  rintro e w5 ⟨rfl, hb⟩
  have Mu : Mag w5 au (nl (dman du).natAbs) cu (dman du).natAbs := Mag.below (by repeat (with_reducible first | refine Mag.set ?_ (fun h => by have := Mu h; omega) _ _ | refine Mag.drew ?_ | refine Mag.alloc ?_ _ | refine Mag.drewN ?_ _ | exact Mu)) hb
  have B5 := below_box (w := w) (have := Beh.mk B4; zbh) hb
  clear hb
  go_wp2_with fail
  go_ret
  exact ⟨rfl, (have := Beh.mk B5; zbh)⟩

set_option maxRecDepth 100000 in
set_option maxHeartbeats 2000000 in
theorem wadd_zn0 (w : World) (a b : Nat) (ha : a < 18446744073709551616) (hb : b < 18446744073709551616) (mode : Int) (_hT : Tab w) (hn : (fnan a || fnan b) = false) (_hia : finf a = false) (_hza : fzero a = true) (_hib : finf b = false) (_hzb : fzero b = false) (_hne : ((a : Int) != (b : Int)) = true) (_heq : ((a : Int) == (b : Int)) = false) (hs0 : dman (dadd (fof a) (fof b)) = 0) :
    Calls Tryz.prog 70 #[.int .u64 a, .int .u64 b, .int .i64 mode] w fun o w' => o = .returned (.int .u64 ((fnothing mode : Nat) : Int)) ∧ Below w.heap.size w w' := by
  have HN := fun W g h0 h1 => Lib.hid (nan2 W g a b h0 h1)
  rw [hn] at HN
  have HSa := fun W => Lib.hid (fsign_any W a ha)
  have HIa := fun W => Lib.hid (finf_any W a)
  rw [_hia] at HIa
  have HZa := fun W => Lib.hid (fzero_any W a)
  rw [_hza] at HZa
  have HSb := fun W => Lib.hid (fsign_any W b hb)
  have HIb := fun W => Lib.hid (finf_any W b)
  rw [_hib] at HIb
  have HZb := fun W => Lib.hid (fzero_any W b)
  rw [_hzb] at HZb
  have HOfa := fun W ht => Lib.hid (fof_any W a ha ht)
  have Na := Lib.hid (isN_fof a)
  have HOfb := fun W ht => Lib.hid (fof_any W b hb ht)
  have Nb := Lib.hid (isN_fof b)
  generalize fof a = da at *
  generalize fof b = db at *
  have HP := fun W ba qa bb qb (ha' : Mag W ba (nl (dman da).natAbs) qa (dman da).natAbs) (hb' : Mag W bb (nl (dman db).natAbs) qb (dman db).natAbs) ht => Lib.hid (dadd_any W _ _ _ _ _ _ _ _ _ _ _ _ _ _ (dyin_of Na.out ha') (dyin_of Nb.out hb') ht)
  have Nu := Lib.hid (isN_add da db)
  generalize dadd da db = du at *
  have HSg := fun W bu qu (hu' : Mag W bu (nl (dman du).natAbs) qu (dman du).natAbs) ht => Lib.hid (dsign_any W _ _ _ _ _ _ _ (dyin_of Nu.out hu') ht)
  have HO := fun W => Lib.hid (fnothing_any W mode)
  obtain ⟨g, hg⟩ : ∃ g, g = cmpI (dman du) 0 := ⟨_, rfl⟩
  rw [← hg] at HSg
  have hge : (g == 0) = true := by rw [hg, hs0]; rfl
  have HQ := Lib.hid hs0
  clear hs0 hg
  go_enter Tryz.func70, Tryz.ntmps70
  go_wp2_with (first | (go_at_call 162; refine (HN _ _ (by go_simp) (by go_simp)).out.mono ?_; rintro e w1 ⟨rfl, rfl⟩) | (go_at_call 177; (first | refine (HIa _).out.mono ?_ | refine (HIb _).out.mono ?_); rintro e w1 ⟨rfl, rfl⟩) | (go_at_call 174; (first | refine (HZa _).out.mono ?_ | refine (HZb _).out.mono ?_); rintro e w1 ⟨rfl, rfl⟩) | (go_at_call 170; (first | refine (HSa _).out.mono ?_ | refine (HSb _).out.mono ?_); rintro e w1 ⟨rfl, rfl⟩) | (go_at_call 183; refine (HG _).out.mono ?_; rintro e w1 ⟨rfl, rfl⟩) | (go_at_call 179; refine (HO _).out.mono ?_; rintro e w1 ⟨rfl, rfl⟩))
  refine (HOfa _ (_hT.below zbh)).out.mono ?_
  rintro e w1 ⟨aa, ca, rfl, Ma, hb, _⟩
  have B1 := below_box (w := w) zbh hb
  clear hb
  go_wp2_with fail
  refine (HOfb _ (_hT.below (have := Beh.mk B1; zbh))).out.mono ?_
  rintro e w2 ⟨ab, cb, rfl, Mb, hb, _⟩
  have Ma : Mag w2 aa (nl (dman da).natAbs) ca (dman da).natAbs := Mag.below (by repeat (with_reducible first | refine Mag.set ?_ (fun h => by have := Ma h; omega) _ _ | refine Mag.drew ?_ | refine Mag.alloc ?_ _ | refine Mag.drewN ?_ _ | exact Ma)) hb
  have B2 := below_box (w := w) (have := Beh.mk B1; zbh) hb
  clear hb
  go_wp2_with fail
  refine (HP _ aa ca ab cb (by repeat (with_reducible first | refine Mag.set ?_ (fun h => by have := Ma h; omega) _ _ | refine Mag.drew ?_ | refine Mag.alloc ?_ _ | refine Mag.drewN ?_ _ | exact Ma)) (by repeat (with_reducible first | refine Mag.set ?_ (fun h => by have := Mb h; omega) _ _ | refine Mag.drew ?_ | refine Mag.alloc ?_ _ | refine Mag.drewN ?_ _ | exact Mb)) (_hT.below (by have hszw := (B2).size; repeat (with_reducible first | refine Below.setCell ?_ (by first | omega | (simp <;> omega)) _ | refine Below.alloc ?_ (by first | omega | (simp <;> omega)) _ | refine Below.drew ?_ | refine below_drewN ?_ _ | exact B2)))).out.mono ?_
  rintro e w3 ⟨au, cu, rfl, Mu, hb, _⟩
  have B3 := below_box (w := w) (have := Beh.mk B2; zbh) hb
  clear hb
  go_wp2_with fail
  refine (HSg _ au cu (by repeat (with_reducible first | refine Mag.set ?_ (fun h => by have := Mu h; omega) _ _ | refine Mag.drew ?_ | refine Mag.alloc ?_ _ | refine Mag.drewN ?_ _ | exact Mu)) (_hT.below (by have hszw := (B3).size; repeat (with_reducible first | refine Below.setCell ?_ (by first | omega | (simp <;> omega)) _ | refine Below.alloc ?_ (by first | omega | (simp <;> omega)) _ | refine Below.drew ?_ | refine below_drewN ?_ _ | exact B3)))).out.mono ?_
  rintro e w4 ⟨rfl, hb⟩
  have Mu : Mag w4 au (nl (dman du).natAbs) cu (dman du).natAbs := Mag.below (by repeat (with_reducible first | refine Mag.set ?_ (fun h => by have := Mu h; omega) _ _ | refine Mag.drew ?_ | refine Mag.alloc ?_ _ | refine Mag.drewN ?_ _ | exact Mu)) hb
  have B4 := below_box (w := w) (have := Beh.mk B3; zbh) hb
  clear hb
  go_wp2_with fail
  refine (HO _).out.mono ?_
  rintro e w1 ⟨rfl, rfl⟩
  go_wp2_with fail
  go_ret
  exact ⟨rfl, (have := Beh.mk B4; zbh)⟩

set_option maxRecDepth 100000 in
set_option maxHeartbeats 2000000 in
theorem wadd_zn1 (w : World) (a b : Nat) (ha : a < 18446744073709551616) (hb : b < 18446744073709551616) (mode : Int) (_hT : Tab w) (hn : (fnan a || fnan b) = false) (_hia : finf a = false) (_hza : fzero a = true) (_hib : finf b = false) (_hzb : fzero b = false) (_hne : ((a : Int) != (b : Int)) = true) (_heq : ((a : Int) == (b : Int)) = false) (hs0 : dman (dadd (fof a) (fof b)) ≠ 0) :
    Calls Tryz.prog 70 #[.int .u64 a, .int .u64 b, .int .i64 mode] w fun o w' => o = .returned (.int .u64 ((fround (dadd (fof a) (fof b)) mode : Nat) : Int)) ∧ Below w.heap.size w w' := by
  have HN := fun W g h0 h1 => Lib.hid (nan2 W g a b h0 h1)
  rw [hn] at HN
  have HSa := fun W => Lib.hid (fsign_any W a ha)
  have HIa := fun W => Lib.hid (finf_any W a)
  rw [_hia] at HIa
  have HZa := fun W => Lib.hid (fzero_any W a)
  rw [_hza] at HZa
  have HSb := fun W => Lib.hid (fsign_any W b hb)
  have HIb := fun W => Lib.hid (finf_any W b)
  rw [_hib] at HIb
  have HZb := fun W => Lib.hid (fzero_any W b)
  rw [_hzb] at HZb
  have HOfa := fun W ht => Lib.hid (fof_any W a ha ht)
  have Na := Lib.hid (isN_fof a)
  have HOfb := fun W ht => Lib.hid (fof_any W b hb ht)
  have Nb := Lib.hid (isN_fof b)
  generalize fof a = da at *
  generalize fof b = db at *
  have HP := fun W ba qa bb qb (ha' : Mag W ba (nl (dman da).natAbs) qa (dman da).natAbs) (hb' : Mag W bb (nl (dman db).natAbs) qb (dman db).natAbs) ht => Lib.hid (dadd_any W _ _ _ _ _ _ _ _ _ _ _ _ _ _ (dyin_of Na.out ha') (dyin_of Nb.out hb') ht)
  have Nu := Lib.hid (isN_add da db)
  generalize dadd da db = du at *
  have HSg := fun W bu qu (hu' : Mag W bu (nl (dman du).natAbs) qu (dman du).natAbs) ht => Lib.hid (dsign_any W _ _ _ _ _ _ _ (dyin_of Nu.out hu') ht)
  have HR := fun W bu qu (hu' : Mag W bu (nl (dman du).natAbs) qu (dman du).natAbs) ht => Lib.hid (fround_any W _ _ _ _ _ _ mode _ (dyin_of Nu.out hu') ht)
  obtain ⟨g, hg⟩ : ∃ g, g = cmpI (dman du) 0 := ⟨_, rfl⟩
  rw [← hg] at HSg
  have hge : (g == 0) = false := by rw [hg]; unfold cmpI; split <;> (try split) <;> first | decide | (exfalso; omega)
  have HQ := Lib.hid hs0
  clear hs0 hg
  generalize ((fround du mode : Nat) : Int) = V at *
  go_enter Tryz.func70, Tryz.ntmps70
  go_wp2_with (first | (go_at_call 162; refine (HN _ _ (by go_simp) (by go_simp)).out.mono ?_; rintro e w1 ⟨rfl, rfl⟩) | (go_at_call 177; (first | refine (HIa _).out.mono ?_ | refine (HIb _).out.mono ?_); rintro e w1 ⟨rfl, rfl⟩) | (go_at_call 174; (first | refine (HZa _).out.mono ?_ | refine (HZb _).out.mono ?_); rintro e w1 ⟨rfl, rfl⟩) | (go_at_call 170; (first | refine (HSa _).out.mono ?_ | refine (HSb _).out.mono ?_); rintro e w1 ⟨rfl, rfl⟩) | (go_at_call 183; refine (HG _).out.mono ?_; rintro e w1 ⟨rfl, rfl⟩) | (go_at_call 179; refine (HO _).out.mono ?_; rintro e w1 ⟨rfl, rfl⟩))
  refine (HOfa _ (_hT.below zbh)).out.mono ?_
  rintro e w1 ⟨aa, ca, rfl, Ma, hb, _⟩
  have B1 := below_box (w := w) zbh hb
  clear hb
  go_wp2_with fail
  refine (HOfb _ (_hT.below (have := Beh.mk B1; zbh))).out.mono ?_
  rintro e w2 ⟨ab, cb, rfl, Mb, hb, _⟩
  have Ma : Mag w2 aa (nl (dman da).natAbs) ca (dman da).natAbs := Mag.below (by repeat (with_reducible first | refine Mag.set ?_ (fun h => by have := Ma h; omega) _ _ | refine Mag.drew ?_ | refine Mag.alloc ?_ _ | refine Mag.drewN ?_ _ | exact Ma)) hb
  have B2 := below_box (w := w) (have := Beh.mk B1; zbh) hb
  clear hb
  go_wp2_with fail
  refine (HP _ aa ca ab cb (by repeat (with_reducible first | refine Mag.set ?_ (fun h => by have := Ma h; omega) _ _ | refine Mag.drew ?_ | refine Mag.alloc ?_ _ | refine Mag.drewN ?_ _ | exact Ma)) (by repeat (with_reducible first | refine Mag.set ?_ (fun h => by have := Mb h; omega) _ _ | refine Mag.drew ?_ | refine Mag.alloc ?_ _ | refine Mag.drewN ?_ _ | exact Mb)) (_hT.below (by have hszw := (B2).size; repeat (with_reducible first | refine Below.setCell ?_ (by first | omega | (simp <;> omega)) _ | refine Below.alloc ?_ (by first | omega | (simp <;> omega)) _ | refine Below.drew ?_ | refine below_drewN ?_ _ | exact B2)))).out.mono ?_
  rintro e w3 ⟨au, cu, rfl, Mu, hb, _⟩
  have B3 := below_box (w := w) (have := Beh.mk B2; zbh) hb
  clear hb
  go_wp2_with fail
  have Vu := DyV.made w3 26 (dbad du) (decide (dman du < 0)) (.slice au (nl (dman du).natAbs) cu) (dexp du)
  refine (HSg _ au cu (by repeat (with_reducible first | refine Mag.set ?_ (fun h => by have := Mu h; omega) _ _ | refine Mag.drew ?_ | refine Mag.alloc ?_ _ | refine Mag.drewN ?_ _ | exact Mu)) (_hT.below (by have hszw := (B3).size; repeat (with_reducible first | refine Below.setCell ?_ (by first | omega | (simp <;> omega)) _ | refine Below.alloc ?_ (by first | omega | (simp <;> omega)) _ | refine Below.drew ?_ | refine below_drewN ?_ _ | exact B3)))).out.mono ?_
  rintro e w4 ⟨rfl, hb⟩
  obtain ⟨p0, p1, p2, p3, p4, p5⟩ := Vu.below hb
  have Mu : Mag w4 au (nl (dman du).natAbs) cu (dman du).natAbs := Mag.below (by repeat (with_reducible first | refine Mag.set ?_ (fun h => by have := Mu h; omega) _ _ | refine Mag.drew ?_ | refine Mag.alloc ?_ _ | refine Mag.drewN ?_ _ | exact Mu)) hb
  have B4 := below_box (w := w) (have := Beh.mk B3; zbh) hb
  clear hb
  go_wp2_with fail
  refine (HR _ au cu (by repeat (with_reducible first | refine Mag.set ?_ (fun h => by have := Mu h; omega) _ _ | refine Mag.drew ?_ | refine Mag.alloc ?_ _ | refine Mag.drewN ?_ _ | exact Mu)) (_hT.below (by have hszw := (B4).size; repeat (with_reducible first | refine Below.setCell ?_ (by first | omega | (simp <;> omega)) _ | refine Below.alloc ?_ (by first | omega | (simp <;> omega)) _ | refine Below.drew ?_ | refine below_drewN ?_ _ | exact B4)))).out.mono ?_
  rintro e w5 ⟨rfl, hb⟩
  have Mu : Mag w5 au (nl (dman du).natAbs) cu (dman du).natAbs := Mag.below (by repeat (with_reducible first | refine Mag.set ?_ (fun h => by have := Mu h; omega) _ _ | refine Mag.drew ?_ | refine Mag.alloc ?_ _ | refine Mag.drewN ?_ _ | exact Mu)) hb
  have B5 := below_box (w := w) (have := Beh.mk B4; zbh) hb
  clear hb
  go_wp2_with fail
  go_ret
  exact ⟨rfl, (have := Beh.mk B5; zbh)⟩

set_option maxRecDepth 100000 in
set_option maxHeartbeats 2000000 in
theorem wadd_nz0 (w : World) (a b : Nat) (ha : a < 18446744073709551616) (hb : b < 18446744073709551616) (mode : Int) (_hT : Tab w) (hn : (fnan a || fnan b) = false) (_hia : finf a = false) (_hza : fzero a = false) (_hib : finf b = false) (_hzb : fzero b = true)  (hs0 : dman (dadd (fof a) (fof b)) = 0) :
    Calls Tryz.prog 70 #[.int .u64 a, .int .u64 b, .int .i64 mode] w fun o w' => o = .returned (.int .u64 ((fnothing mode : Nat) : Int)) ∧ Below w.heap.size w w' := by
  have HN := fun W g h0 h1 => Lib.hid (nan2 W g a b h0 h1)
  rw [hn] at HN
  have HSa := fun W => Lib.hid (fsign_any W a ha)
  have HIa := fun W => Lib.hid (finf_any W a)
  rw [_hia] at HIa
  have HZa := fun W => Lib.hid (fzero_any W a)
  rw [_hza] at HZa
  have HSb := fun W => Lib.hid (fsign_any W b hb)
  have HIb := fun W => Lib.hid (finf_any W b)
  rw [_hib] at HIb
  have HZb := fun W => Lib.hid (fzero_any W b)
  rw [_hzb] at HZb
  have HOfa := fun W ht => Lib.hid (fof_any W a ha ht)
  have Na := Lib.hid (isN_fof a)
  have HOfb := fun W ht => Lib.hid (fof_any W b hb ht)
  have Nb := Lib.hid (isN_fof b)
  generalize fof a = da at *
  generalize fof b = db at *
  have HP := fun W ba qa bb qb (ha' : Mag W ba (nl (dman da).natAbs) qa (dman da).natAbs) (hb' : Mag W bb (nl (dman db).natAbs) qb (dman db).natAbs) ht => Lib.hid (dadd_any W _ _ _ _ _ _ _ _ _ _ _ _ _ _ (dyin_of Na.out ha') (dyin_of Nb.out hb') ht)
  have Nu := Lib.hid (isN_add da db)
  generalize dadd da db = du at *
  have HSg := fun W bu qu (hu' : Mag W bu (nl (dman du).natAbs) qu (dman du).natAbs) ht => Lib.hid (dsign_any W _ _ _ _ _ _ _ (dyin_of Nu.out hu') ht)
  have HO := fun W => Lib.hid (fnothing_any W mode)
  obtain ⟨g, hg⟩ : ∃ g, g = cmpI (dman du) 0 := ⟨_, rfl⟩
  rw [← hg] at HSg
  have hge : (g == 0) = true := by rw [hg, hs0]; rfl
  have HQ := Lib.hid hs0
  clear hs0 hg
  go_enter Tryz.func70, Tryz.ntmps70
  go_wp2_with (first | (go_at_call 162; refine (HN _ _ (by go_simp) (by go_simp)).out.mono ?_; rintro e w1 ⟨rfl, rfl⟩) | (go_at_call 177; (first | refine (HIa _).out.mono ?_ | refine (HIb _).out.mono ?_); rintro e w1 ⟨rfl, rfl⟩) | (go_at_call 174; (first | refine (HZa _).out.mono ?_ | refine (HZb _).out.mono ?_); rintro e w1 ⟨rfl, rfl⟩) | (go_at_call 170; (first | refine (HSa _).out.mono ?_ | refine (HSb _).out.mono ?_); rintro e w1 ⟨rfl, rfl⟩) | (go_at_call 183; refine (HG _).out.mono ?_; rintro e w1 ⟨rfl, rfl⟩) | (go_at_call 179; refine (HO _).out.mono ?_; rintro e w1 ⟨rfl, rfl⟩))
  refine (HOfa _ (_hT.below zbh)).out.mono ?_
  rintro e w1 ⟨aa, ca, rfl, Ma, hb, _⟩
  have B1 := below_box (w := w) zbh hb
  clear hb
  go_wp2_with fail
  refine (HOfb _ (_hT.below (have := Beh.mk B1; zbh))).out.mono ?_
  rintro e w2 ⟨ab, cb, rfl, Mb, hb, _⟩
  have Ma : Mag w2 aa (nl (dman da).natAbs) ca (dman da).natAbs := Mag.below (by repeat (with_reducible first | refine Mag.set ?_ (fun h => by have := Ma h; omega) _ _ | refine Mag.drew ?_ | refine Mag.alloc ?_ _ | refine Mag.drewN ?_ _ | exact Ma)) hb
  have B2 := below_box (w := w) (have := Beh.mk B1; zbh) hb
  clear hb
  go_wp2_with fail
  refine (HP _ aa ca ab cb (by repeat (with_reducible first | refine Mag.set ?_ (fun h => by have := Ma h; omega) _ _ | refine Mag.drew ?_ | refine Mag.alloc ?_ _ | refine Mag.drewN ?_ _ | exact Ma)) (by repeat (with_reducible first | refine Mag.set ?_ (fun h => by have := Mb h; omega) _ _ | refine Mag.drew ?_ | refine Mag.alloc ?_ _ | refine Mag.drewN ?_ _ | exact Mb)) (_hT.below (by have hszw := (B2).size; repeat (with_reducible first | refine Below.setCell ?_ (by first | omega | (simp <;> omega)) _ | refine Below.alloc ?_ (by first | omega | (simp <;> omega)) _ | refine Below.drew ?_ | refine below_drewN ?_ _ | exact B2)))).out.mono ?_
  rintro e w3 ⟨au, cu, rfl, Mu, hb, _⟩
  have B3 := below_box (w := w) (have := Beh.mk B2; zbh) hb
  clear hb
  go_wp2_with fail
  refine (HSg _ au cu (by repeat (with_reducible first | refine Mag.set ?_ (fun h => by have := Mu h; omega) _ _ | refine Mag.drew ?_ | refine Mag.alloc ?_ _ | refine Mag.drewN ?_ _ | exact Mu)) (_hT.below (by have hszw := (B3).size; repeat (with_reducible first | refine Below.setCell ?_ (by first | omega | (simp <;> omega)) _ | refine Below.alloc ?_ (by first | omega | (simp <;> omega)) _ | refine Below.drew ?_ | refine below_drewN ?_ _ | exact B3)))).out.mono ?_
  rintro e w4 ⟨rfl, hb⟩
  have Mu : Mag w4 au (nl (dman du).natAbs) cu (dman du).natAbs := Mag.below (by repeat (with_reducible first | refine Mag.set ?_ (fun h => by have := Mu h; omega) _ _ | refine Mag.drew ?_ | refine Mag.alloc ?_ _ | refine Mag.drewN ?_ _ | exact Mu)) hb
  have B4 := below_box (w := w) (have := Beh.mk B3; zbh) hb
  clear hb
  go_wp2_with fail
  refine (HO _).out.mono ?_
  rintro e w1 ⟨rfl, rfl⟩
  go_wp2_with fail
  go_ret
  exact ⟨rfl, (have := Beh.mk B4; zbh)⟩

set_option maxRecDepth 100000 in
set_option maxHeartbeats 2000000 in
theorem wadd_nz1 (w : World) (a b : Nat) (ha : a < 18446744073709551616) (hb : b < 18446744073709551616) (mode : Int) (_hT : Tab w) (hn : (fnan a || fnan b) = false) (_hia : finf a = false) (_hza : fzero a = false) (_hib : finf b = false) (_hzb : fzero b = true)  (hs0 : dman (dadd (fof a) (fof b)) ≠ 0) :
    Calls Tryz.prog 70 #[.int .u64 a, .int .u64 b, .int .i64 mode] w fun o w' => o = .returned (.int .u64 ((fround (dadd (fof a) (fof b)) mode : Nat) : Int)) ∧ Below w.heap.size w w' := by
  have HN := fun W g h0 h1 => Lib.hid (nan2 W g a b h0 h1)
  rw [hn] at HN
  have HSa := fun W => Lib.hid (fsign_any W a ha)
  have HIa := fun W => Lib.hid (finf_any W a)
  rw [_hia] at HIa
  have HZa := fun W => Lib.hid (fzero_any W a)
  rw [_hza] at HZa
  have HSb := fun W => Lib.hid (fsign_any W b hb)
  have HIb := fun W => Lib.hid (finf_any W b)
  rw [_hib] at HIb
  have HZb := fun W => Lib.hid (fzero_any W b)
  rw [_hzb] at HZb
  have HOfa := fun W ht => Lib.hid (fof_any W a ha ht)
  have Na := Lib.hid (isN_fof a)
  have HOfb := fun W ht => Lib.hid (fof_any W b hb ht)
  have Nb := Lib.hid (isN_fof b)
  generalize fof a = da at *
  generalize fof b = db at *
  have HP := fun W ba qa bb qb (ha' : Mag W ba (nl (dman da).natAbs) qa (dman da).natAbs) (hb' : Mag W bb (nl (dman db).natAbs) qb (dman db).natAbs) ht => Lib.hid (dadd_any W _ _ _ _ _ _ _ _ _ _ _ _ _ _ (dyin_of Na.out ha') (dyin_of Nb.out hb') ht)
  have Nu := Lib.hid (isN_add da db)
  generalize dadd da db = du at *
  have HSg := fun W bu qu (hu' : Mag W bu (nl (dman du).natAbs) qu (dman du).natAbs) ht => Lib.hid (dsign_any W _ _ _ _ _ _ _ (dyin_of Nu.out hu') ht)
  have HR := fun W bu qu (hu' : Mag W bu (nl (dman du).natAbs) qu (dman du).natAbs) ht => Lib.hid (fround_any W _ _ _ _ _ _ mode _ (dyin_of Nu.out hu') ht)
  obtain ⟨g, hg⟩ : ∃ g, g = cmpI (dman du) 0 := ⟨_, rfl⟩
  rw [← hg] at HSg
  have hge : (g == 0) = false := by rw [hg]; unfold cmpI; split <;> (try split) <;> first | decide | (exfalso; omega)
  have HQ := Lib.hid hs0
  clear hs0 hg
  generalize ((fround du mode : Nat) : Int) = V at *
  go_enter Tryz.func70, Tryz.ntmps70
  go_wp2_with (first | (go_at_call 162; refine (HN _ _ (by go_simp) (by go_simp)).out.mono ?_; rintro e w1 ⟨rfl, rfl⟩) | (go_at_call 177; (first | refine (HIa _).out.mono ?_ | refine (HIb _).out.mono ?_); rintro e w1 ⟨rfl, rfl⟩) | (go_at_call 174; (first | refine (HZa _).out.mono ?_ | refine (HZb _).out.mono ?_); rintro e w1 ⟨rfl, rfl⟩) | (go_at_call 170; (first | refine (HSa _).out.mono ?_ | refine (HSb _).out.mono ?_); rintro e w1 ⟨rfl, rfl⟩) | (go_at_call 183; refine (HG _).out.mono ?_; rintro e w1 ⟨rfl, rfl⟩) | (go_at_call 179; refine (HO _).out.mono ?_; rintro e w1 ⟨rfl, rfl⟩))
  refine (HOfa _ (_hT.below zbh)).out.mono ?_
  rintro e w1 ⟨aa, ca, rfl, Ma, hb, _⟩
  have B1 := below_box (w := w) zbh hb
  clear hb
  go_wp2_with fail
  refine (HOfb _ (_hT.below (have := Beh.mk B1; zbh))).out.mono ?_
  rintro e w2 ⟨ab, cb, rfl, Mb, hb, _⟩
  have Ma : Mag w2 aa (nl (dman da).natAbs) ca (dman da).natAbs := Mag.below (by repeat (with_reducible first | refine Mag.set ?_ (fun h => by have := Ma h; omega) _ _ | refine Mag.drew ?_ | refine Mag.alloc ?_ _ | refine Mag.drewN ?_ _ | exact Ma)) hb
  have B2 := below_box (w := w) (have := Beh.mk B1; zbh) hb
  clear hb
  go_wp2_with fail
  refine (HP _ aa ca ab cb (by repeat (with_reducible first | refine Mag.set ?_ (fun h => by have := Ma h; omega) _ _ | refine Mag.drew ?_ | refine Mag.alloc ?_ _ | refine Mag.drewN ?_ _ | exact Ma)) (by repeat (with_reducible first | refine Mag.set ?_ (fun h => by have := Mb h; omega) _ _ | refine Mag.drew ?_ | refine Mag.alloc ?_ _ | refine Mag.drewN ?_ _ | exact Mb)) (_hT.below (by have hszw := (B2).size; repeat (with_reducible first | refine Below.setCell ?_ (by first | omega | (simp <;> omega)) _ | refine Below.alloc ?_ (by first | omega | (simp <;> omega)) _ | refine Below.drew ?_ | refine below_drewN ?_ _ | exact B2)))).out.mono ?_
  rintro e w3 ⟨au, cu, rfl, Mu, hb, _⟩
  have B3 := below_box (w := w) (have := Beh.mk B2; zbh) hb
  clear hb
  go_wp2_with fail
  have Vu := DyV.made w3 26 (dbad du) (decide (dman du < 0)) (.slice au (nl (dman du).natAbs) cu) (dexp du)
  refine (HSg _ au cu (by repeat (with_reducible first | refine Mag.set ?_ (fun h => by have := Mu h; omega) _ _ | refine Mag.drew ?_ | refine Mag.alloc ?_ _ | refine Mag.drewN ?_ _ | exact Mu)) (_hT.below (by have hszw := (B3).size; repeat (with_reducible first | refine Below.setCell ?_ (by first | omega | (simp <;> omega)) _ | refine Below.alloc ?_ (by first | omega | (simp <;> omega)) _ | refine Below.drew ?_ | refine below_drewN ?_ _ | exact B3)))).out.mono ?_
  rintro e w4 ⟨rfl, hb⟩
  obtain ⟨p0, p1, p2, p3, p4, p5⟩ := Vu.below hb
  have Mu : Mag w4 au (nl (dman du).natAbs) cu (dman du).natAbs := Mag.below (by repeat (with_reducible first | refine Mag.set ?_ (fun h => by have := Mu h; omega) _ _ | refine Mag.drew ?_ | refine Mag.alloc ?_ _ | refine Mag.drewN ?_ _ | exact Mu)) hb
  have B4 := below_box (w := w) (have := Beh.mk B3; zbh) hb
  clear hb
  go_wp2_with fail
  refine (HR _ au cu (by repeat (with_reducible first | refine Mag.set ?_ (fun h => by have := Mu h; omega) _ _ | refine Mag.drew ?_ | refine Mag.alloc ?_ _ | refine Mag.drewN ?_ _ | exact Mu)) (_hT.below (by have hszw := (B4).size; repeat (with_reducible first | refine Below.setCell ?_ (by first | omega | (simp <;> omega)) _ | refine Below.alloc ?_ (by first | omega | (simp <;> omega)) _ | refine Below.drew ?_ | refine below_drewN ?_ _ | exact B4)))).out.mono ?_
  rintro e w5 ⟨rfl, hb⟩
  have Mu : Mag w5 au (nl (dman du).natAbs) cu (dman du).natAbs := Mag.below (by repeat (with_reducible first | refine Mag.set ?_ (fun h => by have := Mu h; omega) _ _ | refine Mag.drew ?_ | refine Mag.alloc ?_ _ | refine Mag.drewN ?_ _ | exact Mu)) hb
  have B5 := below_box (w := w) (have := Beh.mk B4; zbh) hb
  clear hb
  go_wp2_with fail
  go_ret
  exact ⟨rfl, (have := Beh.mk B5; zbh)⟩

set_option maxRecDepth 100000 in
set_option maxHeartbeats 2000000 in
theorem wadd_nn0 (w : World) (a b : Nat) (ha : a < 18446744073709551616) (hb : b < 18446744073709551616) (mode : Int) (_hT : Tab w) (hn : (fnan a || fnan b) = false) (_hia : finf a = false) (_hza : fzero a = false) (_hib : finf b = false) (_hzb : fzero b = false)  (hs0 : dman (dadd (fof a) (fof b)) = 0) :
    Calls Tryz.prog 70 #[.int .u64 a, .int .u64 b, .int .i64 mode] w fun o w' => o = .returned (.int .u64 ((fnothing mode : Nat) : Int)) ∧ Below w.heap.size w w' := by
  have HN := fun W g h0 h1 => Lib.hid (nan2 W g a b h0 h1)
  rw [hn] at HN
  have HSa := fun W => Lib.hid (fsign_any W a ha)
  have HIa := fun W => Lib.hid (finf_any W a)
  rw [_hia] at HIa
  have HZa := fun W => Lib.hid (fzero_any W a)
  rw [_hza] at HZa
  have HSb := fun W => Lib.hid (fsign_any W b hb)
  have HIb := fun W => Lib.hid (finf_any W b)
  rw [_hib] at HIb
  have HZb := fun W => Lib.hid (fzero_any W b)
  rw [_hzb] at HZb
  have HOfa := fun W ht => Lib.hid (fof_any W a ha ht)
  have Na := Lib.hid (isN_fof a)
  have HOfb := fun W ht => Lib.hid (fof_any W b hb ht)
  have Nb := Lib.hid (isN_fof b)
  generalize fof a = da at *
  generalize fof b = db at *
  have HP := fun W ba qa bb qb (ha' : Mag W ba (nl (dman da).natAbs) qa (dman da).natAbs) (hb' : Mag W bb (nl (dman db).natAbs) qb (dman db).natAbs) ht => Lib.hid (dadd_any W _ _ _ _ _ _ _ _ _ _ _ _ _ _ (dyin_of Na.out ha') (dyin_of Nb.out hb') ht)
  have Nu := Lib.hid (isN_add da db)
  generalize dadd da db = du at *
  have HSg := fun W bu qu (hu' : Mag W bu (nl (dman du).natAbs) qu (dman du).natAbs) ht => Lib.hid (dsign_any W _ _ _ _ _ _ _ (dyin_of Nu.out hu') ht)
  have HO := fun W => Lib.hid (fnothing_any W mode)
  obtain ⟨g, hg⟩ : ∃ g, g = cmpI (dman du) 0 := ⟨_, rfl⟩
  rw [← hg] at HSg
  have hge : (g == 0) = true := by rw [hg, hs0]; rfl
  have HQ := Lib.hid hs0
  clear hs0 hg
  go_enter Tryz.func70, Tryz.ntmps70
  go_wp2_with (first | (go_at_call 162; refine (HN _ _ (by go_simp) (by go_simp)).out.mono ?_; rintro e w1 ⟨rfl, rfl⟩) | (go_at_call 177; (first | refine (HIa _).out.mono ?_ | refine (HIb _).out.mono ?_); rintro e w1 ⟨rfl, rfl⟩) | (go_at_call 174; (first | refine (HZa _).out.mono ?_ | refine (HZb _).out.mono ?_); rintro e w1 ⟨rfl, rfl⟩) | (go_at_call 170; (first | refine (HSa _).out.mono ?_ | refine (HSb _).out.mono ?_); rintro e w1 ⟨rfl, rfl⟩) | (go_at_call 183; refine (HG _).out.mono ?_; rintro e w1 ⟨rfl, rfl⟩) | (go_at_call 179; refine (HO _).out.mono ?_; rintro e w1 ⟨rfl, rfl⟩))
  refine (HOfa _ (_hT.below zbh)).out.mono ?_
  rintro e w1 ⟨aa, ca, rfl, Ma, hb, _⟩
  have B1 := below_box (w := w) zbh hb
  clear hb
  go_wp2_with fail
  refine (HOfb _ (_hT.below (have := Beh.mk B1; zbh))).out.mono ?_
  rintro e w2 ⟨ab, cb, rfl, Mb, hb, _⟩
  have Ma : Mag w2 aa (nl (dman da).natAbs) ca (dman da).natAbs := Mag.below (by repeat (with_reducible first | refine Mag.set ?_ (fun h => by have := Ma h; omega) _ _ | refine Mag.drew ?_ | refine Mag.alloc ?_ _ | refine Mag.drewN ?_ _ | exact Ma)) hb
  have B2 := below_box (w := w) (have := Beh.mk B1; zbh) hb
  clear hb
  go_wp2_with fail
  refine (HP _ aa ca ab cb (by repeat (with_reducible first | refine Mag.set ?_ (fun h => by have := Ma h; omega) _ _ | refine Mag.drew ?_ | refine Mag.alloc ?_ _ | refine Mag.drewN ?_ _ | exact Ma)) (by repeat (with_reducible first | refine Mag.set ?_ (fun h => by have := Mb h; omega) _ _ | refine Mag.drew ?_ | refine Mag.alloc ?_ _ | refine Mag.drewN ?_ _ | exact Mb)) (_hT.below (by have hszw := (B2).size; repeat (with_reducible first | refine Below.setCell ?_ (by first | omega | (simp <;> omega)) _ | refine Below.alloc ?_ (by first | omega | (simp <;> omega)) _ | refine Below.drew ?_ | refine below_drewN ?_ _ | exact B2)))).out.mono ?_
  rintro e w3 ⟨au, cu, rfl, Mu, hb, _⟩
  have B3 := below_box (w := w) (have := Beh.mk B2; zbh) hb
  clear hb
  go_wp2_with fail
  refine (HSg _ au cu (by repeat (with_reducible first | refine Mag.set ?_ (fun h => by have := Mu h; omega) _ _ | refine Mag.drew ?_ | refine Mag.alloc ?_ _ | refine Mag.drewN ?_ _ | exact Mu)) (_hT.below (by have hszw := (B3).size; repeat (with_reducible first | refine Below.setCell ?_ (by first | omega | (simp <;> omega)) _ | refine Below.alloc ?_ (by first | omega | (simp <;> omega)) _ | refine Below.drew ?_ | refine below_drewN ?_ _ | exact B3)))).out.mono ?_
  rintro e w4 ⟨rfl, hb⟩
  have Mu : Mag w4 au (nl (dman du).natAbs) cu (dman du).natAbs := Mag.below (by repeat (with_reducible first | refine Mag.set ?_ (fun h => by have := Mu h; omega) _ _ | refine Mag.drew ?_ | refine Mag.alloc ?_ _ | refine Mag.drewN ?_ _ | exact Mu)) hb
  have B4 := below_box (w := w) (have := Beh.mk B3; zbh) hb
  clear hb
  go_wp2_with fail
  refine (HO _).out.mono ?_
  rintro e w1 ⟨rfl, rfl⟩
  go_wp2_with fail
  go_ret
  exact ⟨rfl, (have := Beh.mk B4; zbh)⟩

set_option maxRecDepth 100000 in
set_option maxHeartbeats 2000000 in
theorem wadd_nn1 (w : World) (a b : Nat) (ha : a < 18446744073709551616) (hb : b < 18446744073709551616) (mode : Int) (_hT : Tab w) (hn : (fnan a || fnan b) = false) (_hia : finf a = false) (_hza : fzero a = false) (_hib : finf b = false) (_hzb : fzero b = false)  (hs0 : dman (dadd (fof a) (fof b)) ≠ 0) :
    Calls Tryz.prog 70 #[.int .u64 a, .int .u64 b, .int .i64 mode] w fun o w' => o = .returned (.int .u64 ((fround (dadd (fof a) (fof b)) mode : Nat) : Int)) ∧ Below w.heap.size w w' := by
  have HN := fun W g h0 h1 => Lib.hid (nan2 W g a b h0 h1)
  rw [hn] at HN
  have HSa := fun W => Lib.hid (fsign_any W a ha)
  have HIa := fun W => Lib.hid (finf_any W a)
  rw [_hia] at HIa
  have HZa := fun W => Lib.hid (fzero_any W a)
  rw [_hza] at HZa
  have HSb := fun W => Lib.hid (fsign_any W b hb)
  have HIb := fun W => Lib.hid (finf_any W b)
  rw [_hib] at HIb
  have HZb := fun W => Lib.hid (fzero_any W b)
  rw [_hzb] at HZb
  have HOfa := fun W ht => Lib.hid (fof_any W a ha ht)
  have Na := Lib.hid (isN_fof a)
  have HOfb := fun W ht => Lib.hid (fof_any W b hb ht)
  have Nb := Lib.hid (isN_fof b)
  generalize fof a = da at *
  generalize fof b = db at *
  have HP := fun W ba qa bb qb (ha' : Mag W ba (nl (dman da).natAbs) qa (dman da).natAbs) (hb' : Mag W bb (nl (dman db).natAbs) qb (dman db).natAbs) ht => Lib.hid (dadd_any W _ _ _ _ _ _ _ _ _ _ _ _ _ _ (dyin_of Na.out ha') (dyin_of Nb.out hb') ht)
  have Nu := Lib.hid (isN_add da db)
  generalize dadd da db = du at *
  have HSg := fun W bu qu (hu' : Mag W bu (nl (dman du).natAbs) qu (dman du).natAbs) ht => Lib.hid (dsign_any W _ _ _ _ _ _ _ (dyin_of Nu.out hu') ht)
  have HR := fun W bu qu (hu' : Mag W bu (nl (dman du).natAbs) qu (dman du).natAbs) ht => Lib.hid (fround_any W _ _ _ _ _ _ mode _ (dyin_of Nu.out hu') ht)
  obtain ⟨g, hg⟩ : ∃ g, g = cmpI (dman du) 0 := ⟨_, rfl⟩
  rw [← hg] at HSg
  have hge : (g == 0) = false := by rw [hg]; unfold cmpI; split <;> (try split) <;> first | decide | (exfalso; omega)
  have HQ := Lib.hid hs0
  clear hs0 hg
  generalize ((fround du mode : Nat) : Int) = V at *
  go_enter Tryz.func70, Tryz.ntmps70
  go_wp2_with (first | (go_at_call 162; refine (HN _ _ (by go_simp) (by go_simp)).out.mono ?_; rintro e w1 ⟨rfl, rfl⟩) | (go_at_call 177; (first | refine (HIa _).out.mono ?_ | refine (HIb _).out.mono ?_); rintro e w1 ⟨rfl, rfl⟩) | (go_at_call 174; (first | refine (HZa _).out.mono ?_ | refine (HZb _).out.mono ?_); rintro e w1 ⟨rfl, rfl⟩) | (go_at_call 170; (first | refine (HSa _).out.mono ?_ | refine (HSb _).out.mono ?_); rintro e w1 ⟨rfl, rfl⟩) | (go_at_call 183; refine (HG _).out.mono ?_; rintro e w1 ⟨rfl, rfl⟩) | (go_at_call 179; refine (HO _).out.mono ?_; rintro e w1 ⟨rfl, rfl⟩))
  refine (HOfa _ (_hT.below zbh)).out.mono ?_
  rintro e w1 ⟨aa, ca, rfl, Ma, hb, _⟩
  have B1 := below_box (w := w) zbh hb
  clear hb
  go_wp2_with fail
  refine (HOfb _ (_hT.below (have := Beh.mk B1; zbh))).out.mono ?_
  rintro e w2 ⟨ab, cb, rfl, Mb, hb, _⟩
  have Ma : Mag w2 aa (nl (dman da).natAbs) ca (dman da).natAbs := Mag.below (by repeat (with_reducible first | refine Mag.set ?_ (fun h => by have := Ma h; omega) _ _ | refine Mag.drew ?_ | refine Mag.alloc ?_ _ | refine Mag.drewN ?_ _ | exact Ma)) hb
  have B2 := below_box (w := w) (have := Beh.mk B1; zbh) hb
  clear hb
  go_wp2_with fail
  refine (HP _ aa ca ab cb (by repeat (with_reducible first | refine Mag.set ?_ (fun h => by have := Ma h; omega) _ _ | refine Mag.drew ?_ | refine Mag.alloc ?_ _ | refine Mag.drewN ?_ _ | exact Ma)) (by repeat (with_reducible first | refine Mag.set ?_ (fun h => by have := Mb h; omega) _ _ | refine Mag.drew ?_ | refine Mag.alloc ?_ _ | refine Mag.drewN ?_ _ | exact Mb)) (_hT.below (by have hszw := (B2).size; repeat (with_reducible first | refine Below.setCell ?_ (by first | omega | (simp <;> omega)) _ | refine Below.alloc ?_ (by first | omega | (simp <;> omega)) _ | refine Below.drew ?_ | refine below_drewN ?_ _ | exact B2)))).out.mono ?_
  rintro e w3 ⟨au, cu, rfl, Mu, hb, _⟩
  have B3 := below_box (w := w) (have := Beh.mk B2; zbh) hb
  clear hb
  go_wp2_with fail
  have Vu := DyV.made w3 26 (dbad du) (decide (dman du < 0)) (.slice au (nl (dman du).natAbs) cu) (dexp du)
  refine (HSg _ au cu (by repeat (with_reducible first | refine Mag.set ?_ (fun h => by have := Mu h; omega) _ _ | refine Mag.drew ?_ | refine Mag.alloc ?_ _ | refine Mag.drewN ?_ _ | exact Mu)) (_hT.below (by have hszw := (B3).size; repeat (with_reducible first | refine Below.setCell ?_ (by first | omega | (simp <;> omega)) _ | refine Below.alloc ?_ (by first | omega | (simp <;> omega)) _ | refine Below.drew ?_ | refine below_drewN ?_ _ | exact B3)))).out.mono ?_
  rintro e w4 ⟨rfl, hb⟩
  obtain ⟨p0, p1, p2, p3, p4, p5⟩ := Vu.below hb
  have Mu : Mag w4 au (nl (dman du).natAbs) cu (dman du).natAbs := Mag.below (by repeat (with_reducible first | refine Mag.set ?_ (fun h => by have := Mu h; omega) _ _ | refine Mag.drew ?_ | refine Mag.alloc ?_ _ | refine Mag.drewN ?_ _ | exact Mu)) hb
  have B4 := below_box (w := w) (have := Beh.mk B3; zbh) hb
  clear hb
  go_wp2_with fail
  refine (HR _ au cu (by repeat (with_reducible first | refine Mag.set ?_ (fun h => by have := Mu h; omega) _ _ | refine Mag.drew ?_ | refine Mag.alloc ?_ _ | refine Mag.drewN ?_ _ | exact Mu)) (_hT.below (by have hszw := (B4).size; repeat (with_reducible first | refine Below.setCell ?_ (by first | omega | (simp <;> omega)) _ | refine Below.alloc ?_ (by first | omega | (simp <;> omega)) _ | refine Below.drew ?_ | refine below_drewN ?_ _ | exact B4)))).out.mono ?_
  rintro e w5 ⟨rfl, hb⟩
  have Mu : Mag w5 au (nl (dman du).natAbs) cu (dman du).natAbs := Mag.below (by repeat (with_reducible first | refine Mag.set ?_ (fun h => by have := Mu h; omega) _ _ | refine Mag.drew ?_ | refine Mag.alloc ?_ _ | refine Mag.drewN ?_ _ | exact Mu)) hb
  have B5 := below_box (w := w) (have := Beh.mk B4; zbh) hb
  clear hb
  go_wp2_with fail
  go_ret
  exact ⟨rfl, (have := Beh.mk B5; zbh)⟩

theorem ne_both (a b : Nat) : (((a : Int) != (b : Int)) = true ∧ ((a : Int) == (b : Int)) = false ∧ a ≠ b) ∨ (((a : Int) != (b : Int)) = false ∧ ((a : Int) == (b : Int)) = true ∧ a = b) := by
  by_cases h : a = b
  · right; subst h; simp
  · left; refine ⟨by rw [bne_iff_ne]; omega, by rw [beq_eq_false_iff_ne]; omega, h⟩
theorem wadd_any (w : World) (a b : Nat) (ha : a < 18446744073709551616) (hb : b < 18446744073709551616) (mode : Int) (hT : Tab w) :
    Calls Tryz.prog 70 #[.int .u64 a, .int .u64 b, .int .i64 mode] w fun o w' => o = .returned (.int .u64 (fadd a b mode : Nat)) ∧ Below w.heap.size w w' := by
  cases hn : (fnan a || fnan b) with
  | true =>
    have hv : fadd a b mode = fNaN := by unfold fadd; rw [hn]; rfl
    rw [hv]; exact wadd_nan w a b ha hb mode hT hn
  | false =>
    have hN := hn
    simp only [Bool.or_eq_false_iff] at hN
    cases hia : finf a with
    | true =>
      have hza : fzero a = false := by unfold finf at hia; unfold fzero; simp at hia ⊢; omega
      cases hib : finf b with
      | true =>
        have hzb : fzero b = false := by unfold finf at hib; unfold fzero; simp at hib ⊢; omega
        rcases ne_both a b with ⟨h1, h2, h3⟩ | ⟨h1, h2, h3⟩
        · have hv : fadd a b mode = fNaN := by unfold fadd; rw [hn, hia, hib]; simp [h3]
          rw [hv]; exact wadd_ii w a b ha hb mode hT hn hia hza hib hzb h1 h2
        · have hv : fadd a b mode = a := by unfold fadd; rw [hn, hia, hib]; simp [h3]
          rw [hv]; exact wadd_iq w a b ha hb mode hT hn hia hza hib hzb h1 h2
      | false =>
        have hv : fadd a b mode = a := by unfold fadd; rw [hn, hia, hib]; simp
        rw [hv]
        cases hzb : fzero b with
        | true => exact wadd_iz w a b ha hb mode hT hn hia hza hib hzb
        | false => exact wadd_in w a b ha hb mode hT hn hia hza hib hzb
    | false =>
      cases hib : finf b with
      | true =>
        have hzb : fzero b = false := by unfold finf at hib; unfold fzero; simp at hib ⊢; omega
        have hv : fadd a b mode = b := by unfold fadd; rw [hn, hia, hib]; simp
        rw [hv]
        cases hza : fzero a with
        | true => exact wadd_zi w a b ha hb mode hT hn hia hza hib hzb
        | false => exact wadd_ni w a b ha hb mode hT hn hia hza hib hzb
      | false =>
        have hu : fadd a b mode = if fzero a && decide (a = b) then a else if dman (dadd (fof a) (fof b)) = 0 then fnothing mode else fround (dadd (fof a) (fof b)) mode := by unfold fadd; rw [hn, hia, hib]; simp
        rcases ne_both a b with ⟨h1, h2, h3⟩ | ⟨h1, h2, h3⟩
        · rw [decide_eq_false h3, Bool.and_false, if_neg (by decide)] at hu
          by_cases hs : dman (dadd (fof a) (fof b)) = 0
          · rw [if_pos hs] at hu
            rw [hu]
            cases hza : fzero a <;> cases hzb : fzero b
            · exact wadd_nn0 w a b ha hb mode hT hn hia hza hib hzb hs
            · exact wadd_nz0 w a b ha hb mode hT hn hia hza hib hzb hs
            · exact wadd_zn0 w a b ha hb mode hT hn hia hza hib hzb h1 h2 hs
            · exact wadd_zz0 w a b ha hb mode hT hn hia hza hib hzb h1 h2 hs
          · rw [if_neg hs] at hu
            rw [hu]
            cases hza : fzero a <;> cases hzb : fzero b
            · exact wadd_nn1 w a b ha hb mode hT hn hia hza hib hzb hs
            · exact wadd_nz1 w a b ha hb mode hT hn hia hza hib hzb hs
            · exact wadd_zn1 w a b ha hb mode hT hn hia hza hib hzb h1 h2 hs
            · exact wadd_zz1 w a b ha hb mode hT hn hia hza hib hzb h1 h2 hs
        · subst h3
          cases hza : fzero a with
          | true =>
            rw [hza, decide_eq_true rfl] at hu
            have hu : fadd a a mode = a := hu
            rw [hu]; exact wadd_zq w a a ha hb mode hT hn hia hza hib hza h1 h2
          | false =>
            rw [hza, Bool.false_and, if_neg (by decide)] at hu
            by_cases hs : dman (dadd (fof a) (fof a)) = 0
            · rw [if_pos hs] at hu
              rw [hu]; exact wadd_nn0 w a a ha hb mode hT hn hia hza hib hza hs
            · rw [if_neg hs] at hu
              rw [hu]; exact wadd_nn1 w a a ha hb mode hT hn hia hza hib hza hs

end Go.Proofs.YtakbappmkdaioaaGreatDoor


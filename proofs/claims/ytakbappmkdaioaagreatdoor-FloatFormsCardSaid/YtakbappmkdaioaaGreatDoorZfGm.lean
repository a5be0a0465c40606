/-
  Walks: package float: Mul, Div.
-/
import Derived.Test.YtakbappmkdaioaaGreatDoorZfGt
import Derived.Test.YtakbappmkdaioaaGreatDoorZfBg
namespace Go.Proofs.YtakbappmkdaioaaGreatDoor
open Go.RowKit Sp

set_option maxRecDepth 100000 in
set_option maxHeartbeats 2000000 in
theorem wmul_nan (w : World) (a b : Nat) (ha : a < 18446744073709551616) (hb : b < 18446744073709551616) (mode : Int) (_hT : Tab w) (hn : (fnan a || fnan b) = true)   :
    Calls Tryz.prog 74 #[.int .u64 a, .int .u64 b, .int .i64 mode] w fun o w' => o = .returned (.int .u64 9221120237041090560) ∧ Below w.heap.size w w' := by
  have HN := fun W g h0 h1 => Lib.hid (nan2 W g a b h0 h1)
  rw [hn] at HN
  have HSa := fun W => Lib.hid (fsign_any W a ha)
  have HSb := fun W => Lib.hid (fsign_any W b hb)
  go_enter Tryz.func74, Tryz.ntmps74
  go_wp2_with (first | (go_at_call 162; refine (HN _ _ (by go_simp) (by go_simp)).out.mono ?_; rintro e w1 ⟨rfl, rfl⟩) | (go_at_call 177; (first | refine (HIa _).out.mono ?_ | refine (HIb _).out.mono ?_); rintro e w1 ⟨rfl, rfl⟩) | (go_at_call 174; (first | refine (HZa _).out.mono ?_ | refine (HZb _).out.mono ?_); rintro e w1 ⟨rfl, rfl⟩) | (go_at_call 170; (first | refine (HSa _).out.mono ?_ | refine (HSb _).out.mono ?_); rintro e w1 ⟨rfl, rfl⟩) | (go_at_call 183; refine (HG _).out.mono ?_; rintro e w1 ⟨rfl, rfl⟩) | (go_at_call 179; refine (HO _).out.mono ?_; rintro e w1 ⟨rfl, rfl⟩))
  go_ret
  exact ⟨rfl, zbh⟩

set_option maxRecDepth 100000 in
set_option maxHeartbeats 2000000 in
theorem wmul_ii (w : World) (a b : Nat) (ha : a < 18446744073709551616) (hb : b < 18446744073709551616) (mode : Int) (_hT : Tab w) (hn : (fnan a || fnan b) = false) (_hia : finf a = true) (_hza : fzero a = false) (_hib : finf b = true) (_hzb : fzero b = false)  :
    Calls Tryz.prog 74 #[.int .u64 a, .int .u64 b, .int .i64 mode] w fun o w' => o = .returned (.int .u64 ((fsgn (fS a != fS b) fInf : Nat) : Int)) ∧ Below w.heap.size w w' := by
  have HN := fun W g h0 h1 => Lib.hid (nan2 W g a b h0 h1)
  rw [hn] at HN
  have HSa := fun W => Lib.hid (fsign_any W a ha)
  have HIa := fun W => Lib.hid (finf_any W a)
  rw [_hia] at HIa
  have HZa := fun W => Lib.hid (fzero_any W a)
  rw [_hza] at HZa
  have HSb := fun W => Lib.hid (fsign_any W b hb)
  have HIb := fun W => Lib.hid (finf_any W b)
  rw [_hib] at HIb
  have HZb := fun W => Lib.hid (fzero_any W b)
  rw [_hzb] at HZb
  have HG := fun W => Lib.hid (show Calls Tryz.prog 183 #[.int .u64 9218868437227405312, .bool (fS a != fS b)] W fun e w' => e = .returned (.int .u64 (fsgn (fS a != fS b) fInf : Nat)) ∧ W = w' from fsigned_any W fInf (fS a != fS b) (by decide))
  generalize ((fsgn (fS a != fS b) fInf : Nat) : Int) = V at *
  generalize fS a = sa at *
  generalize fS b = sb at *
  go_enter Tryz.func74, Tryz.ntmps74
  go_wp2_with (first | (go_at_call 162; refine (HN _ _ (by go_simp) (by go_simp)).out.mono ?_; rintro e w1 ⟨rfl, rfl⟩) | (go_at_call 177; (first | refine (HIa _).out.mono ?_ | refine (HIb _).out.mono ?_); rintro e w1 ⟨rfl, rfl⟩) | (go_at_call 174; (first | refine (HZa _).out.mono ?_ | refine (HZb _).out.mono ?_); rintro e w1 ⟨rfl, rfl⟩) | (go_at_call 170; (first | refine (HSa _).out.mono ?_ | refine (HSb _).out.mono ?_); rintro e w1 ⟨rfl, rfl⟩) | (go_at_call 183; refine (HG _).out.mono ?_; rintro e w1 ⟨rfl, rfl⟩) | (go_at_call 179; refine (HO _).out.mono ?_; rintro e w1 ⟨rfl, rfl⟩))
  go_ret
  exact ⟨rfl, zbh⟩

set_option maxRecDepth 100000 in
set_option maxHeartbeats 2000000 in
theorem wmul_in (w : World) (a b : Nat) (ha : a < 18446744073709551616) (hb : b < 18446744073709551616) (mode : Int) (_hT : Tab w) (hn : (fnan a || fnan b) = false) (_hia : finf a = true) (_hza : fzero a = false) (_hib : finf b = false) (_hzb : fzero b = false)  :
    Calls Tryz.prog 74 #[.int .u64 a, .int .u64 b, .int .i64 mode] w fun o w' => o = .returned (.int .u64 ((fsgn (fS a != fS b) fInf : Nat) : Int)) ∧ Below w.heap.size w w' := by
  have HN := fun W g h0 h1 => Lib.hid (nan2 W g a b h0 h1)
  rw [hn] at HN
  have HSa := fun W => Lib.hid (fsign_any W a ha)
  have HIa := fun W => Lib.hid (finf_any W a)
  rw [_hia] at HIa
  have HZa := fun W => Lib.hid (fzero_any W a)
  rw [_hza] at HZa
  have HSb := fun W => Lib.hid (fsign_any W b hb)
  have HIb := fun W => Lib.hid (finf_any W b)
  rw [_hib] at HIb
  have HZb := fun W => Lib.hid (fzero_any W b)
  rw [_hzb] at HZb
  have HG := fun W => Lib.hid (show Calls Tryz.prog 183 #[.int .u64 9218868437227405312, .bool (fS a != fS b)] W fun e w' => e = .returned (.int .u64 (fsgn (fS a != fS b) fInf : Nat)) ∧ W = w' from fsigned_any W fInf (fS a != fS b) (by decide))
  generalize ((fsgn (fS a != fS b) fInf : Nat) : Int) = V at *
  generalize fS a = sa at *
  generalize fS b = sb at *
  go_enter Tryz.func74, Tryz.ntmps74
  go_wp2_with (first | (go_at_call 162; refine (HN _ _ (by go_simp) (by go_simp)).out.mono ?_; rintro e w1 ⟨rfl, rfl⟩) | (go_at_call 177; (first | refine (HIa _).out.mono ?_ | refine (HIb _).out.mono ?_); rintro e w1 ⟨rfl, rfl⟩) | (go_at_call 174; (first | refine (HZa _).out.mono ?_ | refine (HZb _).out.mono ?_); rintro e w1 ⟨rfl, rfl⟩) | (go_at_call 170; (first | refine (HSa _).out.mono ?_ | refine (HSb _).out.mono ?_); rintro e w1 ⟨rfl, rfl⟩) | (go_at_call 183; refine (HG _).out.mono ?_; rintro e w1 ⟨rfl, rfl⟩) | (go_at_call 179; refine (HO _).out.mono ?_; rintro e w1 ⟨rfl, rfl⟩))
  go_ret
  exact ⟨rfl, zbh⟩

set_option maxRecDepth 100000 in
set_option maxHeartbeats 2000000 in
theorem wmul_ni (w : World) (a b : Nat) (ha : a < 18446744073709551616) (hb : b < 18446744073709551616) (mode : Int) (_hT : Tab w) (hn : (fnan a || fnan b) = false) (_hia : finf a = false) (_hza : fzero a = false) (_hib : finf b = true) (_hzb : fzero b = false)  :
    Calls Tryz.prog 74 #[.int .u64 a, .int .u64 b, .int .i64 mode] w fun o w' => o = .returned (.int .u64 ((fsgn (fS a != fS b) fInf : Nat) : Int)) ∧ Below w.heap.size w w' := by
  have HN := fun W g h0 h1 => Lib.hid (nan2 W g a b h0 h1)
  rw [hn] at HN
  have HSa := fun W => Lib.hid (fsign_any W a ha)
  have HIa := fun W => Lib.hid (finf_any W a)
  rw [_hia] at HIa
  have HZa := fun W => Lib.hid (fzero_any W a)
  rw [_hza] at HZa
  have HSb := fun W => Lib.hid (fsign_any W b hb)
  have HIb := fun W => Lib.hid (finf_any W b)
  rw [_hib] at HIb
  have HZb := fun W => Lib.hid (fzero_any W b)
  rw [_hzb] at HZb
  have HG := fun W => Lib.hid (show Calls Tryz.prog 183 #[.int .u64 9218868437227405312, .bool (fS a != fS b)] W fun e w' => e = .returned (.int .u64 (fsgn (fS a != fS b) fInf : Nat)) ∧ W = w' from fsigned_any W fInf (fS a != fS b) (by decide))
  generalize ((fsgn (fS a != fS b) fInf : Nat) : Int) = V at *
  generalize fS a = sa at *
  generalize fS b = sb at *
  go_enter Tryz.func74, Tryz.ntmps74
  go_wp2_with (first | (go_at_call 162; refine (HN _ _ (by go_simp) (by go_simp)).out.mono ?_; rintro e w1 ⟨rfl, rfl⟩) | (go_at_call 177; (first | refine (HIa _).out.mono ?_ | refine (HIb _).out.mono ?_); rintro e w1 ⟨rfl, rfl⟩) | (go_at_call 174; (first | refine (HZa _).out.mono ?_ | refine (HZb _).out.mono ?_); rintro e w1 ⟨rfl, rfl⟩) | (go_at_call 170; (first | refine (HSa _).out.mono ?_ | refine (HSb _).out.mono ?_); rintro e w1 ⟨rfl, rfl⟩) | (go_at_call 183; refine (HG _).out.mono ?_; rintro e w1 ⟨rfl, rfl⟩) | (go_at_call 179; refine (HO _).out.mono ?_; rintro e w1 ⟨rfl, rfl⟩))
  go_ret
  exact ⟨rfl, zbh⟩

set_option maxRecDepth 100000 in
set_option maxHeartbeats 2000000 in
theorem wmul_iz (w : World) (a b : Nat) (ha : a < 18446744073709551616) (hb : b < 18446744073709551616) (mode : Int) (_hT : Tab w) (hn : (fnan a || fnan b) = false) (_hia : finf a = true) (_hza : fzero a = false) (_hib : finf b = false) (_hzb : fzero b = true)  :
    Calls Tryz.prog 74 #[.int .u64 a, .int .u64 b, .int .i64 mode] w fun o w' => o = .returned (.int .u64 9221120237041090560) ∧ Below w.heap.size w w' := by
  have HN := fun W g h0 h1 => Lib.hid (nan2 W g a b h0 h1)
  rw [hn] at HN
  have HSa := fun W => Lib.hid (fsign_any W a ha)
  have HIa := fun W => Lib.hid (finf_any W a)
  rw [_hia] at HIa
  have HZa := fun W => Lib.hid (fzero_any W a)
  rw [_hza] at HZa
  have HSb := fun W => Lib.hid (fsign_any W b hb)
  have HIb := fun W => Lib.hid (finf_any W b)
  rw [_hib] at HIb
  have HZb := fun W => Lib.hid (fzero_any W b)
  rw [_hzb] at HZb
  go_enter Tryz.func74, Tryz.ntmps74
  go_wp2_with (first | (go_at_call 162; refine (HN _ _ (by go_simp) (by go_simp)).out.mono ?_; rintro e w1 ⟨rfl, rfl⟩) | (go_at_call 177; (first | refine (HIa _).out.mono ?_ | refine (HIb _).out.mono ?_); rintro e w1 ⟨rfl, rfl⟩) | (go_at_call 174; (first | refine (HZa _).out.mono ?_ | refine (HZb _).out.mono ?_); rintro e w1 ⟨rfl, rfl⟩) | (go_at_call 170; (first | refine (HSa _).out.mono ?_ | refine (HSb _).out.mono ?_); rintro e w1 ⟨rfl, rfl⟩) | (go_at_call 183; refine (HG _).out.mono ?_; rintro e w1 ⟨rfl, rfl⟩) | (go_at_call 179; refine (HO _).out.mono ?_; rintro e w1 ⟨rfl, rfl⟩))
  go_ret
  exact ⟨rfl, zbh⟩

set_option maxRecDepth 100000 in
set_option maxHeartbeats 2000000 in
theorem wmul_zi (w : World) (a b : Nat) (ha : a < 18446744073709551616) (hb : b < 18446744073709551616) (mode : Int) (_hT : Tab w) (hn : (fnan a || fnan b) = false) (_hia : finf a = false) (_hza : fzero a = true) (_hib : finf b = true) (_hzb : fzero b = false)  :
    Calls Tryz.prog 74 #[.int .u64 a, .int .u64 b, .int .i64 mode] w fun o w' => o = .returned (.int .u64 9221120237041090560) ∧ Below w.heap.size w w' := by
  have HN := fun W g h0 h1 => Lib.hid (nan2 W g a b h0 h1)
  rw [hn] at HN
  have HSa := fun W => Lib.hid (fsign_any W a ha)
  have HIa := fun W => Lib.hid (finf_any W a)
  rw [_hia] at HIa
  have HZa := fun W => Lib.hid (fzero_any W a)
  rw [_hza] at HZa
  have HSb := fun W => Lib.hid (fsign_any W b hb)
  have HIb := fun W => Lib.hid (finf_any W b)
  rw [_hib] at HIb
  have HZb := fun W => Lib.hid (fzero_any W b)
  rw [_hzb] at HZb
  go_enter Tryz.func74, Tryz.ntmps74
  go_wp2_with (first | (go_at_call 162; refine (HN _ _ (by go_simp) (by go_simp)).out.mono ?_; rintro e w1 ⟨rfl, rfl⟩) | (go_at_call 177; (first | refine (HIa _).out.mono ?_ | refine (HIb _).out.mono ?_); rintro e w1 ⟨rfl, rfl⟩) | (go_at_call 174; (first | refine (HZa _).out.mono ?_ | refine (HZb _).out.mono ?_); rintro e w1 ⟨rfl, rfl⟩) | (go_at_call 170; (first | refine (HSa _).out.mono ?_ | refine (HSb _).out.mono ?_); rintro e w1 ⟨rfl, rfl⟩) | (go_at_call 183; refine (HG _).out.mono ?_; rintro e w1 ⟨rfl, rfl⟩) | (go_at_call 179; refine (HO _).out.mono ?_; rintro e w1 ⟨rfl, rfl⟩))
  go_ret
  exact ⟨rfl, zbh⟩

set_option maxRecDepth 100000 in
set_option maxHeartbeats 2000000 in
theorem wmul_zz (w : World) (a b : Nat) (ha : a < 18446744073709551616) (hb : b < 18446744073709551616) (mode : Int) (_hT : Tab w) (hn : (fnan a || fnan b) = false) (_hia : finf a = false) (_hza : fzero a = true) (_hib : finf b = false) (_hzb : fzero b = true)  :
    Calls Tryz.prog 74 #[.int .u64 a, .int .u64 b, .int .i64 mode] w fun o w' => o = .returned (.int .u64 ((fsgn (fS a != fS b) 0 : Nat) : Int)) ∧ Below w.heap.size w w' := by
  have HN := fun W g h0 h1 => Lib.hid (nan2 W g a b h0 h1)
  rw [hn] at HN
  have HSa := fun W => Lib.hid (fsign_any W a ha)
  have HIa := fun W => Lib.hid (finf_any W a)
  rw [_hia] at HIa
  have HZa := fun W => Lib.hid (fzero_any W a)
  rw [_hza] at HZa
  have HSb := fun W => Lib.hid (fsign_any W b hb)
  have HIb := fun W => Lib.hid (finf_any W b)
  rw [_hib] at HIb
  have HZb := fun W => Lib.hid (fzero_any W b)
  rw [_hzb] at HZb
  have HG := fun W => Lib.hid (show Calls Tryz.prog 183 #[.int .u64 0, .bool (fS a != fS b)] W fun e w' => e = .returned (.int .u64 (fsgn (fS a != fS b) 0 : Nat)) ∧ W = w' from fsigned_any W 0 (fS a != fS b) (by decide))
  generalize ((fsgn (fS a != fS b) 0 : Nat) : Int) = V at *
  generalize fS a = sa at *
  generalize fS b = sb at *
  go_enter Tryz.func74, Tryz.ntmps74
  go_wp2_with (first | (go_at_call 162; refine (HN _ _ (by go_simp) (by go_simp)).out.mono ?_; rintro e w1 ⟨rfl, rfl⟩) | (go_at_call 177; (first | refine (HIa _).out.mono ?_ | refine (HIb _).out.mono ?_); rintro e w1 ⟨rfl, rfl⟩) | (go_at_call 174; (first | refine (HZa _).out.mono ?_ | refine (HZb _).out.mono ?_); rintro e w1 ⟨rfl, rfl⟩) | (go_at_call 170; (first | refine (HSa _).out.mono ?_ | refine (HSb _).out.mono ?_); rintro e w1 ⟨rfl, rfl⟩) | (go_at_call 183; refine (HG _).out.mono ?_; rintro e w1 ⟨rfl, rfl⟩) | (go_at_call 179; refine (HO _).out.mono ?_; rintro e w1 ⟨rfl, rfl⟩))
  go_ret
  exact ⟨rfl, zbh⟩

set_option maxRecDepth 100000 in
set_option maxHeartbeats 2000000 in
theorem wmul_zn (w : World) (a b : Nat) (ha : a < 18446744073709551616) (hb : b < 18446744073709551616) (mode : Int) (_hT : Tab w) (hn : (fnan a || fnan b) = false) (_hia : finf a = false) (_hza : fzero a = true) (_hib : finf b = false) (_hzb : fzero b = false)  :
    Calls Tryz.prog 74 #[.int .u64 a, .int .u64 b, .int .i64 mode] w fun o w' => o = .returned (.int .u64 ((fsgn (fS a != fS b) 0 : Nat) : Int)) ∧ Below w.heap.size w w' := by
  have HN := fun W g h0 h1 => Lib.hid (nan2 W g a b h0 h1)
  rw [hn] at HN
  have HSa := fun W => Lib.hid (fsign_any W a ha)
  have HIa := fun W => Lib.hid (finf_any W a)
  rw [_hia] at HIa
  have HZa := fun W => Lib.hid (fzero_any W a)
  rw [_hza] at HZa
  have HSb := fun W => Lib.hid (fsign_any W b hb)
  have HIb := fun W => Lib.hid (finf_any W b)
  rw [_hib] at HIb
  have HZb := fun W => Lib.hid (fzero_any W b)
  rw [_hzb] at HZb
  have HG := fun W => Lib.hid (show Calls Tryz.prog 183 #[.int .u64 0, .bool (fS a != fS b)] W fun e w' => e = .returned (.int .u64 (fsgn (fS a != fS b) 0 : Nat)) ∧ W = w' from fsigned_any W 0 (fS a != fS b) (by decide))
  generalize ((fsgn (fS a != fS b) 0 : Nat) : Int) = V at *
  generalize fS a = sa at *
  generalize fS b = sb at *
  go_enter Tryz.func74, Tryz.ntmps74
  go_wp2_with (first | (go_at_call 162; refine (HN _ _ (by go_simp) (by go_simp)).out.mono ?_; rintro e w1 ⟨rfl, rfl⟩) | (go_at_call 177; (first | refine (HIa _).out.mono ?_ | refine (HIb _).out.mono ?_); rintro e w1 ⟨rfl, rfl⟩) | (go_at_call 174; (first | refine (HZa _).out.mono ?_ | refine (HZb _).out.mono ?_); rintro e w1 ⟨rfl, rfl⟩) | (go_at_call 170; (first | refine (HSa _).out.mono ?_ | refine (HSb _).out.mono ?_); rintro e w1 ⟨rfl, rfl⟩) | (go_at_call 183; refine (HG _).out.mono ?_; rintro e w1 ⟨rfl, rfl⟩) | (go_at_call 179; refine (HO _).out.mono ?_; rintro e w1 ⟨rfl, rfl⟩))
  go_ret
  exact ⟨rfl, zbh⟩

set_option maxRecDepth 100000 in
set_option maxHeartbeats 2000000 in
theorem wmul_nz (w : World) (a b : Nat) (ha : a < 18446744073709551616) (hb : b < 18446744073709551616) (mode : Int) (_hT : Tab w) (hn : (fnan a || fnan b) = false) (_hia : finf a = false) (_hza : fzero a = false) (_hib : finf b = false) (_hzb : fzero b = true)  :
    Calls Tryz.prog 74 #[.int .u64 a, .int .u64 b, .int .i64 mode] w fun o w' => o = .returned (.int .u64 ((fsgn (fS a != fS b) 0 : Nat) : Int)) ∧ Below w.heap.size w w' := by
  have HN := fun W g h0 h1 => Lib.hid (nan2 W g a b h0 h1)
  rw [hn] at HN
  have HSa := fun W => Lib.hid (fsign_any W a ha)
  have HIa := fun W => Lib.hid (finf_any W a)
  rw [_hia] at HIa
  have HZa := fun W => Lib.hid (fzero_any W a)
  rw [_hza] at HZa
  have HSb := fun W => Lib.hid (fsign_any W b hb)
  have HIb := fun W => Lib.hid (finf_any W b)
  rw [_hib] at HIb
  have HZb := fun W => Lib.hid (fzero_any W b)
  rw [_hzb] at HZb
  have HG := fun W => Lib.hid (show Calls Tryz.prog 183 #[.int .u64 0, .bool (fS a != fS b)] W fun e w' => e = .returned (.int .u64 (fsgn (fS a != fS b) 0 : Nat)) ∧ W = w' from fsigned_any W 0 (fS a != fS b) (by decide))
  generalize ((fsgn (fS a != fS b) 0 : Nat) : Int) = V at *
  generalize fS a = sa at *
  generalize fS b = sb at *
  go_enter Tryz.func74, Tryz.ntmps74
  go_wp2_with (first | (go_at_call 162; refine (HN _ _ (by go_simp) (by go_simp)).out.mono ?_; rintro e w1 ⟨rfl, rfl⟩) | (go_at_call 177; (first | refine (HIa _).out.mono ?_ | refine (HIb _).out.mono ?_); rintro e w1 ⟨rfl, rfl⟩) | (go_at_call 174; (first | refine (HZa _).out.mono ?_ | refine (HZb _).out.mono ?_); rintro e w1 ⟨rfl, rfl⟩) | (go_at_call 170; (first | refine (HSa _).out.mono ?_ | refine (HSb _).out.mono ?_); rintro e w1 ⟨rfl, rfl⟩) | (go_at_call 183; refine (HG _).out.mono ?_; rintro e w1 ⟨rfl, rfl⟩) | (go_at_call 179; refine (HO _).out.mono ?_; rintro e w1 ⟨rfl, rfl⟩))
  go_ret
  exact ⟨rfl, zbh⟩

set_option maxRecDepth 100000 in
set_option maxHeartbeats 2000000 in
theorem wmul_nn (w : World) (a b : Nat) (ha : a < 18446744073709551616) (hb : b < 18446744073709551616) (mode : Int) (_hT : Tab w) (hn : (fnan a || fnan b) = false) (_hia : finf a = false) (_hza : fzero a = false) (_hib : finf b = false) (_hzb : fzero b = false)  :
    Calls Tryz.prog 74 #[.int .u64 a, .int .u64 b, .int .i64 mode] w fun o w' => o = .returned (.int .u64 ((fround (dmul (fof a) (fof b)) mode : Nat) : Int)) ∧ Below w.heap.size w w' := by
  have HN := fun W g h0 h1 => Lib.hid (nan2 W g a b h0 h1)
  rw [hn] at HN
  have HSa := fun W => Lib.hid (fsign_any W a ha)
  have HIa := fun W => Lib.hid (finf_any W a)
  rw [_hia] at HIa
  have HZa := fun W => Lib.hid (fzero_any W a)
  rw [_hza] at HZa
  have HSb := fun W => Lib.hid (fsign_any W b hb)
  have HIb := fun W => Lib.hid (finf_any W b)
  rw [_hib] at HIb
  have HZb := fun W => Lib.hid (fzero_any W b)
  rw [_hzb] at HZb
  have HOfa := fun W ht => Lib.hid (fof_any W a ha ht)
  have Na := Lib.hid (isN_fof a)
  have HOfb := fun W ht => Lib.hid (fof_any W b hb ht)
  have Nb := Lib.hid (isN_fof b)
  generalize fof a = da at *
  generalize fof b = db at *
  have HP := fun W ba qa bb qb (ha' : Mag W ba (nl (dman da).natAbs) qa (dman da).natAbs) (hb' : Mag W bb (nl (dman db).natAbs) qb (dman db).natAbs) ht => Lib.hid (dmul_any W _ _ _ _ _ _ _ _ _ _ _ _ _ _ (dyin_of Na.out ha') (dyin_of Nb.out hb') ht)
  have Nu := Lib.hid (isN_mul da db)
  generalize dmul da db = du at *
  have HR := fun W bu qu (hu' : Mag W bu (nl (dman du).natAbs) qu (dman du).natAbs) ht => Lib.hid (fround_any W _ _ _ _ _ _ mode _ (dyin_of Nu.out hu') ht)
  generalize ((fround du mode : Nat) : Int) = V at *
  go_enter Tryz.func74, Tryz.ntmps74
  go_wp2_with (first | (go_at_call 162; refine (HN _ _ (by go_simp) (by go_simp)).out.mono ?_; rintro e w1 ⟨rfl, rfl⟩) | (go_at_call 177; (first | refine (HIa _).out.mono ?_ | refine (HIb _).out.mono ?_); rintro e w1 ⟨rfl, rfl⟩) | (go_at_call 174; (first | refine (HZa _).out.mono ?_ | refine (HZb _).out.mono ?_); rintro e w1 ⟨rfl, rfl⟩) | (go_at_call 170; (first | refine (HSa _).out.mono ?_ | refine (HSb _).out.mono ?_); rintro e w1 ⟨rfl, rfl⟩) | (go_at_call 183; refine (HG _).out.mono ?_; rintro e w1 ⟨rfl, rfl⟩) | (go_at_call 179; refine (HO _).out.mono ?_; rintro e w1 ⟨rfl, rfl⟩))
  refine (HOfa _ (_hT.below zbh)).out.mono ?_
  rintro e w1 ⟨aa, ca, rfl, Ma, hb, _⟩
  have B1 := below_box (w := w) zbh hb
  clear hb
  go_wp2_with fail
  refine (HOfb _ (_hT.below (have := Beh.mk B1; zbh))).out.mono ?_
  rintro e w2 ⟨ab, cb, rfl, Mb, hb, _⟩
  have Ma : Mag w2 aa (nl (dman da).natAbs) ca (dman da).natAbs := Mag.below (by repeat (with_reducible first | refine Mag.set ?_ (fun h => by have := Ma h; omega) _ _ | refine Mag.drew ?_ | refine Mag.alloc ?_ _ | refine Mag.drewN ?_ _ | exact Ma)) hb
  have B2 := below_box (w := w) (have := Beh.mk B1; zbh) hb
  clear hb
  go_wp2_with fail
  refine (HP _ aa ca ab cb (by repeat (with_reducible first | refine Mag.set ?_ (fun h => by have := Ma h; omega) _ _ | refine Mag.drew ?_ | refine Mag.alloc ?_ _ | refine Mag.drewN ?_ _ | exact Ma)) (by repeat (with_reducible first | refine Mag.set ?_ (fun h => by have := Mb h; omega) _ _ | refine Mag.drew ?_ | refine Mag.alloc ?_ _ | refine Mag.drewN ?_ _ | exact Mb)) (_hT.below (by have hszw := (B2).size; repeat (with_reducible first | refine Below.setCell ?_ (by first | omega | (simp <;> omega)) _ | refine Below.alloc ?_ (by first | omega | (simp <;> omega)) _ | refine Below.drew ?_ | refine below_drewN ?_ _ | exact B2)))).out.mono ?_
  rintro e w3 ⟨au, cu, rfl, Mu, hb, _⟩
  have B3 := below_box (w := w) (have := Beh.mk B2; zbh) hb
  clear hb
  go_wp2_with fail
  refine (HR _ au cu (by repeat (with_reducible first | refine Mag.set ?_ (fun h => by have := Mu h; omega) _ _ | refine Mag.drew ?_ | refine Mag.alloc ?_ _ | refine Mag.drewN ?_ _ | exact Mu)) (_hT.below (by have hszw := (B3).size; repeat (with_reducible first | refine Below.setCell ?_ (by first | omega | (simp <;> omega)) _ | refine Below.alloc ?_ (by first | omega | (simp <;> omega)) _ | refine Below.drew ?_ | refine below_drewN ?_ _ | exact B3)))).out.mono ?_
  rintro e w4 ⟨rfl, hb⟩
  have Mu : Mag w4 au (nl (dman du).natAbs) cu (dman du).natAbs := Mag.below (by repeat (with_reducible first | refine Mag.set ?_ (fun h => by have := Mu h; omega) _ _ | refine Mag.drew ?_ | refine Mag.alloc ?_ _ | refine Mag.drewN ?_ _ | exact Mu)) hb
  have B4 := below_box (w := w) (have := Beh.mk B3; zbh) hb
  clear hb
  go_wp2_with fail
  go_ret
  exact ⟨rfl, (have := Beh.mk B4; zbh)⟩

set_option maxRecDepth 100000 in
set_option maxHeartbeats 2000000 in
theorem wdiv_nan (w : World) (a b : Nat) (ha : a < 18446744073709551616) (hb : b < 18446744073709551616) (mode : Int) (_hT : Tab w) (hn : (fnan a || fnan b) = true)   :
    Calls Tryz.prog 76 #[.int .u64 a, .int .u64 b, .int .i64 mode] w fun o w' => o = .returned (.int .u64 9221120237041090560) ∧ Below w.heap.size w w' := by
  have HN := fun W g h0 h1 => Lib.hid (nan2 W g a b h0 h1)
  rw [hn] at HN
  have HSa := fun W => Lib.hid (fsign_any W a ha)
  have HSb := fun W => Lib.hid (fsign_any W b hb)
  go_enter Tryz.func76, Tryz.ntmps76
  go_wp2_with (first | (go_at_call 162; refine (HN _ _ (by go_simp) (by go_simp)).out.mono ?_; rintro e w1 ⟨rfl, rfl⟩) | (go_at_call 177; (first | refine (HIa _).out.mono ?_ | refine (HIb _).out.mono ?_); rintro e w1 ⟨rfl, rfl⟩) | (go_at_call 174; (first | refine (HZa _).out.mono ?_ | refine (HZb _).out.mono ?_); rintro e w1 ⟨rfl, rfl⟩) | (go_at_call 170; (first | refine (HSa _).out.mono ?_ | refine (HSb _).out.mono ?_); rintro e w1 ⟨rfl, rfl⟩) | (go_at_call 183; refine (HG _).out.mono ?_; rintro e w1 ⟨rfl, rfl⟩) | (go_at_call 179; refine (HO _).out.mono ?_; rintro e w1 ⟨rfl, rfl⟩))
  go_ret
  exact ⟨rfl, zbh⟩

set_option maxRecDepth 100000 in
set_option maxHeartbeats 2000000 in
theorem wdiv_ii (w : World) (a b : Nat) (ha : a < 18446744073709551616) (hb : b < 18446744073709551616) (mode : Int) (_hT : Tab w) (hn : (fnan a || fnan b) = false) (_hia : finf a = true) (_hza : fzero a = false) (_hib : finf b = true) (_hzb : fzero b = false)  :
    Calls Tryz.prog 76 #[.int .u64 a, .int .u64 b, .int .i64 mode] w fun o w' => o = .returned (.int .u64 9221120237041090560) ∧ Below w.heap.size w w' := by
  have HN := fun W g h0 h1 => Lib.hid (nan2 W g a b h0 h1)
  rw [hn] at HN
  have HSa := fun W => Lib.hid (fsign_any W a ha)
  have HIa := fun W => Lib.hid (finf_any W a)
  rw [_hia] at HIa
  have HZa := fun W => Lib.hid (fzero_any W a)
  rw [_hza] at HZa
  have HSb := fun W => Lib.hid (fsign_any W b hb)
  have HIb := fun W => Lib.hid (finf_any W b)
  rw [_hib] at HIb
  have HZb := fun W => Lib.hid (fzero_any W b)
  rw [_hzb] at HZb
  go_enter Tryz.func76, Tryz.ntmps76
  go_wp2_with (first | (go_at_call 162; refine (HN _ _ (by go_simp) (by go_simp)).out.mono ?_; rintro e w1 ⟨rfl, rfl⟩) | (go_at_call 177; (first | refine (HIa _).out.mono ?_ | refine (HIb _).out.mono ?_); rintro e w1 ⟨rfl, rfl⟩) | (go_at_call 174; (first | refine (HZa _).out.mono ?_ | refine (HZb _).out.mono ?_); rintro e w1 ⟨rfl, rfl⟩) | (go_at_call 170; (first | refine (HSa _).out.mono ?_ | refine (HSb _).out.mono ?_); rintro e w1 ⟨rfl, rfl⟩) | (go_at_call 183; refine (HG _).out.mono ?_; rintro e w1 ⟨rfl, rfl⟩) | (go_at_call 179; refine (HO _).out.mono ?_; rintro e w1 ⟨rfl, rfl⟩))
  go_ret
  exact ⟨rfl, zbh⟩

set_option maxRecDepth 100000 in
set_option maxHeartbeats 2000000 in
theorem wdiv_zz (w : World) (a b : Nat) (ha : a < 18446744073709551616) (hb : b < 18446744073709551616) (mode : Int) (_hT : Tab w) (hn : (fnan a || fnan b) = false) (_hia : finf a = false) (_hza : fzero a = true) (_hib : finf b = false) (_hzb : fzero b = true)  :
    Calls Tryz.prog 76 #[.int .u64 a, .int .u64 b, .int .i64 mode] w fun o w' => o = .returned (.int .u64 9221120237041090560) ∧ Below w.heap.size w w' := by
  have HN := fun W g h0 h1 => Lib.hid (nan2 W g a b h0 h1)
  rw [hn] at HN
  have HSa := fun W => Lib.hid (fsign_any W a ha)
  have HIa := fun W => Lib.hid (finf_any W a)
  rw [_hia] at HIa
  have HZa := fun W => Lib.hid (fzero_any W a)
  rw [_hza] at HZa
  have HSb := fun W => Lib.hid (fsign_any W b hb)
  have HIb := fun W => Lib.hid (finf_any W b)
  rw [_hib] at HIb
  have HZb := fun W => Lib.hid (fzero_any W b)
  rw [_hzb] at HZb
  go_enter Tryz.func76, Tryz.ntmps76
  go_wp2_with (first | (go_at_call 162; refine (HN _ _ (by go_simp) (by go_simp)).out.mono ?_; rintro e w1 ⟨rfl, rfl⟩) | (go_at_call 177; (first | refine (HIa _).out.mono ?_ | refine (HIb _).out.mono ?_); rintro e w1 ⟨rfl, rfl⟩) | (go_at_call 174; (first | refine (HZa _).out.mono ?_ | refine (HZb _).out.mono ?_); rintro e w1 ⟨rfl, rfl⟩) | (go_at_call 170; (first | refine (HSa _).out.mono ?_ | refine (HSb _).out.mono ?_); rintro e w1 ⟨rfl, rfl⟩) | (go_at_call 183; refine (HG _).out.mono ?_; rintro e w1 ⟨rfl, rfl⟩) | (go_at_call 179; refine (HO _).out.mono ?_; rintro e w1 ⟨rfl, rfl⟩))
  go_ret
  exact ⟨rfl, zbh⟩

set_option maxRecDepth 100000 in
set_option maxHeartbeats 2000000 in
theorem wdiv_in (w : World) (a b : Nat) (ha : a < 18446744073709551616) (hb : b < 18446744073709551616) (mode : Int) (_hT : Tab w) (hn : (fnan a || fnan b) = false) (_hia : finf a = true) (_hza : fzero a = false) (_hib : finf b = false) (_hzb : fzero b = false)  :
    Calls Tryz.prog 76 #[.int .u64 a, .int .u64 b, .int .i64 mode] w fun o w' => o = .returned (.int .u64 ((fsgn (fS a != fS b) fInf : Nat) : Int)) ∧ Below w.heap.size w w' := by
  have HN := fun W g h0 h1 => Lib.hid (nan2 W g a b h0 h1)
  rw [hn] at HN
  have HSa := fun W => Lib.hid (fsign_any W a ha)
  have HIa := fun W => Lib.hid (finf_any W a)
  rw [_hia] at HIa
  have HZa := fun W => Lib.hid (fzero_any W a)
  rw [_hza] at HZa
  have HSb := fun W => Lib.hid (fsign_any W b hb)
  have HIb := fun W => Lib.hid (finf_any W b)
  rw [_hib] at HIb
  have HZb := fun W => Lib.hid (fzero_any W b)
  rw [_hzb] at HZb
  have HG := fun W => Lib.hid (show Calls Tryz.prog 183 #[.int .u64 9218868437227405312, .bool (fS a != fS b)] W fun e w' => e = .returned (.int .u64 (fsgn (fS a != fS b) fInf : Nat)) ∧ W = w' from fsigned_any W fInf (fS a != fS b) (by decide))
  generalize ((fsgn (fS a != fS b) fInf : Nat) : Int) = V at *
  generalize fS a = sa at *
  generalize fS b = sb at *
  go_enter Tryz.func76, Tryz.ntmps76
  go_wp2_with (first | (go_at_call 162; refine (HN _ _ (by go_simp) (by go_simp)).out.mono ?_; rintro e w1 ⟨rfl, rfl⟩) | (go_at_call 177; (first | refine (HIa _).out.mono ?_ | refine (HIb _).out.mono ?_); rintro e w1 ⟨rfl, rfl⟩) | (go_at_call 174; (first | refine (HZa _).out.mono ?_ | refine (HZb _).out.mono ?_); rintro e w1 ⟨rfl, rfl⟩) | (go_at_call 170; (first | refine (HSa _).out.mono ?_ | refine (HSb _).out.mono ?_); rintro e w1 ⟨rfl, rfl⟩) | (go_at_call 183; refine (HG _).out.mono ?_; rintro e w1 ⟨rfl, rfl⟩) | (go_at_call 179; refine (HO _).out.mono ?_; rintro e w1 ⟨rfl, rfl⟩))
  go_ret
  exact ⟨rfl, zbh⟩

set_option maxRecDepth 100000 in
set_option maxHeartbeats 2000000 in
theorem wdiv_iz (w : World) (a b : Nat) (ha : a < 18446744073709551616) (hb : b < 18446744073709551616) (mode : Int) (_hT : Tab w) (hn : (fnan a || fnan b) = false) (_hia : finf a = true) (_hza : fzero a = false) (_hib : finf b = false) (_hzb : fzero b = true)  :
    Calls Tryz.prog 76 #[.int .u64 a, .int .u64 b, .int .i64 mode] w fun o w' => o = .returned (.int .u64 ((fsgn (fS a != fS b) fInf : Nat) : Int)) ∧ Below w.heap.size w w' := by
  have HN := fun W g h0 h1 => Lib.hid (nan2 W g a b h0 h1)
  rw [hn] at HN
  have HSa := fun W => Lib.hid (fsign_any W a ha)
  have HIa := fun W => Lib.hid (finf_any W a)
  rw [_hia] at HIa
  have HZa := fun W => Lib.hid (fzero_any W a)
  rw [_hza] at HZa
  have HSb := fun W => Lib.hid (fsign_any W b hb)
  have HIb := fun W => Lib.hid (finf_any W b)
  rw [_hib] at HIb
  have HZb := fun W => Lib.hid (fzero_any W b)
  rw [_hzb] at HZb
  have HG := fun W => Lib.hid (show Calls Tryz.prog 183 #[.int .u64 9218868437227405312, .bool (fS a != fS b)] W fun e w' => e = .returned (.int .u64 (fsgn (fS a != fS b) fInf : Nat)) ∧ W = w' from fsigned_any W fInf (fS a != fS b) (by decide))
  generalize ((fsgn (fS a != fS b) fInf : Nat) : Int) = V at *
  generalize fS a = sa at *
  generalize fS b = sb at *
  go_enter Tryz.func76, Tryz.ntmps76
  go_wp2_with (first | (go_at_call 162; refine (HN _ _ (by go_simp) (by go_simp)).out.mono ?_; rintro e w1 ⟨rfl, rfl⟩) | (go_at_call 177; (first | refine (HIa _).out.mono ?_ | refine (HIb _).out.mono ?_); rintro e w1 ⟨rfl, rfl⟩) | (go_at_call 174; (first | refine (HZa _).out.mono ?_ | refine (HZb _).out.mono ?_); rintro e w1 ⟨rfl, rfl⟩) | (go_at_call 170; (first | refine (HSa _).out.mono ?_ | refine (HSb _).out.mono ?_); rintro e w1 ⟨rfl, rfl⟩) | (go_at_call 183; refine (HG _).out.mono ?_; rintro e w1 ⟨rfl, rfl⟩) | (go_at_call 179; refine (HO _).out.mono ?_; rintro e w1 ⟨rfl, rfl⟩))
  go_ret
  exact ⟨rfl, zbh⟩

set_option maxRecDepth 100000 in
set_option maxHeartbeats 2000000 in
theorem wdiv_nz (w : World) (a b : Nat) (ha : a < 18446744073709551616) (hb : b < 18446744073709551616) (mode : Int) (_hT : Tab w) (hn : (fnan a || fnan b) = false) (_hia : finf a = false) (_hza : fzero a = false) (_hib : finf b = false) (_hzb : fzero b = true)  :
    Calls Tryz.prog 76 #[.int .u64 a, .int .u64 b, .int .i64 mode] w fun o w' => o = .returned (.int .u64 ((fsgn (fS a != fS b) fInf : Nat) : Int)) ∧ Below w.heap.size w w' := by
  have HN := fun W g h0 h1 => Lib.hid (nan2 W g a b h0 h1)
  rw [hn] at HN
  have HSa := fun W => Lib.hid (fsign_any W a ha)
  have HIa := fun W => Lib.hid (finf_any W a)
  rw [_hia] at HIa
  have HZa := fun W => Lib.hid (fzero_any W a)
  rw [_hza] at HZa
  have HSb := fun W => Lib.hid (fsign_any W b hb)
  have HIb := fun W => Lib.hid (finf_any W b)
  rw [_hib] at HIb
  have HZb := fun W => Lib.hid (fzero_any W b)
  rw [_hzb] at HZb
  have HG := fun W => Lib.hid (show Calls Tryz.prog 183 #[.int .u64 9218868437227405312, .bool (fS a != fS b)] W fun e w' => e = .returned (.int .u64 (fsgn (fS a != fS b) fInf : Nat)) ∧ W = w' from fsigned_any W fInf (fS a != fS b) (by decide))
  generalize ((fsgn (fS a != fS b) fInf : Nat) : Int) = V at *
  generalize fS a = sa at *
  generalize fS b = sb at *
  go_enter Tryz.func76, Tryz.ntmps76
  go_wp2_with (first | (go_at_call 162; refine (HN _ _ (by go_simp) (by go_simp)).out.mono ?_; rintro e w1 ⟨rfl, rfl⟩) | (go_at_call 177; (first | refine (HIa _).out.mono ?_ | refine (HIb _).out.mono ?_); rintro e w1 ⟨rfl, rfl⟩) | (go_at_call 174; (first | refine (HZa _).out.mono ?_ | refine (HZb _).out.mono ?_); rintro e w1 ⟨rfl, rfl⟩) | (go_at_call 170; (first | refine (HSa _).out.mono ?_ | refine (HSb _).out.mono ?_); rintro e w1 ⟨rfl, rfl⟩) | (go_at_call 183; refine (HG _).out.mono ?_; rintro e w1 ⟨rfl, rfl⟩) | (go_at_call 179; refine (HO _).out.mono ?_; rintro e w1 ⟨rfl, rfl⟩))
  go_ret
  exact ⟨rfl, zbh⟩

set_option maxRecDepth 100000 in
set_option maxHeartbeats 2000000 in
theorem wdiv_zi (w : World) (a b : Nat) (ha : a < 18446744073709551616) (hb : b < 18446744073709551616) (mode : Int) (_hT : Tab w) (hn : (fnan a || fnan b) = false) (_hia : finf a = false) (_hza : fzero a = true) (_hib : finf b = true) (_hzb : fzero b = false)  :
    Calls Tryz.prog 76 #[.int .u64 a, .int .u64 b, .int .i64 mode] w fun o w' => o = .returned (.int .u64 ((fsgn (fS a != fS b) 0 : Nat) : Int)) ∧ Below w.heap.size w w' := by
  have HN := fun W g h0 h1 => Lib.hid (nan2 W g a b h0 h1)
  rw [hn] at HN
  have HSa := fun W => Lib.hid (fsign_any W a ha)
  have HIa := fun W => Lib.hid (finf_any W a)
  rw [_hia] at HIa
  have HZa := fun W => Lib.hid (fzero_any W a)
  rw [_hza] at HZa
  have HSb := fun W => Lib.hid (fsign_any W b hb)
  have HIb := fun W => Lib.hid (finf_any W b)
  rw [_hib] at HIb
  have HZb := fun W => Lib.hid (fzero_any W b)
  rw [_hzb] at HZb
  have HG := fun W => Lib.hid (show Calls Tryz.prog 183 #[.int .u64 0, .bool (fS a != fS b)] W fun e w' => e = .returned (.int .u64 (fsgn (fS a != fS b) 0 : Nat)) ∧ W = w' from fsigned_any W 0 (fS a != fS b) (by decide))
  generalize ((fsgn (fS a != fS b) 0 : Nat) : Int) = V at *
  generalize fS a = sa at *
  generalize fS b = sb at *
  go_enter Tryz.func76, Tryz.ntmps76
  go_wp2_with (first | (go_at_call 162; refine (HN _ _ (by go_simp) (by go_simp)).out.mono ?_; rintro e w1 ⟨rfl, rfl⟩) | (go_at_call 177; (first | refine (HIa _).out.mono ?_ | refine (HIb _).out.mono ?_); rintro e w1 ⟨rfl, rfl⟩) | (go_at_call 174; (first | refine (HZa _).out.mono ?_ | refine (HZb _).out.mono ?_); rintro e w1 ⟨rfl, rfl⟩) | (go_at_call 170; (first | refine (HSa _).out.mono ?_ | refine (HSb _).out.mono ?_); rintro e w1 ⟨rfl, rfl⟩) | (go_at_call 183; refine (HG _).out.mono ?_; rintro e w1 ⟨rfl, rfl⟩) | (go_at_call 179; refine (HO _).out.mono ?_; rintro e w1 ⟨rfl, rfl⟩))
  go_ret
  exact ⟨rfl, zbh⟩

set_option maxRecDepth 100000 in
set_option maxHeartbeats 2000000 in
theorem wdiv_zn (w : World) (a b : Nat) (ha : a < 18446744073709551616) (hb : b < 18446744073709551616) (mode : Int) (_hT : Tab w) (hn : (fnan a || fnan b) = false) (_hia : finf a = false) (_hza : fzero a = true) (_hib : finf b = false) (_hzb : fzero b = false)  :
    Calls Tryz.prog 76 #[.int .u64 a, .int .u64 b, .int .i64 mode] w fun o w' => o = .returned (.int .u64 ((fsgn (fS a != fS b) 0 : Nat) : Int)) ∧ Below w.heap.size w w' := by
  have HN := fun W g h0 h1 => Lib.hid (nan2 W g a b h0 h1)
  rw [hn] at HN
  have HSa := fun W => Lib.hid (fsign_any W a ha)
  have HIa := fun W => Lib.hid (finf_any W a)
  rw [_hia] at HIa
  have HZa := fun W => Lib.hid (fzero_any W a)
  rw [_hza] at HZa
  have HSb := fun W => Lib.hid (fsign_any W b hb)
  have HIb := fun W => Lib.hid (finf_any W b)
  rw [_hib] at HIb
  have HZb := fun W => Lib.hid (fzero_any W b)
  rw [_hzb] at HZb
  have HG := fun W => Lib.hid (show Calls Tryz.prog 183 #[.int .u64 0, .bool (fS a != fS b)] W fun e w' => e = .returned (.int .u64 (fsgn (fS a != fS b) 0 : Nat)) ∧ W = w' from fsigned_any W 0 (fS a != fS b) (by decide))
  generalize ((fsgn (fS a != fS b) 0 : Nat) : Int) = V at *
  generalize fS a = sa at *
  generalize fS b = sb at *
  go_enter Tryz.func76, Tryz.ntmps76
  go_wp2_with (first | (go_at_call 162; refine (HN _ _ (by go_simp) (by go_simp)).out.mono ?_; rintro e w1 ⟨rfl, rfl⟩) | (go_at_call 177; (first | refine (HIa _).out.mono ?_ | refine (HIb _).out.mono ?_); rintro e w1 ⟨rfl, rfl⟩) | (go_at_call 174; (first | refine (HZa _).out.mono ?_ | refine (HZb _).out.mono ?_); rintro e w1 ⟨rfl, rfl⟩) | (go_at_call 170; (first | refine (HSa _).out.mono ?_ | refine (HSb _).out.mono ?_); rintro e w1 ⟨rfl, rfl⟩) | (go_at_call 183; refine (HG _).out.mono ?_; rintro e w1 ⟨rfl, rfl⟩) | (go_at_call 179; refine (HO _).out.mono ?_; rintro e w1 ⟨rfl, rfl⟩))
  go_ret
  exact ⟨rfl, zbh⟩

set_option maxRecDepth 100000 in
set_option maxHeartbeats 2000000 in
theorem wdiv_ni (w : World) (a b : Nat) (ha : a < 18446744073709551616) (hb : b < 18446744073709551616) (mode : Int) (_hT : Tab w) (hn : (fnan a || fnan b) = false) (_hia : finf a = false) (_hza : fzero a = false) (_hib : finf b = true) (_hzb : fzero b = false)  :
    Calls Tryz.prog 76 #[.int .u64 a, .int .u64 b, .int .i64 mode] w fun o w' => o = .returned (.int .u64 ((fsgn (fS a != fS b) 0 : Nat) : Int)) ∧ Below w.heap.size w w' := by
  have HN := fun W g h0 h1 => Lib.hid (nan2 W g a b h0 h1)
  rw [hn] at HN
  have HSa := fun W => Lib.hid (fsign_any W a ha)
  have HIa := fun W => Lib.hid (finf_any W a)
  rw [_hia] at HIa
  have HZa := fun W => Lib.hid (fzero_any W a)
  rw [_hza] at HZa
  have HSb := fun W => Lib.hid (fsign_any W b hb)
  have HIb := fun W => Lib.hid (finf_any W b)
  rw [_hib] at HIb
  have HZb := fun W => Lib.hid (fzero_any W b)
  rw [_hzb] at HZb
  have HG := fun W => Lib.hid (show Calls Tryz.prog 183 #[.int .u64 0, .bool (fS a != fS b)] W fun e w' => e = .returned (.int .u64 (fsgn (fS a != fS b) 0 : Nat)) ∧ W = w' from fsigned_any W 0 (fS a != fS b) (by decide))
  generalize ((fsgn (fS a != fS b) 0 : Nat) : Int) = V at *
  generalize fS a = sa at *
  generalize fS b = sb at *
  go_enter Tryz.func76, Tryz.ntmps76
  go_wp2_with (first | (go_at_call 162; refine (HN _ _ (by go_simp) (by go_simp)).out.mono ?_; rintro e w1 ⟨rfl, rfl⟩) | (go_at_call 177; (first | refine (HIa _).out.mono ?_ | refine (HIb _).out.mono ?_); rintro e w1 ⟨rfl, rfl⟩) | (go_at_call 174; (first | refine (HZa _).out.mono ?_ | refine (HZb _).out.mono ?_); rintro e w1 ⟨rfl, rfl⟩) | (go_at_call 170; (first | refine (HSa _).out.mono ?_ | refine (HSb _).out.mono ?_); rintro e w1 ⟨rfl, rfl⟩) | (go_at_call 183; refine (HG _).out.mono ?_; rintro e w1 ⟨rfl, rfl⟩) | (go_at_call 179; refine (HO _).out.mono ?_; rintro e w1 ⟨rfl, rfl⟩))
  go_ret
  exact ⟨rfl, zbh⟩

set_option maxRecDepth 100000 in
set_option maxHeartbeats 2000000 in
theorem wdiv_nn (w : World) (a b : Nat) (ha : a < 18446744073709551616) (hb : b < 18446744073709551616) (mode : Int) (_hT : Tab w) (hn : (fnan a || fnan b) = false) (_hia : finf a = false) (_hza : fzero a = false) (_hib : finf b = false) (_hzb : fzero b = false)  :
    Calls Tryz.prog 76 #[.int .u64 a, .int .u64 b, .int .i64 mode] w fun o w' => o = .returned (.int .u64 ((fquo (fof a) (fof b) mode : Nat) : Int)) ∧ Below w.heap.size w w' := by
  have HN := fun W g h0 h1 => Lib.hid (nan2 W g a b h0 h1)
  rw [hn] at HN
  have HSa := fun W => Lib.hid (fsign_any W a ha)
  have HIa := fun W => Lib.hid (finf_any W a)
  rw [_hia] at HIa
  have HZa := fun W => Lib.hid (fzero_any W a)
  rw [_hza] at HZa
  have HSb := fun W => Lib.hid (fsign_any W b hb)
  have HIb := fun W => Lib.hid (finf_any W b)
  rw [_hib] at HIb
  have HZb := fun W => Lib.hid (fzero_any W b)
  rw [_hzb] at HZb
  have HOfa := fun W ht => Lib.hid (fof_any W a ha ht)
  have Na := Lib.hid (isN_fof a)
  have HOfb := fun W ht => Lib.hid (fof_any W b hb ht)
  have Nb := Lib.hid (isN_fof b)
  generalize fof a = da at *
  generalize fof b = db at *
  have HQ := fun W ba qa bb qb (ha' : Mag W ba (nl (dman da).natAbs) qa (dman da).natAbs) (hb' : Mag W bb (nl (dman db).natAbs) qb (dman db).natAbs) ht => Lib.hid (wquo_any W _ _ _ _ _ _ _ _ _ _ _ _ mode _ _ (dyin_of Na.out ha') (dyin_of Nb.out hb') ht)
  generalize ((fquo da db mode : Nat) : Int) = V at *
  go_enter Tryz.func76, Tryz.ntmps76
  go_wp2_with (first | (go_at_call 162; refine (HN _ _ (by go_simp) (by go_simp)).out.mono ?_; rintro e w1 ⟨rfl, rfl⟩) | (go_at_call 177; (first | refine (HIa _).out.mono ?_ | refine (HIb _).out.mono ?_); rintro e w1 ⟨rfl, rfl⟩) | (go_at_call 174; (first | refine (HZa _).out.mono ?_ | refine (HZb _).out.mono ?_); rintro e w1 ⟨rfl, rfl⟩) | (go_at_call 170; (first | refine (HSa _).out.mono ?_ | refine (HSb _).out.mono ?_); rintro e w1 ⟨rfl, rfl⟩) | (go_at_call 183; refine (HG _).out.mono ?_; rintro e w1 ⟨rfl, rfl⟩) | (go_at_call 179; refine (HO _).out.mono ?_; rintro e w1 ⟨rfl, rfl⟩))
  refine (HOfa _ (_hT.below zbh)).out.mono ?_
  rintro e w1 ⟨aa, ca, rfl, Ma, hb, _⟩
  have B1 := below_box (w := w) zbh hb
  clear hb
  go_wp2_with fail
  refine (HOfb _ (_hT.below (have := Beh.mk B1; zbh))).out.mono ?_
  rintro e w2 ⟨ab, cb, rfl, Mb, hb, _⟩
  have Ma : Mag w2 aa (nl (dman da).natAbs) ca (dman da).natAbs := Mag.below (by repeat (with_reducible first | refine Mag.set ?_ (fun h => by have := Ma h; omega) _ _ | refine Mag.drew ?_ | refine Mag.alloc ?_ _ | refine Mag.drewN ?_ _ | exact Ma)) hb
  have B2 := below_box (w := w) (have := Beh.mk B1; zbh) hb
  clear hb
  go_wp2_with fail
  refine (HQ _ aa ca ab cb (by repeat (with_reducible first | refine Mag.set ?_ (fun h => by have := Ma h; omega) _ _ | refine Mag.drew ?_ | refine Mag.alloc ?_ _ | refine Mag.drewN ?_ _ | exact Ma)) (by repeat (with_reducible first | refine Mag.set ?_ (fun h => by have := Mb h; omega) _ _ | refine Mag.drew ?_ | refine Mag.alloc ?_ _ | refine Mag.drewN ?_ _ | exact Mb)) (_hT.below (by have hszw := (B2).size; repeat (with_reducible first | refine Below.setCell ?_ (by first | omega | (simp <;> omega)) _ | refine Below.alloc ?_ (by first | omega | (simp <;> omega)) _ | refine Below.drew ?_ | refine below_drewN ?_ _ | exact B2)))).out.mono ?_
  rintro e w3 ⟨rfl, hb⟩
  have Ma : Mag w3 aa (nl (dman da).natAbs) ca (dman da).natAbs := Mag.below (by repeat (with_reducible first | refine Mag.set ?_ (fun h => by have := Ma h; omega) _ _ | refine Mag.drew ?_ | refine Mag.alloc ?_ _ | refine Mag.drewN ?_ _ | exact Ma)) hb
  have Mb : Mag w3 ab (nl (dman db).natAbs) cb (dman db).natAbs := Mag.below (by repeat (with_reducible first | refine Mag.set ?_ (fun h => by have := Mb h; omega) _ _ | refine Mag.drew ?_ | refine Mag.alloc ?_ _ | refine Mag.drewN ?_ _ | exact Mb)) hb
  have B3 := below_box (w := w) (have := Beh.mk B2; zbh) hb
  clear hb
  go_wp2_with fail
  go_ret
  exact ⟨rfl, (have := Beh.mk B3; zbh)⟩

theorem kinds (f : Nat) : (finf f = true ∧ fzero f = false) ∨ (finf f = false ∧ fzero f = true) ∨ (finf f = false ∧ fzero f = false) := by
  unfold finf fzero
  by_cases h1 : fM f = 9218868437227405312
  · left; rw [h1]; decide
  · by_cases h2 : fM f = 0
    · right; left; rw [h2]; decide
    · right; right; simp [h1, h2]
theorem wmul_any (w : World) (a b : Nat) (ha : a < 18446744073709551616) (hb : b < 18446744073709551616) (mode : Int) (hT : Tab w) :
    Calls Tryz.prog 74 #[.int .u64 a, .int .u64 b, .int .i64 mode] w fun o w' => o = .returned (.int .u64 (fmul a b mode : Nat)) ∧ Below w.heap.size w w' := by
  cases hn : (fnan a || fnan b) with
  | true =>
    have hv : fmul a b mode = fNaN := by unfold fmul; rw [hn]; rfl
    rw [hv]; exact wmul_nan w a b ha hb mode hT hn
  | false =>
    rcases kinds a with ⟨i1, z1⟩ | ⟨i1, z1⟩ | ⟨i1, z1⟩ <;> rcases kinds b with ⟨i2, z2⟩ | ⟨i2, z2⟩ | ⟨i2, z2⟩
    · have hv : fmul a b mode = fsgn (fS a != fS b) fInf := by unfold fmul; rw [hn, i1, i2, z1, z2]; rfl
      rw [hv]; exact wmul_ii w a b ha hb mode hT hn i1 z1 i2 z2
    · have hv : fmul a b mode = fNaN := by unfold fmul; rw [hn, i1, i2, z1, z2]; rfl
      rw [hv]; exact wmul_iz w a b ha hb mode hT hn i1 z1 i2 z2
    · have hv : fmul a b mode = fsgn (fS a != fS b) fInf := by unfold fmul; rw [hn, i1, i2, z1, z2]; rfl
      rw [hv]; exact wmul_in w a b ha hb mode hT hn i1 z1 i2 z2
    · have hv : fmul a b mode = fNaN := by unfold fmul; rw [hn, i1, i2, z1, z2]; rfl
      rw [hv]; exact wmul_zi w a b ha hb mode hT hn i1 z1 i2 z2
    · have hv : fmul a b mode = fsgn (fS a != fS b) 0 := by unfold fmul; rw [hn, i1, i2, z1, z2]; rfl
      rw [hv]; exact wmul_zz w a b ha hb mode hT hn i1 z1 i2 z2
    · have hv : fmul a b mode = fsgn (fS a != fS b) 0 := by unfold fmul; rw [hn, i1, i2, z1, z2]; rfl
      rw [hv]; exact wmul_zn w a b ha hb mode hT hn i1 z1 i2 z2
    · have hv : fmul a b mode = fsgn (fS a != fS b) fInf := by unfold fmul; rw [hn, i1, i2, z1, z2]; rfl
      rw [hv]; exact wmul_ni w a b ha hb mode hT hn i1 z1 i2 z2
    · have hv : fmul a b mode = fsgn (fS a != fS b) 0 := by unfold fmul; rw [hn, i1, i2, z1, z2]; rfl
      rw [hv]; exact wmul_nz w a b ha hb mode hT hn i1 z1 i2 z2
    · have hv : fmul a b mode = fround (dmul (fof a) (fof b)) mode := by unfold fmul; rw [hn, i1, i2, z1, z2]; rfl
      rw [hv]; exact wmul_nn w a b ha hb mode hT hn i1 z1 i2 z2

theorem wdiv_any (w : World) (a b : Nat) (ha : a < 18446744073709551616) (hb : b < 18446744073709551616) (mode : Int) (hT : Tab w) :
    Calls Tryz.prog 76 #[.int .u64 a, .int .u64 b, .int .i64 mode] w fun o w' => o = .returned (.int .u64 (fdiv a b mode : Nat)) ∧ Below w.heap.size w w' := by
  cases hn : (fnan a || fnan b) with
  | true =>
    have hv : fdiv a b mode = fNaN := by unfold fdiv; rw [hn]; rfl
    rw [hv]; exact wdiv_nan w a b ha hb mode hT hn
  | false =>
    rcases kinds a with ⟨i1, z1⟩ | ⟨i1, z1⟩ | ⟨i1, z1⟩ <;> rcases kinds b with ⟨i2, z2⟩ | ⟨i2, z2⟩ | ⟨i2, z2⟩
    · have hv : fdiv a b mode = fNaN := by unfold fdiv; rw [hn, i1, i2, z1, z2]; rfl
      rw [hv]; exact wdiv_ii w a b ha hb mode hT hn i1 z1 i2 z2
    · have hv : fdiv a b mode = fsgn (fS a != fS b) fInf := by unfold fdiv; rw [hn, i1, i2, z1, z2]; rfl
      rw [hv]; exact wdiv_iz w a b ha hb mode hT hn i1 z1 i2 z2
    · have hv : fdiv a b mode = fsgn (fS a != fS b) fInf := by unfold fdiv; rw [hn, i1, i2, z1, z2]; rfl
      rw [hv]; exact wdiv_in w a b ha hb mode hT hn i1 z1 i2 z2
    · have hv : fdiv a b mode = fsgn (fS a != fS b) 0 := by unfold fdiv; rw [hn, i1, i2, z1, z2]; rfl
      rw [hv]; exact wdiv_zi w a b ha hb mode hT hn i1 z1 i2 z2
    · have hv : fdiv a b mode = fNaN := by unfold fdiv; rw [hn, i1, i2, z1, z2]; rfl
      rw [hv]; exact wdiv_zz w a b ha hb mode hT hn i1 z1 i2 z2
    · have hv : fdiv a b mode = fsgn (fS a != fS b) 0 := by unfold fdiv; rw [hn, i1, i2, z1, z2]; rfl
      rw [hv]; exact wdiv_zn w a b ha hb mode hT hn i1 z1 i2 z2
    · have hv : fdiv a b mode = fsgn (fS a != fS b) 0 := by unfold fdiv; rw [hn, i1, i2, z1, z2]; rfl
      rw [hv]; exact wdiv_ni w a b ha hb mode hT hn i1 z1 i2 z2
    · have hv : fdiv a b mode = fsgn (fS a != fS b) fInf := by unfold fdiv; rw [hn, i1, i2, z1, z2]; rfl
      rw [hv]; exact wdiv_nz w a b ha hb mode hT hn i1 z1 i2 z2
    · have hv : fdiv a b mode = fquo (fof a) (fof b) mode := by unfold fdiv; rw [hn, i1, i2, z1, z2]; rfl
      rw [hv]; exact wdiv_nn w a b ha hb mode hT hn i1 z1 i2 z2

end Go.Proofs.YtakbappmkdaioaaGreatDoor


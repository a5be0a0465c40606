/-
  Walks: early errors of Eliminate and Assemble; their results in one form.
-/
import Derived.Test.YtablcbgeeeboeaaGreatDoorZhQo
import Derived.Test.YtablcbgeeeboeaaGreatDoorZhQj
import Derived.Test.YtablcbgeeeboeaaGreatDoorZhQf
import Derived.Test.YtablcbgeeeboeaaGreatDoorZhRt
set_option maxRecDepth 100000
set_option maxHeartbeats 20000000
namespace Go.Proofs.YtablcbgeeeboeaaGreatDoor
open Go.RowKit Sp
attribute [local irreducible] Calls
theorem zLy (w : World) [Tb w] (r c k width : Int) (ae : Option Addr) (M ce : Nat) (B : Nat → Option (Int × Int)) [hB : DZ w ae M ce B] (hE : zD3 r c M (zA5 B M) = 0) (hrc : r ≠ c) :
 Calls Tryz.prog 14 #[.agg #[.int .i64 r, .int .i64 c, .slice ae M ce], .int .i64 k, .int .i64 width] w fun o w' => o = .returned (.tuple #[.agg #[.int .i64 0, .int .i64 0, .slice none 0 0], .agg #[.int .i64 0, .int .i64 0, .slice none 0 0], .int .i64 0, .int .i64 5]) ∧ Below w.heap.size w w' := by
 have HCk := fun W [i : DZ W ae M ce B] [Tb W] => Lib.hid (frm (zB5 i fun L h1 h2 => zAv W tb r c ae M ce L h1 h2))
 have l1 := hB.out.fits
 rw [hE] at HCk
 clear hE
 have hq : (r != c) = true := by rw [bne_iff_ne]; exact hrc
 clear hrc
 go_enter Tryz.func14, Tryz.ntmps14
 go_wp2_with fail
 refine (HCk _).out.mono ?_; rintro o w2 ⟨rfl, b2⟩
 go_wp2_with fail
 refine bodyPost_ret (v := .tuple #[.agg #[.int .i64 0, .int .i64 0, .slice none 0 0], .agg #[.int .i64 0, .int .i64 0, .slice none 0 0], .int .i64 0, .int .i64 5]) (by simp only [results, Tryz.results14]; go_simp) rfl ?_
 exact ⟨rfl, zbh⟩
theorem zJC (w : World) [Tb w] (r c k width : Int) (ae : Option Addr) (M ce : Nat) (B : Nat → Option (Int × Int)) [hB : DZ w ae M ce B] (hE : zD3 r c M (zA5 B M) = 0) (hrc : r = c) (hk : k < 0) :
 Calls Tryz.prog 14 #[.agg #[.int .i64 r, .int .i64 c, .slice ae M ce], .int .i64 k, .int .i64 width] w fun o w' => o = .returned (.tuple #[.agg #[.int .i64 0, .int .i64 0, .slice none 0 0], .agg #[.int .i64 0, .int .i64 0, .slice none 0 0], .int .i64 0, .int .i64 5]) ∧ Below w.heap.size w w' := by
 have HCk := fun W [i : DZ W ae M ce B] [Tb W] => Lib.hid (frm (zB5 i fun L h1 h2 => zAv W tb r c ae M ce L h1 h2))
 have l1 := hB.out.fits
 rw [hE] at HCk
 clear hE
 have hq : (r != c) = false := by rw [hrc]; simp
 have hq3 : decide (k < 0) = true := decide_eq_true hk
 clear hrc
 go_enter Tryz.func14, Tryz.ntmps14
 go_wp2_with fail
 refine (HCk _).out.mono ?_; rintro o w2 ⟨rfl, b2⟩
 go_wp2_with fail
 refine bodyPost_ret (v := .tuple #[.agg #[.int .i64 0, .int .i64 0, .slice none 0 0], .agg #[.int .i64 0, .int .i64 0, .slice none 0 0], .int .i64 0, .int .i64 5]) (by simp only [results, Tryz.results14]; go_simp) rfl ?_
 exact ⟨rfl, zbh⟩
theorem zNQ (w : World) [Tb w] (r c s t m : Nat) (hr : r ≤ 64) (hc : c ≤ 64) (hs : s ≤ 64) (ht : t ≤ 64) (ob oc al : Option Addr) (cb cc cl : Nat) (B C : Nat → Option (Int × Int)) (A : Nat → Int) [hB : DZ w ob (r * c) cb B] [hC : DZ w oc (s * t) cc C] [hA : IZ w al m cl A] (hbB : zA5 B (r * c) = false) (hbC : zA5 C (s * t) = false) (h : r ≠ c) :
 Calls Tryz.prog 33 #[.agg #[.int .i64 r, .int .i64 c, .slice ob (r * c) cb], .slice al m cl, .agg #[.int .i64 s, .int .i64 t, .slice oc (s * t) cc]] w fun o w' => o = .returned (.tuple #[.agg #[.int .i64 0, .int .i64 0, .slice none 0 0], .int .i64 5]) ∧ From w w' := by
 have HC1 := fun W [i : DZ W ob (r * c) cb B] [Tb W] => Lib.hid (frm (zB5 i fun L h1 h2 => zAw W tb r c ob (r * c) cb L h1 h2))
 have HC2 := fun W [i : DZ W oc (s * t) cc C] [Tb W] => Lib.hid (frm (zB5 i fun L h1 h2 => zAw W tb s t oc (s * t) cc L h1 h2))
 rw [zBb hr hc hbB] at HC1
 rw [zBb hs ht hbC] at HC2
 have l1 := hB.out.fits
 have l2 := hC.out.fits
 have l3 := hA.out.lim
 have l4 := hA.out.fits
 generalize r * c = Q at *
 generalize s * t = M at *
 clear hbB hbC
 have q1 : (((r : Nat) : Int) != ((c : Nat) : Int)) = true := by rw [bne_iff_ne]; omega
 go_enter Tryz.func33, Tryz.ntmps33
 go_wp2_with fail
 refine (HC1 _).out.mono ?_; rintro o w1 ⟨rfl, b1⟩
 go_wp2_with fail
 refine (HC2 _).out.mono ?_; rintro o w2 ⟨rfl, b2⟩
 have e1 := b1.out.size
 have e2 := b2.out.size
 (try simp at e1)
 clear HC1 HC2
 go_wp2_with fail
 refine bodyPost_ret (v := .tuple #[.agg #[.int .i64 0, .int .i64 0, .slice none 0 0], .int .i64 5]) (by simp only [results, Tryz.results33]; go_simp) rfl ?_
 exact ⟨rfl, ⟨zbh⟩⟩
theorem zNP (w : World) [Tb w] (r c s t m : Nat) (hr : r ≤ 64) (hc : c ≤ 64) (hs : s ≤ 64) (ht : t ≤ 64) (ob oc al : Option Addr) (cb cc cl : Nat) (B C : Nat → Option (Int × Int)) (A : Nat → Int) [hB : DZ w ob (r * c) cb B] [hC : DZ w oc (s * t) cc C] [hA : IZ w al m cl A] (hbB : zA5 B (r * c) = false) (hbC : zA5 C (s * t) = false) (h0 : r = c) (h : s ≠ t) :
 Calls Tryz.prog 33 #[.agg #[.int .i64 r, .int .i64 c, .slice ob (r * c) cb], .slice al m cl, .agg #[.int .i64 s, .int .i64 t, .slice oc (s * t) cc]] w fun o w' => o = .returned (.tuple #[.agg #[.int .i64 0, .int .i64 0, .slice none 0 0], .int .i64 5]) ∧ From w w' := by
 have HC1 := fun W [i : DZ W ob (r * c) cb B] [Tb W] => Lib.hid (frm (zB5 i fun L h1 h2 => zAw W tb r c ob (r * c) cb L h1 h2))
 have HC2 := fun W [i : DZ W oc (s * t) cc C] [Tb W] => Lib.hid (frm (zB5 i fun L h1 h2 => zAw W tb s t oc (s * t) cc L h1 h2))
 rw [zBb hr hc hbB] at HC1
 rw [zBb hs ht hbC] at HC2
 have l1 := hB.out.fits
 have l2 := hC.out.fits
 have l3 := hA.out.lim
 have l4 := hA.out.fits
 generalize r * c = Q at *
 generalize s * t = M at *
 clear hbB hbC
 subst h0
 have q2 : (((s : Nat) : Int) != ((t : Nat) : Int)) = true := by rw [bne_iff_ne]; omega
 go_enter Tryz.func33, Tryz.ntmps33
 go_wp2_with fail
 refine (HC1 _).out.mono ?_; rintro o w1 ⟨rfl, b1⟩
 go_wp2_with fail
 refine (HC2 _).out.mono ?_; rintro o w2 ⟨rfl, b2⟩
 have e1 := b1.out.size
 have e2 := b2.out.size
 (try simp at e1)
 clear HC1 HC2
 go_wp2_with fail
 refine bodyPost_ret (v := .tuple #[.agg #[.int .i64 0, .int .i64 0, .slice none 0 0], .int .i64 5]) (by simp only [results, Tryz.results33]; go_simp) rfl ?_
 exact ⟨rfl, ⟨zbh⟩⟩
theorem zNO (w : World) [Tb w] (r c s t m : Nat) (hr : r ≤ 64) (hc : c ≤ 64) (hs : s ≤ 64) (ht : t ≤ 64) (ob oc al : Option Addr) (cb cc cl : Nat) (B C : Nat → Option (Int × Int)) (A : Nat → Int) [hB : DZ w ob (r * c) cb B] [hC : DZ w oc (s * t) cc C] [hA : IZ w al m cl A] (hbB : zA5 B (r * c) = false) (hbC : zA5 C (s * t) = false) (h0 : r = c) (h1 : s = t) (h : m ≠ s) :
 Calls Tryz.prog 33 #[.agg #[.int .i64 r, .int .i64 c, .slice ob (r * c) cb], .slice al m cl, .agg #[.int .i64 s, .int .i64 t, .slice oc (s * t) cc]] w fun o w' => o = .returned (.tuple #[.agg #[.int .i64 0, .int .i64 0, .slice none 0 0], .int .i64 5]) ∧ From w w' := by
 have HC1 := fun W [i : DZ W ob (r * c) cb B] [Tb W] => Lib.hid (frm (zB5 i fun L h1 h2 => zAw W tb r c ob (r * c) cb L h1 h2))
 have HC2 := fun W [i : DZ W oc (s * t) cc C] [Tb W] => Lib.hid (frm (zB5 i fun L h1 h2 => zAw W tb s t oc (s * t) cc L h1 h2))
 rw [zBb hr hc hbB] at HC1
 rw [zBb hs ht hbC] at HC2
 have l1 := hB.out.fits
 have l2 := hC.out.fits
 have l3 := hA.out.lim
 have l4 := hA.out.fits
 generalize r * c = Q at *
 generalize s * t = M at *
 clear hbB hbC
 subst h0 h1
 have q3 : (((m : Nat) : Int) != ((s : Nat) : Int)) = true := by rw [bne_iff_ne]; omega
 go_enter Tryz.func33, Tryz.ntmps33
 go_wp2_with fail
 refine (HC1 _).out.mono ?_; rintro o w1 ⟨rfl, b1⟩
 go_wp2_with fail
 refine (HC2 _).out.mono ?_; rintro o w2 ⟨rfl, b2⟩
 have e1 := b1.out.size
 have e2 := b2.out.size
 (try simp at e1)
 clear HC1 HC2
 go_wp2_with fail
 refine bodyPost_ret (v := .tuple #[.agg #[.int .i64 0, .int .i64 0, .slice none 0 0], .int .i64 5]) (by simp only [results, Tryz.results33]; go_simp) rfl ?_
 exact ⟨rfl, ⟨zbh⟩⟩
theorem zNh (w : World) [Tb w] (r c s t m : Nat) (hr : r ≤ 64) (hc : c ≤ 64) (hs : s ≤ 64) (ht : t ≤ 64) (ob oc al : Option Addr) (cb cc cl : Nat) (B C : Nat → Option (Int × Int)) (A : Nat → Int) [hB : DZ w ob (r * c) cb B] [hC : DZ w oc (s * t) cc C] [hA : IZ w al m cl A] (hbB : zA5 B (r * c) = false) (hbC : zA5 C (s * t) = false) (h : r ≠ c) :
 Calls Tryz.prog 34 #[.agg #[.int .i64 r, .int .i64 c, .slice ob (r * c) cb], .slice al m cl, .agg #[.int .i64 s, .int .i64 t, .slice oc (s * t) cc]] w fun o w' => o = .returned (.tuple #[.agg #[.int .i64 0, .int .i64 0, .slice none 0 0], .int .i64 5]) ∧ From w w' := by
 have HC1 := fun W [i : DZ W ob (r * c) cb B] [Tb W] => Lib.hid (frm (zB5 i fun L h1 h2 => zAv W tb r c ob (r * c) cb L h1 h2))
 have HC2 := fun W [i : DZ W oc (s * t) cc C] [Tb W] => Lib.hid (frm (zB5 i fun L h1 h2 => zAv W tb s t oc (s * t) cc L h1 h2))
 rw [zBb hr hc hbB] at HC1
 rw [zBb hs ht hbC] at HC2
 have l1 := hB.out.fits
 have l2 := hC.out.fits
 have l3 := hA.out.lim
 have l4 := hA.out.fits
 generalize r * c = Q at *
 generalize s * t = M at *
 clear hbB hbC
 have q1 : (((r : Nat) : Int) != ((c : Nat) : Int)) = true := by rw [bne_iff_ne]; omega
 go_enter Tryz.func34, Tryz.ntmps34
 go_wp2_with fail
 refine (HC1 _).out.mono ?_; rintro o w1 ⟨rfl, b1⟩
 go_wp2_with fail
 refine (HC2 _).out.mono ?_; rintro o w2 ⟨rfl, b2⟩
 have e1 := b1.out.size
 have e2 := b2.out.size
 (try simp at e1)
 clear HC1 HC2
 go_wp2_with fail
 refine bodyPost_ret (v := .tuple #[.agg #[.int .i64 0, .int .i64 0, .slice none 0 0], .int .i64 5]) (by simp only [results, Tryz.results34]; go_simp) rfl ?_
 exact ⟨rfl, ⟨zbh⟩⟩
theorem zNg (w : World) [Tb w] (r c s t m : Nat) (hr : r ≤ 64) (hc : c ≤ 64) (hs : s ≤ 64) (ht : t ≤ 64) (ob oc al : Option Addr) (cb cc cl : Nat) (B C : Nat → Option (Int × Int)) (A : Nat → Int) [hB : DZ w ob (r * c) cb B] [hC : DZ w oc (s * t) cc C] [hA : IZ w al m cl A] (hbB : zA5 B (r * c) = false) (hbC : zA5 C (s * t) = false) (h0 : r = c) (h : s ≠ t) :
 Calls Tryz.prog 34 #[.agg #[.int .i64 r, .int .i64 c, .slice ob (r * c) cb], .slice al m cl, .agg #[.int .i64 s, .int .i64 t, .slice oc (s * t) cc]] w fun o w' => o = .returned (.tuple #[.agg #[.int .i64 0, .int .i64 0, .slice none 0 0], .int .i64 5]) ∧ From w w' := by
 have HC1 := fun W [i : DZ W ob (r * c) cb B] [Tb W] => Lib.hid (frm (zB5 i fun L h1 h2 => zAv W tb r c ob (r * c) cb L h1 h2))
 have HC2 := fun W [i : DZ W oc (s * t) cc C] [Tb W] => Lib.hid (frm (zB5 i fun L h1 h2 => zAv W tb s t oc (s * t) cc L h1 h2))
 rw [zBb hr hc hbB] at HC1
 rw [zBb hs ht hbC] at HC2
 have l1 := hB.out.fits
 have l2 := hC.out.fits
 have l3 := hA.out.lim
 have l4 := hA.out.fits
 generalize r * c = Q at *
 generalize s * t = M at *
 clear hbB hbC
 subst h0
 have q2 : (((s : Nat) : Int) != ((t : Nat) : Int)) = true := by rw [bne_iff_ne]; omega
 go_enter Tryz.func34, Tryz.ntmps34
 go_wp2_with fail
 refine (HC1 _).out.mono ?_; rintro o w1 ⟨rfl, b1⟩
 go_wp2_with fail
 refine (HC2 _).out.mono ?_; rintro o w2 ⟨rfl, b2⟩
 have e1 := b1.out.size
 have e2 := b2.out.size
 (try simp at e1)
 clear HC1 HC2
 go_wp2_with fail
 refine bodyPost_ret (v := .tuple #[.agg #[.int .i64 0, .int .i64 0, .slice none 0 0], .int .i64 5]) (by simp only [results, Tryz.results34]; go_simp) rfl ?_
 exact ⟨rfl, ⟨zbh⟩⟩
theorem zNf (w : World) [Tb w] (r c s t m : Nat) (hr : r ≤ 64) (hc : c ≤ 64) (hs : s ≤ 64) (ht : t ≤ 64) (ob oc al : Option Addr) (cb cc cl : Nat) (B C : Nat → Option (Int × Int)) (A : Nat → Int) [hB : DZ w ob (r * c) cb B] [hC : DZ w oc (s * t) cc C] [hA : IZ w al m cl A] (hbB : zA5 B (r * c) = false) (hbC : zA5 C (s * t) = false) (h0 : r = c) (h1 : s = t) (h : m ≠ s) :
 Calls Tryz.prog 34 #[.agg #[.int .i64 r, .int .i64 c, .slice ob (r * c) cb], .slice al m cl, .agg #[.int .i64 s, .int .i64 t, .slice oc (s * t) cc]] w fun o w' => o = .returned (.tuple #[.agg #[.int .i64 0, .int .i64 0, .slice none 0 0], .int .i64 5]) ∧ From w w' := by
 have HC1 := fun W [i : DZ W ob (r * c) cb B] [Tb W] => Lib.hid (frm (zB5 i fun L h1 h2 => zAv W tb r c ob (r * c) cb L h1 h2))
 have HC2 := fun W [i : DZ W oc (s * t) cc C] [Tb W] => Lib.hid (frm (zB5 i fun L h1 h2 => zAv W tb s t oc (s * t) cc L h1 h2))
 rw [zBb hr hc hbB] at HC1
 rw [zBb hs ht hbC] at HC2
 have l1 := hB.out.fits
 have l2 := hC.out.fits
 have l3 := hA.out.lim
 have l4 := hA.out.fits
 generalize r * c = Q at *
 generalize s * t = M at *
 clear hbB hbC
 subst h0 h1
 have q3 : (((m : Nat) : Int) != ((s : Nat) : Int)) = true := by rw [bne_iff_ne]; omega
 go_enter Tryz.func34, Tryz.ntmps34
 go_wp2_with fail
 refine (HC1 _).out.mono ?_; rintro o w1 ⟨rfl, b1⟩
 go_wp2_with fail
 refine (HC2 _).out.mono ?_; rintro o w2 ⟨rfl, b2⟩
 have e1 := b1.out.size
 have e2 := b2.out.size
 (try simp at e1)
 clear HC1 HC2
 go_wp2_with fail
 refine bodyPost_ret (v := .tuple #[.agg #[.int .i64 0, .int .i64 0, .slice none 0 0], .int .i64 5]) (by simp only [results, Tryz.results34]; go_simp) rfl ?_
 exact ⟨rfl, ⟨zbh⟩⟩
theorem zKR (w : World) [Tb w] (n m : Nat) (hn : n ≤ 64) (hm : m ≤ 64) (ob oc al : Option Addr) (cb cc cl : Nat) (B C : Nat → Option (Int × Int)) (A : Nat → Int) [hB : DZ w ob (n * n) cb B] [hC : DZ w oc (m * m) cc C] [hA : IZ w al m cl A] (hbB : zA5 B (n * n) = false) (hbC : zA5 C (m * m) = false) (hrows : zBA A n m = false) :
 Calls Tryz.prog 33 #[.agg #[.int .i64 n, .int .i64 n, .slice ob (n * n) cb], .slice al m cl, .agg #[.int .i64 m, .int .i64 m, .slice oc (m * m) cc]] w fun o w' => o = .returned (.tuple #[.agg #[.int .i64 0, .int .i64 0, .slice none 0 0], .int .i64 232]) ∧ From w w' := by
 have HC1 := fun W [i : DZ W ob (n * n) cb B] [Tb W] => Lib.hid (frm (zB5 i fun L h1 h2 => zAw W tb n n ob (n * n) cb L h1 h2))
 have HC2 := fun W [i : DZ W oc (m * m) cc C] [Tb W] => Lib.hid (frm (zB5 i fun L h1 h2 => zAw W tb m m oc (m * m) cc L h1 h2))
 rw [zBb hn hn hbB] at HC1
 rw [zBb hm hm hbC] at HC2
 have HRO := fun W [IZ W al m cl A] => Lib.hid (frm (zEH W al m cl A (n : Int)))
 rw [hrows] at HRO
 have HR := Lib.hid hrows
 have l1 := hB.out.fits
 have l2 := hC.out.fits
 have l3 := hA.out.lim
 have l4 := hA.out.fits
 generalize n * n = Q at *
 generalize m * m = M at *
 clear hbB hbC hrows
 go_enter Tryz.func33, Tryz.ntmps33
 go_wp2_with fail
 refine (HC1 _).out.mono ?_; rintro o w1 ⟨rfl, b1⟩
 go_wp2_with fail
 refine (HC2 _).out.mono ?_; rintro o w2 ⟨rfl, b2⟩
 have e1 := b1.out.size
 have e2 := b2.out.size
 (try simp at e1)
 clear HC1 HC2
 go_wp2_with fail
 refine (HRO _).out.mono ?_; rintro o w3 ⟨rfl, b3⟩
 go_wp2_with fail
 refine bodyPost_ret (v := .tuple #[.agg #[.int .i64 0, .int .i64 0, .slice none 0 0], .int .i64 232]) (by simp only [results, Tryz.results33]; go_simp) rfl ?_
 exact ⟨rfl, ⟨zbh⟩⟩
theorem zJK (w : World) [Tb w] (n m : Nat) (hn : n ≤ 64) (hm : m ≤ 64) (ob oc al : Option Addr) (cb cc cl : Nat) (B C : Nat → Option (Int × Int)) (A : Nat → Int) [hB : DZ w ob (n * n) cb B] [hC : DZ w oc (m * m) cc C] [hA : IZ w al m cl A] (hbB : zA5 B (n * n) = false) (hbC : zA5 C (m * m) = false) (hrows : zBA A n m = false) :
 Calls Tryz.prog 34 #[.agg #[.int .i64 n, .int .i64 n, .slice ob (n * n) cb], .slice al m cl, .agg #[.int .i64 m, .int .i64 m, .slice oc (m * m) cc]] w fun o w' => o = .returned (.tuple #[.agg #[.int .i64 0, .int .i64 0, .slice none 0 0], .int .i64 232]) ∧ From w w' := by
 have HC1 := fun W [i : DZ W ob (n * n) cb B] [Tb W] => Lib.hid (frm (zB5 i fun L h1 h2 => zAv W tb n n ob (n * n) cb L h1 h2))
 have HC2 := fun W [i : DZ W oc (m * m) cc C] [Tb W] => Lib.hid (frm (zB5 i fun L h1 h2 => zAv W tb m m oc (m * m) cc L h1 h2))
 rw [zBb hn hn hbB] at HC1
 rw [zBb hm hm hbC] at HC2
 have HR := Lib.hid hrows
 have l1 := hB.out.fits
 have l2 := hC.out.fits
 have l3 := hA.out.lim
 have l4 := hA.out.fits
 generalize n * n = Q at *
 generalize m * m = M at *
 clear hbB hbC hrows
 go_enter Tryz.func34, Tryz.ntmps34
 go_wp2_with fail
 refine (HC1 _).out.mono ?_; rintro o w1 ⟨rfl, b1⟩
 go_wp2_with fail
 refine (HC2 _).out.mono ?_; rintro o w2 ⟨rfl, b2⟩
 have e1 := b1.out.size
 have e2 := b2.out.size
 (try simp at e1)
 clear HC1 HC2
 go_wp2_with fail
 go_loopw [10] (fun x wr => ∃ i : Nat, i ≤ m ∧ x = .int .i64 i ∧ zBA A n i = true ∧ Below w2.heap.size w2 wr) (fun x _ => m - (intOf x).toNat)
 case atStart => exact ⟨0, by omega, rfl, rfl, zbh⟩
 case round =>
  obtain ⟨i, hi, rfl, hok, hbr⟩ := hrel
  haveI bw : From w2 wr := ⟨hbr⟩
  have HOK := Lib.hid hok
  have e3 := hbr.size
  clear hok hbr
  by_cases hlt : i < m
  · have k1 := (inferInstance : IZ wr al m cl A).out
    have y1 := k1.idx i hlt
    haveI z1 : CE wr (ab al) (ao al + i) (.int .i64 (A i)) := ⟨k1.cell i hlt, k1.old (by omega)⟩
    cases hh : zFZ A n i with
    | false =>
     have hn : ¬ (0 ≤ A i ∧ A i < n ∧ (i = 0 ∨ A (i - 1) < A i)) := of_decide_eq_false hh
     clear hh
     by_cases h0 : A i < 0
     · have d0 : decide (A i < 0) = true := decide_eq_true h0
       generalize A i = x at *
       clear hn k1 h0
       go_wp2_with fail
       go_quiet (fail)
       all_goals (
        go_wp2_with fail
        refine bodyPost_ret (v := .tuple #[.agg #[.int .i64 0, .int .i64 0, .slice none 0 0], .int .i64 232]) (by simp only [results, Tryz.results34]; go_simp) rfl ?_
        exact ⟨rfl, ⟨zbh⟩⟩)
     · have d0 : decide (A i < 0) = false := decide_eq_false h0
       by_cases h1 : (n : Int) ≤ A i
       · have d1 : decide ((n : Int) ≤ A i) = true := decide_eq_true h1
         generalize A i = x at *
         clear hn k1 h0 h1
         go_wp2_with fail
         go_quiet (fail)
         all_goals (
          go_wp2_with fail
          refine bodyPost_ret (v := .tuple #[.agg #[.int .i64 0, .int .i64 0, .slice none 0 0], .int .i64 232]) (by simp only [results, Tryz.results34]; go_simp) rfl ?_
          exact ⟨rfl, ⟨zbh⟩⟩)
       · have d1 : decide ((n : Int) ≤ A i) = false := decide_eq_false h1
         have d2 : decide (0 < i) = true := decide_eq_true (by omega)
         have d2' : decide ((0 : Int) < (i : Int)) = true := decide_eq_true (by omega)
         have d3 : decide (A i ≤ A (i - 1)) = true := decide_eq_true (by omega)
         have y2 := k1.idx (i - 1) (by omega)
         haveI z2 : CE wr (ab al) (ao al + (i - 1)) (.int .i64 (A (i - 1))) := ⟨k1.cell _ (by omega), k1.old (by omega)⟩
         rw [show ((i - 1 : Nat) : Int) = (i : Int) - 1 by omega] at y2
         have x9 : IntKind.i64.wrap ((i : Int) - 1) = (i : Int) - 1 := by rw [IntKind.wrap_i64]; omega
         generalize A (i - 1) = x1 at *
         generalize A i = x at *
         generalize i - 1 = i1 at *
         clear hn k1 h0 h1
         go_wp2_with fail
         go_quiet (fail)
         all_goals (
          go_wp2_with fail
          refine bodyPost_ret (v := .tuple #[.agg #[.int .i64 0, .int .i64 0, .slice none 0 0], .int .i64 232]) (by simp only [results, Tryz.results34]; go_simp) rfl ?_
          exact ⟨rfl, ⟨zbh⟩⟩)
    | true =>
     have hy : 0 ≤ A i ∧ A i < n ∧ (i = 0 ∨ A (i - 1) < A i) := of_decide_eq_true hh
     have HN : Hid (zBA A n (i + 1) = true) := Lib.hid (by show (zBA A n i && zFZ A n i) = true; rw [HOK.out, hh]; rfl)
     clear hh
     have d0 : decide (A i < 0) = false := decide_eq_false (by omega)
     have d1 : decide ((n : Int) ≤ A i) = false := decide_eq_false (by omega)
     by_cases h2 : i = 0
     · have d2 : decide (0 < i) = false := decide_eq_false (by omega)
       have d2' : decide ((0 : Int) < (i : Int)) = false := decide_eq_false (by omega)
       generalize A i = x at *
       clear hy k1 h2
       go_wp2_with fail
       go_quiet (fail)
       all_goals (
        go_wp2_with fail
        go_roundw
        case rel => exact ⟨i + 1, by omega, by go_num, HN.out, zbh⟩
        case measure => simp [intOf]; omega)
     · have d2 : decide (0 < i) = true := decide_eq_true (by omega)
       have d2' : decide ((0 : Int) < (i : Int)) = true := decide_eq_true (by omega)
       have d3 : decide (A i ≤ A (i - 1)) = false := decide_eq_false (by omega)
       have y2 := k1.idx (i - 1) (by omega)
       haveI z2 : CE wr (ab al) (ao al + (i - 1)) (.int .i64 (A (i - 1))) := ⟨k1.cell _ (by omega), k1.old (by omega)⟩
       rw [show ((i - 1 : Nat) : Int) = (i : Int) - 1 by omega] at y2
       have x9 : IntKind.i64.wrap ((i : Int) - 1) = (i : Int) - 1 := by rw [IntKind.wrap_i64]; omega
       generalize A (i - 1) = x1 at *
       generalize A i = x at *
       generalize i - 1 = i1 at *
       clear hy k1 h2
       go_wp2_with fail
       go_quiet (fail)
       all_goals (
        go_wp2_with fail
        go_roundw
        case rel => exact ⟨i + 1, by omega, by go_num, HN.out, zbh⟩
        case measure => simp [intOf]; omega)
  · have him : i = m := by omega
    have := HOK.out
    rw [him, HR.out] at this
    cases this
end Go.Proofs.YtablcbgeeeboeaaGreatDoor
namespace Go.Proofs.YtablcbgeeeboeaaGreatDoor
open Go.RowKit Sp
def b4 (t : Nat) : Option (Int × Int) := match t with | 0 => nrm 4 0 | 1 => nrm 2 0 | 2 => nrm 2 0 | 3 => nrm 5 0 | _ => some (0, 0)
theorem zKk (t : Nat) : IsN (b4 t) := by
 unfold b4
 split
 · exact zB7 _ _
 · exact zB7 _ _
 · exact zB7 _ _
 · exact zB7 _ _
 · rw [← zBc 0]; exact zB7 _ _
theorem zPE (V : Nat → Nat) (i j : Nat) : zAQ b4 2 V i j 0 = zAQ b4 2 (fun _ => 0) i j 0 := zD0 fun _ hc => absurd hc (Nat.not_lt_zero _)
theorem zNW (V : Nat → Nat) : zAQ b4 2 V 0 0 0 = some (1, 2) := (zPE V 0 0).trans (by decide +kernel)
theorem zOV (V : Nat → Nat) : zAQ b4 2 V 1 0 0 = some (1, 1) := (zPE V 1 0).trans (by decide +kernel)
theorem zOj : zBE (some (1, 2)) 0 = 4611686018427387904 := by
 show (if (1 : Int) < 0 then zIU else if (1 : Int) = 0 then 0 else zCf false (isq ((1 : Int).natAbs * 2 ^ rsh 1 2 56)) ((2 - (rsh 1 2 56 : Nat)) / 2) (decide (isq ((1 : Int).natAbs * 2 ^ rsh 1 2 56) * isq ((1 : Int).natAbs * 2 ^ rsh 1 2 56) ≠ (1 : Int).natAbs * 2 ^ rsh 1 2 56)) 0) = _
 rw [if_neg (by decide), if_neg (by decide), show rsh 1 2 56 = 118 by decide +kernel, show (1 : Int).natAbs * 2 ^ 118 = 2 ^ 59 * 2 ^ 59 by decide +kernel, zOD]
 decide +kernel
theorem zNl (V : Nat → Nat) : zE8 b4 2 V 0 0 = 4611686018427387904 := by unfold zE8; rw [if_pos rfl, zNW, zOj]
theorem zJS (V : Nat → Nat) : zE8 b4 2 V 0 1 = 4607182418800017408 := by
 unfold zE8; rw [if_neg (by decide), zOV, zNW, zOj]; decide +kernel
theorem zPn : pan b4 2 1 1 = 4607182418800017408 := by
 simp only [pan]
 rw [if_pos (by decide), if_neg (by decide)]
 exact zJS _
theorem zPt : zGD b4 2 1 = 0 := zCI _ _ fun j h1 h2 => by
 obtain rfl : j = 0 := by omega
 refine zCI _ _ fun i h3 h4 => ?_
 unfold zD4
 rcases (show i = 0 ∨ i = 1 by omega) with rfl | rfl
 · rw [zNW, zNl, if_neg (by decide), if_neg (by decide), if_pos (by decide)]
 · rw [zOV, zJS, if_neg (by decide), if_neg (by decide), if_pos (by decide)]
theorem zOo : zAQ b4 2 (pan b4 2 1) 1 1 1 = some (1, 2) := by
 rw [zD0 (V' := fun _ => 4607182418800017408) (fun c hc => by obtain rfl : c = 0 := (by omega); exact ⟨zPn, zPn⟩)]
 decide +kernel
theorem zPv : zEy b4 2 1 = 0 := zCI _ _ fun j h1 h2 => by
 obtain rfl : j = 1 := by omega
 refine zCI _ _ fun i h3 h4 => ?_
 obtain rfl : i = 1 := by omega
 unfold zFd
 rw [zOo]; rfl
theorem zMV : zBh b4 2 1 = 0 := by unfold zBh; rw [if_pos zPt, zPv]
theorem zOP : zBo b4 2 1 = 1 := by unfold zBo; rw [if_pos zMV]
theorem zOn : rest b4 2 1 0 = some (1, 2) := by unfold rest; exact zOo
theorem zPK : zA5 b4 4 = false := by decide +kernel
end Go.Proofs.YtablcbgeeeboeaaGreatDoor
set_option maxRecDepth 100000
set_option maxHeartbeats 20000000
namespace Go.Proofs.YtablcbgeeeboeaaGreatDoor
open Go.RowKit Sp
theorem dz4 {W : World} (d : Nat → Option (Int × Int)) (A : Nat → Option Addr) (C : Nat → Nat) (hN : ∀ i, IsN (d i)) (hm : ∀ i, i < 4 → Mag W (A i) (nl (zA1 (d i)).natAbs) (C i) (zA1 (d i)).natAbs) {g : Nat} (hg : g = W.heap.size) :
 Dz (W.alloc (.cells #[.bool (zA3 (d 0)), .bool (decide (zA1 (d 0) < 0)), .slice (A 0) (nl (zA1 (d 0)).natAbs) (C 0), .int .i64 (zA2 (d 0)), .bool (zA3 (d 1)), .bool (decide (zA1 (d 1) < 0)), .slice (A 1) (nl (zA1 (d 1)).natAbs) (C 1), .int .i64 (zA2 (d 1)), .bool (zA3 (d 2)), .bool (decide (zA1 (d 2) < 0)), .slice (A 2) (nl (zA1 (d 2)).natAbs) (C 2), .int .i64 (zA2 (d 2)), .bool (zA3 (d 3)), .bool (decide (zA1 (d 3) < 0)), .slice (A 3) (nl (zA1 (d 3)).natAbs) (C 3), .int .i64 (zA2 (d 3))] 46)) (some ⟨g, 0, none⟩) 4 4 d := by
 subst hg
 refine ⟨⟨A, C, ⟨by omega, by omega, fun _ => rfl, fun i hi => ?_, fun i hi => ?_, fun i hi => ?_, fun i hi => ?_, fun i hi => (hm i hi).alloc _, fun i hi => ?_, fun _ => by show W.heap.size < _; simp⟩⟩, fun i _ => hN i⟩
 · rcases (show i = 0 ∨ i = 1 ∨ i = 2 ∨ i = 3 by omega) with rfl | rfl | rfl | rfl <;> (rw [zAo, zAO, World.cell?_alloc_new]; rfl)
 · rcases (show i = 0 ∨ i = 1 ∨ i = 2 ∨ i = 3 by omega) with rfl | rfl | rfl | rfl <;> (rw [zAo, zAO, World.cell?_alloc_new]; rfl)
 · rcases (show i = 0 ∨ i = 1 ∨ i = 2 ∨ i = 3 by omega) with rfl | rfl | rfl | rfl <;> (rw [zAo, zAO, World.cell?_alloc_new]; rfl)
 · rcases (show i = 0 ∨ i = 1 ∨ i = 2 ∨ i = 3 by omega) with rfl | rfl | rfl | rfl <;> (rw [zAo, zAO, World.cell?_alloc_new]; rfl)
 · have := zA7 (hN i)
   exact ⟨by show -9223372036854775808 ≤ zA2 (d i); omega, by show zA2 (d i) ≤ 9223372036854775807; omega⟩
theorem zPI {W : World} (d : Nat → Option (Int × Int)) (hN : ∀ i, IsN (d i)) {e0 e1 e2 e3 : Option (Int × Int)} {a0 a1 a2 a3 : Option Addr} {c0 c1 c2 c3 : Nat} (h0 : d 0 = e0) (h1 : d 1 = e1) (h2 : d 2 = e2) (h3 : d 3 = e3)
 (m0 : Mag W a0 (nl (zA1 e0).natAbs) c0 (zA1 e0).natAbs) (m1 : Mag W a1 (nl (zA1 e1).natAbs) c1 (zA1 e1).natAbs) (m2 : Mag W a2 (nl (zA1 e2).natAbs) c2 (zA1 e2).natAbs) (m3 : Mag W a3 (nl (zA1 e3).natAbs) c3 (zA1 e3).natAbs) {g : Nat} (hg : g = W.heap.size) :
 Dz (W.alloc (.cells #[.bool (zA3 e0), .bool (decide (zA1 e0 < 0)), .slice a0 (nl (zA1 e0).natAbs) c0, .int .i64 (zA2 e0), .bool (zA3 e1), .bool (decide (zA1 e1 < 0)), .slice a1 (nl (zA1 e1).natAbs) c1, .int .i64 (zA2 e1), .bool (zA3 e2), .bool (decide (zA1 e2 < 0)), .slice a2 (nl (zA1 e2).natAbs) c2, .int .i64 (zA2 e2), .bool (zA3 e3), .bool (decide (zA1 e3 < 0)), .slice a3 (nl (zA1 e3).natAbs) c3, .int .i64 (zA2 e3)] 46)) (some ⟨g, 0, none⟩) 4 4 d := by
 subst h0 h1 h2 h3
 exact dz4 d (fun i => match i with | 0 => a0 | 1 => a1 | 2 => a2 | _ => a3) (fun i => match i with | 0 => c0 | 1 => c1 | 2 => c2 | _ => c3) hN (fun i hi => by
  rcases (show i = 0 ∨ i = 1 ∨ i = 2 ∨ i = 3 by omega) with rfl | rfl | rfl | rfl
  · exact m0
  · exact m1
  · exact m2
  · exact m3) hg
attribute [local irreducible] Calls
theorem zEv (w : World) [Tb w] : Calls Tryz.prog 17 #[] w fun o w' => o = .returned (.bool true) ∧ Below w.heap.size w w' := by
 have H4 := fun W [Tb W] => Lib.hid (frI (zBL W 4 tb (by omega) (by omega)))
 have H2 := fun W [Tb W] => Lib.hid (frI (zBL W 2 tb (by omega) (by omega)))
 have H5 := fun W [Tb W] => Lib.hid (frI (zBL W 5 tb (by omega) (by omega)))
 have HE := fun W a c [DZ W a 4 c b4] [Tb W] => Lib.hid (zGw W 2 1 1 a 4 c b4 rfl (by omega) zKk zPK (by omega) (by omega) (by omega))
 rw [zMV, zOP] at HE
 obtain ⟨d4, h4⟩ : ∃ d, d = nrm 4 0 := ⟨_, rfl⟩
 obtain ⟨d2, h2⟩ : ∃ d, d = nrm 2 0 := ⟨_, rfl⟩
 obtain ⟨d5, h5⟩ : ∃ d, d = nrm 5 0 := ⟨_, rfl⟩
 rw [← h4] at H4
 rw [← h2] at H2
 rw [← h5] at H5
 have h40 := Lib.hid (show b4 0 = d4 from h4.symm)
 have h41 := Lib.hid (show b4 1 = d2 from h2.symm)
 have h42 := Lib.hid (show b4 2 = d2 from h2.symm)
 have h43 := Lib.hid (show b4 3 = d5 from h5.symm)
 have hr4 := Lib.hid (show d4 = some (1, 2) by rw [h4]; decide)
 clear h4 h2 h5
 go_enter Tryz.func17, Tryz.ntmps17
 go_wp2_with fail
 refine (H4 _).out.mono ?_; rintro o w1 ⟨a1, c1, rfl, i1, b1⟩
 go_wp2_with fail
 refine (H2 _).out.mono ?_; rintro o w2 ⟨a2, c2, rfl, i2, b2⟩
 go_wp2_with fail
 refine (H5 _).out.mono ?_; rintro o w3 ⟨a3, c3, rfl, i3, b3⟩
 go_wp2_with fail
 have hDz := zPI (W := ((w3.alloc (.cells #[.bool (zA3 d4), .bool (decide (zA1 d4 < 0)), .slice a1 (nl (zA1 d4).natAbs) c1, .int .i64 (zA2 d4)] 46)).alloc (.cells #[.bool (zA3 d2), .bool (decide (zA1 d2 < 0)), .slice a2 (nl (zA1 d2).natAbs) c2, .int .i64 (zA2 d2)] 46)).alloc (.cells #[.bool (zA3 d5), .bool (decide (zA1 d5 < 0)), .slice a3 (nl (zA1 d5).natAbs) c3, .int .i64 (zA2 d5)] 46)) b4 zKk h40.out h41.out h42.out h43.out (inferInstance : BI _ a1 (nl (zA1 d4).natAbs) c1 (zA1 d4).natAbs).out (inferInstance : BI _ a2 (nl (zA1 d2).natAbs) c2 (zA1 d2).natAbs).out (inferInstance : BI _ a2 (nl (zA1 d2).natAbs) c2 (zA1 d2).natAbs).out (inferInstance : BI _ a3 (nl (zA1 d5).natAbs) c3 (zA1 d5).natAbs).out (g := w3.heap.size + 1 + 1 + 1) (by simp)
 haveI hDZ := DZ.mk hDz
 clear hDz
 refine (HE _ _ _).out.mono ?_
 rintro o w4 ⟨pr, pc, r, pa, oa, pm, pcp, m, oc, V, D, rfl, ⟨⟨_, hF⟩, hD0, hDN⟩, h5, _, b4'⟩
 have hD := hD0.dz hDN
 obtain ⟨rfl, rfl, rfl, rfl, rfl, hV, hR⟩ := h5 (by first | exact rfl | trivial)
 haveI f4 : From _ w4 := ⟨b4'⟩
 have v1 : V 1 = 4607182418800017408 := (hV 1 (by omega)).trans zPn
 have r0 : D 0 = d4 := ((hR 0 (by omega)).trans zOn).trans hr4.out.symm
 have hF1 := hF.cell 1 (by omega)
 have hF2 : ∀ W, (Instr.indexAt 28 (.slice pa 2 pcp) (.int .i64 1)).run Tryz.prog W = .ok (.pointer (some ⟨ab pa, ao pa + 1, none⟩)) W := hF.idx 1 (by omega)
 have hF3 := hF.old (by omega)
 rw [v1] at hF1
 haveI zF : CE w4 (ab pa) (ao pa + 1) (.int .u64 4607182418800017408) := ⟨hF1, hF3⟩
 obtain ⟨p0, q0, z0, z1, z2, z3, z4⟩ := hD.el (i := 0) (by omega)
 have hD2 : ∀ W, (Instr.indexAt 23 (.slice oa 1 oc) (.int .i64 0)).run Tryz.prog W = .ok (.pointer (some ⟨ab oa, ao oa, none⟩)) W := hD.idx 0 (by omega)
 rw [r0] at z0 z1 z2 z3 z4
 simp only [Nat.zero_mul, Nat.add_zero] at z0 z1 z2 z3
 have HS := fun W p q p' q' [i : BI W p (nl (zA1 d4).natAbs) q (zA1 d4).natAbs] [j : BI W p' (nl (zA1 d4).natAbs) q' (zA1 d4).natAbs] [Tb W] => Lib.hid (by
  have hN4 : IsN d4 := by have := zKk 0; rwa [h40.out] at this
  haveI x1 : DS W (zA3 d4) (decide (zA1 d4 < 0)) p (nl (zA1 d4).natAbs) q (zA2 d4) d4 := ⟨zBp hN4 i.out⟩
  haveI x2 : DS W (zA3 d4) (decide (zA1 d4 < 0)) p' (nl (zA1 d4).natAbs) q' (zA2 d4) d4 := ⟨zBp hN4 j.out⟩
  exact frm (zGn W (zA3 d4) (decide (zA1 d4 < 0)) (zA3 d4) (decide (zA1 d4 < 0)) p p' (nl (zA1 d4).natAbs) (nl (zA1 d4).natAbs) q q' (zA2 d4) (zA2 d4) d4 d4 true (by simp)))
 clear hF hD hD0 hDN hV hR b4' v1 r0 hF1 h40 h41 h42 h43 hr4 HE H4 H2 H5
 go_wp2_with fail
 first
 | go_region_held3 (fun w' => w'.cell? ⟨w4.heap.size, 2, none⟩ = some (.slice pa 2 pcp) ∧ w'.cell? ⟨w4.heap.size + 1, 2, none⟩ = some (.slice oa 1 oc) ∧ w'.cell? ⟨ab pa, ao pa + 1, none⟩ = some (.int .u64 4607182418800017408) ∧ w'.cell? ⟨ab oa, ao oa, none⟩ = some (.bool (zA3 d4)) ∧ w'.cell? ⟨ab oa, ao oa + 1, none⟩ = some (.bool (decide (zA1 d4 < 0))) ∧ w'.cell? ⟨ab oa, ao oa + 2, none⟩ = some (.slice p0 (nl (zA1 d4).natAbs) q0) ∧ w'.cell? ⟨ab oa, ao oa + 3, none⟩ = some (.int .i64 (zA2 d4)) ∧ w'.cell? ⟨w3.heap.size, 0, none⟩ = some (.bool (zA3 d4)) ∧ w'.cell? ⟨w3.heap.size, 1, none⟩ = some (.bool (decide (zA1 d4 < 0))) ∧ w'.cell? ⟨w3.heap.size, 2, none⟩ = some (.slice a1 (nl (zA1 d4).natAbs) c1) ∧ w'.cell? ⟨w3.heap.size, 3, none⟩ = some (.int .i64 (zA2 d4))) (first | (go_simp; done))
  (first
   | (go_at_call 24; refine (HS _ _ _ _ _).out.mono ?_; rintro o w5 ⟨rfl, b5⟩)
   | fail)
 | fail "region"
 all_goals (
  go_wp2_with fail
  go_ret
  exact ⟨rfl, zbh⟩)
end Go.Proofs.YtablcbgeeeboeaaGreatDoor

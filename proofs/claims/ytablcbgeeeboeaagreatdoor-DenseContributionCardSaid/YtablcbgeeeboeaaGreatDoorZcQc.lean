/-
  Walks: the law DenseContribution.
-/
import Derived.WalkKit
import Derived.Lib.Hide
import Derived.Deep.QuietTactic
import Derived.Laws.CopyOwn
import Derived.WalkLawsBesides
import Derived.WalkSpells
import Derived.BigQuiet
import Derived.Lib.Strings
import Derived.Lib.Slices
import Derived.Lib.Small
import Derived.Lib.Walk
import Derived.Lib.BitFns
import Derived.Deep.DeepCutAuto
import Derived.Deep.CutBlock
import Derived.Deep.LoopGhost
import Derived.Deep.RegionHeld3
import Derived.ProofKit
import Derived.OpenShut
import Derived.Carry
import Derived.Laws.LoneSync
import Derived.Deep.DeepHandedRow
import Derived.Lib.LaidTab
import Derived.Deep.RegionWith
import Derived.Maps.AppendAt
import Derived.Deep.AppendLies
import Derived.Deep.RegionLaw
import Derived.Test.YtablcbgeeeboeaaGreatDoorZaBL
import Derived.Test.YtablcbgeeeboeaaGreatDoorZaBa
import Derived.Test.YtablcbgeeeboeaaGreatDoorZaBb
import Derived.Test.YtablcbgeeeboeaaGreatDoorZaBc
import Derived.Test.YtablcbgeeeboeaaGreatDoorZaBd
import Derived.Test.YtablcbgeeeboeaaGreatDoorZaBe
import Derived.Test.YtablcbgeeeboeaaGreatDoorZaBf
import Derived.Test.YtablcbgeeeboeaaGreatDoorZaBg
import Derived.Test.YtablcbgeeeboeaaGreatDoorZaBh
import Derived.Test.YtablcbgeeeboeaaGreatDoorZaCm
import Derived.Test.YtablcbgeeeboeaaGreatDoorZaCs
import Derived.Test.YtablcbgeeeboeaaGreatDoorZaFP
import Derived.Test.YtablcbgeeeboeaaGreatDoorZaGo
import Derived.Test.YtablcbgeeeboeaaGreatDoorZaGq
import Derived.Test.YtablcbgeeeboeaaGreatDoorZaGr
import Derived.Test.YtablcbgeeeboeaaGreatDoorZaGt
import Derived.Test.YtablcbgeeeboeaaGreatDoorZaGu
import Derived.Test.YtablcbgeeeboeaaGreatDoorZaKs
import Derived.Test.YtablcbgeeeboeaaGreatDoorZaNs
import Derived.Test.YtablcbgeeeboeaaGreatDoorZaOpen
import Derived.Test.YtablcbgeeeboeaaGreatDoorZaPFa
import Derived.Test.YtablcbgeeeboeaaGreatDoorZaPFb
import Derived.Test.YtablcbgeeeboeaaGreatDoorZaPFc
import Derived.Test.YtablcbgeeeboeaaGreatDoorZaPa
import Derived.Test.YtablcbgeeeboeaaGreatDoorZaPc
import Derived.Test.YtablcbgeeeboeaaGreatDoorZaPd
import Derived.Test.YtablcbgeeeboeaaGreatDoorZaPf
import Derived.Test.YtablcbgeeeboeaaGreatDoorZaPh
import Derived.Test.YtablcbgeeeboeaaGreatDoorZaPj
import Derived.Test.YtablcbgeeeboeaaGreatDoorZaPk
import Derived.Test.YtablcbgeeeboeaaGreatDoorZaPn
import Derived.Test.YtablcbgeeeboeaaGreatDoorZaPq
import Derived.Test.YtablcbgeeeboeaaGreatDoorZaPr
import Derived.Test.YtablcbgeeeboeaaGreatDoorZaPw
import Derived.Test.YtablcbgeeeboeaaGreatDoorZaPx
import Derived.Test.YtablcbgeeeboeaaGreatDoorZaPy
import Derived.Test.YtablcbgeeeboeaaGreatDoorZaPz
import Derived.Test.YtablcbgeeeboeaaGreatDoorZaRa
import Derived.Test.YtablcbgeeeboeaaGreatDoorZaRat
import Derived.Test.YtablcbgeeeboeaaGreatDoorZaRd
import Derived.Test.YtablcbgeeeboeaaGreatDoorZaRe
import Derived.Test.YtablcbgeeeboeaaGreatDoorZaRm
import Derived.Test.YtablcbgeeeboeaaGreatDoorZaRq
import Derived.Test.YtablcbgeeeboeaaGreatDoorZaRsum
import Derived.Test.YtablcbgeeeboeaaGreatDoorZaRt
import Derived.Test.YtablcbgeeeboeaaGreatDoorZaS3
import Derived.Test.YtablcbgeeeboeaaGreatDoorZaSqt
import Derived.Test.YtablcbgeeeboeaaGreatDoorZaSum
import Derived.Test.YtablcbgeeeboeaaGreatDoorZaSumLaw
import Derived.Test.YtablcbgeeeboeaaGreatDoorZaTd
set_option maxRecDepth 100000
set_option maxHeartbeats 20000000
namespace Go.Proofs.YtablcbgeeeboeaaGreatDoor
open Go.RowKit Sp
end Go.Proofs.YtablcbgeeeboeaaGreatDoor
namespace Go.Proofs.YtablcbgeeeboeaaGreatDoor
open Go.RowKit Sp
theorem dmul_nrm (M N E F : Int) (hM : nrm M E ≠ none) (hN : nrm N F ≠ none) : dmul (nrm M E) (nrm N F) = nrm (M * N) (E + F) := by
 cases h : nrm M E with
 | none => exact absurd h hM
 | some p =>
  cases k : nrm N F with
  | none => exact absurd k hN
  | some q =>
   obtain ⟨m, e⟩ := p
   obtain ⟨n, f⟩ := q
   show nrm (m * n) (e + f) = _
   by_cases h0 : M = 0
   · subst h0; rw [nrm_zero] at h; injection h with h; injection h with h1 h2; subst h1 h2; simp [nrm_zero]
   · by_cases h1 : N = 0
     · subst h1; rw [nrm_zero] at k; injection k with k; injection k with h1 h2; subst h1 h2; simp [nrm_zero]
     · obtain ⟨t, ht, he, _⟩ := nrm_some h0 h
       obtain ⟨u, hu, hf, _⟩ := nrm_some h1 k
       have e1 : M * N = (m * n) * 2 ^ (t + u) := by rw [ht, hu, Int.pow_add]; grind
       rw [e1, nrm_scale]; congr 1; omega
end Go.Proofs.YtablcbgeeeboeaaGreatDoor
namespace Go.Proofs.YtablcbgeeeboeaaGreatDoor
open Go.RowKit Sp
end Go.Proofs.YtablcbgeeeboeaaGreatDoor
namespace Sp
open Go Go.RowKit
end Sp
namespace Go.Proofs.YtablcbgeeeboeaaGreatDoor
open Go.RowKit Sp
end Go.Proofs.YtablcbgeeeboeaaGreatDoor
namespace Go.Proofs.YtablcbgeeeboeaaGreatDoor
open Go.RowKit Sp
end Go.Proofs.YtablcbgeeeboeaaGreatDoor
namespace Go.Proofs.YtablcbgeeeboeaaGreatDoor
open Go.RowKit Sp
end Go.Proofs.YtablcbgeeeboeaaGreatDoor
namespace Go.Proofs.YtablcbgeeeboeaaGreatDoor
open Go.RowKit Sp
theorem dmul_comm (a b : Option (Int × Int)) : dmul a b = dmul b a := by
 unfold dmul
 cases a <;> cases b <;> try rfl
 rename_i p q
 obtain ⟨m, e⟩ := p
 obtain ⟨n, f⟩ := q
 show nrm _ (e + f) = nrm _ (f + e)
 rw [Int.mul_comm, Int.add_comm]
end Go.Proofs.YtablcbgeeeboeaaGreatDoor
namespace Go.Proofs.YtablcbgeeeboeaaGreatDoor
open Go.RowKit Sp
end Go.Proofs.YtablcbgeeeboeaaGreatDoor
namespace Go.Proofs.YtablcbgeeeboeaaGreatDoor
open Go.RowKit Sp
end Go.Proofs.YtablcbgeeeboeaaGreatDoor
namespace Go.Proofs.YtablcbgeeeboeaaGreatDoor
open Go.RowKit Sp
end Go.Proofs.YtablcbgeeeboeaaGreatDoor
namespace Go.Proofs.YtablcbgeeeboeaaGreatDoor
open Go.RowKit Sp
end Go.Proofs.YtablcbgeeeboeaaGreatDoor
namespace Go.Proofs.YtablcbgeeeboeaaGreatDoor
open Go.RowKit Sp
end Go.Proofs.YtablcbgeeeboeaaGreatDoor
namespace Go.Proofs.YtablcbgeeeboeaaGreatDoor
open Go.RowKit Sp
theorem fmul_val {a b : Nat} (ha : ffin a = true) (hb : ffin b = true) : dmul (fof a) (fof b) = nrm (fz a * fz b) (-2148) ∧ nrm (fz a * fz b) (-2148) ≠ none := by
 refine ⟨?_, nrm_valid (by omega) (by have := bl_mul (fz a) (fz b); have := blen_fz ha; have := blen_fz hb; omega)⟩
 rw [fof_fin ha, fof_fin hb]
 exact dmul_nrm _ _ _ _ (fof_some ha) (fof_some hb)
end Go.Proofs.YtablcbgeeeboeaaGreatDoor
namespace Go.Proofs.YtablcbgeeeboeaaGreatDoor
open Go.RowKit Sp
end Go.Proofs.YtablcbgeeeboeaaGreatDoor
namespace Go.Proofs.YtablcbgeeeboeaaGreatDoor
open Go.RowKit Sp
end Go.Proofs.YtablcbgeeeboeaaGreatDoor
namespace Go.Proofs.YtablcbgeeeboeaaGreatDoor
open Go.RowKit Sp
end Go.Proofs.YtablcbgeeeboeaaGreatDoor
namespace Go.Proofs.YtablcbgeeeboeaaGreatDoor
open Go.RowKit Sp
theorem rneg_any (w : World) (s : Bool) (a : Option Addr) (n cap x : Nat) (hx : Mag w a n cap x) (hlim : n ≤ 1099511627776) :
 Calls Tryz.prog 57 #[.agg #[.bool s, .slice a n cap]] w (RetBig w (-(sgn s x))) := by
 have HR := fun W h => Lib.hid (rmake1_any W (!s) a n cap x h hlim)
 rw [sgn_not] at HR
 generalize -(sgn s x) = z at HR ⊢
 cases s <;> (
  go_enter Tryz.func57, Tryz.ntmps57
  go_wp2_with fail
  refine (HR _ (hx.below zbh)).out.mono ?_
  rintro e w1 ⟨a1, c1, rfl, hm1, hb, hf1⟩
  obtain ⟨hc1, hz1⟩ := bcell (hb.mono (show w.heap.size + 2 ≤ _ by simp))
  have hfr1 : 0 < nl z.natAbs → w.heap.size + 2 ≤ ab a1 := fun h => by have := hf1 h; simpa using this
  have hbw := below_box (w := w) zbh hb
  go_wp2_with fail
  refine bodyPost_ret (v := .agg #[.bool (decide (z < 0)), .slice a1 (nl z.natAbs) c1]) (by simp only [results, Tryz.results57]; go_simp) rfl ?_
  exact ret_big hm1 (fun h => by have := hfr1 h; omega) hbw (by omega))
end Go.Proofs.YtablcbgeeeboeaaGreatDoor
namespace Go.Proofs.YtablcbgeeeboeaaGreatDoor
open Go.RowKit Sp
theorem rmulm_any (w : World) (a a' : Option Addr) (n m cap cap' x y : Nat) (hx : Mag w a n cap x) (hy : Mag w a' m cap' y) (hn : n ≤ 549755813888) (hm : m ≤ 549755813888) :
 Calls Tryz.prog 106 #[.slice a n cap, .slice a' m cap'] w (RetLimbs w (x * y) (n + m)) := by
 have hmk := make_len 42 96 infU undU ((n : Int) + m) (by omega) (by omega)
 go_enter Tryz.func106, Tryz.ntmps106
 go_wp2
 clear hmk
 have hrow0 := Row.made w (n + m) 96 (by omega)
 go_loopw [6] (fun i wr => ∃ k : Nat, k ≤ n ∧ i = .int .i64 k ∧ Row wr w.heap.size (n + m) 96 (x % B ^ k * y) ∧ Below w.heap.size w wr) (fun i _ => n - (intOf i).toNat)
 case atStart => exact ⟨0, by omega, rfl, by rw [mod_zero_pow, Nat.zero_mul]; exact hrow0, (Below.refl _ _).alloc (Nat.le_refl _) _⟩
 case round =>
  clear hrow0
  obtain ⟨k, hk, rfl, hrow, hb⟩ := hrel
  by_cases hlt : k < n
  · have hx' := hx.below hb
    have c1 := hx'.cell k hlt
    have i1 := hx'.idx 42 und siz k hlt
    have hd1 := dig_lt x k
    obtain ⟨wo, rfl⟩ : ∃ wo : World, wo = wr := ⟨_, rfl⟩
    go_wp2
    clear c1 i1
    go_loopw [7, 8] (fun c j wi => ∃ q Z cc : Nat, q ≤ m ∧ j = .int .i64 q ∧ c = .int .u64 cc ∧ cc < 4294967296 ∧ Row wi w.heap.size (n + m) 96 Z ∧ Z < B ^ (k + m) ∧
     Z + cc * B ^ (k + q) = x % B ^ k * y + dig x k * (y % B ^ q) * B ^ k ∧ Below w.heap.size w wi) (fun _ j _ => m - (intOf j).toNat)
    case atStart =>
     refine ⟨0, x % B ^ k * y, 0, by omega, rfl, rfl, by omega, hrow, ?_, ?_, hb⟩
     · rw [Bpow_add]; exact Nat.mul_lt_mul'' (mod_lt' x k) hy.lt
     · rw [mod_zero_pow]; simp
    case round =>
     obtain ⟨q, Z, cc, hq, rfl, rfl, hcc, hrowi, hZ, hinv, hbi⟩ := hrel
     have HI := Lib.hid hinv
     clear hinv hx'
     by_cases hqm : q < m
     · have hx'' := hx.below hbi
       have c1 := hx''.cell k hlt
       have i1 := hx''.idx 42 und siz k hlt
       have hy' := hy.below hbi
       have c2 := hy'.cell q hqm
       have i2 := hy'.idx 42 und siz q hqm
       have hd2 := dig_lt y q
       have hd3 := dig_lt Z (k + q)
       have c3 := hrowi.cell (k + q) (by omega)
       have f3 := hrowi.free (k + q)
       obtain ⟨m1, m2⟩ := mul_carry hd1 hd2 hd3 hcc
       rw [← Int.ofNat_le, Int.natCast_mul] at m2
       have m1' : (cc : Int) + ((dig x k : Nat) : Int) * (dig y q : Nat) + (dig Z (k + q) : Nat) < 18446744073709551616 := by rw [← Int.natCast_mul]; omega
       have m0 : (0 : Int) ≤ ((dig x k : Nat) : Int) * (dig y q : Nat) := by rw [← Int.natCast_mul]; omega
       clear m1
       obtain ⟨T, hT⟩ : ∃ T : Nat, T = dig x k * dig y q + dig Z (k + q) + cc := ⟨_, rfl⟩
       have hTI : ((T : Nat) : Int) = (cc : Nat) + ((dig x k : Nat) : Int) * (dig y q : Nat) + (dig Z (k + q) : Nat) := by rw [hT]; simp; omega
       have hTB : T / B < 4294967296 := by rw [Nat.div_lt_iff_lt_mul B_pos, B_eq]; omega
       have HTI := Lib.hid hTI
       have HT := Lib.hid hT
       clear hTI hT
       have HTB := Lib.hid hTB
       clear hTB
       go_wp2
       all_goals go_quiet (fail)
       all_goals go_wp2
       go_roundw
       case rel =>
        refine ⟨q + 1, setd Z (k + q) (T % B), T / B, by omega, by go_num, ?_, HTB.out, ?_, setd_lt (Nat.mod_lt _ B_pos) (by omega) hZ, mul_round HT.out HI.out, (show Below w.heap.size w (wr.drewN _) from ⟨hbi.os, hbi.tape, hbi.output, hbi.size, hbi.block⟩).setCell (Nat.le_refl _) _⟩
        · rw [← HTI.out, B_eq]; rfl
        · rw [← HTI.out]; exact (hrowi.drewN _).store (k + q) (T % B) (by omega) (Nat.mod_lt _ B_pos)
       case measure => simp [intOf]; omega
     · obtain rfl : q = m := by omega
       have c3 := hrowi.cell (k + q) (by omega)
       have f3 := hrowi.free (k + q)
       go_wp2
       go_roundw
       case rel => exact ⟨k + 1, by omega, by go_num, by rw [← mul_row hy.lt HI.out hZ]; exact hrowi.store (k + q) cc (by omega) hcc, hbi.setCell (Nat.le_refl _) _⟩
       case measure => simp [intOf]; omega
  · obtain rfl : k = n := by omega
    rw [mod_of_lt hx.lt] at hrow
    go_wp2
    go_ret
    exact ⟨_, _, _, rfl, hrow.mag, Nat.le_refl _, hb, fun _ => Nat.le_refl _⟩
end Go.Proofs.YtablcbgeeeboeaaGreatDoor
namespace Go.Proofs.YtablcbgeeeboeaaGreatDoor
open Go.RowKit Sp
theorem rmul_any (w : World) (s s' : Bool) (a a' : Option Addr) (n n' cap cap' x y : Nat) (hx : Mag w a n cap x) (hy : Mag w a' n' cap' y) (hl : n ≤ 549755813888) (hl' : n' ≤ 549755813888) :
 Calls Tryz.prog 59 #[.agg #[.bool s, .slice a n cap], .agg #[.bool s', .slice a' n' cap']] w (RetBig w (sgn s x * sgn s' y)) := by
 have nx := nl_le hx.lt
 have ny := nl_le hy.lt
 have HT := fun W h => Lib.hid (rtrim_any W a n cap x h (by omega))
 have HT' := fun W h => Lib.hid (rtrim_any W a' n' cap' y h (by omega))
 have HMM := fun W b c b' c' h h' => Lib.hid (rmulm_any W b b' (nl x) (nl y) c c' x y h h' (by omega) (by omega))
 have HK := fun W b m c h (hm : m ≤ nl x + nl y) => Lib.hid (rmake1_any W (s != s') b m c (x * y) h (by omega))
 rw [sgn_mul] at HK
 generalize sgn s x * sgn s' y = v at HK ⊢
 obtain ⟨t, ht⟩ : ∃ t, t = (s != s') := ⟨_, rfl⟩
 have ht1 : (s != s') = t := ht.symm
 have ht2 : (!(s == s')) = t := ht.symm
 rw [← ht] at HK
 generalize x * y = p at HMM HK
 clear ht nx ny hl hl'
 go_enter Tryz.func59, Tryz.ntmps59
 go_wp2_with fail
 have Ix := (((BgV.made' w 44 s (.slice a n cap) (n := w.heap.size) (by rfl)).alloc (.cells #[.bool s', (.slice a' n' cap')] 44)).alloc (.cells #[.bool false, (.slice none 0 0)] 44))
 have Iy := ((BgV.made' (w.alloc (.cells #[.bool s, (.slice a n cap)] 44)) 44 s' (.slice a' n' cap') (n := w.heap.size + 1) (by rw [World.size_alloc])).alloc (.cells #[.bool false, (.slice none 0 0)] 44))
 have Ir := (BgV.made' ((w.alloc (.cells #[.bool s, (.slice a n cap)] 44)).alloc (.cells #[.bool s', (.slice a' n' cap')] 44)) 44 false (.slice none 0 0) (n := w.heap.size + 1 + 1) (by rw [World.size_alloc, World.size_alloc]))
 have B0 : Below w.heap.size w (((w.alloc (.cells #[.bool s, (.slice a n cap)] 44)).alloc (.cells #[.bool s', (.slice a' n' cap')] 44)).alloc (.cells #[.bool false, (.slice none 0 0)] 44)) := zbh
 have nxy : ¬ w.heap.size = w.heap.size + 1 := by omega
 have nxr : ¬ w.heap.size = w.heap.size + 1 + 1 := by omega
 have nyx : ¬ w.heap.size + 1 = w.heap.size := by omega
 have nyr : ¬ w.heap.size + 1 = w.heap.size + 1 + 1 := by omega
 have nrx : ¬ w.heap.size + 1 + 1 = w.heap.size := by omega
 have nry : ¬ w.heap.size + 1 + 1 = w.heap.size + 1 := by omega
 generalize (((w.alloc (.cells #[.bool s, (.slice a n cap)] 44)).alloc (.cells #[.bool s', (.slice a' n' cap')] 44)).alloc (.cells #[.bool false, (.slice none 0 0)] 44)) = w0 at Ix Iy Ir B0 ⊢
 generalize hb2 : w.heap.size + 1 + 1 = b2 at Ir nxy nxr nyx nyr nrx nry ⊢
 generalize hb1 : w.heap.size + 1 = b1 at Iy nxy nxr nyx nyr nrx nry hb2 ⊢
 generalize hb0 : w.heap.size = b0 at Ix nxy nxr nyx nyr nrx nry hb1 ⊢
 obtain ⟨xc0, xc1, xc2, xc3⟩ := Ix
 have Vx0 := Lib.hid (BgV.mk xc0 xc1 xc2 xc3)
 obtain ⟨yc0, yc1, yc2, yc3⟩ := Iy
 have Vy0 := Lib.hid (BgV.mk yc0 yc1 yc2 yc3)
 obtain ⟨rc0, rc1, rc2, rc3⟩ := Ir
 have Vr0 := Lib.hid (BgV.mk rc0 rc1 rc2 rc3)
 first
 | go_region_held3 (fun w' => w'.cell? ⟨b0, 0, none⟩ = some (.bool s) ∧ w'.cell? ⟨b0, 1, none⟩ = some ((.slice a n cap)) ∧ w'.cell? ⟨b1, 0, none⟩ = some (.bool s') ∧ w'.cell? ⟨b1, 1, none⟩ = some ((.slice a' n' cap'))) (first | (go_keep; done) | (go_simp; done))
  (first
   | (go_at_call 105; have xx := B3; refine (HK _ a3 n3 c3 M33.on hn3).out.mono ?_; rintro e w4 ⟨av, cv, rfl, Mv4, hb4, hf4⟩; have Vx4 : BgV w4 b0 s (.slice a n cap) := (Vx3.out.on.below hb4); (try clear xc0 xc1 xc2); obtain ⟨xc0, xc1, xc2, xc3⟩ := Vx4; have Vx4 := Lib.hid (BgV.mk xc0 xc1 xc2 xc3); have Vy4 : BgV w4 b1 s' (.slice a' n' cap') := (Vy3.out.on.below hb4); (try clear yc0 yc1 yc2); obtain ⟨yc0, yc1, yc2, yc3⟩ := Vy4; have Vy4 := Lib.hid (BgV.mk yc0 yc1 yc2 yc3); have Vr4 : BgV w4 b2 false (.slice none 0 0) := (Vr3.out.on.below hb4); (try clear rc0 rc1 rc2); obtain ⟨rc0, rc1, rc2, rc3⟩ := Vr4; have Vr4 := Lib.hid (BgV.mk rc0 rc1 rc2 rc3); have M14 : Mag w4 a1 (nl x) c1 x := Mag.below M13.on hb4; have M24 : Mag w4 a2 (nl y) c2 y := Mag.below M23.on hb4; have M34 : Mag w4 a3 n3 c3 p := Mag.below M33.on hb4; have B4 := below_box (w := w) (have := Beh.mk B3; zbh) hb4; have hF4 : 0 < (nl v.natAbs) → w3.heap.size ≤ ab av := (fun h => by have hq := hf4 h; (try simp at hq); omega); have frvx : 0 < (nl v.natAbs) → ab av ≠ b0 := (fun h => by have := hF4 h; have := Vx3.out.lt; omega); have frvy : 0 < (nl v.natAbs) → ab av ≠ b1 := (fun h => by have := hF4 h; have := Vy3.out.lt; omega); have frvr : 0 < (nl v.natAbs) → ab av ≠ b2 := (fun h => by have := hF4 h; have := Vr3.out.lt; omega); have fov : 0 < (nl v.natAbs) → w.heap.size ≤ ab av := (fun h => by have := hF4 h; have := B3.size; omega); clear hF4; clear hb4 hf4)
   | (go_at_call 106; have xx := B2; refine (HMM _ a1 c1 a2 c2 M12.on M22.on).out.mono ?_; rintro e w3 ⟨a3, n3, c3, rfl, M33, hn3, hb3, hf3⟩; have Vx3 : BgV w3 b0 s (.slice a n cap) := (Vx2.out.on.below hb3); (try clear xc0 xc1 xc2); obtain ⟨xc0, xc1, xc2, xc3⟩ := Vx3; have Vx3 := Lib.hid (BgV.mk xc0 xc1 xc2 xc3); have Vy3 : BgV w3 b1 s' (.slice a' n' cap') := (Vy2.out.on.below hb3); (try clear yc0 yc1 yc2); obtain ⟨yc0, yc1, yc2, yc3⟩ := Vy3; have Vy3 := Lib.hid (BgV.mk yc0 yc1 yc2 yc3); have Vr3 : BgV w3 b2 false (.slice none 0 0) := (Vr2.out.on.below hb3); (try clear rc0 rc1 rc2); obtain ⟨rc0, rc1, rc2, rc3⟩ := Vr3; have Vr3 := Lib.hid (BgV.mk rc0 rc1 rc2 rc3); have M13 : Mag w3 a1 (nl x) c1 x := Mag.below M12.on hb3; have M23 : Mag w3 a2 (nl y) c2 y := Mag.below M22.on hb3; have B3 := below_box (w := w) (have := Beh.mk B2; zbh) hb3; have hF3 : 0 < n3 → w2.heap.size ≤ ab a3 := (fun h => by have hq := hf3 h; (try simp at hq); omega); have fr3x : 0 < n3 → ab a3 ≠ b0 := (fun h => by have := hF3 h; have := Vx2.out.lt; omega); have fr3y : 0 < n3 → ab a3 ≠ b1 := (fun h => by have := hF3 h; have := Vy2.out.lt; omega); have fr3r : 0 < n3 → ab a3 ≠ b2 := (fun h => by have := hF3 h; have := Vr2.out.lt; omega); have fo3 : 0 < n3 → w.heap.size ≤ ab a3 := (fun h => by have := hF3 h; have := B2.size; omega); clear hF3; clear hb3 hf3)
   | (go_at_call 107; have xx := B1; refine (HT' _ (hy.below (have := Beh.mk B1; zbh))).out.mono ?_; rintro e w2 ⟨a2, c2, rfl, M22, hb2, hf2⟩; have Vx2 : BgV w2 b0 s (.slice a n cap) := (Vx1.out.on.below hb2); (try clear xc0 xc1 xc2); obtain ⟨xc0, xc1, xc2, xc3⟩ := Vx2; have Vx2 := Lib.hid (BgV.mk xc0 xc1 xc2 xc3); have Vy2 : BgV w2 b1 s' (.slice a' n' cap') := (Vy1.out.on.below hb2); (try clear yc0 yc1 yc2); obtain ⟨yc0, yc1, yc2, yc3⟩ := Vy2; have Vy2 := Lib.hid (BgV.mk yc0 yc1 yc2 yc3); have Vr2 : BgV w2 b2 false (.slice none 0 0) := (Vr1.out.on.below hb2); (try clear rc0 rc1 rc2); obtain ⟨rc0, rc1, rc2, rc3⟩ := Vr2; have Vr2 := Lib.hid (BgV.mk rc0 rc1 rc2 rc3); have M12 : Mag w2 a1 (nl x) c1 x := Mag.below M11.on hb2; have B2 := below_box (w := w) (have := Beh.mk B1; zbh) hb2; have hF2 : 0 < (nl y) → w1.heap.size ≤ ab a2 := (fun h => by have hq := hf2 h; (try simp at hq); omega); have fr2x : 0 < (nl y) → ab a2 ≠ b0 := (fun h => by have := hF2 h; have := Vx1.out.lt; omega); have fr2y : 0 < (nl y) → ab a2 ≠ b1 := (fun h => by have := hF2 h; have := Vy1.out.lt; omega); have fr2r : 0 < (nl y) → ab a2 ≠ b2 := (fun h => by have := hF2 h; have := Vr1.out.lt; omega); have fo2 : 0 < (nl y) → w.heap.size ≤ ab a2 := (fun h => by have := hF2 h; have := B1.size; omega); clear hF2; clear hb2 hf2)
   | (go_at_call 107; refine (HT _ (hx.below (have := Beh.mk B0; zbh))).out.mono ?_; rintro e w1 ⟨a1, c1, rfl, M11, hb1, hf1⟩; have Vx1 : BgV w1 b0 s (.slice a n cap) := (Vx0.out.on.below hb1); (try clear xc0 xc1 xc2); obtain ⟨xc0, xc1, xc2, xc3⟩ := Vx1; have Vx1 := Lib.hid (BgV.mk xc0 xc1 xc2 xc3); have Vy1 : BgV w1 b1 s' (.slice a' n' cap') := (Vy0.out.on.below hb1); (try clear yc0 yc1 yc2); obtain ⟨yc0, yc1, yc2, yc3⟩ := Vy1; have Vy1 := Lib.hid (BgV.mk yc0 yc1 yc2 yc3); have Vr1 : BgV w1 b2 false (.slice none 0 0) := (Vr0.out.on.below hb1); (try clear rc0 rc1 rc2); obtain ⟨rc0, rc1, rc2, rc3⟩ := Vr1; have Vr1 := Lib.hid (BgV.mk rc0 rc1 rc2 rc3); have B1 := below_box (w := w) (have := Beh.mk B0; zbh) hb1; have hF1 : 0 < (nl x) → w0.heap.size ≤ ab a1 := (fun h => by have hq := hf1 h; (try simp at hq); omega); have fr1x : 0 < (nl x) → ab a1 ≠ b0 := (fun h => by have := hF1 h; have := Vx0.out.lt; omega); have fr1y : 0 < (nl x) → ab a1 ≠ b1 := (fun h => by have := hF1 h; have := Vy0.out.lt; omega); have fr1r : 0 < (nl x) → ab a1 ≠ b2 := (fun h => by have := hF1 h; have := Vr0.out.lt; omega); have fo1 : 0 < (nl x) → w.heap.size ≤ ab a1 := (fun h => by have := hF1 h; have := B0.size; omega); clear hF1; clear hb1 hf1)
   | fail)
 | fail "region"
 go_wp2_with fail
 refine bodyPost_ret (v := .agg #[.bool (decide (v < 0)), .slice av (nl v.natAbs) cv]) (by simp only [results, Tryz.results59]; go_simp) rfl ?_
 exact ⟨av, cv, rfl, (by repeat (with_reducible first | refine Mag.set ?_ frvx _ _ | refine Mag.set ?_ frvy _ _ | refine Mag.set ?_ frvr _ _ | refine Mag.drew ?_ | refine Mag.drewN ?_ _ | refine Mag.alloc ?_ _ | exact Mv4)), (by have hszw := (B4).size; repeat (with_reducible first | refine Below.setCell ?_ (by first | omega | (simp <;> omega)) _ | refine Below.alloc ?_ (by first | omega | (simp <;> omega)) _ | refine Below.drew ?_ | refine below_drewN ?_ _ | exact B4)), fov⟩
end Go.Proofs.YtablcbgeeeboeaaGreatDoor
namespace Go.Proofs.YtablcbgeeeboeaaGreatDoor
open Go.RowKit Sp
theorem fld_bad (v s : Bool) (sl : Value) (f : Int) (W : World) : (Instr.field 46 (.agg #[.bool v, .bool s, sl, .int .i64 f]) 0).run Tryz.prog W = .ok (.bool v) W := by kernel_rfl
theorem rvalid_any (w : World) (bd s : Bool) (a : Option Addr) (n cap : Nat) (e : Int) (d : Option (Int × Int)) (hx : DyIs w bd s a n cap e d) (hT : Tab w) :
 Calls Tryz.prog 23 #[.agg #[.bool bd, .bool s, .slice a n cap, .int .i64 e]] w fun o w' => o = .returned (.bool (!dbad d)) ∧ Below w.heap.size w w' := by
 have HF := fld_bad
 have HN := fun W h ht => Lib.hid (@rdnorm_in W bd s a n cap e d h ht)
 go_enter Tryz.func23, Tryz.ntmps23
 go_wp2_with fail
 refine (HN _ (hx.below zbh) (hT.below zbh)).out.mono ?_
 rintro e w1 ⟨a1, c1, rfl, hm1, hb, hf1⟩
 have hbw := below_box (w := w) zbh hb
 go_wp2_with fail
 go_ret
 exact ⟨rfl, (have := Beh.mk hbw; zbh)⟩
theorem rdsign_t (w : World) (bd s : Bool) (a : Option Addr) (n cap : Nat) (e : Int) (hx : DyIs w bd s a n cap e none) (hT : Tab w) :
 Calls Tryz.prog 21 #[.agg #[.bool bd, .bool s, .slice a n cap, .int .i64 e]] w fun o w' => o = .returned (.int .i64 0) ∧ Below w.heap.size w w' := by
 have HN := fun W h ht => Lib.hid (@rdnorm_in W bd s a n cap e none h ht)
 go_enter Tryz.func21, Tryz.ntmps21
 go_wp2_with fail
 have I0 := DyV.made w 46 bd s (.slice a n cap) e
 refine (HN _ (hx.below zbh) (hT.below zbh)).out.mono ?_
 rintro e w1 ⟨a1, c1, rfl, hm1, hb, hf1⟩
 have hbw := below_box (w := w) zbh hb
 have J1 := I0.below hb
 clear I0 hb hf1
 obtain ⟨r0, r1, r2, r3, r4, r5⟩ := J1
 have eb : dbad none = true := rfl
 go_wp2_with fail
 go_ret
 exact ⟨rfl, (have := Beh.mk hbw; zbh)⟩
theorem rdsign_f (w : World) (bd s : Bool) (a : Option Addr) (n cap : Nat) (e z f g : Int) (hx : DyIs w bd s a n cap e (some (z, f))) (hT : Tab w) (hg : g = sg z) :
 Calls Tryz.prog 21 #[.agg #[.bool bd, .bool s, .slice a n cap, .int .i64 e]] w fun o w' => o = .returned (.int .i64 g) ∧ Below w.heap.size w w' := by
 have hbz := (isN_bounds hx.1.isN).1
 have HN := fun W h ht => Lib.hid (@rdnorm_in W bd s a n cap e (some (z, f)) h ht)
 have HS := fun W b c h => Lib.hid (rsign_any W (decide (z < 0)) b (nl z.natAbs) c z.natAbs h (Nat.le_trans (nl_le_blen _) (Nat.le_trans hbz (by omega))))
 rw [sgn_self, ← hg] at HS
 obtain ⟨d, hd⟩ : ∃ d, d = some (z, f) := ⟨_, rfl⟩
 have d0 : dbad d = false := by rw [hd]; rfl
 have d1 : dman d = z := by rw [hd]; rfl
 have d2 : dexp d = f := by rw [hd]; rfl
 rw [← hd] at HN hx
 clear hbz hd hg
 go_enter Tryz.func21, Tryz.ntmps21
 go_wp2_with fail
 have I0 := DyV.made w 46 bd s (.slice a n cap) e
 refine (HN _ (hx.below zbh) (hT.below zbh)).out.mono ?_
 rintro e w1 ⟨a1, c1, rfl, hm1, hb, hf1⟩
 rw [d1] at hm1 hf1
 have hfr1 : 0 < nl z.natAbs → w.heap.size + 1 ≤ ab a1 := fun h => by have := hf1 h; simpa using this
 have hbw := below_box (w := w) zbh hb
 have J1 := I0.below hb
 clear I0 hb hf1
 obtain ⟨r0, r1, r2, r3, r4, r5⟩ := J1
 go_wp2_with fail
 refine (HS _ a1 c1 (by repeat (with_reducible first | refine Mag.set ?_ (fun h => by have := hfr1 h; omega) _ _ | refine Mag.drew ?_ | refine Mag.alloc ?_ _ | refine Mag.drewN ?_ _ | refine Mag.below ?_ (Below.drew (Below.refl _ _)) | refine Mag.below ?_ ((Below.refl _ _).alloc (Nat.le_refl _) _) | exact hm1))).out.mono ?_
 rintro e w2 ⟨rfl, hb⟩
 have hbw2 := below_box (w := w) (have := Beh.mk hbw; zbh) hb
 go_wp2_with fail
 go_ret
 exact ⟨rfl, (have := Beh.mk hbw2; zbh)⟩
theorem rdsign_any (w : World) (bd s : Bool) (a : Option Addr) (n cap : Nat) (e : Int) (d : Option (Int × Int)) (hx : DyIs w bd s a n cap e d) (hT : Tab w) :
 Calls Tryz.prog 21 #[.agg #[.bool bd, .bool s, .slice a n cap, .int .i64 e]] w fun o w' => o = .returned (.int .i64 (sg (dman d))) ∧ Below w.heap.size w w' := by
 cases d with
 | none => exact rdsign_t w bd s a n cap e hx hT
 | some p => obtain ⟨z, f⟩ := p; exact rdsign_f w bd s a n cap e z f _ hx hT rfl
end Go.Proofs.YtablcbgeeeboeaaGreatDoor
namespace Go.Proofs.YtablcbgeeeboeaaGreatDoor
open Go.RowKit Sp
theorem rneg_z (w : World) (a : Option Addr) (cap : Nat) (z y : Int) (hy : y = -z) (hm : Mag w a (nl z.natAbs) cap z.natAbs) (hl : nl z.natAbs ≤ 549755813888) :
 Calls Tryz.prog 57 #[.agg #[.bool (decide (z < 0)), .slice a (nl z.natAbs) cap]] w (RetBig w y) := by
 have h := rneg_any w (decide (z < 0)) a _ cap _ hm (by omega)
 rwa [sgn_self, ← hy] at h
theorem rmul_z (w : World) (a a' : Option Addr) (cap cap' : Nat) (x y v : Int) (hv : v = x * y) (hx : Mag w a (nl x.natAbs) cap x.natAbs) (hy : Mag w a' (nl y.natAbs) cap' y.natAbs) (hl : nl x.natAbs ≤ 549755813888) (hl' : nl y.natAbs ≤ 549755813888) :
 Calls Tryz.prog 59 #[.agg #[.bool (decide (x < 0)), .slice a (nl x.natAbs) cap], .agg #[.bool (decide (y < 0)), .slice a' (nl y.natAbs) cap']] w (RetBig w v) := by
 have h := rmul_any w (decide (x < 0)) (decide (y < 0)) a a' _ _ cap cap' _ _ hx hy hl hl'
 rwa [sgn_self, sgn_self, ← hv] at h
theorem nrm_dneg {d : Option (Int × Int)} (h : IsN d) (hb : dbad d = false) : dneg d = nrm (-(dman d)) (dexp d) := by
 cases d with
 | none => exact absurd hb (by decide)
 | some p => obtain ⟨m, e⟩ := p; exact (nrm_self (okd_neg (h m e rfl))).symm
theorem rdneg_bad (w : World) (bd s : Bool) (a : Option Addr) (n cap : Nat) (e : Int) (d : Option (Int × Int)) (hx : DyIs w bd s a n cap e d) (hT : Tab w) (hb : dbad d = true) :
 Calls Tryz.prog 18 #[.agg #[.bool bd, .bool s, .slice a n cap, .int .i64 e]] w (RetDy w d) := by
 have HN := fun W h ht => Lib.hid (@rdnorm_in W bd s a n cap e d h ht)
 go_enter Tryz.func18, Tryz.ntmps18
 go_wp2_with fail
 have Ix := ((DyV.made' w 46 bd s (.slice a n cap) e (n := w.heap.size) (by rfl)).alloc (.cells #[.bool false, .bool false, (.slice none 0 0), .int .i64 0] 46))
 have Ir := (DyV.made' (w.alloc (.cells #[.bool bd, .bool s, (.slice a n cap), .int .i64 e] 46)) 46 false false (.slice none 0 0) 0 (n := w.heap.size + 1) (by rw [World.size_alloc]))
 have B0 : Below w.heap.size w ((w.alloc (.cells #[.bool bd, .bool s, (.slice a n cap), .int .i64 e] 46)).alloc (.cells #[.bool false, .bool false, (.slice none 0 0), .int .i64 0] 46)) := zbh
 have nxr : ¬ w.heap.size = w.heap.size + 1 := by omega
 have nrx : ¬ w.heap.size + 1 = w.heap.size := by omega
 generalize ((w.alloc (.cells #[.bool bd, .bool s, (.slice a n cap), .int .i64 e] 46)).alloc (.cells #[.bool false, .bool false, (.slice none 0 0), .int .i64 0] 46)) = w0 at Ix Ir B0 ⊢
 generalize hb1 : w.heap.size + 1 = b1 at Ir nxr nrx ⊢
 generalize hb0 : w.heap.size = b0 at Ix nxr nrx hb1 ⊢
 obtain ⟨xc0, xc1, xc2, xc3, xc4, xc5⟩ := Ix
 have Vx0 := Lib.hid (DyV.mk xc0 xc1 xc2 xc3 xc4 xc5)
 obtain ⟨rc0, rc1, rc2, rc3, rc4, rc5⟩ := Ir
 have Vr0 := Lib.hid (DyV.mk rc0 rc1 rc2 rc3 rc4 rc5)
 refine (HN _ (hx.below (have := Beh.mk B0; zbh)) (hT.below (have := Beh.mk B0; zbh))).out.mono ?_
 rintro e w1 ⟨a1, c1, rfl, M11, hb1, hf1⟩
 have Vx1 : DyV w1 b0 bd s (.slice a n cap) e := (Vx0.out.on.below hb1)
 (try clear xc0 xc1 xc2 xc3 xc4)
 obtain ⟨xc0, xc1, xc2, xc3, xc4, xc5⟩ := Vx1
 have Vx1 := Lib.hid (DyV.mk xc0 xc1 xc2 xc3 xc4 xc5)
 have Vr1 : DyV w1 b1 false false (.slice none 0 0) 0 := (Vr0.out.on.below hb1)
 (try clear rc0 rc1 rc2 rc3 rc4)
 obtain ⟨rc0, rc1, rc2, rc3, rc4, rc5⟩ := Vr1
 have Vr1 := Lib.hid (DyV.mk rc0 rc1 rc2 rc3 rc4 rc5)
 have B1 := below_box (w := w) (have := Beh.mk B0; zbh) hb1
 have hF1 : 0 < (nl (dman d).natAbs) → w0.heap.size ≤ ab a1 := (fun h => by have hq := hf1 h; (try simp at hq); omega)
 have fr1x : 0 < (nl (dman d).natAbs) → ab a1 ≠ b0 := (fun h => by have := hF1 h; have := Vx0.out.lt; omega)
 have fr1r : 0 < (nl (dman d).natAbs) → ab a1 ≠ b1 := (fun h => by have := hF1 h; have := Vr0.out.lt; omega)
 have fo1 : 0 < (nl (dman d).natAbs) → w.heap.size ≤ ab a1 := (fun h => by have := hF1 h; have := B0.size; omega)
 clear hF1
 clear hb1 hf1
 go_wp2_with fail
 have Vx2 := DyV.put Vx1.out true (decide (dman d < 0)) (.slice a1 (nl (dman d).natAbs) c1) (dexp d)
 have Vr2 := (DyV.set (DyV.set (DyV.set (DyV.set Vr1.out nrx 0 (.bool true)) nrx 1 (.bool (decide (dman d < 0)))) nrx 2 (.slice a1 (nl (dman d).natAbs) c1)) nrx 3 (.int .i64 (dexp d)))
 have M12 := (Mag.set (Mag.set (Mag.set (Mag.set M11 fr1x 0 (.bool true)) fr1x 1 (.bool (decide (dman d < 0)))) fr1x 2 (.slice a1 (nl (dman d).natAbs) c1)) fr1x 3 (.int .i64 (dexp d)))
 have B2 : Below w.heap.size w ((((w1.setCell ⟨b0, 0, none⟩ (.bool true)).setCell ⟨b0, 1, none⟩ (.bool (decide (dman d < 0)))).setCell ⟨b0, 2, none⟩ (.slice a1 (nl (dman d).natAbs) c1)).setCell ⟨b0, 3, none⟩ (.int .i64 (dexp d))) := (by have hszw := (B1).size; repeat (with_reducible first | refine Below.setCell ?_ (by first | omega | (simp <;> omega)) _ | refine Below.alloc ?_ (by first | omega | (simp <;> omega)) _ | refine Below.drew ?_ | refine below_drewN ?_ _ | exact B1))
 generalize ((((w1.setCell ⟨b0, 0, none⟩ (.bool true)).setCell ⟨b0, 1, none⟩ (.bool (decide (dman d < 0)))).setCell ⟨b0, 2, none⟩ (.slice a1 (nl (dman d).natAbs) c1)).setCell ⟨b0, 3, none⟩ (.int .i64 (dexp d))) = w2 at Vx2 Vr2 M12 B2 ⊢
 (try clear xc0 xc1 xc2 xc3 xc4)
 obtain ⟨xc0, xc1, xc2, xc3, xc4, xc5⟩ := Vx2
 have Vx2 := Lib.hid (DyV.mk xc0 xc1 xc2 xc3 xc4 xc5)
 (try clear rc0 rc1 rc2 rc3 rc4)
 obtain ⟨rc0, rc1, rc2, rc3, rc4, rc5⟩ := Vr2
 have Vr2 := Lib.hid (DyV.mk rc0 rc1 rc2 rc3 rc4 rc5)
 refine bodyPost_ret (v := .agg #[.bool true, .bool (decide (dman d < 0)), .slice a1 (nl (dman d).natAbs) c1, .int .i64 (dexp d)]) (by simp only [results, Tryz.results18]; go_simp) rfl ?_
 rw [← hb]
 exact ⟨a1, c1, rfl, (by repeat (with_reducible first | refine Mag.set ?_ fr1x _ _ | refine Mag.set ?_ fr1r _ _ | refine Mag.drew ?_ | refine Mag.drewN ?_ _ | refine Mag.alloc ?_ _ | exact M12)), (by have hszw := (B2).size; repeat (with_reducible first | refine Below.setCell ?_ (by first | omega | (simp <;> omega)) _ | refine Below.alloc ?_ (by first | omega | (simp <;> omega)) _ | refine Below.drew ?_ | refine below_drewN ?_ _ | exact B2)), fo1⟩
theorem rdneg_ok (w : World) (bd s : Bool) (a : Option Addr) (n cap : Nat) (e : Int) (d : Option (Int × Int)) (hx : DyIs w bd s a n cap e d) (hT : Tab w) (hb : dbad d = false) :
 Calls Tryz.prog 18 #[.agg #[.bool bd, .bool s, .slice a n cap, .int .i64 e]] w (RetDy w (dneg d)) := by
 have HN := fun W h ht => Lib.hid (@rdnorm_in W bd s a n cap e d h ht)
 have hbz := isN_bounds hx.1.isN
 have hd := nrm_dneg hx.1.isN hb
 obtain ⟨u, hu⟩ : ∃ u, u = -(dman d) := ⟨_, rfl⟩
 have hul : blen u.natAbs ≤ 131072 := by rw [show u.natAbs = (dman d).natAbs by omega]; exact hbz.1
 rw [← hu] at hd
 have HG := fun W b c h => Lib.hid (rneg_z W b c (dman d) u hu h (nl_lim5 (by omega)))
 have HM := fun W b c h ht => Lib.hid (rmake_z W b c u (dexp d) (dneg d) hd h ht (nl_lim5 (by omega)) (by omega) (by omega))
 generalize dneg d = y at HM ⊢
 clear hd hu hul hbz
 go_enter Tryz.func18, Tryz.ntmps18
 go_wp2_with fail
 have Ix := ((DyV.made' w 46 bd s (.slice a n cap) e (n := w.heap.size) (by rfl)).alloc (.cells #[.bool false, .bool false, (.slice none 0 0), .int .i64 0] 46))
 have Ir := (DyV.made' (w.alloc (.cells #[.bool bd, .bool s, (.slice a n cap), .int .i64 e] 46)) 46 false false (.slice none 0 0) 0 (n := w.heap.size + 1) (by rw [World.size_alloc]))
 have B0 : Below w.heap.size w ((w.alloc (.cells #[.bool bd, .bool s, (.slice a n cap), .int .i64 e] 46)).alloc (.cells #[.bool false, .bool false, (.slice none 0 0), .int .i64 0] 46)) := (by repeat (with_reducible first | refine Below.setCell ?_ (by simp <;> omega) _ | refine Below.alloc ?_ (by simp <;> omega) _ | refine Below.drew ?_ | refine below_drewN ?_ _ | exact Below.refl _ _))
 have nxr : ¬ w.heap.size = w.heap.size + 1 := by omega
 have nrx : ¬ w.heap.size + 1 = w.heap.size := by omega
 generalize ((w.alloc (.cells #[.bool bd, .bool s, (.slice a n cap), .int .i64 e] 46)).alloc (.cells #[.bool false, .bool false, (.slice none 0 0), .int .i64 0] 46)) = w0 at Ix Ir B0 ⊢
 generalize hb1 : w.heap.size + 1 = b1 at Ir nxr nrx ⊢
 generalize hb0 : w.heap.size = b0 at Ix nxr nrx hb1 ⊢
 obtain ⟨xc0, xc1, xc2, xc3, xc4, xc5⟩ := Ix
 have Vx0 := Lib.hid (DyV.mk xc0 xc1 xc2 xc3 xc4 xc5)
 obtain ⟨rc0, rc1, rc2, rc3, rc4, rc5⟩ := Ir
 have Vr0 := Lib.hid (DyV.mk rc0 rc1 rc2 rc3 rc4 rc5)
 refine (HN _ (hx.below (by have hszw := (B0).size; repeat (with_reducible first | refine Below.setCell ?_ (by first | omega | (simp <;> omega)) _ | refine Below.alloc ?_ (by first | omega | (simp <;> omega)) _ | refine Below.drew ?_ | refine below_drewN ?_ _ | exact B0))) (hT.below (by have hszw := (B0).size; repeat (with_reducible first | refine Below.setCell ?_ (by first | omega | (simp <;> omega)) _ | refine Below.alloc ?_ (by first | omega | (simp <;> omega)) _ | refine Below.drew ?_ | refine below_drewN ?_ _ | exact B0)))).out.mono ?_
 rintro e w1 ⟨a1, c1, rfl, M11, hb1, hf1⟩
 have Vx1 : DyV w1 b0 bd s (.slice a n cap) e := (by refine DyV.below ?_ hb1; (repeat (with_reducible first | refine DyV.drew ?_ | refine DyV.drewN ?_ _ | refine DyV.alloc ?_ _)); exact Vx0.out)
 (try clear xc0 xc1 xc2 xc3 xc4)
 obtain ⟨xc0, xc1, xc2, xc3, xc4, xc5⟩ := Vx1
 have Vx1 := Lib.hid (DyV.mk xc0 xc1 xc2 xc3 xc4 xc5)
 have Vr1 : DyV w1 b1 false false (.slice none 0 0) 0 := (by refine DyV.below ?_ hb1; (repeat (with_reducible first | refine DyV.drew ?_ | refine DyV.drewN ?_ _ | refine DyV.alloc ?_ _)); exact Vr0.out)
 (try clear rc0 rc1 rc2 rc3 rc4)
 obtain ⟨rc0, rc1, rc2, rc3, rc4, rc5⟩ := Vr1
 have Vr1 := Lib.hid (DyV.mk rc0 rc1 rc2 rc3 rc4 rc5)
 have B1 := below_box (w := w) (by have hszw := (B0).size; repeat (with_reducible first | refine Below.setCell ?_ (by first | omega | (simp <;> omega)) _ | refine Below.alloc ?_ (by first | omega | (simp <;> omega)) _ | refine Below.drew ?_ | refine below_drewN ?_ _ | exact B0)) hb1
 have hF1 : 0 < (nl (dman d).natAbs) → w0.heap.size ≤ ab a1 := (fun h => by have hq := hf1 h; (try simp at hq); omega)
 have fr1x : 0 < (nl (dman d).natAbs) → ab a1 ≠ b0 := (fun h => by have := hF1 h; have := Vx0.out.lt; omega)
 have fr1r : 0 < (nl (dman d).natAbs) → ab a1 ≠ b1 := (fun h => by have := hF1 h; have := Vr0.out.lt; omega)
 have fo1 : 0 < (nl (dman d).natAbs) → w.heap.size ≤ ab a1 := (fun h => by have := hF1 h; have := B0.size; omega)
 clear hF1
 clear hb1 hf1
 go_wp2_with fail
 have Vx2 := DyV.put Vx1.out false (decide (dman d < 0)) (.slice a1 (nl (dman d).natAbs) c1) (dexp d)
 have Vr2 := (DyV.set (DyV.set (DyV.set (DyV.set Vr1.out nrx 0 (.bool false)) nrx 1 (.bool (decide (dman d < 0)))) nrx 2 (.slice a1 (nl (dman d).natAbs) c1)) nrx 3 (.int .i64 (dexp d)))
 have M12 := (Mag.set (Mag.set (Mag.set (Mag.set M11 fr1x 0 (.bool false)) fr1x 1 (.bool (decide (dman d < 0)))) fr1x 2 (.slice a1 (nl (dman d).natAbs) c1)) fr1x 3 (.int .i64 (dexp d)))
 have B2 : Below w.heap.size w ((((w1.setCell ⟨b0, 0, none⟩ (.bool false)).setCell ⟨b0, 1, none⟩ (.bool (decide (dman d < 0)))).setCell ⟨b0, 2, none⟩ (.slice a1 (nl (dman d).natAbs) c1)).setCell ⟨b0, 3, none⟩ (.int .i64 (dexp d))) := (by have hszw := (B1).size; repeat (with_reducible first | refine Below.setCell ?_ (by first | omega | (simp <;> omega)) _ | refine Below.alloc ?_ (by first | omega | (simp <;> omega)) _ | refine Below.drew ?_ | refine below_drewN ?_ _ | exact B1))
 generalize ((((w1.setCell ⟨b0, 0, none⟩ (.bool false)).setCell ⟨b0, 1, none⟩ (.bool (decide (dman d < 0)))).setCell ⟨b0, 2, none⟩ (.slice a1 (nl (dman d).natAbs) c1)).setCell ⟨b0, 3, none⟩ (.int .i64 (dexp d))) = w2 at Vx2 Vr2 M12 B2 ⊢
 (try clear xc0 xc1 xc2 xc3 xc4)
 obtain ⟨xc0, xc1, xc2, xc3, xc4, xc5⟩ := Vx2
 have Vx2 := Lib.hid (DyV.mk xc0 xc1 xc2 xc3 xc4 xc5)
 (try clear rc0 rc1 rc2 rc3 rc4)
 obtain ⟨rc0, rc1, rc2, rc3, rc4, rc5⟩ := Vr2
 have Vr2 := Lib.hid (DyV.mk rc0 rc1 rc2 rc3 rc4 rc5)
 first
 | go_region_held3 (fun w' => w'.cell? ⟨b0, 0, none⟩ = some (.bool false) ∧ w'.cell? ⟨b0, 1, none⟩ = some (.bool (decide (dman d < 0))) ∧ w'.cell? ⟨b0, 2, none⟩ = some ((.slice a1 (nl (dman d).natAbs) c1)) ∧ w'.cell? ⟨b0, 3, none⟩ = some (.int .i64 (dexp d))) (first | (go_keep; done) | (go_simp; done))
  (first
   | (go_at_call 56; have xx := B3; refine (HM _ a2 c2 (by repeat (with_reducible first | refine Mag.set ?_ (fun h => by have := M23 h; omega) _ _ | refine Mag.drew ?_ | refine Mag.alloc ?_ _ | refine Mag.drewN ?_ _ | exact M23)) (hT.below (by have hszw := (B3).size; repeat (with_reducible first | refine Below.setCell ?_ (by first | omega | (simp <;> omega)) _ | refine Below.alloc ?_ (by first | omega | (simp <;> omega)) _ | refine Below.drew ?_ | refine below_drewN ?_ _ | exact B3)))).out.mono ?_; rintro e w4 ⟨ay, cy, rfl, My4, hb4, hf4⟩; have Vx4 : DyV w4 b0 false (decide (dman d < 0)) (.slice a1 (nl (dman d).natAbs) c1) (dexp d) := (by refine DyV.below ?_ hb4; (repeat (with_reducible first | refine DyV.drew ?_ | refine DyV.drewN ?_ _ | refine DyV.alloc ?_ _)); exact Vx3.out); (try clear xc0 xc1 xc2 xc3 xc4); obtain ⟨xc0, xc1, xc2, xc3, xc4, xc5⟩ := Vx4; have Vx4 := Lib.hid (DyV.mk xc0 xc1 xc2 xc3 xc4 xc5); have Vr4 : DyV w4 b1 false false (.slice none 0 0) 0 := (by refine DyV.below ?_ hb4; (repeat (with_reducible first | refine DyV.drew ?_ | refine DyV.drewN ?_ _ | refine DyV.alloc ?_ _)); exact Vr3.out); (try clear rc0 rc1 rc2 rc3 rc4); obtain ⟨rc0, rc1, rc2, rc3, rc4, rc5⟩ := Vr4; have Vr4 := Lib.hid (DyV.mk rc0 rc1 rc2 rc3 rc4 rc5); have M14 : Mag w4 a1 (nl (dman d).natAbs) c1 (dman d).natAbs := Mag.below (by repeat (with_reducible first | refine Mag.set ?_ (fun h => by have := M13 h; omega) _ _ | refine Mag.drew ?_ | refine Mag.alloc ?_ _ | refine Mag.drewN ?_ _ | exact M13)) hb4; have M24 : Mag w4 a2 (nl u.natAbs) c2 u.natAbs := Mag.below (by repeat (with_reducible first | refine Mag.set ?_ (fun h => by have := M23 h; omega) _ _ | refine Mag.drew ?_ | refine Mag.alloc ?_ _ | refine Mag.drewN ?_ _ | exact M23)) hb4; have B4 := below_box (w := w) (by have hszw := (B3).size; repeat (with_reducible first | refine Below.setCell ?_ (by first | omega | (simp <;> omega)) _ | refine Below.alloc ?_ (by first | omega | (simp <;> omega)) _ | refine Below.drew ?_ | refine below_drewN ?_ _ | exact B3)) hb4; have hF4 : 0 < (nl (dman y).natAbs) → w3.heap.size ≤ ab ay := (fun h => by have hq := hf4 h; (try simp at hq); omega); have fryx : 0 < (nl (dman y).natAbs) → ab ay ≠ b0 := (fun h => by have := hF4 h; have := Vx3.out.lt; omega); have fryr : 0 < (nl (dman y).natAbs) → ab ay ≠ b1 := (fun h => by have := hF4 h; have := Vr3.out.lt; omega); have foy : 0 < (nl (dman y).natAbs) → w.heap.size ≤ ab ay := (fun h => by have := hF4 h; have := B3.size; omega); clear hF4; clear hb4 hf4)
   | (go_at_call 57; have xx := B2; refine (HG _ a1 c1 (by repeat (with_reducible first | refine Mag.set ?_ (fun h => by have := M12 h; omega) _ _ | refine Mag.drew ?_ | refine Mag.alloc ?_ _ | refine Mag.drewN ?_ _ | exact M12))).out.mono ?_; rintro e w3 ⟨a2, c2, rfl, M23, hb3, hf3⟩; have Vx3 : DyV w3 b0 false (decide (dman d < 0)) (.slice a1 (nl (dman d).natAbs) c1) (dexp d) := (by refine DyV.below ?_ hb3; (repeat (with_reducible first | refine DyV.drew ?_ | refine DyV.drewN ?_ _ | refine DyV.alloc ?_ _)); exact Vx2.out); (try clear xc0 xc1 xc2 xc3 xc4); obtain ⟨xc0, xc1, xc2, xc3, xc4, xc5⟩ := Vx3; have Vx3 := Lib.hid (DyV.mk xc0 xc1 xc2 xc3 xc4 xc5); have Vr3 : DyV w3 b1 false false (.slice none 0 0) 0 := (by refine DyV.below ?_ hb3; (repeat (with_reducible first | refine DyV.drew ?_ | refine DyV.drewN ?_ _ | refine DyV.alloc ?_ _)); exact Vr2.out); (try clear rc0 rc1 rc2 rc3 rc4); obtain ⟨rc0, rc1, rc2, rc3, rc4, rc5⟩ := Vr3; have Vr3 := Lib.hid (DyV.mk rc0 rc1 rc2 rc3 rc4 rc5); have M13 : Mag w3 a1 (nl (dman d).natAbs) c1 (dman d).natAbs := Mag.below (by repeat (with_reducible first | refine Mag.set ?_ (fun h => by have := M12 h; omega) _ _ | refine Mag.drew ?_ | refine Mag.alloc ?_ _ | refine Mag.drewN ?_ _ | exact M12)) hb3; have B3 := below_box (w := w) (by have hszw := (B2).size; repeat (with_reducible first | refine Below.setCell ?_ (by first | omega | (simp <;> omega)) _ | refine Below.alloc ?_ (by first | omega | (simp <;> omega)) _ | refine Below.drew ?_ | refine below_drewN ?_ _ | exact B2)) hb3; have hF3 : 0 < (nl u.natAbs) → w2.heap.size ≤ ab a2 := (fun h => by have hq := hf3 h; (try simp at hq); omega); have fr2x : 0 < (nl u.natAbs) → ab a2 ≠ b0 := (fun h => by have := hF3 h; have := Vx2.out.lt; omega); have fr2r : 0 < (nl u.natAbs) → ab a2 ≠ b1 := (fun h => by have := hF3 h; have := Vr2.out.lt; omega); have fo2 : 0 < (nl u.natAbs) → w.heap.size ≤ ab a2 := (fun h => by have := hF3 h; have := B2.size; omega); clear hF3; clear hb3 hf3)
   | fail)
 | fail "region"
 go_wp2_with fail
 refine bodyPost_ret (v := .agg #[.bool (dbad y), .bool (decide (dman y < 0)), .slice ay (nl (dman y).natAbs) cy, .int .i64 (dexp y)]) (by simp only [results, Tryz.results18]; go_simp) rfl ?_
 exact ⟨ay, cy, rfl, (by repeat (with_reducible first | refine Mag.set ?_ fryx _ _ | refine Mag.set ?_ fryr _ _ | refine Mag.drew ?_ | refine Mag.drewN ?_ _ | refine Mag.alloc ?_ _ | exact My4)), (by have hszw := (B4).size; repeat (with_reducible first | refine Below.setCell ?_ (by first | omega | (simp <;> omega)) _ | refine Below.alloc ?_ (by first | omega | (simp <;> omega)) _ | refine Below.drew ?_ | refine below_drewN ?_ _ | exact B4)), foy⟩
theorem rdneg_any (w : World) (bd s : Bool) (a : Option Addr) (n cap : Nat) (e : Int) (d : Option (Int × Int)) (hx : DyIs w bd s a n cap e d) (hT : Tab w) :
 Calls Tryz.prog 18 #[.agg #[.bool bd, .bool s, .slice a n cap, .int .i64 e]] w (RetDy w (dneg d)) := by
 cases hb : dbad d with
 | true => have h := rdneg_bad w bd s a n cap e d hx hT hb; rw [dbad_none hb] at h ⊢; exact h
 | false => exact rdneg_ok w bd s a n cap e d hx hT hb
end Go.Proofs.YtablcbgeeeboeaaGreatDoor
namespace Go.Proofs.YtablcbgeeeboeaaGreatDoor
open Go.RowKit Sp
section
variable {W : World} {v s : Bool} {a : Option Addr} {n cap : Nat} {e : Int} {d : Option (Int × Int)}
end
theorem frsF {P : Program} {f : FuncId} {args : Array Value} {W : World} {d : Option (Int × Int)} (hd : IsN d) (h : Calls P f args W (RetDy W d)) :
 Calls P f args W fun e w' => ∃ a c, e = .returned (.agg #[.bool (dbad d), .bool (decide (dman d < 0)), .slice a (nl (dman d).natAbs) c, .int .i64 (dexp d)]) ∧
  DS w' (dbad d) (decide (dman d < 0)) a (nl (dman d).natAbs) c (dexp d) d ∧ From W w' ∧ BI w' a (nl (dman d).natAbs) c (dman d).natAbs ∧ (0 < nl (dman d).natAbs → W.heap.size ≤ ab a) :=
 h.mono fun _ _ ⟨a, c, he, hm, hb, hf⟩ => ⟨a, c, he, ⟨dys_of hd hm⟩, ⟨hb⟩, ⟨hm⟩, hf⟩
theorem dsome {d : Option (Int × Int)} (hb : dbad d = false) : d = some (dman d, dexp d) := by cases d with | none => cases hb | some p => rfl
end Go.Proofs.YtablcbgeeeboeaaGreatDoor
namespace Go.Proofs.YtablcbgeeeboeaaGreatDoor
open Go.RowKit Sp
theorem sumI_neg (M : Nat → Int) (n : Nat) : sumI (fun i => -M i) n = -sumI M n := by
 induction n with
 | zero => rfl
 | succ n ih => simp only [sumI]; rw [ih]; omega
theorem sumI_add (M : Nat → Int) (k m : Nat) : sumI M (k + m) = sumI M k + sumI (fun i => M (k + i)) m := by
 induction m with
 | zero => simp [sumI]
 | succ m ih => rw [← Nat.add_assoc]; simp only [sumI]; rw [ih]; omega
theorem blen_fz_mul {a b : Nat} (ha : ffin a = true) (hb : ffin b = true) : blen (fz a * fz b).natAbs ≤ 4196 := by
 have := bl_mul (fz a) (fz b); have := blen_fz ha; have := blen_fz hb; omega
theorem dval2 {b : Nat} (hb : ffin b = true) : fof b = nrm (fz b * 2 ^ 1074) (-2148) ∧ nrm (fz b * 2 ^ 1074) (-2148) ≠ none := by
 have e1 : fof b = nrm (fz b * 2 ^ 1074) (-2148) := by rw [nrm_scale, fof_fin hb]; rfl
 exact ⟨e1, by rw [← e1, fof_fin hb]; exact fof_some hb⟩
theorem blen_val2 {b : Nat} (hb : ffin b = true) : blen (fz b * 2 ^ 1074).natAbs ≤ 3172 := blen_mulpow 1074 (blen_fz hb)
end Go.Proofs.YtablcbgeeeboeaaGreatDoor
namespace Go.Proofs.YtablcbgeeeboeaaGreatDoor
open Go.RowKit Sp
end Go.Proofs.YtablcbgeeeboeaaGreatDoor
namespace Go.Proofs.YtablcbgeeeboeaaGreatDoor
open Go.RowKit Sp
attribute [local irreducible] Calls
theorem rdmul_any (w : World) (v s v' s' : Bool) (A A' : Option Addr) (n n' c c' : Nat) (e e' : Int) (d d' : Option (Int × Int)) (hx : DyIs w v s A n c e d) (hy : DyIs w v' s' A' n' c' e' d') (hT : Tab w) :
 Calls Tryz.prog 19 #[.agg #[.bool v, .bool s, .slice A n c, .int .i64 e], .agg #[.bool v', .bool s', .slice A' n' c', .int .i64 e']] w (RetDy w (dmul d d')) := by
 obtain ⟨u, hu⟩ : ∃ u, u = dmul d d' := ⟨_, rfl⟩
 rw [← hu]
 have HT : Tb w := ⟨hT⟩
 have HX : DS w v s A n c e d := ⟨hx⟩
 have HY : DS w v' s' A' n' c' e' d' := ⟨hy⟩
 have hN := hx.1.isN
 have hN' := hy.1.isN
 have HN := fun W [i : DS W v s A n c e d] [Tb W] => Lib.hid (frsF hN (rdnorm_in W i.out tb))
 have HN2 := fun W [i : DS W v' s' A' n' c' e' d'] [Tb W] => Lib.hid (frsF hN' (rdnorm_in W i.out tb))
 have HB := fun W => Lib.hid (frm (rbad_any W))
 have hB := isN_bounds hN
 have hB' := isN_bounds hN'
 have hU := Lib.hid hu
 clear hx hy hu
 go_enter Tryz.func19, Tryz.ntmps19
 go_upto_region 1 with fail
 go_cut [] (fun wx => ∃ a1 c1 a2 c2, DB wx w.heap.size (dbad d) (decide (dman d < 0)) (.slice a1 (nl (dman d).natAbs) c1) (dexp d) ∧ DB wx (w.heap.size + 1) (dbad d') (decide (dman d' < 0)) (.slice a2 (nl (dman d').natAbs) c2) (dexp d') ∧ DB wx (w.heap.size + 1 + 1) false false (.slice none 0 0) 0 ∧ BI wx a1 (nl (dman d).natAbs) c1 (dman d).natAbs ∧ BI wx a2 (nl (dman d').natAbs) c2 (dman d').natAbs ∧ Beh w wx)
 case first =>
  first
  | go_region_with (first
   | (go_at_call 55; refine (HN _).out.mono ?_; rintro o w1 ⟨a1, c1, rfl, i1, b1, j1, f1⟩; haveI g1 := FA.mk f1)
   | (go_at_call 55; refine (HN2 _).out.mono ?_; rintro o w2 ⟨a2, c2, rfl, i2, b2, j2, f2⟩; haveI g2 := FA.mk f2)
   | fail)
  | fail "region"
  all_goals (
   go_wp2_with fail
   go_meet
   exact ⟨a1, c1, a2, c2, inferInstance, inferInstance, inferInstance, inferInstance, inferInstance, inferInstance⟩)
 case rest =>
  obtain ⟨a1, c1, a2, c2, V1, V2, V3, j1, j2, b3⟩ := hcut
  generalize wc = v1 at *
  clear HN HN2
  haveI T1 : Tb v1 := ⟨hT.below b3.out⟩
  cases hb : dbad d with
  | true =>
   obtain rfl : u = none := by rw [hU.out, dbad_none hb]; cases d' <;> rfl
   clear hU
   go_wp2_with fail
   refine (HB _).out.mono ?_
   rintro o w8 ⟨rfl, b8⟩
   go_wp2_with fail
   refine bodyPost_ret (v := .agg #[.bool true, .bool false, .slice none 0 0, .int .i64 0]) (by simp only [results, Tryz.results19]; go_simp) rfl ?_
   exact ⟨none, 0, rfl, Mag.nil _, zbh, nl0⟩
  | false =>
  cases hb' : dbad d' with
  | true =>
   obtain rfl : u = none := by rw [hU.out, dbad_none hb', dsome hb]; rfl
   clear hU
   go_wp2_with fail
   refine (HB _).out.mono ?_
   rintro o w8 ⟨rfl, b8⟩
   go_wp2_with fail
   refine bodyPost_ret (v := .agg #[.bool true, .bool false, .slice none 0 0, .int .i64 0]) (by simp only [results, Tryz.results19]; go_simp) rfl ?_
   exact ⟨none, 0, rfl, Mag.nil _, zbh, nl0⟩
  | false =>
  obtain ⟨m, E, hd⟩ : ∃ m E, d = some (m, E) := ⟨_, _, dsome hb⟩
  obtain ⟨m', E', hd'⟩ : ∃ m E, d' = some (m, E) := ⟨_, _, dsome hb'⟩
  subst hd hd'
  have V1 : DB v1 w.heap.size false (decide (m < 0)) (.slice a1 (nl m.natAbs) c1) E := V1
  have V2 : DB v1 (w.heap.size + 1) false (decide (m' < 0)) (.slice a2 (nl m'.natAbs) c2) E' := V2
  have j1 : BI v1 a1 (nl m.natAbs) c1 m.natAbs := j1
  have j2 : BI v1 a2 (nl m'.natAbs) c2 m'.natAbs := j2
  have hB : blen m.natAbs ≤ 131072 ∧ -65536 ≤ E ∧ E ≤ 65536 := hB
  have hB' : blen m'.natAbs ≤ 131072 ∧ -65536 ≤ E' ∧ E' ≤ 65536 := hB'
  have hu : u = nrm (m * m') (E + E') := hU.out
  clear hN hN' hU hb hb' HX HY
  obtain ⟨Z, hZ⟩ : ∃ Z, Z = m * m' := ⟨_, rfl⟩
  obtain ⟨K, hK⟩ : ∃ K, K = E + E' := ⟨_, rfl⟩
  have hblZ : blen Z.natAbs ≤ 262145 := by
   rw [hZ, Int.natAbs_mul]
   have := blen_mul_le m.natAbs m'.natAbs
   omega
  rw [← hZ, ← hK] at hu
  have nu : IsN u := by rw [hu]; exact isN_nrm _ _
  have HC := fun W b c b' c' [i : BI W b (nl m.natAbs) c m.natAbs] [j : BI W b' (nl m'.natAbs) c' m'.natAbs] => Lib.hid (frb (rmul_z W b b' c c' m m' Z hZ i.out j.out (nl_lim5 (by omega)) (nl_lim5 (by omega))))
  have HM := fun W b c [i : BI W b (nl Z.natAbs) c Z.natAbs] [Tb W] => Lib.hid (frsF nu (rmake_z W b c Z K u hu i.out tb (nl_lim5 (by omega)) (by omega) (by omega)))
  have t1 : IntKind.i64.wrap (E + E') = K := by rw [IntKind.wrap_i64]; omega
  have t2 : wrap64 (E + E') = K := by unfold wrap64; omega
  clear hu hZ hK nu hblZ hB hB'
  go_wp2_with fail
  first
  | go_region_held3 (fun w' => w'.cell? ⟨w.heap.size, 1, none⟩ = some (.bool (decide (m < 0))) ∧ w'.cell? ⟨w.heap.size, 2, none⟩ = some (.slice a1 (nl m.natAbs) c1) ∧ w'.cell? ⟨w.heap.size, 3, none⟩ = some (.int .i64 E) ∧ w'.cell? ⟨w.heap.size + 1, 1, none⟩ = some (.bool (decide (m' < 0))) ∧ w'.cell? ⟨w.heap.size + 1, 2, none⟩ = some (.slice a2 (nl m'.natAbs) c2) ∧ w'.cell? ⟨w.heap.size + 1, 3, none⟩ = some (.int .i64 E')) (first | (go_simp; done)) (first
   | (go_at_call 59; refine (HC _ _ _ _ _).out.mono ?_; rintro o w6 ⟨a6, c6, rfl, i6, b6, f6⟩; haveI T6 : Tb w6 := ⟨hT.below zbh⟩)
   | (go_at_call 56; refine (HM _ _ _).out.mono ?_; rintro o w9 ⟨a9, c9, rfl, i9, b9, j9, f9⟩; haveI g9 := FA.mk f9)
   | fail)
  | fail "region"
  all_goals (
   go_wp2_with fail
   refine bodyPost_ret (v := .agg #[.bool (dbad u), .bool (decide (dman u < 0)), .slice a9 (nl (dman u).natAbs) c9, .int .i64 (dexp u)]) (by simp only [results, Tryz.results19]; go_simp) rfl ?_
   exact ⟨a9, c9, rfl, BI.out, zbh, fresh_of b9 f9⟩)
end Go.Proofs.YtablcbgeeeboeaaGreatDoor
namespace Go.Proofs.YtablcbgeeeboeaaGreatDoor
open Go.RowKit Sp
theorem firstE_zero {f : Nat → Int} : ∀ (q a : Nat), firstE f a q = 0 → ∀ i, a ≤ i → i < a + q → f i = 0 := by
 intro q
 induction q with
 | zero => intro a _ i h1 h2; omega
 | succ q ih =>
  intro a h i h1 h2
  by_cases hf : f a = 0
  · simp only [firstE, hf, if_true] at h
    by_cases hi : i = a
    · rw [hi]; exact hf
    · exact ih (a + 1) h i (by omega) (by omega)
  · simp only [firstE, if_neg hf] at h; exact absurd h hf
theorem pan_lt {B : Nat → Option (Int × Int)} {n : Nat} : ∀ (j t : Nat), t / n < j → pan B n j t = if t % n < t / n then 0 else pval B n (pan B n (t / n)) (t / n) (t % n) := by
 intro j
 induction j with
 | zero => intro t h; exact absurd h (Nat.not_lt_zero _)
 | succ j ih =>
  intro t h
  simp only [pan]
  by_cases hj : t / n = j
  · rw [if_pos hj, hj]
  · rw [if_neg hj]; exact ih t (by omega)
end Go.Proofs.YtablcbgeeeboeaaGreatDoor
namespace Go.Proofs.YtablcbgeeeboeaaGreatDoor
open Go.RowKit Sp
def Exm (B : Nat → Option (Int × Int)) (M : Nat → Int) (P : Nat) : Prop := ∀ t, B t = nrm (M t) (-2148) ∧ blen (M t).natAbs ≤ P
def prods (n : Nat) (V : Nat → Nat) (i j m : Nat) : Int := sumI (fun c => fz (V (c * n + i)) * fz (V (c * n + j))) m
theorem sumI_first (M : Nat → Int) (n : Nat) : sumI M (n + 1) = M 0 + sumI (fun i => M (i + 1)) n := by
 rw [Nat.add_comm, sumI_add]; simp only [sumI, Int.zero_add, Nat.add_comm 1]
theorem dleft_val {B : Nat → Option (Int × Int)} {M : Nat → Int} {P n : Nat} (h : Exm B M P) (hP : 4196 ≤ P) (hP2 : P ≤ 60000) (V : Nat → Nat) (i j m : Nat) (hm : m ≤ 14)
 (hV : ∀ c, c < m → ffin (V (c * n + i)) = true ∧ ffin (V (c * n + j)) = true) :
 dleft B n V i j m = nrm (M (j * n + i) - prods n V i j m) (-2148) ∧ blen (M (j * n + i) - prods n V i j m).natAbs ≤ P + 4 ∧ nrm (M (j * n + i) - prods n V i j m) (-2148) ≠ none := by
 let N : Nat → Int := fun q => match q with | 0 => M (j * n + i) | c + 1 => -(fz (V (c * n + i)) * fz (V (c * n + j)))
 have hN : sumI N (m + 1) = M (j * n + i) - prods n V i j m := by
  rw [sumI_first]
  show M (j * n + i) + sumI (fun c => -(fz (V (c * n + i)) * fz (V (c * n + j)))) m = _
  rw [sumI_neg]; unfold prods; omega
 have hb : ∀ q, q < m + 1 → blen (N q).natAbs ≤ P := by
  intro q hq
  cases q with
  | zero => exact (h _).2
  | succ c =>
   show blen (-(fz (V (c * n + i)) * fz (V (c * n + j)))).natAbs ≤ P
   rw [Int.natAbs_neg]
   have := blen_fz_mul (hV c (by omega)).1 (hV c (by omega)).2
   omega
 have hv : ∀ q, q < m + 1 → dterm B n V i j q = nrm (N q) (-2148) ∧ nrm (N q) (-2148) ≠ none := by
  intro q hq
  have hn : nrm (N q) (-2148) ≠ none := nrm_valid (by omega) (by have := hb q hq; omega)
  refine ⟨?_, hn⟩
  cases q with
  | zero => exact (h _).1
  | succ c =>
   obtain ⟨h1, h2⟩ := fmul_val (hV c (by omega)).1 (hV c (by omega)).2
   show dneg (dmul _ _) = _
   rw [h1, dneg_nrm _ _ h2]
 have hs := sumI_blen N (show m + 1 ≤ 15 by omega) hb
 rw [hN] at hs
 refine ⟨?_, by omega, nrm_valid (by omega) (by omega)⟩
 unfold dleft
 rw [dsum_nrm _ N (by omega) (m + 1) hv, hN]
theorem ffin_zero : ffin 0 = true := by decide
theorem ccode_fin {B : Nat → Option (Int × Int)} {n j i : Nat} (h : ccode B n j i = 0) : ffin (pval B n (pan B n j) j i) = true ∧ dbad (dleft B n (pan B n j) i j j) = false := by
 unfold ccode at h
 split at h
 · cases h
 · rename_i hb
   split at h
   · cases h
   · split at h
     · rename_i hf; exact ⟨hf, by simpa using hb⟩
     · cases h
theorem pan_fin {B : Nat → Option (Int × Int)} {n k : Nat} (h : eliE B n k = 0) {t : Nat} (ht : t / n < k) (hn : 0 < n) {q : Nat} (hq : t / n < q) : ffin (pan B n q t) = true := by
 rw [pan_lt _ _ hq]
 have h1 := firstE_zero _ _ h (t / n) (Nat.zero_le _) (by omega)
 have hm := Nat.mod_lt t hn
 split
 · exact ffin_zero
 · exact (ccode_fin (firstE_zero _ _ h1 (t % n) (by omega) (by omega))).1
theorem pan_fin' {B : Nat → Option (Int × Int)} {n k : Nat} (h : eliE B n k = 0) {c i : Nat} (hc : c < k) (hi : i < n) : ffin (pan B n k (c * n + i)) = true :=
 pan_fin h (by rw [idx_div hi]; exact hc) (by omega) (by rw [idx_div hi]; exact hc)
theorem conE_zero {B : Nat → Option (Int × Int)} {M : Nat → Int} {P n k : Nat} (h : Exm B M P) (hP : 4196 ≤ P) (hP2 : P ≤ 60000) (hk : k ≤ 14) (he : eliE B n k = 0) : conE B n k = 0 :=
 firstE_all _ _ fun j h1 h2 => firstE_all _ _ fun i h3 h4 => by
  have hv := dleft_val h hP hP2 (pan B n k) i j k hk (fun c hc => ⟨pan_fin' he hc (by omega), pan_fin' he hc (by omega)⟩)
  unfold resE'
  rw [hv.1, dbad_ne hv.2.2]; rfl
section
variable {B : Nat → Option (Int × Int)} {M : Nat → Int} {P n m : Nat}
variable (h : Exm B M P) (hP : 4196 ≤ P) (hP2 : P ≤ 50000) (hn : n ≤ 6) (hmn : m < n) (he : eliE B n m = 0)
include h hP hP2 hn hmn he
end
theorem rest_zero {B : Nat → Option (Int × Int)} {M : Nat → Int} {P n k i j : Nat} (h : Exm B M P) (hP : 4196 ≤ P) (hP2 : P ≤ 50000) (hk : k ≤ 10) (he : eliE B n k = 0) (hi : i < n) (hj : j < n) :
 dsum (fun q => match q with | 0 => dneg (B (j * n + i)) | 1 => dleft B n (pan B n k) i j k | c + 2 => dmul (fof (pan B n k (c * n + i))) (fof (pan B n k (c * n + j)))) (k + 2) = some (0, 0) := by
 have hV : ∀ c, c < k → ffin (pan B n k (c * n + i)) = true ∧ ffin (pan B n k (c * n + j)) = true := fun c hc => ⟨pan_fin' he hc hi, pan_fin' he hc hj⟩
 have v := dleft_val h hP (by omega) (pan B n k) i j k (by omega) hV
 have w := h (j * n + i)
 have wn : nrm (M (j * n + i)) (-2148) ≠ none := nrm_valid (by omega) (by omega)
 let N : Nat → Int := fun q => match q with | 0 => -M (j * n + i) | 1 => M (j * n + i) - prods n (pan B n k) i j k | c + 2 => fz (pan B n k (c * n + i)) * fz (pan B n k (c * n + j))
 have hv : ∀ q, q < k + 2 → (fun q => match q with | 0 => dneg (B (j * n + i)) | 1 => dleft B n (pan B n k) i j k | c + 2 => dmul (fof (pan B n k (c * n + i))) (fof (pan B n k (c * n + j)))) q = nrm (N q) (-2148) ∧ nrm (N q) (-2148) ≠ none := by
  intro q hq
  rcases q with _ | _ | c
  · exact ⟨by show dneg (B _) = _; rw [w.1, dneg_nrm _ _ wn], nrm_neg_valid wn⟩
  · exact ⟨v.1, v.2.2⟩
  · exact fmul_val (hV c (by omega)).1 (hV c (by omega)).2
 rw [dsum_nrm _ N (by omega) (k + 2) hv, sumI_first, sumI_first]
 have e : N 0 + (N (0 + 1) + sumI (fun i => N (i + 1 + 1)) k) = 0 := by
  show -M (j * n + i) + (M (j * n + i) - prods n (pan B n k) i j k + prods n (pan B n k) i j k) = 0
  omega
 rw [e]; rfl
theorem exm_of {X : Nat → Nat} (h : ∀ t, ffin (X t) = true) : Exm (fun t => fof (X t)) (fun t => fz (X t) * 2 ^ 1074) 4196 := fun t => ⟨(dval2 (h t)).1, Nat.le_trans (blen_val2 (h t)) (by omega)⟩
end Go.Proofs.YtablcbgeeeboeaaGreatDoor
namespace Go.Proofs.YtablcbgeeeboeaaGreatDoor
open Go.RowKit Sp
theorem elimE_zero {B : Nat → Option (Int × Int)} {M : Nat → Int} {P n k : Nat} (h : Exm B M P) (hP : 4196 ≤ P) (hP2 : P ≤ 60000) (hk : k ≤ 14) : elimE B n k = 0 ↔ eliE B n k = 0 := by
 unfold elimE
 by_cases he : eliE B n k = 0
 · rw [if_pos he]; exact ⟨fun _ => he, fun _ => conE_zero h hP hP2 hk he⟩
 · rw [if_neg he]
end Go.Proofs.YtablcbgeeeboeaaGreatDoor
namespace Go.Proofs.YtablcbgeeeboeaaGreatDoor
open Go.RowKit Sp
attribute [local irreducible] Calls
theorem delim_ok (w : World) [Tb w] (n k : Nat) (width : Int) (ae : Option Addr) (ce : Nat) (B : Nat → Option (Int × Int)) [hB : DZ w ae (n * n) ce B] (hN : ∀ t, IsN (B t)) (hbad : anyBad B (n * n) = false) (hn : n ≤ 64) (hk : k ≤ n) (hw1 : 1 ≤ width) (hw2 : width ≤ 9223372036854775807) (he : elimE B n k = 0) :
 Calls Tryz.prog 13 #[.agg #[.int .i64 n, .int .i64 n, .slice ae (n * n) ce], .int .i64 k, .int .i64 width] w fun o w' => ∃ (pa : Option Addr) (pc : Nat) (oa : Option Addr) (oc : Nat),
  o = .returned (.tuple #[.agg #[.int .i64 n, .int .i64 k, .slice pa (n * k) pc], .agg #[.int .i64 (n - k : Nat), .int .i64 (n - k : Nat), .slice oa ((n - k) * (n - k)) oc], .int .i64 k, .int .i64 0]) ∧ FZ w' pa (n * k) pc (pan B n k) ∧ DZ w' oa ((n - k) * (n - k)) oc (rest B n k) ∧ From w w' := by
 refine (delim_all w n k width ae ce B hN hbad hn hk hw1 hw2).mono ?_
 rintro o w' ⟨_, rfl, ⟨pa, pc, oa, oc, rfl, hF, hD⟩, b⟩
 have hK : elimK B n k = k := by unfold elimK; rw [if_pos he]
 simp only [epn_ok he] at hF hD ⊢
 rw [he, hK]
 exact ⟨pa, pc, oa, oc, rfl, ⟨hF.2⟩, ⟨hD.dz fun i => isN_rest' _ _ _ _⟩, b⟩
theorem delim_no (w : World) [Tb w] (n k : Nat) (width : Int) (ae : Option Addr) (ce : Nat) (B : Nat → Option (Int × Int)) [hB : DZ w ae (n * n) ce B] (hN : ∀ t, IsN (B t)) (hbad : anyBad B (n * n) = false) (hn : n ≤ 64) (hk : k ≤ n) (hw1 : 1 ≤ width) (hw2 : width ≤ 9223372036854775807) :
 Calls Tryz.prog 13 #[.agg #[.int .i64 n, .int .i64 n, .slice ae (n * n) ce], .int .i64 k, .int .i64 width] w fun o w' => ∃ (pa : Option Addr) (m1 pc : Nat) (oa : Option Addr) (m2 oc : Nat) (c0 c1 c2 y : Int), o = .returned (.tuple #[.agg #[.int .i64 c0, .int .i64 c1, .slice pa m1 pc], .agg #[.int .i64 c2, .int .i64 c2, .slice oa m2 oc], .int .i64 y, .int .i64 (elimE B n k)]) ∧ From w w' := by
 refine (delim_all w n k width ae ce B hN hbad hn hk hw1 hw2).mono ?_
 rintro o w' ⟨_, rfl, ⟨pa, pc, oa, oc, rfl, hF, hD⟩, b⟩
 exact ⟨_, _, _, _, _, _, _, _, _, _, rfl, b⟩
end Go.Proofs.YtablcbgeeeboeaaGreatDoor
namespace Go.Proofs.YtablcbgeeeboeaaGreatDoor
open Go.RowKit Sp
noncomputable def cD (B : Nat → Option (Int × Int)) (n k i j : Nat) : Nat → Option (Int × Int)
 | 0 => dneg (B ((j + k) * n + (i + k)))
 | 1 => rest B n k (j * (n - k) + i)
 | c + 2 => dmul (fof (pan B n k (c * n + (i + k)))) (fof (pan B n k (c * n + (j + k))))
theorem isN_cD {B : Nat → Option (Int × Int)} (hB : ∀ t, IsN (B t)) (n k i j q : Nat) : IsN (cD B n k i j q) := by
 rcases q with _ | _ | q
 · exact isN_neg (hB _)
 · exact isN_dleft _ _ _ _ _ _
 · exact isN_mul _ _
theorem dleft_comm {B : Nat → Option (Int × Int)} {n : Nat} {V : Nat → Nat} {i j m : Nat} (h : B (j * n + i) = B (i * n + j)) : dleft B n V i j m = dleft B n V j i m := by
 unfold dleft
 refine dsum_congr fun q _ => ?_
 cases q with
 | zero => exact h
 | succ c => show dneg (dmul _ _) = dneg (dmul _ _); rw [dmul_comm]
theorem rest_sym {B : Nat → Option (Int × Int)} {n k i j : Nat} (hi : i < n - k) (hj : j < n - k) : rest B n k (j * (n - k) + i) = rest B n k (i * (n - k) + j) := by
 unfold rest
 rw [idx_div hi, idx_mod hi, idx_div hj, idx_mod hj, Nat.max_comm, Nat.min_comm]
theorem rest_at {B : Nat → Option (Int × Int)} {n k i j : Nat} (hs : ∀ i j, i < n → j < n → B (j * n + i) = B (i * n + j)) (hi : i < n - k) (hj : j < n - k) : rest B n k (j * (n - k) + i) = dleft B n (pan B n k) (i + k) (j + k) k := by
 unfold rest
 rw [idx_div hi, idx_mod hi]
 by_cases h : j ≤ i
 · rw [show max j i = i by omega, show min j i = j by omega, Nat.add_comm k i, Nat.add_comm k j]
 · rw [show max j i = j by omega, show min j i = i by omega, Nat.add_comm k i, Nat.add_comm k j]
   exact dleft_comm (hs _ _ (by omega) (by omega))
theorem contr_zero {X : Nat → Nat} (hX : ∀ t, ffin (X t) = true) {n k i j : Nat} (hn : n ≤ 6) (hk : k ≤ n) (hs : ∀ i j, i < n → j < n → X (j * n + i) = X (i * n + j)) (he : elimE (fun t => fof (X t)) n k = 0) (hi : i < n - k) (hj : j < n - k) :
 dsum (cD (fun t => fof (X t)) n k i j) (k + 2) = some (0, 0) := by
 have hE := exm_of hX
 have hB : ∀ i j, i < n → j < n → (fun t => fof (X t)) (j * n + i) = (fun t => fof (X t)) (i * n + j) := fun i j h1 h2 => by show fof _ = fof _; rw [hs i j h1 h2]
 generalize (fun t => fof (X t)) = B at *
 have e0 := (elimE_zero (n := n) (k := k) hE (by omega) (by omega) (by omega)).1 he
 rw [← rest_zero hE (by omega) (by omega) (by omega) e0 (i := i + k) (j := j + k) (by omega) (by omega)]
 refine dsum_congr fun q _ => ?_
 rcases q with _ | _ | q
 · rfl
 · exact rest_at hB hi hj
 · rfl
end Go.Proofs.YtablcbgeeeboeaaGreatDoor
set_option maxRecDepth 100000
set_option maxHeartbeats 20000000
namespace Go.Proofs.YtablcbgeeeboeaaGreatDoor
open Go.RowKit Sp
theorem DX.two {w : World} {base : Nat} {d : Nat → Option (Int × Int)} {a0 a1 : Option Addr} {c0 c1 : Nat} (hb : base ≤ w.heap.size) {e0 e1 : Option (Int × Int)} (h0 : e0 = d 0) (h1 : e1 = d 1) (hm0 : Mag w a0 (nl (dman e0).natAbs) c0 (dman e0).natAbs) (hm1 : Mag w a1 (nl (dman e1).natAbs) c1 (dman e1).natAbs) {n : Nat} (hn : n = w.heap.size) :
 DX (w.alloc (.cells #[.bool (dbad e0), .bool (decide (dman e0 < 0)), .slice a0 (nl (dman e0).natAbs) c0, .int .i64 (dexp e0), .bool (dbad e1), .bool (decide (dman e1 < 0)), .slice a1 (nl (dman e1).natAbs) c1, .int .i64 (dexp e1)] 46)) base (.slice (some ⟨n, 0, none⟩) 2 2) 2 d (fun i => if i = 0 then a0 else a1) (fun i => if i = 0 then c0 else c1) := by
 subst h0 h1 hn
 refine ⟨⟨?_, fun i hi => ?_, fun i hi hp => ?_⟩⟩
 · exact World.ownsRow_lit w #[.bool (dbad (d 0)), .bool (decide (dman (d 0) < 0)), .slice a0 (nl (dman (d 0)).natAbs) c0, .int .i64 (dexp (d 0)), .bool (dbad (d 1)), .bool (decide (dman (d 1) < 0)), .slice a1 (nl (dman (d 1)).natAbs) c1, .int .i64 (dexp (d 1))] 2 hb (by unfold maxLen; omega) rfl
 · rcases (show i = 0 ∨ i = 1 by omega) with rfl | rfl
   · exact hm0.alloc _
   · exact hm1.alloc _
 · rcases (show i = 0 ∨ i = 1 by omega) with rfl | rfl
   · have := hm0.old hp
     simp [Value.ownBlock]; omega
   · have := hm1.old hp
     simp [Value.ownBlock]; omega
attribute [local irreducible] Calls
theorem dcontrib_any (w : World) [Tb w] (a : Option Addr) (c0 cap : Nat) (L : Nat → Nat) [hL : FZ w a c0 cap L] (n s k : Int) :
 Calls Tryz.prog 6 #[.slice a c0 cap, .int .i64 n, .int .i64 s, .int .i64 k] w fun o w' => o = .returned (.bool true) ∧ Below w.heap.size w w' := by
 have HSQ := fun W [Tb W] [FZ W a c0 cap L] => Lib.hid (square_any W a c0 cap L n s true)
 have HAW := fun W [Tb W] => Lib.hid (frm (awake23_any W))
 go_enter Tryz.func6, Tryz.ntmps6
 go_wp2_with fail
 refine (HSQ _).out.mono ?_; rintro o w1 ⟨q, oa, oc, X, rfl, hS, _, b1⟩
 haveI b1' : From w w1 := ⟨b1⟩
 have hq6 := hS.k6
 obtain ⟨kq, hkq, hkl⟩ := pl_nat k (q + 1) (by omega)
 have HZR := Lib.hid fun he i j (hi : i < q - kq) (hj : j < q - kq) => contr_zero (fun t => (hS.f t).2) (n := q) (k := kq) hq6 (by omega) (hS.s rfl) he hi hj
 have hbad := bad_fin (fun t => (hS.f t).2) (q * q)
 obtain ⟨B, hB⟩ : ∃ B, B = fun t => fof (X t) := ⟨_, rfl⟩
 have hBN : ∀ t, IsN (B t) := by rw [hB]; exact fun t => isN_fof _
 rw [← hB] at hbad HZR
 haveI iZ : DZ w1 oa (q * q) oc B := by rw [hB]; exact ⟨hS.z⟩
 have HMK := fun W => Lib.hid (gmod_any W k ((q + 1 : Nat) : Int) (by omega) (by omega))
 rw [hkq] at HMK
 rw [show ((q + 1 : Nat) : Int) = (q : Int) + 1 by omega] at HMK
 have HN := Lib.hid hBN
 clear hB hkq HSQ hS b1
 by_cases h1 : elimE B q kq = 0
 · have HE1 := fun W [Tb W] [DZ W oa (q * q) oc B] => Lib.hid (delim_ok W q kq 3 oa oc B HN.out hbad (by omega) (by omega) (by omega) (by omega) h1)
   have hzr := HZR.out h1
   obtain ⟨r, hr⟩ : ∃ r, r = q - kq := ⟨_, rfl⟩
   obtain ⟨N, hN⟩ : ∃ N, N = r * r := ⟨_, rfl⟩
   obtain ⟨N1, hN1⟩ : ∃ N1, N1 = q * kq := ⟨_, rfl⟩
   rw [← hr, ← hN, ← hN1] at HE1
   rw [← hr] at hzr
   have hri : (q : Int) - (kq : Int) = (r : Int) := by omega
   have l1 : (q : Int) * (kq : Int) = (N1 : Int) := by rw [hN1]; exact (Int.natCast_mul q kq).symm
   have l2 : (r : Int) * (r : Int) = (N : Int) := by rw [hN]; exact (Int.natCast_mul r r).symm
   have u1 : N1 ≤ 36 := by rw [hN1]; exact Nat.mul_le_mul (show q ≤ 6 by omega) (show kq ≤ 6 by omega)
   have u2 : N ≤ 36 := by rw [hN]; exact Nat.mul_le_mul (show r ≤ 6 by omega) (show r ≤ 6 by omega)
   have HR := Lib.hid hr
   have HNN := Lib.hid hN
   have HN1 := Lib.hid hN1
   have HZ := Lib.hid hzr
   obtain ⟨RD, hRD⟩ : ∃ RD, RD = rest B q kq := ⟨_, rfl⟩
   have HRD := Lib.hid hRD
   rw [← hRD] at HE1
   obtain ⟨PV, hPV⟩ : ∃ PV, PV = pan B q kq := ⟨_, rfl⟩
   have HPV := Lib.hid hPV
   rw [← hPV] at HE1
   clear h1 hzr HZR hr hN hN1 hRD hPV hbad
   go_wp2_with fail
   refine (HMK _).out.mono ?_; rintro o z1 ⟨rfl, rfl⟩
   go_wp2_with fail
   refine (HE1 _).out.mono ?_; rintro o w2 ⟨pa, pc, ra, ra2, rfl, F1, D1, f1⟩
   go_wp2_with fail
   have m1 := f1.out.size
   simp at m1
   have B1 : N3 ((w2.alloc (.cells #[.int .i64 q, .int .i64 kq, .slice pa N1 pc] 30)).alloc (.cells #[.int .i64 r, .int .i64 r, .slice ra N ra2] 25)) w1.heap.size (.int .i64 q) (.int .i64 q) (.slice oa (q * q) oc) := inferInstance
   have B2 : N3 ((w2.alloc (.cells #[.int .i64 q, .int .i64 kq, .slice pa N1 pc] 30)).alloc (.cells #[.int .i64 r, .int .i64 r, .slice ra N ra2] 25)) w2.heap.size (.int .i64 q) (.int .i64 kq) (.slice pa N1 pc) := inferInstance
   have B3 : N3 ((w2.alloc (.cells #[.int .i64 q, .int .i64 kq, .slice pa N1 pc] 30)).alloc (.cells #[.int .i64 r, .int .i64 r, .slice ra N ra2] 25)) (w2.heap.size + 1) (.int .i64 r) (.int .i64 r) (.slice ra N ra2) := inferInstance
   have T4 : Tb ((w2.alloc (.cells #[.int .i64 q, .int .i64 kq, .slice pa N1 pc] 30)).alloc (.cells #[.int .i64 r, .int .i64 r, .slice ra N ra2] 25)) := inferInstance
   have F4 : FZ ((w2.alloc (.cells #[.int .i64 q, .int .i64 kq, .slice pa N1 pc] 30)).alloc (.cells #[.int .i64 r, .int .i64 r, .slice ra N ra2] 25)) pa N1 pc PV := inferInstance
   have D4 : DZ ((w2.alloc (.cells #[.int .i64 q, .int .i64 kq, .slice pa N1 pc] 30)).alloc (.cells #[.int .i64 r, .int .i64 r, .slice ra N ra2] 25)) ra N ra2 RD := inferInstance
   have Z4 : DZ ((w2.alloc (.cells #[.int .i64 q, .int .i64 kq, .slice pa N1 pc] 30)).alloc (.cells #[.int .i64 r, .int .i64 r, .slice ra N ra2] 25)) oa (q * q) oc B := inferInstance
   have L4 : Below w.heap.size w ((w2.alloc (.cells #[.int .i64 q, .int .i64 kq, .slice pa N1 pc] 30)).alloc (.cells #[.int .i64 r, .int .i64 r, .slice ra N ra2] 25)) := zbh
   clear HE1 HMK F1 D1 f1
   generalize ((w2.alloc (.cells #[.int .i64 q, .int .i64 kq, .slice pa N1 pc] 30)).alloc (.cells #[.int .i64 r, .int .i64 r, .slice ra N ra2] 25)) = wb at *
   haveI L4' : Beh w wb := ⟨L4⟩
   clear L4 b1' iZ
   go_loopw [14] (fun x wr => ∃ j : Nat, j ≤ r ∧ x = .int .i64 j ∧ Below wb.heap.size wb wr) (fun x _ => r - (intOf x).toNat)
   case atStart => exact ⟨0, by omega, rfl, Below.refl _ _⟩
   case round =>
    obtain ⟨j, hj, rfl, hbr⟩ := hrel
    haveI bwr : From wb wr := ⟨hbr⟩
    clear hbr
    by_cases hlt : j < r
    · go_wp2_with fail
      go_loopw [15] (fun x wr => ∃ i : Nat, i ≤ r ∧ x = .int .i64 i ∧ Below wb.heap.size wb wr) (fun x _ => r - (intOf x).toNat)
      case atStart => exact ⟨0, by omega, rfl, zbh⟩
      case round =>
       rename World => wi
       obtain ⟨i, hi, rfl, hbi⟩ := hrel
       haveI bwi : From wb wi := ⟨hbi⟩
       clear hbi
       by_cases hlt2 : i < r
       · have hkr : kq + r = q := by have := HR.out; omega
         obtain ⟨P1, hP1⟩ : ∃ P1, P1 = (j + kq) * q := ⟨_, rfl⟩
         obtain ⟨P2, hP2⟩ : ∃ P2, P2 = j * r := ⟨_, rfl⟩
         obtain ⟨P5, hP5⟩ : ∃ P5, P5 = i * r := ⟨_, rfl⟩
         have l3 : ((j : Int) + (kq : Int)) * (q : Int) = (P1 : Int) := by rw [hP1, show (j : Int) + (kq : Int) = ((j + kq : Nat) : Int) by omega]; exact (Int.natCast_mul _ _).symm
         have l4 : (j : Int) * (r : Int) = (P2 : Int) := by rw [hP2]; exact (Int.natCast_mul _ _).symm
         have l5 : (i : Int) * (r : Int) = (P5 : Int) := by rw [hP5]; exact (Int.natCast_mul _ _).symm
         have t1 : P1 + (i + kq) < q * q := by rw [hP1]; exact idx_lt (by omega) (by omega)
         have t2 : P2 + i < N := by rw [hP2, HNN.out]; exact idx_lt hlt2 hlt
         have t5 : P5 + j < N := by rw [hP5, HNN.out]; exact idx_lt hlt hlt2
         have u3 : P1 ≤ 36 := by rw [hP1]; exact Nat.mul_le_mul (show j + kq ≤ 6 by omega) (show q ≤ 6 by omega)
         have HZij := HZ.out i j hlt2 hlt
         obtain ⟨D, hD⟩ : ∃ D, D = cD B q kq i j := ⟨_, rfl⟩
         have HD0 := Lib.hid (show dneg (B (P1 + (i + kq))) = D 0 by rw [hD, hP1]; rfl)
         have HD1 := Lib.hid (show RD (P2 + i) = D 1 by rw [hD, hP2, HRD.out, HR.out]; rfl)
         have HDS := Lib.hid (show ∀ c, D (c + 2) = dmul (fof (PV (c * q + (i + kq)))) (fof (PV (c * q + (j + kq)))) by rw [hD, HPV.out]; exact fun c => rfl)
         have HDN := Lib.hid (show ∀ c, IsN (D c) by rw [hD]; exact isN_cD HN.out q kq i j)
         have HSY := Lib.hid (show RD (P5 + j) = RD (P2 + i) by rw [HRD.out, hP5, hP2, HR.out]; exact (rest_sym (by rw [← HR.out]; exact hlt2) (by rw [← HR.out]; exact hlt)).symm)
         have HNR := Lib.hid (show IsN (RD (P2 + i)) by rw [HRD.out]; exact isN_rest' _ _ _ _)
         have hNB := HN.out (P1 + (i + kq))
         rw [← hD] at HZij
         have HZd := Lib.hid HZij
         clear hD HZij hP1 hP2 hP5
         obtain ⟨A1, C1, y0, y1, y2, y3, y4⟩ := (inferInstance : DZ wi oa (q * q) oc B).out.el t1
         obtain ⟨A2, C2, x0, x1, x2, x3, x4⟩ := (inferInstance : DZ wi ra N ra2 RD).out.el t2
         obtain ⟨A5, C5, v0, v1, v2, v3, v4⟩ := (inferInstance : DZ wi ra N ra2 RD).out.el t5
         rw [HSY.out] at v0 v1 v2 v3 v4
         have k1 := (inferInstance : DZ wi oa (q * q) oc B).out.idx _ t1
         have k2 := (inferInstance : DZ wi ra N ra2 RD).out.idx _ t2
         have k5 := (inferInstance : DZ wi ra N ra2 RD).out.idx _ t5
         rw [show (((P1 + (i + kq) : Nat)) : Int) = (P1 : Int) + (i : Int) + (kq : Int) by omega] at k1
         rw [show (((P2 + i : Nat)) : Int) = (P2 : Int) + (i : Int) by omega] at k2
         rw [show (((P5 + j : Nat)) : Int) = (P5 : Int) + (j : Int) by omega] at k5
         obtain ⟨o1, ho1⟩ : ∃ o1, o1 = P1 + (i + kq) := ⟨_, rfl⟩
         rw [← ho1] at HD0 hNB y0 y1 y2 y3 y4 k1
         obtain ⟨o2, ho2⟩ : ∃ o2, o2 = P2 + i := ⟨_, rfl⟩
         rw [← ho2] at HD1 HNR x0 x1 x2 x3 x4 v0 v1 v2 v3 v4 k2
         obtain ⟨o5, ho5⟩ : ∃ o5, o5 = P5 + j := ⟨_, rfl⟩
         rw [← ho5] at v0 v1 v2 v3 k5
         clear ho1 ho2 ho5 HSY
         generalize B o1 = db at *
         generalize RD o2 = dr at *
         have HNG := fun W a c [i1 : BI W a (nl (dman db).natAbs) c (dman db).natAbs] [Tb W] => Lib.hid (frF (rdneg_any W (dbad db) (decide (dman db < 0)) a _ c (dexp db) db (dys_of hNB i1.out) tb))
         obtain ⟨d0, hd0⟩ : ∃ d0, d0 = dneg db := ⟨_, rfl⟩
         rw [← hd0] at HNG HD0
         have HSD := fun W p q p' q' [i : BI W p (nl (dman dr).natAbs) q (dman dr).natAbs] [j : BI W p' (nl (dman dr).natAbs) q' (dman dr).natAbs] [Tb W] => Lib.hid (by
          haveI x1 : DS W (dbad dr) (decide (dman dr < 0)) p (nl (dman dr).natAbs) q (dexp dr) dr := ⟨dys_of HNR.out i.out⟩
          haveI x2 : DS W (dbad dr) (decide (dman dr < 0)) p' (nl (dman dr).natAbs) q' (dexp dr) dr := ⟨dys_of HNR.out j.out⟩
          exact frm (gsame_any W (dbad dr) (decide (dman dr < 0)) (dbad dr) (decide (dman dr < 0)) p p' (nl (dman dr).natAbs) (nl (dman dr).natAbs) q q' (dexp dr) (dexp dr) dr dr true (by simp)))
         have w1' : IntKind.i64.wrap ((j : Int) + (kq : Int)) = (j : Int) + (kq : Int) := by rw [IntKind.wrap_i64]; omega
         have w2' : IntKind.i64.wrap (P1 : Int) = (P1 : Int) := by rw [IntKind.wrap_i64]; omega
         have w3' : IntKind.i64.wrap ((P1 : Int) + (i : Int)) = (P1 : Int) + (i : Int) := by rw [IntKind.wrap_i64]; omega
         have w4' : IntKind.i64.wrap ((P1 : Int) + (i : Int) + (kq : Int)) = (P1 : Int) + (i : Int) + (kq : Int) := by rw [IntKind.wrap_i64]; omega
         have w5' : IntKind.i64.wrap (P2 : Int) = (P2 : Int) := by rw [IntKind.wrap_i64]; omega
         have w6' : IntKind.i64.wrap ((P2 : Int) + (i : Int)) = (P2 : Int) + (i : Int) := by rw [IntKind.wrap_i64]; omega
         have w7' : IntKind.i64.wrap (P5 : Int) = (P5 : Int) := by rw [IntKind.wrap_i64]; omega
         have w8' : IntKind.i64.wrap ((P5 : Int) + (j : Int)) = (P5 : Int) + (j : Int) := by rw [IntKind.wrap_i64]; omega
         clear hd0 hNB
         go_wp2_with fail
         refine bgj (fun w' => Below wi.heap.size wi w') [] (by kernel_rfl) (zbh) (fun hHeld => ?_)
         simp only [List.size_toArray, List.length_cons, List.length_nil, Nat.reduceAdd, Array.replicate_succ, Array.replicate_zero, List.push_toArray, List.nil_append, List.cons_append]
         refine tkj 0 87 ?_ [1, 12, 13, 14, 25, 26] (hy := ?_) (hS := zbh) (h := ?_)
         rotate_left
         · intro w hSw; haveI : From wi w := ⟨hSw⟩; go_simp; (try with_reducible rfl)
         refine tkj 1 88 ?_ [12, 13, 14, 25, 26] (hy := ?_) (hS := zbh) (h := ?_)
         rotate_left
         · intro w hSw; haveI : From wi w := ⟨hSw⟩; go_simp; (try with_reducible rfl)
         refine tkj 2 89 ?_ [4, 7, 9, 11, 12, 13, 14, 25, 26] (hy := ?_) (hS := zbh) (h := ?_)
         rotate_left
         · intro w hSw; haveI : From wi w := ⟨hSw⟩; go_simp; (try with_reducible rfl)
         refine tkj 3 90 ?_ [4, 7, 9, 11, 12, 13, 14, 25, 26] (hy := ?_) (hS := zbh) (h := ?_)
         rotate_left
         · intro w hSw; haveI : From wi w := ⟨hSw⟩; go_simp; (try with_reducible rfl)
         refine tkj 4 91 ?_ [7, 9, 11, 12, 13, 14, 25, 26] (hy := ?_) (hS := zbh) (h := ?_)
         rotate_left
         · intro w hSw; haveI : From wi w := ⟨hSw⟩; go_simp; (try with_reducible rfl)
         refine tkj 5 92 ?_ [6, 7, 9, 11, 12, 13, 14, 25, 26] (hy := ?_) (hS := zbh) (h := ?_)
         rotate_left
         · intro w hSw; haveI : From wi w := ⟨hSw⟩; go_simp; (try with_reducible rfl)
         refine tkj 6 93 ?_ [7, 9, 11, 12, 13, 14, 25, 26] (hy := ?_) (hS := zbh) (h := ?_)
         rotate_left
         · intro w hSw; haveI : From wi w := ⟨hSw⟩; go_simp; (try with_reducible rfl)
         refine tkj 7 94 ?_ [9, 11, 12, 13, 14, 25, 26] (hy := ?_) (hS := zbh) (h := ?_)
         rotate_left
         · intro w hSw; haveI : From wi w := ⟨hSw⟩; go_simp; (try with_reducible rfl)
         refine tkj 8 95 ?_ [9, 11, 12, 13, 14, 25, 26] (hy := ?_) (hS := zbh) (h := ?_)
         rotate_left
         · intro w hSw; haveI : From wi w := ⟨hSw⟩; go_simp; (try with_reducible rfl)
         refine tkj 9 96 ?_ [11, 12, 13, 14, 25, 26] (hy := ?_) (hS := zbh) (h := ?_)
         rotate_left
         · intro w hSw; haveI : From wi w := ⟨hSw⟩; go_simp; (try with_reducible rfl)
         refine tkj 10 97 ?_ [11, 12, 13, 14, 25, 26] (hy := ?_) (hS := zbh) (h := ?_)
         rotate_left
         · intro w hSw; haveI : From wi w := ⟨hSw⟩; go_simp; (try with_reducible rfl)
         refine tkj 11 98 ?_ [12, 13, 14, 25, 26] (hy := ?_) (hS := zbh) (h := ?_)
         rotate_left
         · intro w hSw; haveI : From wi w := ⟨hSw⟩; go_simp; (try with_reducible rfl)
         refine tkj 12 99 ?_ [13, 14, 25, 26] (hy := ?_) (hS := zbh) (h := ?_)
         rotate_left
         · intro w hSw; haveI : From wi w := ⟨hSw⟩; go_simp; (try with_reducible rfl)
         refine tkj 13 100 ?_ [14, 25, 26] (hy := ?_) (hS := zbh) (h := ?_)
         rotate_left
         · intro w hSw; haveI : From wi w := ⟨hSw⟩; go_simp; (try with_reducible rfl)
         refine tkj 15 102 ?_ [16, 23, 24, 25, 26] (hy := ?_) (hS := zbh) (h := ?_)
         rotate_left
         · intro w hSw; haveI : From wi w := ⟨hSw⟩; go_simp; (try with_reducible rfl)
         refine tkj 16 103 ?_ [23, 24, 25, 26] (hy := ?_) (hS := zbh) (h := ?_)
         rotate_left
         · intro w hSw; haveI : From wi w := ⟨hSw⟩; go_simp; (try with_reducible rfl)
         refine tkj 17 104 ?_ [20, 22, 23, 24, 25, 26] (hy := ?_) (hS := zbh) (h := ?_)
         rotate_left
         · intro w hSw; haveI : From wi w := ⟨hSw⟩; go_simp; (try with_reducible rfl)
         refine tkj 18 105 ?_ [19, 20, 22, 23, 24, 25, 26] (hy := ?_) (hS := zbh) (h := ?_)
         rotate_left
         · intro w hSw; haveI : From wi w := ⟨hSw⟩; go_simp; (try with_reducible rfl)
         refine tkj 19 106 ?_ [20, 22, 23, 24, 25, 26] (hy := ?_) (hS := zbh) (h := ?_)
         rotate_left
         · intro w hSw; haveI : From wi w := ⟨hSw⟩; go_simp; (try with_reducible rfl)
         refine tkj 20 107 ?_ [22, 23, 24, 25, 26] (hy := ?_) (hS := zbh) (h := ?_)
         rotate_left
         · intro w hSw; haveI : From wi w := ⟨hSw⟩; go_simp; (try with_reducible rfl)
         refine tkj 21 108 ?_ [22, 23, 24, 25, 26] (hy := ?_) (hS := zbh) (h := ?_)
         rotate_left
         · intro w hSw; haveI : From wi w := ⟨hSw⟩; go_simp; (try with_reducible rfl)
         refine tkj 22 109 ?_ [23, 24, 25, 26] (hy := ?_) (hS := zbh) (h := ?_)
         rotate_left
         · intro w hSw; haveI : From wi w := ⟨hSw⟩; go_simp; (try with_reducible rfl)
         refine tkj 23 110 ?_ [24, 25, 26] (hy := ?_) (hS := zbh) (h := ?_)
         rotate_left
         · intro w hSw; haveI : From wi w := ⟨hSw⟩; go_simp; (try with_reducible rfl)
         refine tkj 24 111 ?_ [25, 26] (hy := ?_) (hS := zbh) (h := ?_)
         rotate_left
         · intro w hSw; haveI : From wi w := ⟨hSw⟩; go_simp; (try with_reducible rfl)
         refine stj 14 (h := fun K hK => ?_)
         go_simp
         go_at_call 18; refine (HNG _ _ _).out.mono ?_; rintro o z1 ⟨a0, c0, rfl, i0, b0, f0⟩
         go_simp
         refine hK.out _ _ (Or.inr zbh) ?_
         clear hK K
         try simp only [List.setIfInBounds_toArray, List.set_cons_zero, List.set_cons_succ]
         refine stj 25 (h := fun K hK => ?_)
         go_simp
         refine hK.out _ _ (Or.inr zbh) ?_
         clear hK K
         try simp only [List.setIfInBounds_toArray, List.set_cons_zero, List.set_cons_succ]
         refine stj 26 (h := fun K hK => ?_)
         go_simp
         refine hK.out _ _ (Or.inr zbh) ?_
         clear hK K
         try simp only [List.setIfInBounds_toArray, List.set_cons_zero, List.set_cons_succ]
         refine enj (by kernel_rfl) ?_ _
         have e0 := b0.out.size
         simp at e0
         have DX0 := DX.two (w := z1) (base := wi.heap.size) (d := D) (e0 := d0) (e1 := dr) (n := z1.heap.size) (by omega) HD0.out HD1.out i0.out (inferInstance : BI z1 A2 (nl (dman dr).natAbs) C2 (dman dr).natAbs).out rfl
         have LX0 : Below wi.heap.size wi (z1.alloc (.cells #[.bool (dbad d0), .bool (decide (dman d0 < 0)), .slice a0 (nl (dman d0).natAbs) c0, .int .i64 (dexp d0), .bool (dbad dr), .bool (decide (dman dr < 0)), .slice A2 (nl (dman dr).natAbs) C2, .int .i64 (dexp dr)] 46)) := zbh
         clear HNG HD0 HD1
         go_wp2_with fail
         go_loopw [16, 17] (fun v x wk => ∃ (c : Nat) (A : Nat → Option Addr) (C : Nat → Nat), c ≤ kq ∧ x = .int .i64 c ∧ DX wk wi.heap.size v (c + 2) D A C ∧ Below wi.heap.size wi wk) (fun _ x _ => kq - (intOf x).toNat)
         case atStart => exact ⟨0, _, _, by omega, rfl, DX0, LX0⟩
         case round =>
          clear DX0 LX0 i0 b0 f0 e0
          rename World => wk
          obtain ⟨c, A, C, hc, rfl, iX, hbk⟩ := hrel
          haveI bwk : From wi wk := ⟨hbk⟩
          have ek := hbk.size
          clear hbk
          by_cases hlt3 : c < kq
          · obtain ⟨P3, hP3⟩ : ∃ P3, P3 = c * q := ⟨_, rfl⟩
            have l6 : (c : Int) * (q : Int) = (P3 : Int) := by rw [hP3]; exact (Int.natCast_mul _ _).symm
            have s1 : P3 + (i + kq) < N1 := by rw [hP3, HN1.out]; exact idx_lt (by omega) hlt3
            have s2 : P3 + (j + kq) < N1 := by rw [hP3, HN1.out]; exact idx_lt (by omega) hlt3
            have hdc := HDS.out c
            rw [← hP3] at hdc
            have Fk : FZ wk pa N1 pc PV := inferInstance
            have g1 := Fk.out.idx _ s1
            have g2 := Fk.out.idx _ s2
            rw [show (((P3 + (i + kq) : Nat)) : Int) = (P3 : Int) + (i : Int) + (kq : Int) by omega] at g1
            rw [show (((P3 + (j + kq) : Nat)) : Int) = (P3 : Int) + (j : Int) + (kq : Int) by omega] at g2
            have n1 := Fk.out.b _ s1
            have n2 := Fk.out.b _ s2
            have c1' := Fk.out.cell _ s1
            have c2' := Fk.out.cell _ s2
            have ol := Fk.out.old (by omega)
            obtain ⟨o6, ho6⟩ : ∃ o6, o6 = P3 + (i + kq) := ⟨_, rfl⟩
            obtain ⟨o7, ho7⟩ : ∃ o7, o7 = P3 + (j + kq) := ⟨_, rfl⟩
            rw [← ho6] at g1 n1 c1' hdc
            rw [← ho7] at g2 n2 c2' hdc
            generalize PV o6 = f6 at *
            generalize PV o7 = f7 at *
            haveI q1 : CE wk (ab pa) (ao pa + o6) (.int .u64 ((f6 : Nat) : Int)) := ⟨c1', ol⟩
            haveI q2 : CE wk (ab pa) (ao pa + o7) (.int .u64 ((f7 : Nat) : Int)) := ⟨c2', ol⟩
            have HO1 := fun W [Tb W] => Lib.hid (frF (r3of_any W f6 n1 tb))
            have HO2 := fun W [Tb W] => Lib.hid (frF (r3of_any W f7 n2 tb))
            have HMU := fun W a c a' c' [i : BI W a (nl (dman (fof f6)).natAbs) c (dman (fof f6)).natAbs] [j : BI W a' (nl (dman (fof f7)).natAbs) c' (dman (fof f7)).natAbs] [Tb W] => Lib.hid (frF (rdmul_any W _ _ _ _ a a' _ _ c c' _ _ (fof f6) (fof f7) (dys_of (isN_fof f6) i.out) (dys_of (isN_fof f7) j.out) tb))
            obtain ⟨dk, hdk⟩ : ∃ dk, dk = dmul (fof f6) (fof f7) := ⟨_, rfl⟩
            rw [← hdk] at HMU hdc
            have HDC := Lib.hid hdc
            have x1' : IntKind.i64.wrap (P3 : Int) = (P3 : Int) := by rw [IntKind.wrap_i64]; omega
            have x2' : IntKind.i64.wrap ((P3 : Int) + (i : Int)) = (P3 : Int) + (i : Int) := by rw [IntKind.wrap_i64]; omega
            have x3' : IntKind.i64.wrap ((P3 : Int) + (i : Int) + (kq : Int)) = (P3 : Int) + (i : Int) + (kq : Int) := by rw [IntKind.wrap_i64]; omega
            have x4' : IntKind.i64.wrap ((P3 : Int) + (j : Int)) = (P3 : Int) + (j : Int) := by rw [IntKind.wrap_i64]; omega
            have x5' : IntKind.i64.wrap ((P3 : Int) + (j : Int) + (kq : Int)) = (P3 : Int) + (j : Int) + (kq : Int) := by rw [IntKind.wrap_i64]; omega
            generalize ((f6 : Nat) : Int) = fi6 at *
            generalize ((f7 : Nat) : Int) = fi7 at *
            clear hP3 hdc hdk ho6 ho7 Fk c1' c2' ol n1 n2
            go_wp2_with fail
            refine bgj (fun w' => Below wk.heap.size wk w') [29, 30] (by kernel_rfl) (zbh) (fun hHeld => ?_)
            simp only [List.size_toArray, List.length_cons, List.length_nil, Nat.reduceAdd, Array.replicate_succ, Array.replicate_zero, List.push_toArray, List.nil_append, List.cons_append]
            refine tkj 0 118 ?_ [29, 30] (hy := ?_) (hS := zbh) (h := ?_)
            rotate_left
            · intro w hSw; haveI : From wk w := ⟨hSw⟩; go_simp; (try with_reducible rfl)
            refine tkj 1 119 ?_ [2, 11, 12, 13, 26, 27, 28, 29, 30] (hy := ?_) (hS := zbh) (h := ?_)
            rotate_left
            · intro w hSw; haveI : From wk w := ⟨hSw⟩; go_simp; (try with_reducible rfl)
            refine tkj 2 120 ?_ [11, 12, 13, 26, 27, 28, 29, 30] (hy := ?_) (hS := zbh) (h := ?_)
            rotate_left
            · intro w hSw; haveI : From wk w := ⟨hSw⟩; go_simp; (try with_reducible rfl)
            refine tkj 3 121 ?_ [6, 8, 10, 11, 12, 13, 26, 27, 28, 29, 30] (hy := ?_) (hS := zbh) (h := ?_)
            rotate_left
            · intro w hSw; haveI : From wk w := ⟨hSw⟩; go_simp; (try with_reducible rfl)
            refine tkj 4 122 ?_ [5, 6, 8, 10, 11, 12, 13, 26, 27, 28, 29, 30] (hy := ?_) (hS := zbh) (h := ?_)
            rotate_left
            · intro w hSw; haveI : From wk w := ⟨hSw⟩; go_simp; (try with_reducible rfl)
            refine tkj 5 123 ?_ [6, 8, 10, 11, 12, 13, 26, 27, 28, 29, 30] (hy := ?_) (hS := zbh) (h := ?_)
            rotate_left
            · intro w hSw; haveI : From wk w := ⟨hSw⟩; go_simp; (try with_reducible rfl)
            refine tkj 6 124 ?_ [8, 10, 11, 12, 13, 26, 27, 28, 29, 30] (hy := ?_) (hS := zbh) (h := ?_)
            rotate_left
            · intro w hSw; haveI : From wk w := ⟨hSw⟩; go_simp; (try with_reducible rfl)
            refine tkj 7 125 ?_ [8, 10, 11, 12, 13, 26, 27, 28, 29, 30] (hy := ?_) (hS := zbh) (h := ?_)
            rotate_left
            · intro w hSw; haveI : From wk w := ⟨hSw⟩; go_simp; (try with_reducible rfl)
            refine tkj 8 126 ?_ [10, 11, 12, 13, 26, 27, 28, 29, 30] (hy := ?_) (hS := zbh) (h := ?_)
            rotate_left
            · intro w hSw; haveI : From wk w := ⟨hSw⟩; go_simp; (try with_reducible rfl)
            refine tkj 9 127 ?_ [10, 11, 12, 13, 26, 27, 28, 29, 30] (hy := ?_) (hS := zbh) (h := ?_)
            rotate_left
            · intro w hSw; haveI : From wk w := ⟨hSw⟩; go_simp; (try with_reducible rfl)
            refine tkj 10 128 ?_ [11, 12, 13, 26, 27, 28, 29, 30] (hy := ?_) (hS := zbh) (h := ?_)
            rotate_left
            · intro w hSw; haveI : From wk w := ⟨hSw⟩; go_simp; (try with_reducible rfl)
            refine tkj 11 129 ?_ [12, 13, 26, 27, 28, 29, 30] (hy := ?_) (hS := zbh) (h := ?_)
            rotate_left
            · intro w hSw; haveI : From wk w := ⟨hSw⟩; go_simp; (try with_reducible rfl)
            refine tkj 12 130 ?_ [13, 26, 27, 28, 29, 30] (hy := ?_) (hS := zbh) (h := ?_)
            rotate_left
            · intro w hSw; haveI : From wk w := ⟨hSw⟩; go_simp; (try with_reducible rfl)
            refine tkj 14 132 ?_ [15, 24, 25, 26, 27, 28, 29, 30] (hy := ?_) (hS := zbh) (h := ?_)
            rotate_left
            · intro w hSw; haveI : From wk w := ⟨hSw⟩; go_simp; (try with_reducible rfl)
            refine tkj 15 133 ?_ [24, 25, 26, 27, 28, 29, 30] (hy := ?_) (hS := zbh) (h := ?_)
            rotate_left
            · intro w hSw; haveI : From wk w := ⟨hSw⟩; go_simp; (try with_reducible rfl)
            refine tkj 16 134 ?_ [19, 21, 23, 24, 25, 26, 27, 28, 29, 30] (hy := ?_) (hS := zbh) (h := ?_)
            rotate_left
            · intro w hSw; haveI : From wk w := ⟨hSw⟩; go_simp; (try with_reducible rfl)
            refine tkj 17 135 ?_ [18, 19, 21, 23, 24, 25, 26, 27, 28, 29, 30] (hy := ?_) (hS := zbh) (h := ?_)
            rotate_left
            · intro w hSw; haveI : From wk w := ⟨hSw⟩; go_simp; (try with_reducible rfl)
            refine tkj 18 136 ?_ [19, 21, 23, 24, 25, 26, 27, 28, 29, 30] (hy := ?_) (hS := zbh) (h := ?_)
            rotate_left
            · intro w hSw; haveI : From wk w := ⟨hSw⟩; go_simp; (try with_reducible rfl)
            refine tkj 19 137 ?_ [21, 23, 24, 25, 26, 27, 28, 29, 30] (hy := ?_) (hS := zbh) (h := ?_)
            rotate_left
            · intro w hSw; haveI : From wk w := ⟨hSw⟩; go_simp; (try with_reducible rfl)
            refine tkj 20 138 ?_ [21, 23, 24, 25, 26, 27, 28, 29, 30] (hy := ?_) (hS := zbh) (h := ?_)
            rotate_left
            · intro w hSw; haveI : From wk w := ⟨hSw⟩; go_simp; (try with_reducible rfl)
            refine tkj 21 139 ?_ [23, 24, 25, 26, 27, 28, 29, 30] (hy := ?_) (hS := zbh) (h := ?_)
            rotate_left
            · intro w hSw; haveI : From wk w := ⟨hSw⟩; go_simp; (try with_reducible rfl)
            refine tkj 22 140 ?_ [23, 24, 25, 26, 27, 28, 29, 30] (hy := ?_) (hS := zbh) (h := ?_)
            rotate_left
            · intro w hSw; haveI : From wk w := ⟨hSw⟩; go_simp; (try with_reducible rfl)
            refine tkj 23 141 ?_ [24, 25, 26, 27, 28, 29, 30] (hy := ?_) (hS := zbh) (h := ?_)
            rotate_left
            · intro w hSw; haveI : From wk w := ⟨hSw⟩; go_simp; (try with_reducible rfl)
            refine tkj 24 142 ?_ [25, 26, 27, 28, 29, 30] (hy := ?_) (hS := zbh) (h := ?_)
            rotate_left
            · intro w hSw; haveI : From wk w := ⟨hSw⟩; go_simp; (try with_reducible rfl)
            refine tkj 25 143 ?_ [26, 27, 28, 29, 30] (hy := ?_) (hS := zbh) (h := ?_)
            rotate_left
            · intro w hSw; haveI : From wk w := ⟨hSw⟩; go_simp; (try with_reducible rfl)
            refine stj 13 (h := fun K hK => ?_)
            go_simp
            go_at_call 20; refine (HO1 _).out.mono ?_; rintro o z1 ⟨a1, c1, rfl, i1, b1, f1⟩
            go_simp
            refine hK.out _ _ (Or.inr zbh) ?_
            clear hK K
            try simp only [List.setIfInBounds_toArray, List.set_cons_zero, List.set_cons_succ]
            refine stj 26 (h := fun K hK => ?_)
            go_simp
            go_at_call 20; refine (HO2 _).out.mono ?_; rintro o z2 ⟨a2, c2, rfl, i2, b2, f2⟩
            go_simp
            refine hK.out _ _ (Or.inr zbh) ?_
            clear hK K
            try simp only [List.setIfInBounds_toArray, List.set_cons_zero, List.set_cons_succ]
            refine stj 27 (h := fun K hK => ?_)
            go_simp
            go_at_call 19; refine (HMU _ _ _ _ _).out.mono ?_; rintro o z3 ⟨a4, c4, rfl, i4, b4, f4⟩
            go_simp
            refine hK.out _ _ (Or.inr zbh) ?_
            clear hK K
            try simp only [List.setIfInBounds_toArray, List.set_cons_zero, List.set_cons_succ]
            refine stj 28 (h := fun K hK => ?_)
            go_simp
            refine hK.out _ _ (Or.inr zbh) ?_
            clear hK K
            try simp only [List.setIfInBounds_toArray, List.set_cons_zero, List.set_cons_succ]
            refine stj 29 (h := fun K hK => ?_)
            refine step_app_dyad (by rfl) _ _ (by rfl) wi.heap.size u16 (c + 2) (dcells (mcell D A C) (c + 2)) (by rfl) _ (dbad dk) (decide (dman dk < 0)) (.slice a4 (nl (dman dk).natAbs) c4) (dexp dk) (by rfl) (by rfl) (inferInstance : DX (z3.alloc (.cells #[.bool (dbad dk), .bool (decide (dman dk < 0)), .slice a4 (nl (dman dk).natAbs) c4, .int .i64 (dexp dk)] 46)) wi.heap.size u16 (c + 2) D A C).out.own (by go_simp) (by go_simp) (by go_simp) (by go_simp) (by omega) (by have q1 := b1.out.size; have q2 := b2.out.size; have q4 := b4.out.size; simp at q1 q2 q4 ⊢; omega) ?_
            intro g6 cap6 w6 hown6 hg6 hob6
            have AA : Hid (DX (z3.alloc (.cells #[.bool (dbad dk), .bool (decide (dman dk < 0)), .slice a4 (nl (dman dk).natAbs) c4, .int .i64 (dexp dk)] 46)) wi.heap.size u16 (c + 2) D A C) := Lib.hid inferInstance
            have LL : Hid (Below wi.heap.size wi (z3.alloc (.cells #[.bool (dbad dk), .bool (decide (dman dk < 0)), .slice a4 (nl (dman dk).natAbs) c4, .int .i64 (dexp dk)] 46))) := Lib.hid zbh
            refine hK.out _ _ (Or.inl (by decide)) ?_
            clear hK K
            try simp only [Act.put, List.setIfInBounds_toArray, List.set_cons_zero, List.set_cons_succ]
            refine stj 30 (h := fun K hK => ?_)
            go_simp
            refine hK.out _ _ (Or.inl (by decide)) ?_
            clear hK K
            try simp only [List.setIfInBounds_toArray, List.set_cons_zero, List.set_cons_succ]
            refine enj (by kernel_rfl) ?_ _
            have q3 := b1.out.size
            have q4 := b2.out.size
            have q5 := b4.out.size
            simp at q3 q4 q5
            have hne : 0 < nl (dman dk).natAbs → some (ab a4) ≠ Value.ownBlock u16 := fun h q => by have h1 := (iX.out.own.lt _ q.symm).2; have h2 := f4 h; omega
            have X5 := AA.out.app HDC.out hown6 hg6 hob6 (i4.out.alloc _) hne
            have L5 : Below wi.heap.size wi w6 := LL.out.trans (below_grown AA.out.out.own hg6 (by simp; omega))
            clear hown6 hg6 hob6 AA LL HO1 HO2 HMU
            go_wp2_with fail
            go_roundw
            case rel => exact ⟨c + 1, _, _, by omega, by go_num, X5, L5⟩
            case measure => simp [intOf]; omega
          · have hck : c = kq := by omega
            obtain ⟨K0, hK0⟩ : ∃ K0, K0 = kq + 2 := ⟨_, rfl⟩
            rw [hck, ← hK0] at iX
            have hK1 : K0 ≤ 1048576 := by omega
            obtain ⟨ds, hds⟩ : ∃ ds, ds = dsum D K0 := ⟨_, rfl⟩
            have hdz : ds = some (0, 0) := hds.trans (by rw [hK0]; exact HZd.out)
            obtain ⟨sa, sc, hv, _⟩ := dms_rsum (tb (w := wk)) iX.out HDN.out hK1
            subst hv
            have HSUM := fun W (bx : Below wk.heap.size wk W) [Tb W] => Lib.hid (frF (by
             haveI bx' : From wk W := ⟨bx⟩
             have d6 : DX W wi.heap.size (.slice sa K0 sc) K0 D A C := inferInstance
             obtain ⟨oa', oc', hv', hZ'⟩ := dms_rsum (tb (w := W)) d6.out HDN.out hK1
             have hv1 : oa' = sa := by injection hv' with h1 h2 h3; exact h1.symm
             have hv3 : oc' = sc := by injection hv' with h1 h2 h3; exact h3.symm
             rw [hv1, hv3] at hZ'
             exact hZ'))
            rw [← hds] at HSUM
            have hNds : IsN ds := by rw [hdz]; rw [← nrm_zero 0]; exact isN_nrm _ _
            have HSG := fun W a c [i1 : BI W a (nl (dman ds).natAbs) c (dman ds).natAbs] [Tb W] => Lib.hid (frm (rdsign_any W (dbad ds) (decide (dman ds < 0)) a _ c (dexp ds) ds (dys_of hNds i1.out) tb))
            have HVA := fun W a c [i1 : BI W a (nl (dman ds).natAbs) c (dman ds).natAbs] [Tb W] => Lib.hid (frm (rvalid_any W (dbad ds) (decide (dman ds < 0)) a _ c (dexp ds) ds (dys_of hNds i1.out) tb))
            rw [show sg (dman ds) = 0 by rw [hdz]; rfl] at HSG
            rw [show (!dbad ds) = true by rw [hdz]; rfl] at HVA
            clear hds hdz hNds hck hK0
            go_wp2_with fail
            refine bgj (fun w' => Below wk.heap.size wk w') [] (by kernel_rfl) (zbh) (fun hHeld => ?_)
            simp only [List.size_toArray, List.length_cons, List.length_nil, Nat.reduceAdd, Array.replicate_succ, Array.replicate_zero, List.push_toArray, List.nil_append, List.cons_append]
            refine tkj 0 148 ?_ [1, 2, 3, 4, 5, 6, 7, 8, 9, 10, 11, 12, 13, 14, 15, 16, 17, 18, 19, 20, 21, 22, 23, 24, 25, 26, 27, 28, 29, 30, 31, 32, 33] (hy := ?_) (hS := zbh) (h := ?_)
            rotate_left
            · intro w hSw; haveI : From wk w := ⟨hSw⟩; go_simp; (try with_reducible rfl)
            refine stj 1 (h := fun K hK => ?_)
            go_simp
            go_at_call 22; refine (HSUM _ (by exact zbh)).out.mono ?_; rintro o z1 ⟨a1, c1, rfl, i1, b1, f1⟩
            go_simp
            refine hK.out _ _ (Or.inr zbh) ?_
            clear hK K
            try simp only [List.setIfInBounds_toArray, List.set_cons_zero, List.set_cons_succ]
            refine stj 2 (h := fun K hK => ?_)
            go_simp
            go_at_call 21; refine (HSG _ _ _).out.mono ?_; rintro o z2 ⟨rfl, b2⟩
            go_simp
            refine hK.out _ _ (Or.inr zbh) ?_
            clear hK K
            try simp only [List.setIfInBounds_toArray, List.set_cons_zero, List.set_cons_succ]
            refine tkj 3 151 ?_ [4, 5, 6, 7, 8, 9, 10, 11, 12, 13, 14, 15, 16, 17, 18, 19, 20, 21, 22, 23, 24, 25, 26, 27, 28, 29, 30, 31, 32, 33] (hy := ?_) (hS := zbh) (h := ?_)
            rotate_left
            · intro w hSw; haveI : From wk w := ⟨hSw⟩; go_simp; (try with_reducible rfl)
            refine tkj 4 152 ?_ [5, 6, 7, 8, 9, 10, 11, 12, 13, 14, 15, 16, 17, 18, 19, 20, 21, 22, 23, 24, 25, 26, 27, 28, 29, 30, 31, 32, 33] (hy := ?_) (hS := zbh) (h := ?_)
            rotate_left
            · intro w hSw; haveI : From wk w := ⟨hSw⟩; go_simp; (try with_reducible rfl)
            refine tkj 5 153 ?_ [6, 7, 8, 9, 10, 11, 12, 13, 14, 15, 16, 17, 18, 19, 20, 21, 22, 23, 24, 25, 26, 27, 28, 29, 30, 31, 32, 33] (hy := ?_) (hS := zbh) (h := ?_)
            rotate_left
            · intro w hSw; haveI : From wk w := ⟨hSw⟩; go_simp; (try with_reducible rfl)
            refine stj 6 (h := fun K hK => ?_)
            go_simp
            go_at_call 22; refine (HSUM _ (by exact zbh)).out.mono ?_; rintro o z3 ⟨a3, c3, rfl, i3, b3, f3⟩
            go_simp
            refine hK.out _ _ (Or.inr zbh) ?_
            clear hK K
            try simp only [List.setIfInBounds_toArray, List.set_cons_zero, List.set_cons_succ]
            refine stj 7 (h := fun K hK => ?_)
            go_simp
            go_at_call 23; refine (HVA _ _ _).out.mono ?_; rintro o z4 ⟨rfl, b4⟩
            go_simp
            refine hK.out _ _ (Or.inr zbh) ?_
            clear hK K
            try simp only [List.setIfInBounds_toArray, List.set_cons_zero, List.set_cons_succ]
            refine tkj 8 156 ?_ [9, 10, 11, 12, 13, 14, 15, 16, 17, 18, 19, 20, 21, 22, 23, 24, 25, 26, 27, 28, 29, 30, 31, 32, 33] (hy := ?_) (hS := zbh) (h := ?_)
            rotate_left
            · intro w hSw; haveI : From wk w := ⟨hSw⟩; go_simp; (try with_reducible rfl)
            refine tkj 9 157 ?_ [10, 11, 12, 13, 14, 15, 16, 17, 18, 19, 20, 21, 22, 23, 24, 25, 26, 27, 28, 29, 30, 31, 32, 33] (hy := ?_) (hS := zbh) (h := ?_)
            rotate_left
            · intro w hSw; haveI : From wk w := ⟨hSw⟩; go_simp; (try with_reducible rfl)
            refine tkj 10 158 ?_ [11, 12, 13, 14, 15, 16, 17, 18, 19, 20, 21, 22, 23, 24, 25, 26, 27, 28, 29, 30, 31, 32, 33] (hy := ?_) (hS := zbh) (h := ?_)
            rotate_left
            · intro w hSw; haveI : From wk w := ⟨hSw⟩; go_simp; (try with_reducible rfl)
            refine tkj 11 159 ?_ [12, 19, 20, 31, 32, 33] (hy := ?_) (hS := zbh) (h := ?_)
            rotate_left
            · intro w hSw; haveI : From wk w := ⟨hSw⟩; go_simp; (try with_reducible rfl)
            refine tkj 12 160 ?_ [19, 20, 31, 32, 33] (hy := ?_) (hS := zbh) (h := ?_)
            rotate_left
            · intro w hSw; haveI : From wk w := ⟨hSw⟩; go_simp; (try with_reducible rfl)
            refine tkj 13 161 ?_ [16, 18, 19, 20, 31, 32, 33] (hy := ?_) (hS := zbh) (h := ?_)
            rotate_left
            · intro w hSw; haveI : From wk w := ⟨hSw⟩; go_simp; (try with_reducible rfl)
            refine tkj 14 162 ?_ [15, 16, 18, 19, 20, 31, 32, 33] (hy := ?_) (hS := zbh) (h := ?_)
            rotate_left
            · intro w hSw; haveI : From wk w := ⟨hSw⟩; go_simp; (try with_reducible rfl)
            refine tkj 15 163 ?_ [16, 18, 19, 20, 31, 32, 33] (hy := ?_) (hS := zbh) (h := ?_)
            rotate_left
            · intro w hSw; haveI : From wk w := ⟨hSw⟩; go_simp; (try with_reducible rfl)
            refine tkj 16 164 ?_ [18, 19, 20, 31, 32, 33] (hy := ?_) (hS := zbh) (h := ?_)
            rotate_left
            · intro w hSw; haveI : From wk w := ⟨hSw⟩; go_simp; (try with_reducible rfl)
            refine tkj 17 165 ?_ [18, 19, 20, 31, 32, 33] (hy := ?_) (hS := zbh) (h := ?_)
            rotate_left
            · intro w hSw; haveI : From wk w := ⟨hSw⟩; go_simp; (try with_reducible rfl)
            refine tkj 18 166 ?_ [19, 20, 31, 32, 33] (hy := ?_) (hS := zbh) (h := ?_)
            rotate_left
            · intro w hSw; haveI : From wk w := ⟨hSw⟩; go_simp; (try with_reducible rfl)
            refine tkj 19 167 ?_ [20, 31, 32, 33] (hy := ?_) (hS := zbh) (h := ?_)
            rotate_left
            · intro w hSw; haveI : From wk w := ⟨hSw⟩; go_simp; (try with_reducible rfl)
            refine tkj 20 168 ?_ [31, 32, 33] (hy := ?_) (hS := zbh) (h := ?_)
            rotate_left
            · intro w hSw; haveI : From wk w := ⟨hSw⟩; go_simp; (try with_reducible rfl)
            refine tkj 21 169 ?_ [22, 29, 30, 31, 32, 33] (hy := ?_) (hS := zbh) (h := ?_)
            rotate_left
            · intro w hSw; haveI : From wk w := ⟨hSw⟩; go_simp; (try with_reducible rfl)
            refine tkj 22 170 ?_ [29, 30, 31, 32, 33] (hy := ?_) (hS := zbh) (h := ?_)
            rotate_left
            · intro w hSw; haveI : From wk w := ⟨hSw⟩; go_simp; (try with_reducible rfl)
            refine tkj 23 171 ?_ [26, 28, 29, 30, 31, 32, 33] (hy := ?_) (hS := zbh) (h := ?_)
            rotate_left
            · intro w hSw; haveI : From wk w := ⟨hSw⟩; go_simp; (try with_reducible rfl)
            refine tkj 24 172 ?_ [25, 26, 28, 29, 30, 31, 32, 33] (hy := ?_) (hS := zbh) (h := ?_)
            rotate_left
            · intro w hSw; haveI : From wk w := ⟨hSw⟩; go_simp; (try with_reducible rfl)
            refine tkj 25 173 ?_ [26, 28, 29, 30, 31, 32, 33] (hy := ?_) (hS := zbh) (h := ?_)
            rotate_left
            · intro w hSw; haveI : From wk w := ⟨hSw⟩; go_simp; (try with_reducible rfl)
            refine tkj 26 174 ?_ [28, 29, 30, 31, 32, 33] (hy := ?_) (hS := zbh) (h := ?_)
            rotate_left
            · intro w hSw; haveI : From wk w := ⟨hSw⟩; go_simp; (try with_reducible rfl)
            refine tkj 27 175 ?_ [28, 29, 30, 31, 32, 33] (hy := ?_) (hS := zbh) (h := ?_)
            rotate_left
            · intro w hSw; haveI : From wk w := ⟨hSw⟩; go_simp; (try with_reducible rfl)
            refine tkj 28 176 ?_ [29, 30, 31, 32, 33] (hy := ?_) (hS := zbh) (h := ?_)
            rotate_left
            · intro w hSw; haveI : From wk w := ⟨hSw⟩; go_simp; (try with_reducible rfl)
            refine tkj 29 177 ?_ [30, 31, 32, 33] (hy := ?_) (hS := zbh) (h := ?_)
            rotate_left
            · intro w hSw; haveI : From wk w := ⟨hSw⟩; go_simp; (try with_reducible rfl)
            refine tkj 30 178 ?_ [31, 32, 33] (hy := ?_) (hS := zbh) (h := ?_)
            rotate_left
            · intro w hSw; haveI : From wk w := ⟨hSw⟩; go_simp; (try with_reducible rfl)
            refine stj 31 (h := fun K hK => ?_)
            go_simp
            go_at_call 24; refine (HSD _ _ _ _ _).out.mono ?_; rintro o z5 ⟨rfl, b5⟩
            go_simp
            refine hK.out _ _ (Or.inr zbh) ?_
            clear hK K
            try simp only [List.setIfInBounds_toArray, List.set_cons_zero, List.set_cons_succ]
            refine tkj 32 180 ?_ [33] (hy := ?_) (hS := zbh) (h := ?_)
            rotate_left
            · intro w hSw; haveI : From wk w := ⟨hSw⟩; go_simp; (try with_reducible rfl)
            refine tkj 33 181 ?_ [] (hy := ?_) (hS := zbh) (h := ?_)
            rotate_left
            · intro w hSw; haveI : From wk w := ⟨hSw⟩; go_simp; (try with_reducible rfl)
            refine enj (by kernel_rfl) ?_ _
            clear HSUM HSG HVA HSD
            go_wp2_with fail
            go_roundw
            case rel => exact ⟨i + 1, by omega, by go_num, zbh⟩
            case measure => simp [intOf]; omega
       · go_wp2_with fail
         go_roundw
         case rel => exact ⟨j + 1, by omega, by go_num, zbh⟩
         case measure => simp [intOf]; omega
    · go_wp2_with fail
      refine (HAW _).out.mono ?_; rintro o w7 ⟨rfl, b7⟩
      go_wp2_with fail
      go_ret
      exact ⟨rfl, zbh⟩
 · have HE1 := fun W [Tb W] [DZ W oa (q * q) oc B] => Lib.hid (delim_no W q kq 3 oa oc B HN.out hbad (by omega) (by omega) (by omega) (by omega))
   generalize elimE B q kq = z at *
   have hz1 : (z != 0) = true := by rw [bne_iff_ne]; exact h1
   clear h1 HZR hbad
   go_wp2_with fail
   refine (HMK _).out.mono ?_; rintro o z1 ⟨rfl, rfl⟩
   go_wp2_with fail
   refine (HE1 _).out.mono ?_; rintro o w2 ⟨x0, x1, x2, x3, x4, x5, x6, x7, x8, y1, rfl, f1⟩
   clear HE1
   go_wp2_with fail
   refine (HAW _).out.mono ?_; rintro o w7 ⟨rfl, b7⟩
   go_wp2_with fail
   go_ret
   exact ⟨rfl, zbh⟩
theorem dcontrib_all (w : World) (hT : Tab w) (a : Option Addr) (c0 cap : Nat) (L : Nat → Nat) (hL : Fls w a c0 cap L) (n s k : Int) :
 Calls Tryz.prog 6 #[.slice a c0 cap, .int .i64 n, .int .i64 s, .int .i64 k] w fun o w' => o = .returned (.bool true) ∧ Below w.heap.size w w' := by
 haveI : Tb w := ⟨hT⟩
 haveI : FZ w a c0 cap L := ⟨hL⟩
 exact dcontrib_any w a c0 cap L n s k
end Go.Proofs.YtablcbgeeeboeaaGreatDoor

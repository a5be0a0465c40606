/-
  Walks: package interval: Add, Sub.
  Walks: package interval: corners and its closures, Mul, Div.
  Walks: the laws of intervals: awake.
-/
import Derived.Test.YtgicceiimciafaaGreatDoorZeJA
import Derived.Test.YtgicceiimciafaaGreatDoorZeGS
import Derived.Laws.EntriesVeiled
set_option maxRecDepth 100000
set_option maxHeartbeats 8000000
namespace Go.Proofs.YtgicceiimciafaaGreatDoor
open Go.RowKit Sp
attribute [local irreducible] Calls
theorem iadd_any (w : World) (hT : Tab w) (a : Nat) (b : Nat) (c : Nat) (d : Nat) (ha : a < 18446744073709551616) (hb : b < 18446744073709551616) (hc : c < 18446744073709551616) (hd : d < 18446744073709551616) : Calls Tryz.prog 19 #[.agg #[.int .u64 (a : Nat), .int .u64 (b : Nat)], .agg #[.int .u64 (c : Nat), .int .u64 (d : Nat)]] w fun e w' => e = .returned (.agg #[.int .u64 ((iadd (a, b) (c, d)).1 : Nat), .int .u64 ((iadd (a, b) (c, d)).2 : Nat)]) ∧ Below w.heap.size w w' := by
 have HT : Tb w := ⟨hT⟩
 have H1 := fun W => Lib.hid (frm (iboth_any W a b c d ha hb hc hd))
 have HA := fun W [Tb W] => Lib.hid (frm (wadd_any W a c ha hc 1 tb))
 have HB := fun W [Tb W] => Lib.hid (frm (wadd_any W b d hb hd 2 tb))
 have HR := fun W => Lib.hid (frm (iresult_any W (fadd a c 1) (fadd b d 2) (fadd_lt' ha hc 1) (fadd_lt' hb hd 2)))
 have HW := fun W => Lib.hid (show Calls Tryz.prog 51 #[] W fun e w' => e = .returned (.agg #[.int .u64 18442240474082181120, .int .u64 9218868437227405312]) ∧ From W w' from frm (iwhole_any W))
 unfold iadd ires iall
 generalize (iok (a, b) && iok (c, d)) = k1 at *
 cases k1
 · show Calls _ _ _ _ fun e w' => e = .returned (.agg #[.int .u64 18442240474082181120, .int .u64 9218868437227405312]) ∧ Below w.heap.size w w'
   generalize ((a : Nat) : Int) = p at *
   generalize ((b : Nat) : Int) = q at *
   generalize ((c : Nat) : Int) = r at *
   generalize ((d : Nat) : Int) = s at *
   go_enter Tryz.func19, Tryz.ntmps19
   go_wp2_with fail
   refine (H1 _).out.mono ?_
   rintro e w1 ⟨rfl, b1⟩
   go_wp2_with fail
   refine (HW _).out.mono ?_
   rintro e w2 ⟨rfl, b2⟩
   go_wp2_with fail
   refine bodyPost_ret (v := .agg #[.int .u64 18442240474082181120, .int .u64 9218868437227405312]) (by simp only [results, Tryz.results19]; go_simp) rfl ?_
   exact ⟨rfl, zbh⟩
 · show Calls _ _ _ _ fun e w' => e = .returned (.agg #[.int .u64 (fclean (fadd a c 1) : Nat), .int .u64 (fclean (fadd b d 2) : Nat)]) ∧ Below w.heap.size w w'
   generalize ((fclean (fadd a c 1) : Nat) : Int) = p2 at *
   generalize ((fclean (fadd b d 2) : Nat) : Int) = q2 at *
   generalize ((fadd a c 1 : Nat) : Int) = p1 at *
   generalize ((fadd b d 2 : Nat) : Int) = q1 at *
   generalize ((a : Nat) : Int) = p at *
   generalize ((b : Nat) : Int) = q at *
   generalize ((c : Nat) : Int) = r at *
   generalize ((d : Nat) : Int) = s at *
   go_enter Tryz.func19, Tryz.ntmps19
   go_wp2_with fail
   refine (H1 _).out.mono ?_
   rintro e w1 ⟨rfl, b1⟩
   go_wp2_with fail
   first
   | go_region_held3 (fun w' => w'.cell? ⟨w.heap.size, 0, none⟩ = some (.int .u64 p) ∧ w'.cell? ⟨w.heap.size, 1, none⟩ = some (.int .u64 q) ∧ w'.cell? ⟨w.heap.size + 1, 0, none⟩ = some (.int .u64 r) ∧ w'.cell? ⟨w.heap.size + 1, 1, none⟩ = some (.int .u64 s)) (first | (go_simp; done))
    (first
     | (go_at_call 52; refine (HR _).out.mono ?_; rintro e w4 ⟨rfl, b4⟩)
     | (go_at_call 57; refine (HA _).out.mono ?_; rintro e w2 ⟨rfl, b2⟩)
     | (go_at_call 57; refine (HB _).out.mono ?_; rintro e w3 ⟨rfl, b3⟩)
     | fail)
   | fail "region"
   all_goals (
    go_wp2_with fail
    refine bodyPost_ret (v := .agg #[.int .u64 p2, .int .u64 q2]) (by simp only [results, Tryz.results19]; go_simp) rfl ?_
    exact ⟨rfl, zbh⟩)
theorem isub_any (w : World) (hT : Tab w) (a : Nat) (b : Nat) (c : Nat) (d : Nat) (ha : a < 18446744073709551616) (hb : b < 18446744073709551616) (hc : c < 18446744073709551616) (hd : d < 18446744073709551616) : Calls Tryz.prog 21 #[.agg #[.int .u64 (a : Nat), .int .u64 (b : Nat)], .agg #[.int .u64 (c : Nat), .int .u64 (d : Nat)]] w fun e w' => e = .returned (.agg #[.int .u64 ((isub (a, b) (c, d)).1 : Nat), .int .u64 ((isub (a, b) (c, d)).2 : Nat)]) ∧ Below w.heap.size w w' := by
 have HT : Tb w := ⟨hT⟩
 have H1 := fun W => Lib.hid (frm (iboth_any W a b c d ha hb hc hd))
 have HA := fun W [Tb W] => Lib.hid (frm (wsub_any W a d ha hd 1 tb))
 have HB := fun W [Tb W] => Lib.hid (frm (wsub_any W b c hb hc 2 tb))
 have HR := fun W => Lib.hid (frm (iresult_any W (fsub a d 1) (fsub b c 2) (fadd_lt' ha (fneg_lt _) 1) (fadd_lt' hb (fneg_lt _) 2)))
 have HW := fun W => Lib.hid (show Calls Tryz.prog 51 #[] W fun e w' => e = .returned (.agg #[.int .u64 18442240474082181120, .int .u64 9218868437227405312]) ∧ From W w' from frm (iwhole_any W))
 unfold isub ires iall
 generalize (iok (a, b) && iok (c, d)) = k1 at *
 cases k1
 · show Calls _ _ _ _ fun e w' => e = .returned (.agg #[.int .u64 18442240474082181120, .int .u64 9218868437227405312]) ∧ Below w.heap.size w w'
   generalize ((a : Nat) : Int) = p at *
   generalize ((b : Nat) : Int) = q at *
   generalize ((c : Nat) : Int) = r at *
   generalize ((d : Nat) : Int) = s at *
   go_enter Tryz.func21, Tryz.ntmps21
   go_wp2_with fail
   refine (H1 _).out.mono ?_
   rintro e w1 ⟨rfl, b1⟩
   go_wp2_with fail
   refine (HW _).out.mono ?_
   rintro e w2 ⟨rfl, b2⟩
   go_wp2_with fail
   refine bodyPost_ret (v := .agg #[.int .u64 18442240474082181120, .int .u64 9218868437227405312]) (by simp only [results, Tryz.results21]; go_simp) rfl ?_
   exact ⟨rfl, zbh⟩
 · show Calls _ _ _ _ fun e w' => e = .returned (.agg #[.int .u64 (fclean (fsub a d 1) : Nat), .int .u64 (fclean (fsub b c 2) : Nat)]) ∧ Below w.heap.size w w'
   generalize ((fclean (fsub a d 1) : Nat) : Int) = p2 at *
   generalize ((fclean (fsub b c 2) : Nat) : Int) = q2 at *
   generalize ((fsub a d 1 : Nat) : Int) = p1 at *
   generalize ((fsub b c 2 : Nat) : Int) = q1 at *
   generalize ((a : Nat) : Int) = p at *
   generalize ((b : Nat) : Int) = q at *
   generalize ((c : Nat) : Int) = r at *
   generalize ((d : Nat) : Int) = s at *
   go_enter Tryz.func21, Tryz.ntmps21
   go_wp2_with fail
   refine (H1 _).out.mono ?_
   rintro e w1 ⟨rfl, b1⟩
   go_wp2_with fail
   first
   | go_region_held3 (fun w' => w'.cell? ⟨w.heap.size, 0, none⟩ = some (.int .u64 p) ∧ w'.cell? ⟨w.heap.size, 1, none⟩ = some (.int .u64 q) ∧ w'.cell? ⟨w.heap.size + 1, 0, none⟩ = some (.int .u64 r) ∧ w'.cell? ⟨w.heap.size + 1, 1, none⟩ = some (.int .u64 s)) (first | (go_simp; done))
    (first
     | (go_at_call 52; refine (HR _).out.mono ?_; rintro e w4 ⟨rfl, b4⟩)
     | (go_at_call 61; refine (HA _).out.mono ?_; rintro e w2 ⟨rfl, b2⟩)
     | (go_at_call 61; refine (HB _).out.mono ?_; rintro e w3 ⟨rfl, b3⟩)
     | fail)
   | fail "region"
   all_goals (
    go_wp2_with fail
    refine bodyPost_ret (v := .agg #[.int .u64 p2, .int .u64 q2]) (by simp only [results, Tryz.results21]; go_simp) rfl ?_
    exact ⟨rfl, zbh⟩)
end Go.Proofs.YtgicceiimciafaaGreatDoor
namespace Go.Proofs.YtgicceiimciafaaGreatDoor
open Go.RowKit Sp
class OV (W : World) (b : Nat) (x0 : outParam Value) : Prop where
 c0 : W.cell? ⟨b, 0, none⟩ = some x0
 z : ∀ i, W.frozen? ⟨b, i, none⟩ = false
 lt : b < W.heap.size
theorem OV.below {W W' : World} {b : Nat} {x0 : Value} (h : OV W b x0) (hb : Below W.heap.size W W') : OV W' b x0 := by
 obtain ⟨h1, h2⟩ := bcell hb
 exact ⟨(h1 _ _ h.lt).trans h.c0, fun i => (h2 _ _ h.lt).trans (h.z i), Nat.lt_of_lt_of_le h.lt hb.size⟩
instance OV.dr (W : World) (b : Nat) (x0 : Value) [h : OV W b x0] : OV W.drew b x0 := ⟨h.c0, h.z, h.lt⟩
instance OV.dn (W : World) (b : Nat) (x0 : Value) (q : Nat) [h : OV W b x0] : OV (W.drewN q) b x0 := ⟨h.c0, h.z, h.lt⟩
instance OV.al (W : World) (b : Nat) (x0 : Value) (o : Obj) [h : OV W b x0] : OV (W.alloc o) b x0 := OV.below h ((Below.refl _ _).alloc (Nat.le_refl _) _)
instance OV.fr (L w' : World) (b : Nat) (x0 : Value) [f : From L w'] [h : OV L b x0] : OV w' b x0 := OV.below h f.out
theorem OV.made (W : World) (t : TypeId) (x0 : Value) {n : Nat} (hn : n = W.heap.size) : OV (W.alloc (.cells #[x0] t)) n x0 := by
 subst hn
 exact ⟨by rw [World.cell?_alloc_new]; rfl, fun i => by simp [go_sem], by rw [World.size_alloc]; omega⟩
instance OV.mk' (W : World) (t : TypeId) (x0 : Value) (n : Nat) [h : Sz W n] : OV (W.alloc (.cells #[x0] t)) n x0 := OV.made W t x0 h.out
@[go_sem] theorem OV.r0 (W : World) (b : Nat) {x0 : Value} [h : OV W b x0] : W.cell? ⟨b, 0, none⟩ = some x0 := h.c0
@[go_sem] theorem OV.rz (W : World) (b i : Nat) {x0 : Value} [h : OV W b x0] : W.frozen? ⟨b, i, none⟩ = false := h.z i
class F4 (W : World) (b : Nat) (x0 x1 x2 x3 : outParam Value) : Prop where
 c0 : W.cell? ⟨b, 0, none⟩ = some x0
 c1 : W.cell? ⟨b, 1, none⟩ = some x1
 c2 : W.cell? ⟨b, 2, none⟩ = some x2
 c3 : W.cell? ⟨b, 3, none⟩ = some x3
 z : ∀ i, W.frozen? ⟨b, i, none⟩ = false
 lt : b < W.heap.size
theorem F4.below {W W' : World} {b : Nat} {x0 x1 x2 x3 : Value} (h : F4 W b x0 x1 x2 x3) (hb : Below W.heap.size W W') : F4 W' b x0 x1 x2 x3 := by
 obtain ⟨h1, h2⟩ := bcell hb
 exact ⟨(h1 _ _ h.lt).trans h.c0, (h1 _ _ h.lt).trans h.c1, (h1 _ _ h.lt).trans h.c2, (h1 _ _ h.lt).trans h.c3, fun i => (h2 _ _ h.lt).trans (h.z i), Nat.lt_of_lt_of_le h.lt hb.size⟩
instance F4.dr (W : World) (b : Nat) (x0 x1 x2 x3 : Value) [h : F4 W b x0 x1 x2 x3] : F4 W.drew b x0 x1 x2 x3 := ⟨h.c0, h.c1, h.c2, h.c3, h.z, h.lt⟩
instance F4.dn (W : World) (b : Nat) (x0 x1 x2 x3 : Value) (q : Nat) [h : F4 W b x0 x1 x2 x3] : F4 (W.drewN q) b x0 x1 x2 x3 := ⟨h.c0, h.c1, h.c2, h.c3, h.z, h.lt⟩
instance F4.al (W : World) (b : Nat) (x0 x1 x2 x3 : Value) (o : Obj) [h : F4 W b x0 x1 x2 x3] : F4 (W.alloc o) b x0 x1 x2 x3 := F4.below h ((Below.refl _ _).alloc (Nat.le_refl _) _)
instance F4.fr (L w' : World) (b : Nat) (x0 x1 x2 x3 : Value) [f : From L w'] [h : F4 L b x0 x1 x2 x3] : F4 w' b x0 x1 x2 x3 := F4.below h f.out
theorem F4.made (W : World) (t : TypeId) (x0 x1 x2 x3 : Value) {n : Nat} (hn : n = W.heap.size) : F4 (W.alloc (.cells #[x0, x1, x2, x3] t)) n x0 x1 x2 x3 := by
 subst hn
 exact ⟨by rw [World.cell?_alloc_new]; rfl, by rw [World.cell?_alloc_new]; rfl, by rw [World.cell?_alloc_new]; rfl, by rw [World.cell?_alloc_new]; rfl, fun i => by simp [go_sem], by rw [World.size_alloc]; omega⟩
instance F4.mk' (W : World) (t : TypeId) (x0 x1 x2 x3 : Value) (n : Nat) [h : Sz W n] : F4 (W.alloc (.cells #[x0, x1, x2, x3] t)) n x0 x1 x2 x3 := F4.made W t x0 x1 x2 x3 h.out
@[go_sem] theorem F4.r0 (W : World) (b : Nat) {x0 x1 x2 x3 : Value} [h : F4 W b x0 x1 x2 x3] : W.cell? ⟨b, 0, none⟩ = some x0 := h.c0
@[go_sem] theorem F4.r1 (W : World) (b : Nat) {x0 x1 x2 x3 : Value} [h : F4 W b x0 x1 x2 x3] : W.cell? ⟨b, 1, none⟩ = some x1 := h.c1
@[go_sem] theorem F4.r2 (W : World) (b : Nat) {x0 x1 x2 x3 : Value} [h : F4 W b x0 x1 x2 x3] : W.cell? ⟨b, 2, none⟩ = some x2 := h.c2
@[go_sem] theorem F4.r3 (W : World) (b : Nat) {x0 x1 x2 x3 : Value} [h : F4 W b x0 x1 x2 x3] : W.cell? ⟨b, 3, none⟩ = some x3 := h.c3
@[go_sem] theorem F4.rz (W : World) (b i : Nat) {x0 x1 x2 x3 : Value} [h : F4 W b x0 x1 x2 x3] : W.frozen? ⟨b, i, none⟩ = false := h.z i
attribute [local irreducible] Calls
theorem f4_row {w : World} {g a b c d : Nat} (h : F4 w g (.int .u64 (a : Nat)) (.int .u64 (b : Nat)) (.int .u64 (c : Nat)) (.int .u64 (d : Nat))) :
 FRow w g 4 (fun i => if i = 0 then a else if i = 1 then b else if i = 2 then c else d) := fun i hi => by
 rcases (show i = 0 ∨ i = 1 ∨ i = 2 ∨ i = 3 by omega) with rfl | rfl | rfl | rfl
 · exact h.c0
 · exact h.c1
 · exact h.c2
 · exact h.c3
theorem imost4 (w : World) (g a b c d : Nat) (ha : a < 18446744073709551616) (hb : b < 18446744073709551616) (hc : c < 18446744073709551616) (hd : d < 18446744073709551616) [h : F4 w g (.int .u64 (a : Nat)) (.int .u64 (b : Nat)) (.int .u64 (c : Nat)) (.int .u64 (d : Nat))] :
 Calls Tryz.prog 74 #[.slice (some ⟨g, 0, none⟩) 4 4] w fun e w' => e = .returned (.int .u64 (fmax2 (fmax2 (fmax2 a b) c) d : Nat)) ∧ Below w.heap.size w w' := by
 have H := imost_any w g 4 _ (by decide) (by decide) (fun i _ => by (repeat' split) <;> assumption) h.lt (f4_row h)
 have e : fmaxL (fun i => if i = 0 then a else if i = 1 then b else if i = 2 then c else d) 4 = fmax2 (fmax2 (fmax2 a b) c) d := by
  show fmax2 (fmax2 (fmax2 (fmax2 a a) b) c) d = _
  rw [fmax2_self]
 rwa [e] at H
theorem ileast4 (w : World) (g a b c d : Nat) (ha : a < 18446744073709551616) (hb : b < 18446744073709551616) (hc : c < 18446744073709551616) (hd : d < 18446744073709551616) [h : F4 w g (.int .u64 (a : Nat)) (.int .u64 (b : Nat)) (.int .u64 (c : Nat)) (.int .u64 (d : Nat))] :
 Calls Tryz.prog 76 #[.slice (some ⟨g, 0, none⟩) 4 4] w fun e w' => e = .returned (.int .u64 (fmin2 (fmin2 (fmin2 a b) c) d : Nat)) ∧ Below w.heap.size w w' := by
 have H := ileast_any w g 4 _ (by decide) (by decide) (fun i _ => by (repeat' split) <;> assumption) h.lt (f4_row h)
 have e : fminL (fun i => if i = 0 then a else if i = 1 then b else if i = 2 then c else d) 4 = fmin2 (fmin2 (fmin2 a b) c) d := by
  show fmin2 (fmin2 (fmin2 (fmin2 a a) b) c) d = _
  rw [fmin2_self]
 rwa [e] at H
theorem iat_mul (w : World) (g : Nat) (m : Int) (a : Nat) (b : Nat) (ha : a < 18446744073709551616) (hb : b < 18446744073709551616) [ht : Tb w] [ho : OV w g (.func (.func 63) #[] #[])] :
 Calls Tryz.prog 109 #[.int .u64 (a : Nat), .int .u64 (b : Nat), .int .i64 m, .pointer (some ⟨g, 0, none⟩)] w fun e w' => e = .returned (.int .u64 (fat fmul a b m : Nat)) ∧ Below w.heap.size w w' := by
 have H1 := fun W [Tb W] => Lib.hid (frm (wmul_any W a b ha hb m tb))
 unfold fat
 generalize fmul a b m = f at *
 have H2 := fun W => Lib.hid (fkind_any W f)
 have he := (fkind_eqs f).1
 generalize fkind f = z at H2 he
 generalize fnan f = k at he
 cases k
 · show Calls _ _ _ _ fun e w' => e = .returned (.int .u64 (f : Nat)) ∧ Below w.heap.size w w'
   generalize ((f : Nat) : Int) = y at *
   generalize ((a : Nat) : Int) = p at *
   generalize ((b : Nat) : Int) = q at *
   go_enter Tryz.func109, Tryz.ntmps109
   go_wp2_with fail
   refine (H1 _).out.mono ?_
   rintro e w1 ⟨rfl, b1⟩
   go_wp2_with fail
   refine (H2 _).out.mono ?_
   rintro e w2 ⟨rfl, rfl⟩
   go_wp2_with fail
   go_ret
   exact ⟨rfl, zbh⟩
 · show Calls _ _ _ _ fun e w' => e = .returned (.int .u64 0) ∧ Below w.heap.size w w'
   generalize ((f : Nat) : Int) = y at *
   generalize ((a : Nat) : Int) = p at *
   generalize ((b : Nat) : Int) = q at *
   go_enter Tryz.func109, Tryz.ntmps109
   go_wp2_with fail
   refine (H1 _).out.mono ?_
   rintro e w1 ⟨rfl, b1⟩
   go_wp2_with fail
   refine (H2 _).out.mono ?_
   rintro e w2 ⟨rfl, rfl⟩
   go_wp2_with fail
   go_ret
   exact ⟨rfl, zbh⟩
theorem iall_mul (w : World) (g go gx gy : Nat) (m : Int) (a : Nat) (b : Nat) (c : Nat) (d : Nat) (ha : a < 18446744073709551616) (hb : b < 18446744073709551616) (hc : c < 18446744073709551616) (hd : d < 18446744073709551616) [ht : Tb w] [ho : OV w g (.func (.func 109) #[] #[.pointer (some ⟨go, 0, none⟩)])] [hp : OV w go (.func (.func 63) #[] #[])] [hx : FV w gx (.int .u64 (a : Nat)) (.int .u64 (b : Nat))] [hy : FV w gy (.int .u64 (c : Nat)) (.int .u64 (d : Nat))] :
 Calls Tryz.prog 111 #[.int .i64 m, .pointer (some ⟨g, 0, none⟩), .pointer (some ⟨gx, 0, none⟩), .pointer (some ⟨gy, 0, none⟩)] w fun e w' =>
  ∃ h, e = .returned (.slice (some ⟨h, 0, none⟩) 4 4) ∧ F4 w' h (.int .u64 ((fat fmul a c m) : Nat)) (.int .u64 ((fat fmul a d m) : Nat)) (.int .u64 ((fat fmul b c m) : Nat)) (.int .u64 ((fat fmul b d m) : Nat)) ∧ From w w' := by
 have H0 := fun W [Tb W] [OV W go (.func (.func 63) #[] #[])] => Lib.hid (frm (iat_mul W go m a c ha hc))
 have H1 := fun W [Tb W] [OV W go (.func (.func 63) #[] #[])] => Lib.hid (frm (iat_mul W go m a d ha hd))
 have H2 := fun W [Tb W] [OV W go (.func (.func 63) #[] #[])] => Lib.hid (frm (iat_mul W go m b c hb hc))
 have H3 := fun W [Tb W] [OV W go (.func (.func 63) #[] #[])] => Lib.hid (frm (iat_mul W go m b d hb hd))
 generalize ((fat fmul a c m) : Int) = v0 at *
 generalize ((fat fmul a d m) : Int) = v1 at *
 generalize ((fat fmul b c m) : Int) = v2 at *
 generalize ((fat fmul b d m) : Int) = v3 at *
 generalize ((a : Nat) : Int) = p at *
 generalize ((b : Nat) : Int) = q at *
 generalize ((c : Nat) : Int) = r at *
 generalize ((d : Nat) : Int) = s at *
 go_enter Tryz.func111, Tryz.ntmps111
 go_wp2_with fail
 first
 | go_region_held3 (fun w' => w'.cell? ⟨g, 0, none⟩ = some (.func (.func 109) #[] #[.pointer (some ⟨go, 0, none⟩)]) ∧ w'.cell? ⟨gx, 0, none⟩ = some (.int .u64 p) ∧ w'.cell? ⟨gx, 1, none⟩ = some (.int .u64 q) ∧ w'.cell? ⟨gy, 0, none⟩ = some (.int .u64 r) ∧ w'.cell? ⟨gy, 1, none⟩ = some (.int .u64 s)) (first | (go_simp; done))
  (first
   | (go_at_call 109; refine (H0 _).out.mono ?_; rintro e w1 ⟨rfl, b1⟩)
   | (go_at_call 109; refine (H1 _).out.mono ?_; rintro e w2 ⟨rfl, b2⟩)
   | (go_at_call 109; refine (H2 _).out.mono ?_; rintro e w3 ⟨rfl, b3⟩)
   | (go_at_call 109; refine (H3 _).out.mono ?_; rintro e w4 ⟨rfl, b4⟩)
   | fail)
 | fail "region"
 all_goals (
  go_wp2_with fail
  go_ret
  exact ⟨_, rfl, inferInstance, ⟨zbh⟩⟩)
theorem icor_mul (w : World) [ht : Tb w] (a : Nat) (b : Nat) (c : Nat) (d : Nat) (ha : a < 18446744073709551616) (hb : b < 18446744073709551616) (hc : c < 18446744073709551616) (hd : d < 18446744073709551616) : Calls Tryz.prog 62 #[.agg #[.int .u64 (a : Nat), .int .u64 (b : Nat)], .agg #[.int .u64 (c : Nat), .int .u64 (d : Nat)], .func (.func 63) #[] #[]] w fun e w' => e = .returned (.agg #[.int .u64 (fclean (fmin2 (fmin2 (fmin2 (fat fmul a c 1) (fat fmul a d 1)) (fat fmul b c 1)) (fat fmul b d 1)) : Nat), .int .u64 (fclean (fmax2 (fmax2 (fmax2 (fat fmul a c 2) (fat fmul a d 2)) (fat fmul b c 2)) (fat fmul b d 2)) : Nat)]) ∧ Below w.heap.size w w' := by
 have hmf : ∀ (fn : Fn) (first cap : Array Value) (w : World), (Instr.makeFunc fn first cap).run Tryz.prog w = .ok (.func fn first cap) w := fun _ _ _ _ => rfl
 have HA := fun (m : Int) W g go gx gy [Tb W] [OV W g (.func (.func 109) #[] #[.pointer (some ⟨go, 0, none⟩)])] [OV W go (.func (.func 63) #[] #[])] [FV W gx (.int .u64 (a : Nat)) (.int .u64 (b : Nat))] [FV W gy (.int .u64 (c : Nat)) (.int .u64 (d : Nat))] => Lib.hid (iall_mul W g go gx gy m a b c d ha hb hc hd)
 have HA1 := HA 1
 have HA2 := HA 2
 clear HA
 have HL := fun W h [F4 W h (.int .u64 ((fat fmul a c 1) : Nat)) (.int .u64 ((fat fmul a d 1) : Nat)) (.int .u64 ((fat fmul b c 1) : Nat)) (.int .u64 ((fat fmul b d 1) : Nat))] => Lib.hid (frm (ileast4 W h _ _ _ _ (fat_lt _ fmul_lt' a c 1) (fat_lt _ fmul_lt' a d 1) (fat_lt _ fmul_lt' b c 1) (fat_lt _ fmul_lt' b d 1)))
 have HM := fun W h [F4 W h (.int .u64 ((fat fmul a c 2) : Nat)) (.int .u64 ((fat fmul a d 2) : Nat)) (.int .u64 ((fat fmul b c 2) : Nat)) (.int .u64 ((fat fmul b d 2) : Nat))] => Lib.hid (frm (imost4 W h _ _ _ _ (fat_lt _ fmul_lt' a c 2) (fat_lt _ fmul_lt' a d 2) (fat_lt _ fmul_lt' b c 2) (fat_lt _ fmul_lt' b d 2)))
 have HR := fun W => Lib.hid (frm (iresult_any W (fmin2 (fmin2 (fmin2 (fat fmul a c 1) (fat fmul a d 1)) (fat fmul b c 1)) (fat fmul b d 1)) (fmax2 (fmax2 (fmax2 (fat fmul a c 2) (fat fmul a d 2)) (fat fmul b c 2)) (fat fmul b d 2)) (fmin2_lt (fmin2_lt (fmin2_lt (fat_lt _ fmul_lt' _ _ _) (fat_lt _ fmul_lt' _ _ _)) (fat_lt _ fmul_lt' _ _ _)) (fat_lt _ fmul_lt' _ _ _)) (fmax2_lt (fmax2_lt (fmax2_lt (fat_lt _ fmul_lt' _ _ _) (fat_lt _ fmul_lt' _ _ _)) (fat_lt _ fmul_lt' _ _ _)) (fat_lt _ fmul_lt' _ _ _))))
 generalize ((fclean (fmin2 (fmin2 (fmin2 (fat fmul a c 1) (fat fmul a d 1)) (fat fmul b c 1)) (fat fmul b d 1)) : Nat) : Int) = u at *
 generalize ((fclean (fmax2 (fmax2 (fmax2 (fat fmul a c 2) (fat fmul a d 2)) (fat fmul b c 2)) (fat fmul b d 2)) : Nat) : Int) = v at *
 generalize ((fmin2 (fmin2 (fmin2 (fat fmul a c 1) (fat fmul a d 1)) (fat fmul b c 1)) (fat fmul b d 1) : Nat) : Int) = u1 at *
 generalize ((fmax2 (fmax2 (fmax2 (fat fmul a c 2) (fat fmul a d 2)) (fat fmul b c 2)) (fat fmul b d 2) : Nat) : Int) = v1 at *
 generalize (((fat fmul a c 1) : Nat) : Int) = z0 at *
 generalize (((fat fmul a d 1) : Nat) : Int) = z1 at *
 generalize (((fat fmul b c 1) : Nat) : Int) = z2 at *
 generalize (((fat fmul b d 1) : Nat) : Int) = z3 at *
 generalize (((fat fmul a c 2) : Nat) : Int) = z4 at *
 generalize (((fat fmul a d 2) : Nat) : Int) = z5 at *
 generalize (((fat fmul b c 2) : Nat) : Int) = z6 at *
 generalize (((fat fmul b d 2) : Nat) : Int) = z7 at *
 generalize ((a : Nat) : Int) = p at *
 generalize ((b : Nat) : Int) = q at *
 generalize ((c : Nat) : Int) = r at *
 generalize ((d : Nat) : Int) = s at *
 go_enter Tryz.func62, Tryz.ntmps62
 go_wp2_with fail
 refine (HA1 _ _ _ _ _).out.mono ?_
 rintro e w1 ⟨g1, rfl, f1, b1⟩
 go_wp2_with fail
 refine (HL _ _).out.mono ?_
 rintro e w2 ⟨rfl, b2⟩
 go_wp2_with fail
 refine (HA2 _ _ _ _ _).out.mono ?_
 rintro e w3 ⟨g2, rfl, f2, b3⟩
 go_wp2_with fail
 refine (HM _ _).out.mono ?_
 rintro e w4 ⟨rfl, b4⟩
 go_wp2_with fail
 refine (HR _).out.mono ?_
 rintro e w5 ⟨rfl, b5⟩
 go_wp2_with fail
 refine bodyPost_ret (v := .agg #[.int .u64 u, .int .u64 v]) (by simp only [results, Tryz.results62]; go_simp) rfl ?_
 exact ⟨rfl, zbh⟩
theorem iat_div (w : World) (g : Nat) (m : Int) (a : Nat) (b : Nat) (ha : a < 18446744073709551616) (hb : b < 18446744073709551616) [ht : Tb w] [ho : OV w g (.func (.func 67) #[] #[])] :
 Calls Tryz.prog 109 #[.int .u64 (a : Nat), .int .u64 (b : Nat), .int .i64 m, .pointer (some ⟨g, 0, none⟩)] w fun e w' => e = .returned (.int .u64 (fat fdiv a b m : Nat)) ∧ Below w.heap.size w w' := by
 have H1 := fun W [Tb W] => Lib.hid (frm (wdiv_any W a b ha hb m tb))
 unfold fat
 generalize fdiv a b m = f at *
 have H2 := fun W => Lib.hid (fkind_any W f)
 have he := (fkind_eqs f).1
 generalize fkind f = z at H2 he
 generalize fnan f = k at he
 cases k
 · show Calls _ _ _ _ fun e w' => e = .returned (.int .u64 (f : Nat)) ∧ Below w.heap.size w w'
   generalize ((f : Nat) : Int) = y at *
   generalize ((a : Nat) : Int) = p at *
   generalize ((b : Nat) : Int) = q at *
   go_enter Tryz.func109, Tryz.ntmps109
   go_wp2_with fail
   refine (H1 _).out.mono ?_
   rintro e w1 ⟨rfl, b1⟩
   go_wp2_with fail
   refine (H2 _).out.mono ?_
   rintro e w2 ⟨rfl, rfl⟩
   go_wp2_with fail
   go_ret
   exact ⟨rfl, zbh⟩
 · show Calls _ _ _ _ fun e w' => e = .returned (.int .u64 0) ∧ Below w.heap.size w w'
   generalize ((f : Nat) : Int) = y at *
   generalize ((a : Nat) : Int) = p at *
   generalize ((b : Nat) : Int) = q at *
   go_enter Tryz.func109, Tryz.ntmps109
   go_wp2_with fail
   refine (H1 _).out.mono ?_
   rintro e w1 ⟨rfl, b1⟩
   go_wp2_with fail
   refine (H2 _).out.mono ?_
   rintro e w2 ⟨rfl, rfl⟩
   go_wp2_with fail
   go_ret
   exact ⟨rfl, zbh⟩
theorem iall_div (w : World) (g go gx gy : Nat) (m : Int) (a : Nat) (b : Nat) (c : Nat) (d : Nat) (ha : a < 18446744073709551616) (hb : b < 18446744073709551616) (hc : c < 18446744073709551616) (hd : d < 18446744073709551616) [ht : Tb w] [ho : OV w g (.func (.func 109) #[] #[.pointer (some ⟨go, 0, none⟩)])] [hp : OV w go (.func (.func 67) #[] #[])] [hx : FV w gx (.int .u64 (a : Nat)) (.int .u64 (b : Nat))] [hy : FV w gy (.int .u64 (c : Nat)) (.int .u64 (d : Nat))] :
 Calls Tryz.prog 111 #[.int .i64 m, .pointer (some ⟨g, 0, none⟩), .pointer (some ⟨gx, 0, none⟩), .pointer (some ⟨gy, 0, none⟩)] w fun e w' =>
  ∃ h, e = .returned (.slice (some ⟨h, 0, none⟩) 4 4) ∧ F4 w' h (.int .u64 ((fat fdiv a c m) : Nat)) (.int .u64 ((fat fdiv a d m) : Nat)) (.int .u64 ((fat fdiv b c m) : Nat)) (.int .u64 ((fat fdiv b d m) : Nat)) ∧ From w w' := by
 have H0 := fun W [Tb W] [OV W go (.func (.func 67) #[] #[])] => Lib.hid (frm (iat_div W go m a c ha hc))
 have H1 := fun W [Tb W] [OV W go (.func (.func 67) #[] #[])] => Lib.hid (frm (iat_div W go m a d ha hd))
 have H2 := fun W [Tb W] [OV W go (.func (.func 67) #[] #[])] => Lib.hid (frm (iat_div W go m b c hb hc))
 have H3 := fun W [Tb W] [OV W go (.func (.func 67) #[] #[])] => Lib.hid (frm (iat_div W go m b d hb hd))
 generalize ((fat fdiv a c m) : Int) = v0 at *
 generalize ((fat fdiv a d m) : Int) = v1 at *
 generalize ((fat fdiv b c m) : Int) = v2 at *
 generalize ((fat fdiv b d m) : Int) = v3 at *
 generalize ((a : Nat) : Int) = p at *
 generalize ((b : Nat) : Int) = q at *
 generalize ((c : Nat) : Int) = r at *
 generalize ((d : Nat) : Int) = s at *
 go_enter Tryz.func111, Tryz.ntmps111
 go_wp2_with fail
 first
 | go_region_held3 (fun w' => w'.cell? ⟨g, 0, none⟩ = some (.func (.func 109) #[] #[.pointer (some ⟨go, 0, none⟩)]) ∧ w'.cell? ⟨gx, 0, none⟩ = some (.int .u64 p) ∧ w'.cell? ⟨gx, 1, none⟩ = some (.int .u64 q) ∧ w'.cell? ⟨gy, 0, none⟩ = some (.int .u64 r) ∧ w'.cell? ⟨gy, 1, none⟩ = some (.int .u64 s)) (first | (go_simp; done))
  (first
   | (go_at_call 109; refine (H0 _).out.mono ?_; rintro e w1 ⟨rfl, b1⟩)
   | (go_at_call 109; refine (H1 _).out.mono ?_; rintro e w2 ⟨rfl, b2⟩)
   | (go_at_call 109; refine (H2 _).out.mono ?_; rintro e w3 ⟨rfl, b3⟩)
   | (go_at_call 109; refine (H3 _).out.mono ?_; rintro e w4 ⟨rfl, b4⟩)
   | fail)
 | fail "region"
 all_goals (
  go_wp2_with fail
  go_ret
  exact ⟨_, rfl, inferInstance, ⟨zbh⟩⟩)
theorem icor_div (w : World) [ht : Tb w] (a : Nat) (b : Nat) (c : Nat) (d : Nat) (ha : a < 18446744073709551616) (hb : b < 18446744073709551616) (hc : c < 18446744073709551616) (hd : d < 18446744073709551616) : Calls Tryz.prog 62 #[.agg #[.int .u64 (a : Nat), .int .u64 (b : Nat)], .agg #[.int .u64 (c : Nat), .int .u64 (d : Nat)], .func (.func 67) #[] #[]] w fun e w' => e = .returned (.agg #[.int .u64 (fclean (fmin2 (fmin2 (fmin2 (fat fdiv a c 1) (fat fdiv a d 1)) (fat fdiv b c 1)) (fat fdiv b d 1)) : Nat), .int .u64 (fclean (fmax2 (fmax2 (fmax2 (fat fdiv a c 2) (fat fdiv a d 2)) (fat fdiv b c 2)) (fat fdiv b d 2)) : Nat)]) ∧ Below w.heap.size w w' := by
 have hmf : ∀ (fn : Fn) (first cap : Array Value) (w : World), (Instr.makeFunc fn first cap).run Tryz.prog w = .ok (.func fn first cap) w := fun _ _ _ _ => rfl
 have HA := fun (m : Int) W g go gx gy [Tb W] [OV W g (.func (.func 109) #[] #[.pointer (some ⟨go, 0, none⟩)])] [OV W go (.func (.func 67) #[] #[])] [FV W gx (.int .u64 (a : Nat)) (.int .u64 (b : Nat))] [FV W gy (.int .u64 (c : Nat)) (.int .u64 (d : Nat))] => Lib.hid (iall_div W g go gx gy m a b c d ha hb hc hd)
 have HA1 := HA 1
 have HA2 := HA 2
 clear HA
 have HL := fun W h [F4 W h (.int .u64 ((fat fdiv a c 1) : Nat)) (.int .u64 ((fat fdiv a d 1) : Nat)) (.int .u64 ((fat fdiv b c 1) : Nat)) (.int .u64 ((fat fdiv b d 1) : Nat))] => Lib.hid (frm (ileast4 W h _ _ _ _ (fat_lt _ fdiv_lt' a c 1) (fat_lt _ fdiv_lt' a d 1) (fat_lt _ fdiv_lt' b c 1) (fat_lt _ fdiv_lt' b d 1)))
 have HM := fun W h [F4 W h (.int .u64 ((fat fdiv a c 2) : Nat)) (.int .u64 ((fat fdiv a d 2) : Nat)) (.int .u64 ((fat fdiv b c 2) : Nat)) (.int .u64 ((fat fdiv b d 2) : Nat))] => Lib.hid (frm (imost4 W h _ _ _ _ (fat_lt _ fdiv_lt' a c 2) (fat_lt _ fdiv_lt' a d 2) (fat_lt _ fdiv_lt' b c 2) (fat_lt _ fdiv_lt' b d 2)))
 have HR := fun W => Lib.hid (frm (iresult_any W (fmin2 (fmin2 (fmin2 (fat fdiv a c 1) (fat fdiv a d 1)) (fat fdiv b c 1)) (fat fdiv b d 1)) (fmax2 (fmax2 (fmax2 (fat fdiv a c 2) (fat fdiv a d 2)) (fat fdiv b c 2)) (fat fdiv b d 2)) (fmin2_lt (fmin2_lt (fmin2_lt (fat_lt _ fdiv_lt' _ _ _) (fat_lt _ fdiv_lt' _ _ _)) (fat_lt _ fdiv_lt' _ _ _)) (fat_lt _ fdiv_lt' _ _ _)) (fmax2_lt (fmax2_lt (fmax2_lt (fat_lt _ fdiv_lt' _ _ _) (fat_lt _ fdiv_lt' _ _ _)) (fat_lt _ fdiv_lt' _ _ _)) (fat_lt _ fdiv_lt' _ _ _))))
 generalize ((fclean (fmin2 (fmin2 (fmin2 (fat fdiv a c 1) (fat fdiv a d 1)) (fat fdiv b c 1)) (fat fdiv b d 1)) : Nat) : Int) = u at *
 generalize ((fclean (fmax2 (fmax2 (fmax2 (fat fdiv a c 2) (fat fdiv a d 2)) (fat fdiv b c 2)) (fat fdiv b d 2)) : Nat) : Int) = v at *
 generalize ((fmin2 (fmin2 (fmin2 (fat fdiv a c 1) (fat fdiv a d 1)) (fat fdiv b c 1)) (fat fdiv b d 1) : Nat) : Int) = u1 at *
 generalize ((fmax2 (fmax2 (fmax2 (fat fdiv a c 2) (fat fdiv a d 2)) (fat fdiv b c 2)) (fat fdiv b d 2) : Nat) : Int) = v1 at *
 generalize (((fat fdiv a c 1) : Nat) : Int) = z0 at *
 generalize (((fat fdiv a d 1) : Nat) : Int) = z1 at *
 generalize (((fat fdiv b c 1) : Nat) : Int) = z2 at *
 generalize (((fat fdiv b d 1) : Nat) : Int) = z3 at *
 generalize (((fat fdiv a c 2) : Nat) : Int) = z4 at *
 generalize (((fat fdiv a d 2) : Nat) : Int) = z5 at *
 generalize (((fat fdiv b c 2) : Nat) : Int) = z6 at *
 generalize (((fat fdiv b d 2) : Nat) : Int) = z7 at *
 generalize ((a : Nat) : Int) = p at *
 generalize ((b : Nat) : Int) = q at *
 generalize ((c : Nat) : Int) = r at *
 generalize ((d : Nat) : Int) = s at *
 go_enter Tryz.func62, Tryz.ntmps62
 go_wp2_with fail
 refine (HA1 _ _ _ _ _).out.mono ?_
 rintro e w1 ⟨g1, rfl, f1, b1⟩
 go_wp2_with fail
 refine (HL _ _).out.mono ?_
 rintro e w2 ⟨rfl, b2⟩
 go_wp2_with fail
 refine (HA2 _ _ _ _ _).out.mono ?_
 rintro e w3 ⟨g2, rfl, f2, b3⟩
 go_wp2_with fail
 refine (HM _ _).out.mono ?_
 rintro e w4 ⟨rfl, b4⟩
 go_wp2_with fail
 refine (HR _).out.mono ?_
 rintro e w5 ⟨rfl, b5⟩
 go_wp2_with fail
 refine bodyPost_ret (v := .agg #[.int .u64 u, .int .u64 v]) (by simp only [results, Tryz.results62]; go_simp) rfl ?_
 exact ⟨rfl, zbh⟩
theorem imul_any (w : World) (hT : Tab w) (a : Nat) (b : Nat) (c : Nat) (d : Nat) (ha : a < 18446744073709551616) (hb : b < 18446744073709551616) (hc : c < 18446744073709551616) (hd : d < 18446744073709551616) : Calls Tryz.prog 23 #[.agg #[.int .u64 (a : Nat), .int .u64 (b : Nat)], .agg #[.int .u64 (c : Nat), .int .u64 (d : Nat)]] w fun e w' => e = .returned (.agg #[.int .u64 ((imul (a, b) (c, d)).1 : Nat), .int .u64 ((imul (a, b) (c, d)).2 : Nat)]) ∧ Below w.heap.size w w' := by
 have HT : Tb w := ⟨hT⟩
 have H1 := fun W => Lib.hid (frm (iboth_any W a b c d ha hb hc hd))
 have HC := fun W [Tb W] => Lib.hid (frm (icor_mul W a b c d ha hb hc hd))
 have HW := fun W => Lib.hid (show Calls Tryz.prog 51 #[] W fun e w' => e = .returned (.agg #[.int .u64 18442240474082181120, .int .u64 9218868437227405312]) ∧ From W w' from frm (iwhole_any W))
 unfold imul iall icor ires
 generalize (iok (a, b) && iok (c, d)) = k1 at *
 cases k1
 · skip
   show Calls _ _ _ _ fun e w' => e = .returned (.agg #[.int .u64 18442240474082181120, .int .u64 9218868437227405312]) ∧ Below w.heap.size w w'
   generalize ((a : Nat) : Int) = p at *
   generalize ((b : Nat) : Int) = q at *
   generalize ((c : Nat) : Int) = r at *
   generalize ((d : Nat) : Int) = s at *
   go_enter Tryz.func23, Tryz.ntmps23
   go_wp2_with fail
   refine (H1 _).out.mono ?_
   rintro e w1 ⟨rfl, b1⟩
   go_wp2_with fail
   refine (HW _).out.mono ?_
   rintro e w2 ⟨rfl, b2⟩
   go_wp2_with fail
   refine bodyPost_ret (v := .agg #[.int .u64 18442240474082181120, .int .u64 9218868437227405312]) (by simp only [results, Tryz.results23]; go_simp) rfl ?_
   exact ⟨rfl, zbh⟩
 · skip
   show Calls _ _ _ _ fun e w' => e = .returned (.agg #[.int .u64 (fclean (fmin2 (fmin2 (fmin2 (fat fmul a c 1) (fat fmul a d 1)) (fat fmul b c 1)) (fat fmul b d 1)) : Nat), .int .u64 (fclean (fmax2 (fmax2 (fmax2 (fat fmul a c 2) (fat fmul a d 2)) (fat fmul b c 2)) (fat fmul b d 2)) : Nat)]) ∧ Below w.heap.size w w'
   generalize ((fclean (fmin2 (fmin2 (fmin2 (fat fmul a c 1) (fat fmul a d 1)) (fat fmul b c 1)) (fat fmul b d 1)) : Nat) : Int) = u at *
   generalize ((fclean (fmax2 (fmax2 (fmax2 (fat fmul a c 2) (fat fmul a d 2)) (fat fmul b c 2)) (fat fmul b d 2)) : Nat) : Int) = v at *
   generalize ((a : Nat) : Int) = p at *
   generalize ((b : Nat) : Int) = q at *
   generalize ((c : Nat) : Int) = r at *
   generalize ((d : Nat) : Int) = s at *
   go_enter Tryz.func23, Tryz.ntmps23
   go_wp2_with fail
   refine (H1 _).out.mono ?_
   rintro e w1 ⟨rfl, b1⟩
   go_wp2_with fail
   refine (HC _).out.mono ?_
   rintro e w2 ⟨rfl, b2⟩
   go_wp2_with fail
   refine bodyPost_ret (v := .agg #[.int .u64 u, .int .u64 v]) (by simp only [results, Tryz.results23]; go_simp) rfl ?_
   exact ⟨rfl, zbh⟩
theorem idiv_any (w : World) (hT : Tab w) (a : Nat) (b : Nat) (c : Nat) (d : Nat) (ha : a < 18446744073709551616) (hb : b < 18446744073709551616) (hc : c < 18446744073709551616) (hd : d < 18446744073709551616) : Calls Tryz.prog 25 #[.agg #[.int .u64 (a : Nat), .int .u64 (b : Nat)], .agg #[.int .u64 (c : Nat), .int .u64 (d : Nat)]] w fun e w' => e = .returned (.agg #[.int .u64 ((idiv (a, b) (c, d)).1 : Nat), .int .u64 ((idiv (a, b) (c, d)).2 : Nat)]) ∧ Below w.heap.size w w' := by
 have HT : Tb w := ⟨hT⟩
 have H1 := fun W => Lib.hid (frm (iboth_any W a b c d ha hb hc hd))
 have HC := fun W [Tb W] => Lib.hid (frm (icor_div W a b c d ha hb hc hd))
 have HZ := fun W => Lib.hid (frm (izero_any W c d hc hd))
 have HW := fun W => Lib.hid (show Calls Tryz.prog 51 #[] W fun e w' => e = .returned (.agg #[.int .u64 18442240474082181120, .int .u64 9218868437227405312]) ∧ From W w' from frm (iwhole_any W))
 unfold idiv iall icor ires
 generalize (iok (a, b) && iok (c, d)) = k1 at *
 generalize izero (c, d) = k2 at *
 cases k1
 · skip
   show Calls _ _ _ _ fun e w' => e = .returned (.agg #[.int .u64 18442240474082181120, .int .u64 9218868437227405312]) ∧ Below w.heap.size w w'
   generalize ((a : Nat) : Int) = p at *
   generalize ((b : Nat) : Int) = q at *
   generalize ((c : Nat) : Int) = r at *
   generalize ((d : Nat) : Int) = s at *
   go_enter Tryz.func25, Tryz.ntmps25
   go_wp2_with fail
   refine (H1 _).out.mono ?_
   rintro e w1 ⟨rfl, b1⟩
   go_wp2_with fail
   refine (HW _).out.mono ?_
   rintro e w2 ⟨rfl, b2⟩
   go_wp2_with fail
   refine bodyPost_ret (v := .agg #[.int .u64 18442240474082181120, .int .u64 9218868437227405312]) (by simp only [results, Tryz.results25]; go_simp) rfl ?_
   exact ⟨rfl, zbh⟩
 · cases k2
   · skip
     show Calls _ _ _ _ fun e w' => e = .returned (.agg #[.int .u64 (fclean (fmin2 (fmin2 (fmin2 (fat fdiv a c 1) (fat fdiv a d 1)) (fat fdiv b c 1)) (fat fdiv b d 1)) : Nat), .int .u64 (fclean (fmax2 (fmax2 (fmax2 (fat fdiv a c 2) (fat fdiv a d 2)) (fat fdiv b c 2)) (fat fdiv b d 2)) : Nat)]) ∧ Below w.heap.size w w'
     generalize ((fclean (fmin2 (fmin2 (fmin2 (fat fdiv a c 1) (fat fdiv a d 1)) (fat fdiv b c 1)) (fat fdiv b d 1)) : Nat) : Int) = u at *
     generalize ((fclean (fmax2 (fmax2 (fmax2 (fat fdiv a c 2) (fat fdiv a d 2)) (fat fdiv b c 2)) (fat fdiv b d 2)) : Nat) : Int) = v at *
     generalize ((a : Nat) : Int) = p at *
     generalize ((b : Nat) : Int) = q at *
     generalize ((c : Nat) : Int) = r at *
     generalize ((d : Nat) : Int) = s at *
     go_enter Tryz.func25, Tryz.ntmps25
     go_wp2_with fail
     refine (H1 _).out.mono ?_
     rintro e w1 ⟨rfl, b1⟩
     go_wp2_with fail
     refine (HZ _).out.mono ?_
     rintro e w2 ⟨rfl, b2⟩
     go_wp2_with fail
     refine (HC _).out.mono ?_
     rintro e w3 ⟨rfl, b3⟩
     go_wp2_with fail
     refine bodyPost_ret (v := .agg #[.int .u64 u, .int .u64 v]) (by simp only [results, Tryz.results25]; go_simp) rfl ?_
     exact ⟨rfl, zbh⟩
   · skip
     show Calls _ _ _ _ fun e w' => e = .returned (.agg #[.int .u64 18442240474082181120, .int .u64 9218868437227405312]) ∧ Below w.heap.size w w'
     generalize ((a : Nat) : Int) = p at *
     generalize ((b : Nat) : Int) = q at *
     generalize ((c : Nat) : Int) = r at *
     generalize ((d : Nat) : Int) = s at *
     go_enter Tryz.func25, Tryz.ntmps25
     go_wp2_with fail
     refine (H1 _).out.mono ?_
     rintro e w1 ⟨rfl, b1⟩
     go_wp2_with fail
     refine (HZ _).out.mono ?_
     rintro e w2 ⟨rfl, b2⟩
     go_wp2_with fail
     refine (HW _).out.mono ?_
     rintro e w3 ⟨rfl, b3⟩
     go_wp2_with fail
     refine bodyPost_ret (v := .agg #[.int .u64 18442240474082181120, .int .u64 9218868437227405312]) (by simp only [results, Tryz.results25]; go_simp) rfl ?_
     exact ⟨rfl, zbh⟩
end Go.Proofs.YtgicceiimciafaaGreatDoor
namespace Go.Proofs.YtgicceiimciafaaGreatDoor
open Go.RowKit Sp
attribute [local irreducible] Calls
theorem add_11 (m : Int) : fadd fOne fOne m = fTwo := by
 rw [fadd_fin fin_one fin_one, if_neg (by decide)]
 have h1 : fz fOne + fz fOne = fz fTwo := by rw [fz_one, fz_two, Int.pow_succ]; omega
 rw [h1, if_neg (fun h => absurd (fz_zero.1 h) (by decide)), ← fof_fin (by decide)]
 exact fround_of (by decide) (by decide) (by decide) m
theorem mul_11 (m : Int) : fmul fOne fOne m = fOne := by rw [fmul_one (by decide)]; decide
theorem mul_12 (m : Int) : fmul fOne fTwo m = fTwo := by rw [fmul_comm, fmul_one (by decide)]; decide
theorem point_1 : ipoint fOne = (fOne, fOne) := by decide
theorem point_2 : ipoint fTwo = (fTwo, fTwo) := by decide
theorem add_pp : iadd (fOne, fOne) (fOne, fOne) = (fTwo, fTwo) := by
 unfold iadd
 rw [show (iok (fOne, fOne) && iok (fOne, fOne)) = true by decide]
 show ires (fadd fOne fOne 1) (fadd fOne fOne 2) = _
 rw [add_11, add_11]; decide
theorem mul_pp : imul (fOne, fOne) (fOne, fTwo) = (fOne, fTwo) := by
 unfold imul
 rw [show (iok (fOne, fOne) && iok (fOne, fTwo)) = true by decide]
 show icor fmul (fOne, fOne) (fOne, fTwo) = _
 unfold icor fat
 simp only [mul_11, mul_12]
 decide
theorem awakeI_any (w : World) [ht : Tb w] : Calls Tryz.prog 33 #[] w fun e w' => e = .returned (.bool true) ∧ Below w.heap.size w w' := by
 have H1 := fun W [Tb W] => Lib.hid (show Calls Tryz.prog 15 #[.int .u64 4607182418800017408] W fun e w' => e = .returned (.agg #[.int .u64 4607182418800017408, .int .u64 4607182418800017408]) ∧ From W w' from by
  have := frm (ipoint_any W fOne (by decide))
  rw [point_1] at this; exact this)
 have H2 := fun W [Tb W] => Lib.hid (show Calls Tryz.prog 19 #[.agg #[.int .u64 4607182418800017408, .int .u64 4607182418800017408], .agg #[.int .u64 4607182418800017408, .int .u64 4607182418800017408]] W fun e w' => e = .returned (.agg #[.int .u64 4611686018427387904, .int .u64 4611686018427387904]) ∧ From W w' from by
  have := frm (iadd_any W tb fOne fOne fOne fOne (by decide) (by decide) (by decide) (by decide))
  rw [add_pp] at this; exact this)
 have H3 := fun W [Tb W] => Lib.hid (show Calls Tryz.prog 15 #[.int .u64 4611686018427387904] W fun e w' => e = .returned (.agg #[.int .u64 4611686018427387904, .int .u64 4611686018427387904]) ∧ From W w' from by
  have := frm (ipoint_any W fTwo (by decide))
  rw [point_2] at this; exact this)
 have H4 := fun W [Tb W] => Lib.hid (show Calls Tryz.prog 23 #[.agg #[.int .u64 4607182418800017408, .int .u64 4607182418800017408], .agg #[.int .u64 4607182418800017408, .int .u64 4611686018427387904]] W fun e w' => e = .returned (.agg #[.int .u64 4607182418800017408, .int .u64 4611686018427387904]) ∧ From W w' from by
  have := frm (imul_any W tb fOne fOne fOne fTwo (by decide) (by decide) (by decide) (by decide))
  rw [mul_pp] at this; exact this)
 have H5 := fun W [Tb W] => Lib.hid (show Calls Tryz.prog 13 #[.agg #[.int .u64 4607182418800017408, .int .u64 4611686018427387904]] W fun e w' => e = .returned (.bool true) ∧ From W w' from by
  have := frm (ivalid_any W fOne fTwo (by decide) (by decide))
  rw [show iok (fOne, fTwo) = true by decide] at this; exact this)
 have H6 := fun W [Tb W] => Lib.hid (show Calls Tryz.prog 13 #[.agg #[.int .u64 4611686018427387904, .int .u64 4607182418800017408]] W fun e w' => e = .returned (.bool false) ∧ From W w' from by
  have := frm (ivalid_any W fTwo fOne (by decide) (by decide))
  rw [show iok (fTwo, fOne) = false by decide] at this; exact this)
 have H7 := fun W [Tb W] => Lib.hid (show Calls Tryz.prog 77 #[.agg #[.int .u64 4607182418800017408, .int .u64 4607182418800017408], .agg #[.int .u64 4607182418800017408, .int .u64 4611686018427387904]] W fun e w' => e = .returned (.bool true) ∧ From W w' from by
  have := frm (isubset_any W fOne fOne fOne fTwo (by decide) (by decide) (by decide) (by decide))
  rw [show isubset (fOne, fOne) (fOne, fTwo) = true by decide] at this; exact this)
 go_enter Tryz.func33, Tryz.ntmps33
 go_wp2_with fail
 refine (H1 _).out.mono ?_
 rintro e w1 ⟨rfl, b1⟩
 go_wp2_with fail
 first
 | go_region_held3 (fun w' => w'.cell? ⟨w1.heap.size, 0, none⟩ = some (.int .u64 4607182418800017408) ∧ w'.cell? ⟨w1.heap.size, 1, none⟩ = some (.int .u64 4607182418800017408) ∧ w'.cell? ⟨w1.heap.size + 1, 0, none⟩ = some (.int .u64 4607182418800017408) ∧ w'.cell? ⟨w1.heap.size + 1, 1, none⟩ = some (.int .u64 4611686018427387904)) (first | (go_simp; done))
  (first
   | (go_at_call 19; refine (H2 _).out.mono ?_; rintro e w2 ⟨rfl, b2⟩)
   | (go_at_call 15; refine (H3 _).out.mono ?_; rintro e w3 ⟨rfl, b3⟩)
   | (go_at_call 23; refine (H4 _).out.mono ?_; rintro e w4 ⟨rfl, b4⟩)
   | (go_at_call 13; refine (H5 _).out.mono ?_; rintro e w5 ⟨rfl, b5⟩)
   | (go_at_call 13; refine (H6 _).out.mono ?_; rintro e w6 ⟨rfl, b6⟩)
   | (go_at_call 77; refine (H7 _).out.mono ?_; rintro e w7 ⟨rfl, b7⟩)
   | fail)
 | fail "region"
 all_goals (
  go_wp2_with fail
  go_ret
  exact ⟨rfl, zbh⟩)
end Go.Proofs.YtgicceiimciafaaGreatDoor

/-
  Walks: package integer, from limbs to integers.
  Walks: package integer: Neg, Abs, Sign, BitLen, Cmp.
  Walks: package integer: Add, Sub, Mul.
  Walks: package integer: Sub, Mul, Cmp, FromInt.
  Walks: bits.TrailingZeros32 (over its table), integer.TrailingZeros, FromInt.
  Walks: package integer: FromInt, Shift, DivMod, Sqrt.
  Walks: package integer: DivMod, Sqrt.
-/
import Derived.Test.YtmbkgapknoammaaGreatDoorZuBc
import Derived.Deep.RegionHeld3
set_option maxRecDepth 100000
set_option maxHeartbeats 2000000
namespace Go.Proofs.YtmbkgapknoammaaGreatDoor
open Go.RowKit Sp
def sgn(s:Bool)(x:Nat):Int:=if s then -(x:Int)else x
theorem zAg(s:Bool)(x:Nat):(sgn s x).natAbs=x:=by cases s <;> simp[sgn]
theorem zH4(s:Bool)(x:Nat):decide (sgn s x<0)=(s&&decide (0<x)):=by
 cases s <;> simp[sgn] <;> omega
theorem zAk(z:Int):sgn (decide (z<0)) z.natAbs=z:=by
 unfold sgn;by_cases h:z<0 <;> simp[h] <;> omega
def zAl(w:World)(z:Int)(e:Ending)(w':World):Prop:=
 ∃a cap,e=.returned (.agg #[.bool (decide (z<0)),.slice a (nl z.natAbs) cap])∧Mag w' a (nl z.natAbs) cap z.natAbs∧Below w.heap.size w w'∧(0<nl z.natAbs→w.heap.size≤ab a)
def zRQ(w:World)(s:Bool)(a:Option Addr)(x:Nat)(e:Ending)(w':World):Prop:=
 ∃a' cap,e=.returned (.agg #[.bool (s&&decide (0<x)),.slice a' (nl x) cap])∧Mag w' a' (nl x) cap x∧Below w.heap.size w w'∧(0<nl x→a'=a)
theorem zA0{w W w2:World}(h0:Below w.heap.size w W)(hb:Below W.heap.size W w2):Below w.heap.size w w2:=h0.trans (hb.mono h0.size)
theorem zBj(w:World)(s:Bool)(a:Option Addr)(n cap x:Nat)(hx:Mag w a n cap x):Calls Tryz.prog 169 #[.bool s,.slice a n cap] w (zRQ w s a x):=by
 have hba:Below w.heap.size w (w.alloc (.cells #[.bool false,.slice none 0 0] 51)):=(Below.refl _ _).alloc (Nat.le_refl _) _
 by_cases hx0:x=0
 · subst hx0;have hnl:=zIl;go_enter Tryz.func169,Tryz.ntmps169;go_wp2_with (go_at_call 172;refine(zAa _ _ _ _ _ (hx.below hba)).mono ?_;rintro e w' ⟨rfl,rfl⟩);refine bodyPost_ret (v:=.agg #[.bool false,.slice none 0 0]) (by simp[results,Tryz.results169,go_sem]) rfl ?_;exact⟨none,0,by cases s <;> rfl,Mag.nil _,hba,fun h=>absurd h ja⟩
 · have hn0:((nl x:Nat):Int)≠0:=by
    have:=zBz (Nat.pos_of_ne_zero hx0);omega
   have hn1:(((nl x:Nat):Int)==0)=false:=(by rw[beq_eq_false_iff_ne];exact hn0);clear hn0;have hm:=hx.below hba;go_enter Tryz.func169,Tryz.ntmps169;go_wp2_with (go_at_call 172;refine(zAa _ _ _ _ _ hm).mono ?_;rintro e w' ⟨rfl,rfl⟩);refine bodyPost_ret (v:=.agg #[.bool s,.slice a (nl x) cap]) (by simp[results,Tryz.results169,go_sem]) rfl ?_;refine⟨a,cap,?_,?_,(Below.refl _ _).alloc (Nat.le_refl _) _,fun _=>rfl⟩
   · rw[decide_eq_true (Nat.pos_of_ne_zero hx0),Bool.and_true]
   · exact(hx.below ((Below.refl _ _).alloc (Nat.le_refl _) _)).trim
theorem zEF(w:World)(s:Bool)(a:Option Addr)(n cap x:Nat)(hx:Mag w a n cap x)(hlim:n≤1099511627776):Calls Tryz.prog 177 #[.agg #[.bool s,.slice a n cap]] w (zAl w (sgn s x)):=by
 go_enter Tryz.func177,Tryz.ntmps177;go_wp2_with fail
 go_region_held3 (fun w'=>w'.cell? ⟨w.heap.size,0,none⟩=some (.bool s)∧w'.cell? ⟨w.heap.size,1,none⟩=some (.slice a n cap)) (first | go_keep)
  (first | (go_at_call 170;refine(zDM _ _ _ _ _ (hx.below KU) hlim).mono ?_;rintro e w1 ⟨a1,c1,rfl,hm1,hb1,hf1⟩;obtain⟨hc1,hz1⟩:=zA6 (hb1.mono (show w.heap.size+2≤_ by simp))) | (go_at_call 169;refine(zBj _ _ _ _ _ _ hm1).mono ?_;rintro e w2 ⟨a2,c2,rfl,hm2,hb2,hf2⟩;have hb:=hb1.trans (hb2.mono hb1.size);obtain⟨hc2,hz2⟩:=zA6 (hb.mono (show w.heap.size+2≤_ by simp))))
 go_wp2_with fail;refine bodyPost_ret (v:=.agg #[.bool (s&&decide (0<x)),.slice a2 (nl x) c2]) (by simp[results,Tryz.results177,go_sem,hc2]) rfl ?_;rw[←zH4];unfold zAl;rw[zAg];have hfr:0<nl x→w.heap.size+2≤ab a2:=fun h=>by
  rw[hf2 h];have h2:0<n:=Nat.lt_of_lt_of_le h (zAH hx.lt);have:=hf1 h2;simpa using this
 exact⟨a2,c2,rfl,(hm2.set (fun h=>jL) _ _).set (fun h=>jL) _ _,((zA0 KU hb).setCell jz _).setCell jz _,fun h=>jL⟩
theorem zBV{w w2:World}{z:Int}{a2:Option Addr}{c2 g:Nat}{u u':Value}(hm:Mag w2 a2 (nl z.natAbs) c2 z.natAbs)(hfr:0<nl z.natAbs→g<ab a2)(hb:Below w.heap.size w w2)(hg:w.heap.size≤g):zAl w z (.returned (.agg #[.bool (decide (z<0)),.slice a2 (nl z.natAbs) c2])) ((w2.setCell ⟨g,0,none⟩ u).setCell ⟨g,1,none⟩ u'):=
 ⟨a2,c2,rfl,(hm.set (fun h=>jL) _ _).set (fun h=>jL) _ _,(hb.setCell hg _).setCell hg _,fun h=>jL⟩
theorem zBU{w w2:World}{s:Bool}{x:Nat}{a2:Option Addr}{c2 g:Nat}{u u':Value}(hm:Mag w2 a2 (nl x) c2 x)(hfr:0<nl x→g<ab a2)(hb:Below w.heap.size w w2)(hg:w.heap.size≤g):zAl w (sgn s x) (.returned (.agg #[.bool (s&&decide (0<x)),.slice a2 (nl x) c2])) ((w2.setCell ⟨g,0,none⟩ u).setCell ⟨g,1,none⟩ u'):=by
 rw[←zH4];have e:=zAg s x;have:=@zBV w w2 (sgn s x) a2 c2 g u u';rw[e]at this;exact this hm hfr hb hg
theorem zQW(w:World)(s:Bool)(a:Option Addr)(n cap x:Nat)(hx:Mag w a n cap x)(hlim:n≤1099511627776):Calls Tryz.prog 149 #[.agg #[.bool s,.slice a n cap]] w (zAl w (sgn (!s) x)):=by
 go_enter Tryz.func149,Tryz.ntmps149;go_wp2_with fail
 go_region_held3 (fun w'=>w'.cell? ⟨w.heap.size,0,none⟩=some (.bool s)∧w'.cell? ⟨w.heap.size,1,none⟩=some (.slice a n cap)) (first | go_keep)
  (first | (go_at_call 170;refine(zDM _ _ _ _ _ (hx.below j6) hlim).mono ?_;rintro e w1 ⟨a1,c1,rfl,hm1,hb1,hf1⟩;obtain⟨hc1,hz1⟩:=zA6 (hb1.mono (show w.heap.size+2≤_ by simp))) | (go_at_call 169;refine(zBj _ _ _ _ _ _ hm1).mono ?_;rintro e w2 ⟨a2,c2,rfl,hm2,hb2,hf2⟩;have hb:=hb1.trans (hb2.mono hb1.size);obtain⟨hc2,hz2⟩:=zA6 (hb.mono (show w.heap.size+2≤_ by simp))))
 go_wp2_with fail;refine bodyPost_ret (v:=.agg #[.bool (!s&&decide (0<x)),.slice a2 (nl x) c2]) (by simp[results,Tryz.results149,go_sem,hc2]) rfl ?_;refine zBU hm2 (fun h=>?_) (zA0 j6 hb) j0;rw[hf2 h];have:=hf1 (Nat.lt_of_lt_of_le h (zAH hx.lt));simp at this;omega
theorem zRM(w:World)(s:Bool)(a:Option Addr)(n cap x:Nat)(hx:Mag w a n cap x)(hlim:n≤1099511627776):Calls Tryz.prog 183 #[.agg #[.bool s,.slice a n cap]] w (zAl w (sgn false x)):=by
 go_enter Tryz.func183,Tryz.ntmps183;go_wp2_with fail;refine(zDM _ _ _ _ _ (hx.below j6) hlim).mono ?_;rintro e w1 ⟨a1,c1,rfl,hm1,hb1,hf1⟩;go_wp2_with fail;refine(zBj _ _ _ _ _ _ hm1).mono ?_;rintro e w2 ⟨a2,c2,rfl,hm2,hb2,hf2⟩;have hb:=hb1.trans (hb2.mono hb1.size);obtain⟨hc2,hz2⟩:=zA6 (hb.mono (show w.heap.size+2≤_ by simp));go_wp2_with fail;refine bodyPost_ret (v:=.agg #[.bool (false&&decide (0<x)),.slice a2 (nl x) c2]) (by simp[results,Tryz.results183,go_sem,hc2]) rfl ?_;refine zBU hm2 (fun h=>?_) (zA0 j6 hb) j0;rw[hf2 h];have:=hf1 (Nat.lt_of_lt_of_le h (zAH hx.lt));simp at this;omega
def sg(z:Int):Int:=zAq z 0
theorem zLN{z:Int}(h:z<0):sg z= -1:=zAS h
theorem zQI:sg 0=0:=zCf rfl
theorem zFF{z:Int}(h:0<z):sg z=1:=zAW h
theorem zEw(w:World)(s:Bool)(a:Option Addr)(n cap x:Nat)(hx:Mag w a n cap x):Calls Tryz.prog 158 #[.agg #[.bool s,.slice a n cap]] w fun e w'=>e=.returned (.int .i64 (sg (sgn s x)))∧Below w.heap.size w w':=by
 by_cases hx0:x=0
 · subst hx0;have hnl:=zIl;have e:sg (sgn s 0)=0:=(by cases s <;> rfl);rw[e];go_enter Tryz.func158,Tryz.ntmps158;go_wp2_with (go_at_call 172;refine(zAa _ _ _ _ _ (hx.below j6)).mono ?_;rintro e w' ⟨rfl,rfl⟩);go_ret;exact⟨rfl,j6⟩
 · have hn0:((nl x:Nat):Int)≠0:=by
    have:=zBz (Nat.pos_of_ne_zero hx0);omega
   have hn1:(((nl x:Nat):Int)==0)=false:=(by rw[beq_eq_false_iff_ne];exact hn0);clear hn0
   cases s
   · rw[show sg (sgn false x)=1 from zFF (by simp[sgn];omega)];go_enter Tryz.func158,Tryz.ntmps158;go_wp2_with (go_at_call 172;refine(zAa _ _ _ _ _ (hx.below j6)).mono ?_;rintro e w' ⟨rfl,rfl⟩);go_ret;exact⟨rfl,j6⟩
   · rw[show sg (sgn true x)= -1 from zLN (by simp[sgn];omega)];go_enter Tryz.func158,Tryz.ntmps158;go_wp2_with (go_at_call 172;refine(zAa _ _ _ _ _ (hx.below j6)).mono ?_;rintro e w' ⟨rfl,rfl⟩);go_ret;exact⟨rfl,j6⟩
theorem zDf(w:World)(s:Bool)(a:Option Addr)(n cap x:Nat)(hx:Mag w a n cap x)(hlim:n≤1099511627776):Calls Tryz.prog 179 #[.agg #[.bool s,.slice a n cap]] w fun e w'=>e=.returned (.int .i64 (zA4 x))∧Below w.heap.size w w':=by
 have hnl:=zAH hx.lt;go_enter Tryz.func179,Tryz.ntmps179;go_wp2_with (first | (go_at_call 172;refine(zAa _ _ _ _ _ (hx.below j6)).mono ?_;rintro e w' ⟨rfl,rfl⟩) | (go_at_call 194;refine(zFM _ _ _ _ _ (hx.below j6).trim rfl j0).mono ?_;rintro e w' ⟨rfl,rfl⟩));go_ret;exact⟨rfl,j6⟩
theorem zH6(s:Bool)(x y:Nat):sgn s (x+y)=sgn s x+sgn s y:=by cases s <;> simp[sgn] <;> omega
theorem zPY(w:World)(s:Bool)(a a':Option Addr)(n m cap cap' x y:Nat)(hx:Mag w a n cap x)(hy:Mag w a' m cap' y)(hn:n≤1099511627776)(hm:m≤1099511627776):Calls Tryz.prog 154 #[.agg #[.bool s,.slice a n cap],.agg #[.bool s,.slice a' m cap']] w (zAl w (sgn s x+sgn s y)):=by
 rw[←zH6];have nx:=zAH hx.lt;have ny:=zAH hy.lt;have hbs:(s==s)=true:=jz
 have e2:¬w.heap.size+1+1=w.heap.size:=j0
 go_enter Tryz.func154,Tryz.ntmps154;go_wp2_with fail
 go_quiet ((go_at_call 172;first | exact zDy (may (zAa _ _ _ _ _ (hx.below j6))) | exact zDy (may (zAa _ _ _ _ _ (hy.below j6))) | exact zGi (may (zAa _ _ _ _ _ (hx.below j6))) | exact zGi (may (zAa _ _ _ _ _ (hy.below j6)))))
 go_wp2_with fail
 go_region_held3 (fun w'=>w'.cell? ⟨w.heap.size,0,none⟩=some (.bool s)) (first | go_keep)
  (first | (go_at_call 173;refine(zGl _ _ _ _ _ _ _ _ _ (hx.below j6).trim (hy.below j6).trim j0 j0).mono ?_;rintro e w1 ⟨a1,c1,rfl,hm1,hb1,hf1⟩;obtain⟨hc1,hz1⟩:=zA6 (hb1.mono (show w.heap.size+3≤_ by simp))) | (go_at_call 169;refine(zBj _ _ _ _ _ _ hm1).mono ?_;rintro e w2 ⟨a2,c2,rfl,hm2,hb2,hf2⟩;have hb:=hb1.trans (hb2.mono hb1.size);obtain⟨hc2,hz2⟩:=zA6 (hb.mono (show w.heap.size+3≤_ by simp))))
 go_wp2_with fail;refine bodyPost_ret (v:=.agg #[.bool (s&&decide (0<x+y)),.slice a2 (nl (x+y)) c2]) (by simp[results,Tryz.results154,go_sem,hc2]) rfl ?_;refine zBU hm2 (fun h=>?_) (zA0 j6 hb) j0;rw[hf2 h];have:=hf1 h;simp at this;omega
theorem zH7(s:Bool)(x y d:Nat)(h:y+d=x):sgn s d=sgn s x+sgn (!s) y:=by subst h;cases s <;> simp[sgn] <;> omega
theorem zGa(s:Bool)(x y d:Nat)(h:x+d=y):sgn (!s) d=sgn s x+sgn (!s) y:=by subst h;cases s <;> simp[sgn] <;> omega
theorem zSV(w:World)(s t:Bool)(a a':Option Addr)(n m cap cap' x y d:Nat)(hst:(s==t)=false)(hx:Mag w a n cap x)(hy:Mag w a' m cap' y)(hd:y+d=x)(hn:n≤1099511627776):Calls Tryz.prog 154 #[.agg #[.bool s,.slice a n cap],.agg #[.bool t,.slice a' m cap']] w (zAl w (sgn s d)):=by
 have nx:=zAH hx.lt;have ny:=zAH hy.lt;obtain⟨k,hk,hk0⟩:∃k:Int,zAq x y=k∧0≤k:=⟨_,rfl,zC0 j0⟩;have HK:=Lib.hid hk;have HD:=Lib.hid hd;clear hk hd;have e2:¬w.heap.size+1+1=w.heap.size:=j0
 go_enter Tryz.func154,Tryz.ntmps154;go_wp2_with fail
 go_quiet ((go_at_call 172;first | exact zDy (may (zAa _ _ _ _ _ (hx.below j6))) | exact zDy (may (zAa _ _ _ _ _ (hy.below j6))) | exact zGi (may (zAa _ _ _ _ _ (hx.below j6))) | exact zGi (may (zAa _ _ _ _ _ (hy.below j6)))))
 go_wp2_with fail;refine(zBi _ _ _ _ _ _ _ _ _ (hx.below j6).trim (hy.below j6).trim rfl rfl).mono ?_;rintro e w0 ⟨rfl,q,rfl⟩;rw[HK.out];go_wp2_with fail
 go_region_held3 (fun w'=>w'.cell? ⟨w.heap.size,0,none⟩=some (.bool s)) (first | go_keep)
  (first | (go_at_call 175;refine(zHy _ _ _ _ _ _ _ _ _ _ (hx.below j6).trim (hy.below j6).trim HD.out j0).mono ?_;rintro e w1 ⟨a1,c1,rfl,hm1,hb1,hf1⟩;obtain⟨hc1,hz1⟩:=zA6 (hb1.mono (show w.heap.size+3≤_ by simp))) | (go_at_call 169;refine(zBj _ _ _ _ _ _ hm1).mono ?_;rintro e w2 ⟨a2,c2,rfl,hm2,hb2,hf2⟩;have hb:=hb1.trans (hb2.mono hb1.size);obtain⟨hc2,hz2⟩:=zA6 (hb.mono (show w.heap.size+3≤_ by simp))))
 go_wp2_with fail;refine bodyPost_ret (v:=.agg #[.bool (s&&decide (0<d)),.slice a2 (nl d) c2]) (by simp[results,Tryz.results154,go_sem,hc2]) rfl ?_;refine zBU hm2 (fun h=>?_) (zA0 j6 hb) j0;rw[hf2 h];have:=hf1 h;simp at this;omega
theorem add_lt(w:World)(s t:Bool)(a a':Option Addr)(n m cap cap' x y d:Nat)(hst:(s==t)=false)(hx:Mag w a n cap x)(hy:Mag w a' m cap' y)(hd:x+d=y)(hd0:0<d)(hm:m≤1099511627776):Calls Tryz.prog 154 #[.agg #[.bool s,.slice a n cap],.agg #[.bool t,.slice a' m cap']] w (zAl w (sgn t d)):=by
 have nx:=zAH hx.lt;have ny:=zAH hy.lt;have HK:=Lib.hid (zAS (m:=(x:Int)) (n:=(y:Int)) j0);clear hd0;have HD:=Lib.hid hd;clear hd;have e2:¬w.heap.size+1+1=w.heap.size:=j0
 go_enter Tryz.func154,Tryz.ntmps154;go_wp2_with fail
 go_quiet ((go_at_call 172;first | exact zDy (may (zAa _ _ _ _ _ (hx.below j6))) | exact zDy (may (zAa _ _ _ _ _ (hy.below j6))) | exact zGi (may (zAa _ _ _ _ _ (hx.below j6))) | exact zGi (may (zAa _ _ _ _ _ (hy.below j6)))))
 go_wp2_with fail;refine(zBi _ _ _ _ _ _ _ _ _ (hx.below j6).trim (hy.below j6).trim rfl rfl).mono ?_;rintro e w0 ⟨rfl,q,rfl⟩;rw[HK.out];go_wp2_with fail
 go_region_held3 (fun w'=>w'.cell? ⟨w.heap.size+1,0,none⟩=some (.bool t)) (first | go_keep)
  (first | (go_at_call 175;refine(zHy _ _ _ _ _ _ _ _ _ _ (hy.below j6).trim (hx.below j6).trim HD.out j0).mono ?_;rintro e w1 ⟨a1,c1,rfl,hm1,hb1,hf1⟩;obtain⟨hc1,hz1⟩:=zA6 (hb1.mono (show w.heap.size+3≤_ by simp))) | (go_at_call 169;refine(zBj _ _ _ _ _ _ hm1).mono ?_;rintro e w2 ⟨a2,c2,rfl,hm2,hb2,hf2⟩;have hb:=hb1.trans (hb2.mono hb1.size);obtain⟨hc2,hz2⟩:=zA6 (hb.mono (show w.heap.size+3≤_ by simp))))
 go_wp2_with fail;refine bodyPost_ret (v:=.agg #[.bool (t&&decide (0<d)),.slice a2 (nl d) c2]) (by simp[results,Tryz.results154,go_sem,hc2]) rfl ?_;refine zBU hm2 (fun h=>?_) (zA0 j6 hb) j0;rw[hf2 h];have:=hf1 h;simp at this;omega
theorem zO6(w:World)(s t:Bool)(a a':Option Addr)(n m cap cap' x y:Nat)(hx:Mag w a n cap x)(hy:Mag w a' m cap' y)(hn:n≤1099511627776)(hm:m≤1099511627776):Calls Tryz.prog 154 #[.agg #[.bool s,.slice a n cap],.agg #[.bool t,.slice a' m cap']] w (zAl w (sgn s x+sgn t y)):=by
 by_cases hst:s=t
 · subst hst;exact zPY w s a a' n m cap cap' x y hx hy hn hm
 · have ht:t=!s:=(by cases s <;> cases t <;> simp_all);subst ht;have hst':(s==!s)=false:=(by cases s <;> rfl);rcases Nat.lt_or_ge x y with h | h
   · rw[←zGa s x y (y-x) j0];exact add_lt w s (!s) a a' n m cap cap' x y (y-x) hst' hx hy j0 j0 hm
   · rw[←zH7 s x y (x-y) j0];exact zSV w s (!s) a a' n m cap cap' x y (x-y) hst' hx hy j0 hn
theorem zLM(s t:Bool)(x y:Nat):sgn (s != t) (x*y)=sgn s x*sgn t y:=by
 cases s <;> cases t <;> simp[sgn,Int.neg_mul,Int.mul_neg]
theorem zI7(s:Bool)(x:Nat):sgn (!s) x= -sgn s x:=by cases s <;> simp[sgn]
theorem zQB(w:World)(s t:Bool)(a a':Option Addr)(n m cap cap' x y:Nat)(hx:Mag w a n cap x)(hy:Mag w a' m cap' y)(hn:n≤1099511627776)(hm:m≤1099511627776):Calls Tryz.prog 204 #[.agg #[.bool s,.slice a n cap],.agg #[.bool t,.slice a' m cap']] w (zAl w (sgn s x-sgn t y)):=by
 rw[Int.sub_eq_add_neg,←zI7];have e2:¬w.heap.size+1+1=w.heap.size:=j0
 go_enter Tryz.func204,Tryz.ntmps204;go_wp2_with fail;refine(zO6 _ _ _ _ _ _ _ _ _ _ _ (hx.below j6) (hy.below j6) hn hm).mono ?_;rintro e w1 ⟨a2,c2,rfl,hm2,hb,hf2⟩;obtain⟨hc2,hz2⟩:=zA6 (hb.mono (show w.heap.size+3≤_ by simp));go_wp2_with fail;obtain⟨z,hz⟩:∃z,z=sgn s x+sgn (!t) y:=⟨_,rfl⟩;rw[←hz]at hm2 hf2 ⊢;refine bodyPost_ret (v:=.agg #[.bool (decide (z<0)),.slice a2 (nl z.natAbs) c2]) (by simp[results,Tryz.results204,go_sem,hc2]) rfl ?_;refine zBV hm2 (fun h=>?_) (zA0 j6 hb) j0;have:=hf2 h;simp at this;omega
theorem zQX(w:World)(s t:Bool)(a a':Option Addr)(n m cap cap' x y:Nat)(hx:Mag w a n cap x)(hy:Mag w a' m cap' y)(hn:n≤1099511627776)(hm:m≤1099511627776):Calls Tryz.prog 155 #[.agg #[.bool s,.slice a n cap],.agg #[.bool t,.slice a' m cap']] w (zAl w (sgn s x*sgn t y)):=by
 rw[←zLM];have nx:=zAH hx.lt;have ny:=zAH hy.lt;have e2:¬w.heap.size+1+1=w.heap.size:=j0
 go_enter Tryz.func155,Tryz.ntmps155;go_wp2_with fail
 go_region_held3 (fun w'=>w'.cell? ⟨w.heap.size,0,none⟩=some (.bool s)∧w'.cell? ⟨w.heap.size+1,0,none⟩=some (.bool t)∧w'.cell? ⟨w.heap.size,1,none⟩=some (.slice a n cap)∧w'.cell? ⟨w.heap.size+1,1,none⟩=some (.slice a' m cap')) (first | go_keep)
  (first | (go_at_call_of 172 (Value.slice a n cap);refine(zAa _ _ _ _ _ (hx.below j6)).mono ?_;rintro e w' ⟨rfl,rfl⟩) | (go_at_call_of 172 (Value.slice a' m cap');refine(zAa _ _ _ _ _ (hy.below j6)).mono ?_;rintro e w' ⟨rfl,rfl⟩) | (first | (go_at_call 176;refine(zLC _ _ _ _ _ _ _ _ _ (hx.below j6).trim (hy.below j6).trim j0 j0).mono ?_;rintro e w1 ⟨a1,c1,rfl,hm1,hb1,hf1⟩;obtain⟨hc1,hz1⟩:=zA6 (hb1.mono (show w.heap.size+3≤_ by simp))) | (go_at_call 169;refine(zBj _ _ _ _ _ _ hm1).mono ?_;rintro e w2 ⟨a2,c2,rfl,hm2,hb2,hf2⟩;have hb:=hb1.trans (hb2.mono hb1.size);obtain⟨hc2,hz2⟩:=zA6 (hb.mono (show w.heap.size+3≤_ by simp)))))
 go_wp2_with fail;refine bodyPost_ret (v:=.agg #[.bool ((s != t)&&decide (0<x*y)),.slice a2 (nl (x*y)) c2]) (by simp[results,Tryz.results155,go_sem,hc2];cases s <;> cases t <;> rfl) rfl ?_;refine zBU hm2 (fun h=>?_) (zA0 j6 hb) j0;rw[hf2 h];have:=hf1 h;simp at this;omega
theorem zPQ(w:World)(s t:Bool)(a a':Option Addr)(n m cap cap' x y:Nat)(p q:Int)(hx:Mag w a n cap x)(hy:Mag w a' m cap' y)(hp:sg (sgn s x)=p)(hq:sg (sgn t y)=q)(hp1: -1≤p∧p≤1)(hpq:p<q∨q<p∨(p= -1∧q= -1)∨(p=0∧q=0)∨(p=1∧q=1))(r:Int)(hr:r=if p<q then -1 else if q<p then 1 else p*zAq x y):Calls Tryz.prog 188 #[.agg #[.bool s,.slice a n cap],.agg #[.bool t,.slice a' m cap']] w fun e w'=>e=.returned (.int .i64 r)∧Below w.heap.size w w':=by
 have HS:=fun W h=>Lib.hid (zEw W s a n cap x h);have HT:=fun W h=>Lib.hid (zEw W t a' m cap' y h);rw[hp]at HS;rw[hq]at HT;obtain⟨hk1,hk2⟩: -1≤zAq (x:Int) (y:Int)∧zAq (x:Int) (y:Int)≤1:=K2
 have HR:=Lib.hid hr;clear hp hq hr;rcases hpq with h | h | ⟨rfl,rfl⟩ | ⟨rfl,rfl⟩ | ⟨rfl,rfl⟩
 all_goals
  go_enter Tryz.func188,Tryz.ntmps188;go_wp2_with fail
  go_region_held3 (fun w'=>w'.cell? ⟨w.heap.size,0,none⟩=some (.bool s)∧w'.cell? ⟨w.heap.size+1,0,none⟩=some (.bool t)∧w'.cell? ⟨w.heap.size,1,none⟩=some (.slice a n cap)∧w'.cell? ⟨w.heap.size+1,1,none⟩=some (.slice a' m cap')) (first | go_keep)
   (first | (go_at_call_of 158 (Value.agg #[Value.bool s,Value.slice a n cap]);refine(HS _ (hx.below j6)).out.mono ?_;rintro e w1 ⟨rfl,hb1⟩;obtain⟨hc1,hz1⟩:=zA6 (hb1.mono (show w.heap.size+2≤_ by simp))) | (go_at_call_of 158 (Value.agg #[Value.bool t,Value.slice a' m cap']);refine(HT _ (hy.below (zA0 j6 hb1))).out.mono ?_;rintro e w2 ⟨rfl,hb2⟩;have hb:=hb1.trans (hb2.mono hb1.size);obtain⟨hc2,hz2⟩:=zA6 (hb.mono (show w.heap.size+2≤_ by simp))))
  go_wp2_with fail
 · have e:r= -1:=(by rw[HR.out,if_pos h]);subst e;go_ret;exact⟨rfl,zA0 j6 hb⟩
 · have e:r=1:=(by rw[HR.out,if_neg j0,if_pos h]);subst e;go_ret;exact⟨rfl,zA0 j6 hb⟩
 all_goals
  have hbb:=zA0 (w:=w) j6 hb
  go_quiet ((first | (go_at_call 172;first | exact zDy (may (zAa _ _ _ _ _ ((hx.below hbb).drewN _))) | exact zDy (may (zAa _ _ _ _ _ ((hy.below hbb).drewN _))) | exact zGi (may (zAa _ _ _ _ _ ((hx.below hbb).drewN _))) | exact zGi (may (zAa _ _ _ _ _ ((hy.below hbb).drewN _)))) | (go_at_call 174;first | exact zDy (zBi _ _ _ _ _ _ _ _ _ ((hx.below hbb).trim.drewN _) ((hy.below hbb).trim.drewN _) rfl rfl))))
  go_wp2_with fail;go_ret
 · have e:r= -zAq x y:=(by rw[HR.out];simp);subst e;exact⟨rfl,below_drewN hbb _⟩
 · have e:r=0:=(by rw[HR.out];simp);subst e;exact⟨rfl,below_drewN hbb _⟩
 · have e:r=zAq x y:=(by rw[HR.out];simp);subst e;exact⟨rfl,below_drewN hbb _⟩
theorem zBx(z:Int):sg z= -1∧z<0∨sg z=0∧z=0∨sg z=1∧0<z:=by
 rcases Int.lt_trichotomy z 0 with h | h | h
 · exact .inl ⟨zLN h,h⟩
 · subst h;exact .inr (.inl ⟨zQI,rfl⟩)
 · exact .inr (.inr ⟨zFF h,h⟩)
theorem zPR(x y:Int):zAq (-x) (-y)= -1*zAq x y:=by
 rcases Int.lt_trichotomy x y with h | h | h
 · rw[zAW j0,zAS h];rfl
 · subst h;rw[zCf rfl,zCf rfl];rfl
 · rw[zAS j0,zAW h];rfl
theorem zFE{s:Bool}{x:Nat}(h:sgn s x<0):sgn s x= -(x:Int):=by cases s <;> simp[sgn]at* ;omega
theorem zFD{s:Bool}{x:Nat}(h:0<sgn s x):sgn s x=(x:Int):=by cases s <;> simp[sgn]at* ;omega
theorem zNQ(s t:Bool)(x y:Nat):zAq (sgn s x) (sgn t y)=if sg (sgn s x)<sg (sgn t y)then -1 else if sg (sgn t y)<sg (sgn s x)then 1 else sg (sgn s x)*zAq x y:=by
 rcases zBx (sgn s x)with⟨h1,c1⟩ | ⟨h1,c1⟩ | ⟨h1,c1⟩ <;> rcases zBx (sgn t y)with⟨h2,c2⟩ | ⟨h2,c2⟩ | ⟨h2,c2⟩ <;> rw[h1,h2]
 · rw[if_neg ja,if_neg ja,zFE c1,zFE c2,zPR]
 · rw[if_pos ja,zAS j0]
 · rw[if_pos ja,zAS j0]
 · rw[if_neg ja,if_pos ja,zAW j0]
 · rw[if_neg ja,if_neg ja,Int.zero_mul,zCf j0]
 · rw[if_pos ja,zAS j0]
 · rw[if_neg ja,if_pos ja,zAW j0]
 · rw[if_neg ja,if_pos ja,zAW j0]
 · rw[if_neg ja,if_neg ja,Int.one_mul,zFD c1,zFD c2]
theorem zRA(w:World)(s t:Bool)(a a':Option Addr)(n m cap cap' x y:Nat)(hx:Mag w a n cap x)(hy:Mag w a' m cap' y):Calls Tryz.prog 188 #[.agg #[.bool s,.slice a n cap],.agg #[.bool t,.slice a' m cap']] w fun e w'=>e=.returned (.int .i64 (zAq (sgn s x) (sgn t y)))∧Below w.heap.size w w':=by
 refine zPQ w s t a a' n m cap cap' x y _ _ hx hy rfl rfl ?_ ?_ _ (zNQ s t x y)
 · rcases zBx (sgn s x)with h | h | h <;> omega
 · rcases zBx (sgn s x)with h | h | h <;> rcases zBx (sgn t y)with h' | h' | h' <;> omega
def tab32:List Nat:= [0,1,28,2,29,14,24,3,30,22,20,15,25,17,4,8,31,27,13,23,21,19,16,7,26,12,18,6,11,5,10,9]
def Tab(w:World):Prop:=(∀i,i<32→w.cell? ⟨0,i,none⟩=some (.int .u8 (tab32.getD i 0:Nat)))∧0 <w.heap.size
theorem Tab.below{w w':World}(h:Tab w)(hb:Below w.heap.size w w'):Tab w':=
 ⟨fun i hi=>by rw[hb.cell (p:=⟨_,i,none⟩) h.2];exact h.1 i hi,Nat.lt_of_lt_of_le h.2 hb.size⟩
theorem zS6:∀k:Fin 32,tab32.getD (2^k.val*125613361%4294967296/134217728) 0=k.val∧2^k.val*125613361%4294967296/134217728<32:=ja
theorem zS4(x k:Nat)(hx:x<4294967296)(hx0:0<x)(hk:x &&& (4294967296-x)=2^k):Go.bits .and .u32 (x:Int) (-(x:Int)%4294967296)*125613361%4294967296/134217728=((2^k*125613361%4294967296/134217728:Nat):Int):=by
 have e1: -(x:Int)%4294967296=((4294967296-x:Nat):Int):=j0
 rw[e1,u32_and_nat x _ hx j0,hk];generalize 2^k=p;omega
theorem zLz(w:World)(x k idx:Nat)(hx0:((x:Int)==0)=false)(key:Go.bits .and .u32 (x:Int) (-(x:Int)%4294967296)*125613361%4294967296/134217728=(idx:Int))(hi:idx<32)(hk:k<32)
 (hcell:w.cell? ⟨0,idx,none⟩=some (.int .u8 k)) :
 Calls Tryz.prog 130 #[.int .u32 x] w fun e w'=>e=.returned (.int .i64 k)∧w=w':=by
 go_enter Tryz.func130,Tryz.ntmps130
 go_wp2
 go_ret;exact⟨rfl,rfl⟩
theorem zJ0(w:World)(x:Nat)(ht:Tab w)(hx0:0<x)(hx:x<4294967296):Calls Tryz.prog 130 #[.int .u32 x] w fun e w'=>e=.returned (.int .i64 (tz x))∧w=w':=by
 obtain⟨h1,h2⟩:=zIR hx0 hx;have ht2:=zS6 ⟨tz x,h2⟩;refine zLz w x (tz x) _ ju (zS4 x _ hx hx0 h1) ht2.2 h2 ?_;have:=ht.1 _ ht2.2;rw[ht2.1]at this;exact this
theorem zC2(w:World)(ht:Tab w)(s:Bool)(a:Option Addr)(n cap x:Nat)(hx:Mag w a n cap x)(hlim:n≤1099511627776):Calls Tryz.prog 178 #[.agg #[.bool s,.slice a n cap]] w fun e w'=>e=.returned (.int .i64 (tz x))∧Below w.heap.size w w':=by
 have hb:Below w.heap.size w (w.alloc (.cells #[.bool s,.slice a n cap] 51)):=(Below.refl _ _).alloc (Nat.le_refl _) _;have hx1:=hx.below hb;have ht1:=ht.below hb;have HB:=Lib.hid hb;clear hb;go_enter Tryz.func178,Tryz.ntmps178
 go_wp2
 go_loop [8] (fun i=>∃k:Nat,k≤n∧i=.int .i64 k∧x%B^k=0) (fun i=>n-(intOf i).toNat)
 case atStart=>exact⟨0,j0,rfl,zAe x⟩
 case round=>
  obtain⟨k,hk,rfl,hz⟩:=hrel;have HZ:=Lib.hid hz;clear hz
  by_cases hlt:k<n
  · have c1:=hx1.cell k hlt;have i1:=hx1.idx 49 und siz k hlt;have hd1:=zA5 x k
    by_cases hd0:dig x k=0
    · have hd2:(((dig x k:Nat):Int) != 0)=false:=by rw[hd0];rfl
      go_wp2
      go_round
      case rel=>exact⟨k+1,j0,jm,by rw[zAi,HZ.out,hd0,Nat.zero_mul]⟩
      case measure=>exact jb
    · have hd2:(((dig x k:Nat):Int) != 0)=true:=Kq;have htz:tz (dig x k)<32:=(zIR (Nat.pos_of_ne_zero hd0) hd1).2;have HR:=Lib.hid (zQ1 HZ.out hd0);have HC:=Lib.hid (zJ0 _ (dig x k) ht1 (Nat.pos_of_ne_zero hd0) hd1);go_wp2_with (go_at_call 130;refine HC.out.mono ?_;rintro e w' ⟨rfl,rfl⟩);go_ret;refine⟨?_,HB.out⟩;rw[HR.out];exact congrArg (fun q=>Ending.returned (.int .i64 q)) jz
  · obtain rfl:k=n:=by omega
    go_wp2
    go_ret;have hx0:x=0:=(by rw[←zA8 hx.lt];exact HZ.out);subst hx0;exact⟨rfl,HB.out⟩
theorem zSz(k:Nat):k%4294967296+k/4294967296*B=k:=jR
theorem zG4(k:Nat)(hk:k≤18446744073709551615)(W:World):Mag (W.alloc (.cells #[.int .u32 ((k:Int)%4294967296),.int .u32 ((k:Int)/4294967296)] 94)) (some ⟨W.heap.size,0,none⟩) 2 2 k:=by
 have hm:=Mag.two W 94 (k%4294967296) (k/4294967296) j0 j0;rw[zSz]at hm;exact hm
theorem zIw(w:World)(k:Nat)(hk:k≤9223372036854775807):Calls Tryz.prog 147 #[.int .i64 k] w (zAl w (sgn false k)):=by
 have HM:=Lib.hid (zG4 k j0);have hlt:decide ((k:Int)<0)=false:=jz
 go_enter Tryz.func147,Tryz.ntmps147;go_wp2_with fail;have hm:=HM.out (w.alloc (.cells #[.bool false,.slice none 0 0] 51));rw[World.size_alloc]at hm;refine(zBj _ _ _ _ _ _ hm).mono ?_;rintro e w2 ⟨a2,c2,rfl,hm2,hb,hf2⟩;obtain⟨hc2,hz2⟩:=zA6 (hb.mono (show w.heap.size+2≤_ by simp));go_wp2_with fail;refine bodyPost_ret (v:=.agg #[.bool (false&&decide (0<k)),.slice a2 (nl k) c2]) (by simp[results,Tryz.results147,go_sem,hc2]) rfl ?_;refine zBU hm2 (fun h=>?_) (zA0 j6 hb) j0;rw[hf2 h,zAF];simp
theorem zIv(w:World)(k:Nat)(hk0:1≤k)(hk:k≤9223372036854775808):Calls Tryz.prog 147 #[.int .i64 (-(k:Int))] w (zAl w (sgn true k)):=by
 have HM:=Lib.hid (zG4 k j0);have e1:IntKind.u64.wrap (-(k:Int))=18446744073709551616-k:=jG
 have e2:IntKind.u64.wrap (-(18446744073709551616-(k:Int)))=k:=jG
 go_enter Tryz.func147,Tryz.ntmps147;go_wp2_with fail;have hm:=HM.out (w.alloc (.cells #[.bool false,.slice none 0 0] 51));rw[World.size_alloc]at hm;refine(zBj _ _ _ _ _ _ hm).mono ?_;rintro e w2 ⟨a2,c2,rfl,hm2,hb,hf2⟩;obtain⟨hc2,hz2⟩:=zA6 (hb.mono (show w.heap.size+2≤_ by simp));go_wp2_with fail;refine bodyPost_ret (v:=.agg #[.bool (true&&decide (0<k)),.slice a2 (nl k) c2]) (by simp[results,Tryz.results147,go_sem,hc2];omega) rfl ?_;refine zBU hm2 (fun h=>?_) (zA0 j6 hb) j0;rw[hf2 h,zAF];simp
theorem zFf(w:World)(n:Int)(h0: -9223372036854775808≤n)(h1:n≤9223372036854775807):Calls Tryz.prog 147 #[.int .i64 n] w (zAl w n):=by
 rcases Int.lt_or_le n 0 with h | h
 · obtain⟨k,hk⟩:∃k:Nat,n= -(k:Int):=⟨n.natAbs,j0⟩;subst hk;exact zIv w k j0 j0
 · obtain⟨k,rfl⟩:=Int.eq_ofNat_of_zero_le h;exact zIw w k j0
def zEf(w:World)(z err:Int)(e:Ending)(w':World):Prop:=
 ∃a cap,e=.returned (.tuple #[.agg #[.bool (decide (z<0)),.slice a (nl z.natAbs) cap],.int .i64 err])∧Mag w' a (nl z.natAbs) cap z.natAbs∧Below w.heap.size w w'∧(0<nl z.natAbs→w.heap.size≤ab a)
theorem zDw{w w2:World}{s:Bool}{x:Nat}{a2:Option Addr}{c2 g:Nat}{u u':Value}{z err:Int}(hz:z=sgn s x)(hm:Mag w2 a2 (nl x) c2 x)(hfr:0<nl x→g<ab a2)(hb:Below w.heap.size w w2)(hg:w.heap.size≤g):zEf w z err (.returned (.tuple #[.agg #[.bool (s&&decide (0<x)),.slice a2 (nl x) c2],.int .i64 err])) ((w2.setCell ⟨g,0,none⟩ u).setCell ⟨g,1,none⟩ u'):=by
 subst hz;obtain⟨a,c,he,hm',hb',hf'⟩:=zBU (s:=s) (u:=u) (u':=u') hm hfr hb hg;injection he with he
 refine⟨a,c,?_,hm',hb',hf'⟩;rw[←he]
theorem zAf{P:Program}{fn:Func}{R:Ending→World→Prop}{a:Act}{w:World}{v:Value}
 (hr:(results fn a.tmps).run P w=.ok v w) (hd:a.defers= []) (hR:R (.returned v) w):bodyPost P fn R .ret a w:=⟨hd,v,hr,hR⟩
theorem zOv(w:World)(s:Bool)(a:Option Addr)(n cap x k:Nat)(hx:Mag w a n cap x)(hlim:n≤1099511627776)(hk:k≤1048576):Calls Tryz.prog 191 #[.agg #[.bool s,.slice a n cap],.int .i64 k] w (zEf w (sgn s (x*2^k)) 0):=by
 have nx:=zAH hx.lt;have t1:decide ((k:Int)< -1048576)=false:=jc
 have t2:decide ((1048576:Int)<(k:Int))=false:=jc
 have t3:decide ((0:Int)≤(k:Int))=true:=jz
 have e2:¬w.heap.size+1=w.heap.size:=j0
 go_enter Tryz.func191,Tryz.ntmps191;go_wp2_with (go_at_call 172;refine(zAa _ _ _ _ _ (hx.below j6)).mono ?_;rintro e w' ⟨rfl,rfl⟩)
 go_region_held3 (fun w'=>w'.cell? ⟨w.heap.size,0,none⟩=some (.bool s)) (first | go_keep)
  (first | (go_at_call 200;refine(zIX _ _ _ _ _ _ (hx.below j6).trim j0 j0 j0).mono ?_;rintro e w1 ⟨a1,c1,rfl,hm1,hb1,hf1⟩;rw[Int.toNat_natCast]at hm1 hf1 ⊢;obtain⟨hc1,hz1⟩:=zA6 (hb1.mono (show w.heap.size+2≤_ by simp))) | (go_at_call 169;refine(zBj _ _ _ _ _ _ hm1).mono ?_;rintro e w2 ⟨a2,c2,rfl,hm2,hb2,hf2⟩;have hb:=hb1.trans (hb2.mono hb1.size);obtain⟨hc2,hz2⟩:=zA6 (hb.mono (show w.heap.size+2≤_ by simp))))
 go_wp2_with fail;refine zAf (v:=.tuple #[.agg #[.bool (s&&decide (0<x*2^k)),.slice a2 (nl (x*2^k)) c2],.int .i64 0]) (by simp[results,Tryz.results191,go_sem,hc2]) rfl ?_;refine zDw rfl hm2 (fun h=>?_) (zA0 j6 hb) j0;rw[hf2 h];have:=hf1 h;simp at this;omega
theorem zNj(x k:Nat):(-(x:Int))/2^k= -((x/2^k:Nat):Int)-(if x%2^k≠0 then 1 else 0):=by
 have hp:0<2^k:=Nat.pow_pos ja;have h:=Nat.div_add_mod x (2^k);have hm:=Nat.mod_lt x hp;rw[←zEz];generalize 2^k=p at *;generalize x/p=q at *;generalize x%p=r at *;have hpI:(0:Int)<(p:Int):=j0
 subst h;simp only[Int.natCast_add,Int.natCast_mul]
 split
 · rename_i hr;have e: -((p:Int)*q+r)=(-(q:Int)-1)*p+(p-r):=(by grind);rw[e,Int.add_comm,Int.add_mul_ediv_right _ _ j0,Int.ediv_eq_zero_of_lt j0 j0];omega
 · rename_i hr;have:r=0:=(by simpa using hr);subst this;have e: -((p:Int)*q+(0:Nat))=(-(q:Int))*p:=(by grind);rw[e,Int.mul_ediv_cancel _ j0];omega
def shl(z k:Int):Int:=if 0≤k then z*2^k.toNat else z/2^(-k).toNat
theorem zSa(s:Bool)(x k:Nat):shl (sgn s x) k=sgn s (x*2^k):=by
 unfold shl sgn;rw[if_pos j0,Int.toNat_natCast]
 cases s <;> simp[Int.neg_mul]
theorem zH1(x k:Nat)(hk:0<k):shl (sgn false x) (-(k:Int))=sgn false (x/2^k):=by
 unfold shl sgn;rw[if_neg j0,Int.neg_neg,Int.toNat_natCast];simp
theorem zH2(x k:Nat)(hk:0<k):shl (sgn true x) (-(k:Int))=sgn true (x/2^k+if x%2^k≠0 then 1 else 0):=by
 unfold shl sgn;rw[if_neg j0,Int.neg_neg,Int.toNat_natCast];simp only[if_true];rw[zNj]
 split <;> simp <;> omega
theorem zFC(w:World)(s:Bool)(a:Option Addr)(n cap x k y:Nat)(b:Bool)(hx:Mag w a n cap x)(hlim:n≤1099511627776)(hk0:0<k)(hk:k≤1048576)(hb:b=decide (x%2^k≠0))(hsb:(s&&b)=false)(hy:y=x/2^k):Calls Tryz.prog 191 #[.agg #[.bool s,.slice a n cap],.int .i64 (-(k:Int))] w (zEf w (sgn s y) 0):=by
 have nx:=zAH hx.lt;have t1:decide (-(k:Int)< -1048576)=false:=jc
 have t2:decide ((1048576:Int)< -(k:Int))=false:=jc
 have t3:decide ((0:Int)≤ -(k:Int))=false:=jc
 have HD:=fun W h=>Lib.hid (zEJ W a (nl x) cap x (k:Int) h rfl j0 j0 j0 b (by rw[Int.toNat_natCast];exact hb));rw[Int.toNat_natCast,←hy]at HD;clear hb hy;have e2:¬w.heap.size+1=w.heap.size:=j0
 have hbs:s=true→b=false:=fun h=>by rw[h]at hsb;simpa using hsb
 go_enter Tryz.func191,Tryz.ntmps191;go_wp2_with (first | (go_at_call 172;refine(zAa _ _ _ _ _ (hx.below j6)).mono ?_;rintro e w' ⟨rfl,rfl⟩) | (go_at_call 201;refine(HD _ (hx.below j6).trim).out.mono ?_;rintro e w1 ⟨a1,c1,rfl,hm1,hb1,hf1⟩;obtain⟨hc1,hz1⟩:=zA6 (hb1.mono (show w.heap.size+2≤_ by simp))))
 all_goals
  refine(zBj _ _ _ _ _ _ hm1).mono ?_;rintro e w2 ⟨a2,c2,rfl,hm2,hb2,hf2⟩;have hb:=hb1.trans (hb2.mono hb1.size);obtain⟨hc2,hz2⟩:=zA6 (hb.mono (show w.heap.size+2≤_ by simp));go_wp2_with fail
 · refine zAf (v:=.tuple #[.agg #[.bool (true&&decide (0<y)),.slice a2 (nl y) c2],.int .i64 0]) (by simp[results,Tryz.results191,go_sem,hc2]) rfl ?_;refine zDw (by rw[show s=true by assumption]) hm2 (fun h=>?_) (zA0 j6 hb) j0;rw[hf2 h];have:=hf1 h;simp at this;omega
 · refine zAf (v:=.tuple #[.agg #[.bool (false&&decide (0<y)),.slice a2 (nl y) c2],.int .i64 0]) (by simp[results,Tryz.results191,go_sem,hc2]) rfl ?_;refine zDw (by cases s <;> simp_all) hm2 (fun h=>?_) (zA0 j6 hb) j0;rw[hf2 h];have:=hf1 h;simp at this;omega
theorem zKC(w:World)(a:Option Addr)(n cap x k y:Nat)(hx:Mag w a n cap x)(hlim:n≤1099511627776)(hk0:0<k)(hk:k≤1048576)(hb:true=decide (x%2^k≠0))(hy:y=x/2^k):Calls Tryz.prog 191 #[.agg #[.bool true,.slice a n cap],.int .i64 (-(k:Int))] w (zEf w (sgn true (y+1)) 0):=by
 have nx:=zAH hx.lt;have ny:nl y≤nl x:=by rw[hy];exact zAN (Nat.div_le_self _ _)
 have t1:decide (-(k:Int)< -1048576)=false:=jc
 have t2:decide ((1048576:Int)< -(k:Int))=false:=jc
 have t3:decide ((0:Int)≤ -(k:Int))=false:=jc
 have HD:=fun W h=>Lib.hid (zEJ W a (nl x) cap x (k:Int) h rfl j0 j0 j0 true (by rw[Int.toNat_natCast];exact hb));rw[Int.toNat_natCast,←hy]at HD;clear hb hy;have e2:¬w.heap.size+1=w.heap.size:=j0
 go_enter Tryz.func191,Tryz.ntmps191;go_wp2_with (first | (go_at_call 172;refine(zAa _ _ _ _ _ (hx.below j6)).mono ?_;rintro e w' ⟨rfl,rfl⟩) | (go_at_call 201;refine(HD _ (hx.below j6).trim).out.mono ?_;rintro e w0 ⟨a0,c0,rfl,hm0,hb0,hf0⟩;obtain⟨hc0,hz0⟩:=zA6 (hb0.mono (show w.heap.size+2≤_ by simp))));have hone:Below w0.heap.size w0 (w0.alloc (.cells #[.int .u32 1] 94)):=(Below.refl _ _).alloc (Nat.le_refl _) _;refine(zGl _ _ _ _ _ _ _ _ _ (hm0.below hone) (Mag.one w0 94 1 j0) j0 j0).mono ?_;rintro e w1 ⟨a1,c1,rfl,hm1,hb1',hf1'⟩;have hb1:=hb0.trans ((hone.trans (hb1'.mono hone.size)).mono hb0.size);have hf1:0<nl (y+1)→w.heap.size+2≤ab a1:=fun h=>by
  have h1:=hf1' h;have h2:=hone.size;have h3:=hb0.size;simp at h1 h2 h3;omega
 obtain⟨hc1,hz1⟩:=zA6 (hb1.mono (show w.heap.size+2≤_ by simp));go_wp2_with fail;refine(zBj _ _ _ _ _ _ hm1).mono ?_;rintro e w2 ⟨a2,c2,rfl,hm2,hb2,hf2⟩;have hb:=hb1.trans (hb2.mono hb1.size);obtain⟨hc2,hz2⟩:=zA6 (hb.mono (show w.heap.size+2≤_ by simp));go_wp2_with fail;refine zAf (v:=.tuple #[.agg #[.bool (true&&decide (0<y+1)),.slice a2 (nl (y+1)) c2],.int .i64 0]) (by simp[results,Tryz.results191,go_sem,hc2]) rfl ?_;refine zDw rfl hm2 (fun h=>?_) (zA0 j6 hb) j0;rw[hf2 h];have:=hf1 h;omega
theorem zH3(w:World)(s:Bool)(a:Option Addr)(n cap x:Nat)(k:Int)(hx:Mag w a n cap x)(hlim:n≤1099511627776)(h0: -1048576≤k)(h1:k≤1048576):Calls Tryz.prog 191 #[.agg #[.bool s,.slice a n cap],.int .i64 k] w (zEf w (shl (sgn s x) k) 0):=by
 rcases Int.lt_or_le k 0 with h | h
 · obtain⟨j,hj⟩:∃j:Nat,k= -(j:Int):=⟨k.natAbs,j0⟩;subst hj
   cases s
   · rw[zH1 x j j0];exact zFC w false a n cap x j _ _ hx hlim j0 j0 rfl rfl rfl
   · rw[zH2 x j j0]
     by_cases hb:x%2^j≠0
     · rw[if_pos hb];exact zKC w a n cap x j _ hx hlim j0 j0 (by rw[decide_eq_true hb]) rfl
     · rw[if_neg hb,Nat.add_zero];exact zFC w true a n cap x j _ _ hx hlim j0 j0 (decide_eq_false hb).symm rfl rfl
 · obtain⟨j,rfl⟩:=Int.eq_ofNat_of_zero_le h;rw[zSa];exact zOv w s a n cap x j hx hlim j0
def zKm(w:World)(z r err:Int)(e:Ending)(w':World):Prop:=
 ∃a cap a' cap',e=.returned (.tuple #[.agg #[.bool (decide (z<0)),.slice a (nl z.natAbs) cap],.agg #[.bool (decide (r<0)),.slice a' (nl r.natAbs) cap'],.int .i64 err])∧Mag w' a (nl z.natAbs) cap z.natAbs∧Mag w' a' (nl r.natAbs) cap' r.natAbs∧Below w.heap.size w w' ∧
  (0<nl z.natAbs→w.heap.size≤ab a)∧(0<nl r.natAbs→w.heap.size≤ab a')
theorem zHN(w:World)(s t:Bool)(a a':Option Addr)(n m cap cap' x y:Nat)(hx:Mag w a n cap x)(hy:Mag w a' m cap' y)(hn:n≤1099511627776)(_hm:m≤1099511627776)(hy0:0<y)(hs:s=false)(q r:Nat)(hq:x/y=q)(hr:x%y=r):Calls Tryz.prog 189 #[.agg #[.bool s,.slice a n cap],.agg #[.bool t,.slice a' m cap']] w (zKm w (sgn t q) (sgn false r) 0):=by
 subst hs;have HQ:=Lib.hid hq;have HR:=Lib.hid hr;clear hq hr;have nx:=zAH hx.lt;have ny:=zAH hy.lt;have hn1:(((nl y:Nat):Int)==0)=false:=by rw[beq_eq_false_iff_ne];have:=zBz hy0;omega
 have e2:¬w.heap.size+1+1=w.heap.size:=j0
 have e3:¬w.heap.size+1+1+1=w.heap.size:=j0
 go_enter Tryz.func189,Tryz.ntmps189;go_wp2_with fail;refine(zAa _ _ _ _ _ (hy.below zbh)).mono ?_;rintro e w' ⟨rfl,rfl⟩;go_wp2_with fail;refine(zAa _ _ _ _ _ (hx.below zbh)).mono ?_;rintro e w' ⟨rfl,rfl⟩;go_wp2_with fail;refine(zFR _ _ _ _ _ _ _ _ _ (hx.below zbh).trim (hy.below zbh).trim rfl rfl j0 hy0).mono ?_;rintro e w1 ⟨a1,c1,a2,c2,rfl,hm1,hm2,hb1,hf1,hf2⟩;rw[HQ.out]at hm1 hf1 ⊢;rw[HR.out]at hm2 hf2 ⊢;obtain⟨hc1,hz1⟩:=zA6 (hb1.mono (show w.heap.size+4≤_ by simp));go_wp2_with fail;refine(zBj _ _ _ _ _ _ hm1).mono ?_;rintro e w2 ⟨a3,c3,rfl,hm3,hb2,hf3⟩;have hbb:=hb1.trans (hb2.mono hb1.size);obtain⟨hc2,hz2⟩:=zA6 (hbb.mono (show w.heap.size+4≤_ by simp));have hm2':=hm2.below hb2;go_wp2_with fail;refine(zBj _ _ _ _ _ _ hm2').mono ?_;rintro e w3 ⟨a4,c4,rfl,hm4,hb3,hf4⟩;have hb:=hbb.trans (hb3.mono hbb.size);obtain⟨hc3,hz3⟩:=zA6 (hb.mono (show w.heap.size+4≤_ by simp));have hm3':=hm3.below hb3;go_wp2_with fail;refine zAf (v:=.tuple #[.agg #[.bool (t&&decide (0<q)),.slice a3 (nl q) c3],.agg #[.bool (false&&decide (0<r)),.slice a4 (nl r) c4],.int .i64 0]) (by simp[results,Tryz.results189,go_sem,hc3]) rfl ?_;have g1:0<nl q→w.heap.size+4≤ab a3:=fun h=>by rw[hf3 h];have:=hf1 h;simpa using this
 have g2:0<nl r→w.heap.size+4≤ab a4:=fun h=>by rw[hf4 h];have:=hf2 h;simpa using this
 rw[←zH4,←zH4];have hbw:=zA0 (w:=w) zbh hb;have hset:∀(a:Option Addr) (c z:Nat),Mag w3 a (nl z) c z→(0<nl z→w.heap.size+4≤ab a)→∀u1 u2 u3 u4,Mag ((((w3.setCell ⟨w.heap.size+1+1,0,none⟩ u1).setCell ⟨w.heap.size+1+1,1,none⟩ u2).setCell ⟨w.heap.size+1+1+1,0,none⟩ u3).setCell ⟨w.heap.size+1+1+1,1,none⟩ u4) a (nl z) c z:=
  fun a c z hm hf u1 u2 u3 u4=>(((hm.set (fun h=>by have:=hf h;omega) _ _).set (fun h=>by have:=hf h;omega) _ _).set (fun h=>by have:=hf h;omega) _ _).set (fun h=>by have:=hf h;omega) _ _
 refine⟨a3,c3,a4,c4,by rw[zAg,zAg],?_,?_,?_,?_,?_⟩
 · rw[zAg];exact hset _ _ _ hm3' g1 _ _ _ _
 · rw[zAg];exact hset _ _ _ hm4 g2 _ _ _ _
 · exact(((hbw.setCell (by show _≤w.heap.size+1+1;omega) _).setCell (by show _≤w.heap.size+1+1;omega) _).setCell (by show _≤w.heap.size+1+1+1;omega) _).setCell (by show _≤w.heap.size+1+1+1;omega) _
 · rw[zAg];exact fun h=>by have:=g1 h;omega
 · rw[zAg];exact fun h=>by have:=g2 h;omega
theorem zOs(w:World)(s:Bool)(a:Option Addr)(n cap x r:Nat)(hx:Mag w a n cap x)(hn:n≤17179869184)(hs:0≤sgn s x)(h1:r*r≤x)(h2:x<(r+1)*(r+1)):Calls Tryz.prog 187 #[.agg #[.bool s,.slice a n cap]] w (zEf w (sgn false r) 0):=by
 have nx:=zAH hx.lt;obtain⟨p,hp,hp0⟩:∃p,sg (sgn s x)=p∧0≤p:=⟨_,rfl,by rcases zBx (sgn s x)with h | h | h <;> omega⟩;have HS:=fun W h=>Lib.hid (zEw W s a n cap x h);rw[hp]at HS;clear hp;have hpd:decide (p<0)=false:=jc
 have HRt:=fun W c h=>Lib.hid (zOI W a (nl x) c x r h rfl j0 h1 h2);clear h1 h2;have e2:¬w.heap.size+1=w.heap.size:=j0
 go_enter Tryz.func187,Tryz.ntmps187;go_wp2_with fail;refine(HS _ (hx.below zbh)).out.mono ?_;rintro e w0 ⟨rfl,hb0⟩;obtain⟨hc0,hz0⟩:=zA6 (hb0.mono (show w.heap.size+2≤_ by simp));have hx0:=(hx.below (zA0 (w:=w) zbh hb0));go_wp2_with fail;refine(zAa _ _ _ _ _ hx0).mono ?_;rintro e w' ⟨rfl,rfl⟩;go_wp2_with fail;refine(HRt _ _ hx0.trim).out.mono ?_;rintro e w1 ⟨a1,c1,rfl,hm1,hb1',hf1'⟩;have hb1:=hb0.trans (hb1'.mono hb0.size);have hf1:0<nl r→w.heap.size+2≤ab a1:=fun h=>by
  have h1:=hf1' h;have h3:=hb0.size;simp at h3;omega
 obtain⟨hc1,hz1⟩:=zA6 (hb1.mono (show w.heap.size+2≤_ by simp));go_wp2_with fail;refine(zBj _ _ _ _ _ _ hm1).mono ?_;rintro e w2 ⟨a2,c2,rfl,hm2,hb2,hf2⟩;have hb:=hb1.trans (hb2.mono hb1.size);obtain⟨hc2,hz2⟩:=zA6 (hb.mono (show w.heap.size+2≤_ by simp));go_wp2_with fail;refine zAf (v:=.tuple #[.agg #[.bool (false&&decide (0<r)),.slice a2 (nl r) c2],.int .i64 0]) (by simp[results,Tryz.results187,go_sem,hc2]) rfl ?_;refine zDw rfl hm2 (fun h=>?_) (zA0 zbh hb) j0;rw[hf2 h];have:=hf1 h;omega
end Go.Proofs.YtmbkgapknoammaaGreatDoor

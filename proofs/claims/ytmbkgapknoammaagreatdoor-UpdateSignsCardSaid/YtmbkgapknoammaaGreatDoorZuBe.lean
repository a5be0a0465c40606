/-
  Walks: package dyad: bad, right, left.
  Plain law: dyads as pairs of an integer and an exponent: their normal form, the operations on them, rounding. No program in sight.
  Walks: dyad.norm: the other two cases, and the whole.
  Whether a cell is there is not changed by a store: one law for the walk. No program in sight.
  Walks: package dyad: two (both arguments normalized).
  Walks: package dyad: Make, Valid, Norm, FromBig, FromInt.
-/
import Derived.Test.YtmbkgapknoammaaGreatDoorZuBd
import Derived.Deep.RegionWith
import Derived.Test.YtmbkgapknoammaaGreatDoorZuBa
set_option maxRecDepth 100000
set_option maxHeartbeats 2000000
namespace Go.Proofs.YtmbkgapknoammaaGreatDoor
open Go.RowKit Sp
theorem zM8(w:World)(s:Bool)(a:Option Addr)(n cap x:Nat)(k:Int)(hx:Mag w a n cap x)(hlim:n≤1099511627776)(h0:0≤k)(h1:k≤1048576):Calls Tryz.prog 180 #[.agg #[.bool s,.slice a n cap],.int .i64 k] w (zAl w (shl (sgn s x) (-k))):=by
 have t1:decide ((1048576:Int)<k)=false:=jc
 have HS:=fun W h=>Lib.hid (zH3 W s a n cap x (-k) h hlim j0 j0);obtain⟨z,hz⟩:∃z,z=shl (sgn s x) (-k):=⟨_,rfl⟩;rw[←hz]at HS ⊢;clear hz;have e2:¬w.heap.size+1=w.heap.size:=j0
 go_enter Tryz.func180,Tryz.ntmps180;go_wp2_with fail
 go_loopw [1] (fun v wr=>v=.int .i64 k∧wr=(w.alloc (.cells #[.bool s,.slice a n cap] 51)).alloc (.cells #[.bool false,.slice none 0 0] 51)) (fun _ _=>0)
 case atStart=>exact⟨rfl,rfl⟩
 case round=>
  obtain⟨rfl,rfl⟩:=hrel;go_wp2_with fail;refine(HS _ (hx.below zbh)).out.mono ?_;rintro e w1 ⟨a1,c1,rfl,hm1,hb,hf1⟩;obtain⟨hc1,hz1⟩:=zA6 (hb.mono (show w.heap.size+2≤_ by simp));go_wp2_with fail;refine bodyPost_ret (v:=.agg #[.bool (decide (z<0)),.slice a1 (nl z.natAbs) c1]) (by simp[results,Tryz.results180,go_sem,hc1]) rfl ?_;have hfr:0<nl z.natAbs→w.heap.size+2≤ab a1:=fun h=>jB
  have hbw:=zA0 (w:=w) zbh hb;refine zBV ((hm1.set (fun h=>jL) _ _).set (fun h=>jL) _ _) (fun h=>jL) ((hbw.setCell (Nat.le_refl _) _).setCell (Nat.le_refl _) _) j0
theorem zJJ(w:World)(s:Bool)(a:Option Addr)(n cap x:Nat)(k:Int)(hx:Mag w a n cap x)(hlim:n≤1099511627776)(h0:0≤k)(h1:k≤1048576):Calls Tryz.prog 171 #[.agg #[.bool s,.slice a n cap],.int .i64 k] w (zAl w (shl (sgn s x) k)):=by
 have HS:=fun W h=>Lib.hid (zH3 W s a n cap x k h hlim j0 j0);obtain⟨z,hz⟩:∃z,z=shl (sgn s x) k:=⟨_,rfl⟩;rw[←hz]at HS ⊢;clear hz;have e2:¬w.heap.size+1=w.heap.size:=j0
 go_enter Tryz.func171,Tryz.ntmps171;go_wp2_with fail
 · refine(HS _ (hx.below zbh)).out.mono ?_;rintro e w1 ⟨a1,c1,rfl,hm1,hb,hf1⟩;obtain⟨hc1,hz1⟩:=zA6 (hb.mono (show w.heap.size+2≤_ by simp));go_wp2_with fail;refine bodyPost_ret (v:=.agg #[.bool (decide (z<0)),.slice a1 (nl z.natAbs) c1]) (by simp[results,Tryz.results171,go_sem,hc1]) rfl ?_;have hfr:0<nl z.natAbs→w.heap.size+2≤ab a1:=fun h=>jB;have hbw:=zA0 (w:=w) zbh hb;refine zBV ((hm1.set (fun h=>jL) _ _).set (fun h=>jL) _ _) (fun h=>jL) ((hbw.setCell (Nat.le_refl _) _).setCell (Nat.le_refl _) _) j0
theorem zSo{a b:Nat}(h:a+2≤b):(¬b=a)∧(¬b=a+1)∧(¬a=b)∧(¬a+1=b)∧a<b∧a+1<b∧a<b+1:=j0
theorem zEh(w:World)(a:Option Addr)(cap:Nat)(z:Int)(hm:Mag w a (nl z.natAbs) cap z.natAbs):Calls Tryz.prog 158 #[.agg #[.bool (decide (z<0)),.slice a (nl z.natAbs) cap]] w fun e w'=>e=.returned (.int .i64 (sg z))∧Below w.heap.size w w':=by
 have h:=zEw w (decide (z<0)) a _ cap _ hm;rwa[zAk]at h
theorem zS9(w:World)(a:Option Addr)(cap:Nat)(hm:Mag w a (nl 0) cap 0):Calls Tryz.prog 158 #[.agg #[.bool false,.slice a (nl 0) cap]] w fun e w'=>e=.returned (.int .i64 0)∧Below w.heap.size w w':=zEh w a cap 0 hm
def nrm(m e:Int):Option (Int×Int):=
 if m=0 then some (0,0)else if 65536-(zA4 m.natAbs:Int)<e∨e< -65536-(tz m.natAbs:Int)then none else some (m/2^tz m.natAbs,e+tz m.natAbs)
def zMy(b:Bool)(m e:Int):Option (Int×Int):=if b then none else nrm m e
def zA1(d:Option (Int×Int)):Int:=(d.getD (0,0)).1
def zA7(d:Option (Int×Int)):Int:=(d.getD (0,0)).2
def zAj(d:Option (Int×Int)):Bool:=d.isNone
def zAM(w:World)(d:Option (Int×Int))(e:Ending)(w':World):Prop:=
 ∃a cap,e=.returned (.agg #[.bool (zAj d),(.bool (decide (zA1 d<0))),.slice a (nl (zA1 d).natAbs) cap,.int .i64 (zA7 d)])∧Mag w' a (nl (zA1 d).natAbs) cap (zA1 d).natAbs∧Below w.heap.size w w'∧(0<nl (zA1 d).natAbs→w.heap.size≤ab a)
def zFx(w:World)(d:Option (Int×Int))(e:Ending)(w':World):Prop:=
 ∃a cap,e=.returned (.tuple #[.agg #[.bool (zAj d),(.bool (decide (zA1 d<0))),.slice a (nl (zA1 d).natAbs) cap,.int .i64 (zA7 d)],.bool (!zAj d)])∧Mag w' a (nl (zA1 d).natAbs) cap (zA1 d).natAbs∧Below w.heap.size w w'∧(0<nl (zA1 d).natAbs→w.heap.size≤ab a)
theorem zFw(w:World):Calls Tryz.prog 152 #[] w fun e w'=>e=.returned (.agg #[.bool true,.bool false,.slice none 0 0,.int .i64 0])∧Below w.heap.size w w':=by
 go_enter Tryz.func152,Tryz.ntmps152;go_wp2_with fail;refine bodyPost_ret (v:=.agg #[.bool true,.bool false,.slice none 0 0,.int .i64 0]) (by simp[results,Tryz.results152,go_sem]) rfl ?_;exact⟨rfl,zbh⟩
theorem zNw(w:World)(s:Bool)(a:Option Addr)(n cap:Nat)(e:Int):Calls Tryz.prog 157 #[.agg #[.bool true,.bool s,.slice a n cap,.int .i64 e]] w (zFx w none):=by
 have e2:¬w.heap.size+1=w.heap.size:=j0
 go_enter Tryz.func157,Tryz.ntmps157;go_wp2_with fail;refine(zFw _).mono ?_;rintro e w1 ⟨rfl,hb⟩;obtain⟨hc1,hz1⟩:=zA6 (hb.mono (show w.heap.size+2≤_ by simp));go_wp2_with fail;refine zAf (v:=.tuple #[.agg #[.bool true,.bool false,.slice none 0 0,.int .i64 0],.bool false]) (by simp[results,Tryz.results157,go_sem,hc1]) rfl ?_;have hbw:=zA0 (w:=w) zbh hb;exact⟨none,0,rfl,Mag.nil ..,(have:=Beh.mk hbw;zbh),nl0⟩
theorem zLi(w:World)(s:Bool)(a:Option Addr)(n cap x:Nat)(e:Int)(hx:Mag w a n cap x)(hlim:n≤1099511627776)(hx0:x=0):Calls Tryz.prog 157 #[.agg #[.bool false,.bool s,.slice a n cap,.int .i64 e]] w (zFx w (some (0,0))):=by
 have e2:¬w.heap.size+1=w.heap.size:=j0
 have hz:sgn s x=0:=by subst hx0;cases s <;> rfl
 have HN:=fun W h=>Lib.hid (zEF W s a n cap x h hlim);rw[hz]at HN;have HG:=fun W b c h=>Lib.hid (zS9 W b c h);go_enter Tryz.func157,Tryz.ntmps157;go_wp2_with fail;refine(HN _ (hx.below zbh)).out.mono ?_;rintro e w1 ⟨a1,c1,rfl,hm1,hb,hf1⟩;obtain⟨hc1,hz1⟩:=zA6 (hb.mono (show w.heap.size+2≤_ by simp));have hg1:w.heap.size+2≤w1.heap.size:=jK
 obtain⟨g1,g2,g3,g4,l1,l2,l3⟩:=zSo hg1;go_wp2_with fail;refine(HG _ a1 c1 (hm1.below zbh)).out.mono ?_;rintro e w2 ⟨rfl,hb2⟩;obtain⟨hc2,hz2⟩:=zA6 (hb2.mono (show w1.heap.size+1≤_ by simp));go_wp2_with fail;refine zAf (v:=.tuple #[.agg #[.bool false,.bool false,.slice none 0 0,.int .i64 0],.bool true]) (by simp[results,Tryz.results157,go_sem,hc2,hc1,l1,l2]) rfl ?_;have hbw0:=zA0 (w:=w) zbh hb;have hbw1:Below w.heap.size w _:=hbw0.alloc j0 (.cells #[.bool false,.slice a1 (nl 0) c1] 51);have hbw:=zA0 hbw1 hb2;exact⟨none,0,rfl,Mag.nil ..,(have:=Beh.mk hbw;zbh),nl0⟩
theorem zPA(w:World)(s:Bool)(a:Option Addr)(n cap x:Nat)(e:Int)(hx:Mag w a n cap x)(hlim:n≤1099511627776)(hx0:x≠0)(hT:Tab w)(hB:zA4 x≤1048576)(_he0: -9223372036854775808≤e)(_he1:e≤9223372036854775807)(hh:65536-(zA4 x:Int)<e):Calls Tryz.prog 157 #[.agg #[.bool false,.bool s,.slice a n cap,.int .i64 e]] w (zFx w none):=by
 have e2:¬w.heap.size+1=w.heap.size:=j0
 have HN:=fun W h=>Lib.hid (zEF W s a n cap x h hlim);have HB:=fun W b c h=>Lib.hid (zDf W (decide (sgn s x<0)) b (nl x) c x h (Nat.le_trans (zAH hx.lt) hlim));have HT:=fun W b c hw h=>Lib.hid (zC2 W hw (decide (sgn s x<0)) b (nl x) c x h (Nat.le_trans (zAH hx.lt) hlim));obtain⟨z,hz⟩:∃z,z=sgn s x:=⟨_,rfl⟩;have hzx:x=z.natAbs:=by rw[hz,zAg]
 have hz0:z≠0:=j0
 rw[←hz]at HN HB HT;obtain⟨B,hB2⟩:∃B,B=zA4 x:=⟨_,rfl⟩;obtain⟨T,hT2⟩:∃T,T=tz x:=⟨_,rfl⟩;rw[←hB2]at HB hB hh;rw[←hT2]at HT;rw[hzx]at HB HT;clear hz hzx hB2 hT2;have HG:=fun W b c h=>Lib.hid (zEh W b c z h);obtain⟨g,hg⟩:∃g,g=sg z:=⟨_,rfl⟩;rw[←hg]at HG;have hg0:decide (g=0)=false:=by
  have:z≠0:=hz0;subst hg;unfold sg zAq;simp;split <;> (try split) <;> omega
 clear hg;have hge:(g==0)=false:=by simpa using hg0
 have hd:decide (IntKind.i64.wrap (65536-(B:Int))<e)=true:=KB
 go_enter Tryz.func157,Tryz.ntmps157;go_wp2_with fail;refine(HN _ (hx.below zbh)).out.mono ?_;rintro e w1 ⟨a1,c1,rfl,hm1,hb,hf1⟩;obtain⟨hc1,hz1⟩:=zA6 (hb.mono (show w.heap.size+2≤_ by simp));have hg1:w.heap.size+2≤w1.heap.size:=jK
 obtain⟨g1,g2,g3,g4,l1,l2,l3⟩:=zSo hg1;go_wp2_with fail;refine(HG _ a1 c1 (hm1.below zbh)).out.mono ?_;rintro e w2 ⟨rfl,hb2⟩;obtain⟨hc2,hz2⟩:=zA6 (hb2.mono (show w1.heap.size+1≤_ by simp));go_wp2_with fail;have hbw0:=zA0 (w:=w) zbh hb;have hbw1:Below w.heap.size w _:=hbw0.alloc j0 (.cells #[.bool (decide (z<0)),.slice a1 (nl z.natAbs) c1] 51);have hbw2:=zA0 hbw1 hb2;have hs2:w1.heap.size+1≤w2.heap.size:=QY
 have hm2:Mag w2 a1 (nl z.natAbs) c1 z.natAbs:=(hm1.below zbh).below hb2;refine(HT w2 a1 c1 (hT.below hbw2) hm2).out.mono ?_;rintro e w3 ⟨rfl,hb3⟩;obtain⟨hc3,hz3⟩:=zA6 (hb3.mono (show w1.heap.size+1≤_ from hs2));have hm3:=hm2.below hb3;have hbw3:=zA0 hbw2 hb3;have hs3:w1.heap.size+1≤w3.heap.size:=Nat.le_trans hs2 hb3.size;go_wp2_with fail
 first | go_region_with (first | (go_at_call 179; refine (HB _ a1 c1 (hm3.below zbh)).out.mono ?_; rintro e w4 ⟨rfl, hb4⟩; obtain ⟨hc4, hz4⟩ := zA6 (hb4.mono (show w1.heap.size + 1 ≤ _ from hs3)))) | fail "region"
 all_goals go_wp2_with fail
 all_goals(
  have hbw4:=zA0 hbw3.drew hb4;have hs4:w1.heap.size+1≤w4.heap.size:=Nat.le_trans hs3 hb4.size;refine(zFw _).mono ?_;rintro e w5 ⟨rfl,hb5⟩;obtain⟨hc5,hz5⟩:=zA6 (hb5.mono (show w1.heap.size+1≤_ from hs4));have hbw:=zA0 hbw4 hb5;go_wp2_with fail;refine zAf (v:=.tuple #[.agg #[.bool true,.bool false,.slice none 0 0,.int .i64 0],.bool false]) (by simp[results,Tryz.results157,go_sem,hc5,hc4,hc3,hc2,hc1,l1,l2]) rfl ?_;exact⟨none,0,rfl,Mag.nil ..,(have:=Beh.mk hbw;zbh),nl0⟩)
end Go.Proofs.YtmbkgapknoammaaGreatDoor
namespace Go.Proofs.YtmbkgapknoammaaGreatDoor
open Go.RowKit Sp
theorem zAh(x:Nat):nl x≤zA4 x:=by unfold nl zA4;split <;> omega
def Okd(m e:Int):Prop:=(m=0∧e=0)∨(m%2=1∧ -65536≤e∧e+zA4 m.natAbs≤65536)
theorem zEA(k:Nat):(0:Int)<2^k:=Int.pow_pos ja
theorem zJn(k:Nat):((2^k:Nat):Int)=(2:Int)^k:=jz
theorem zAr(m:Int)(k:Nat):(m*2^k).natAbs=m.natAbs*2^k:=by
 rw[Int.natAbs_mul,Int.natAbs_pow];rfl
theorem zDz{m:Int}{t:Nat}(h:2^t ∣ m.natAbs):((2:Int)^t) ∣ m:=by
 rw[←zJn];exact Int.ofNat_dvd_left.2 h
theorem zF8{m:Int}(h:m≠0):∃y:Int,m=y*2^tz m.natAbs∧y%2=1∧m/2^tz m.natAbs=y:=by
 have hp:0<m.natAbs:=Int.natAbs_pos.2 h;obtain⟨y,hy⟩:=zDz (zLy hp);have hy':m=y*2^tz m.natAbs:=by rw[Int.mul_comm];exact hy
 have hdiv:m/2^tz m.natAbs=y:=by
  conv=>lhs;lhs;rw[hy']
  exact Int.mul_ediv_cancel _ (Int.ne_of_gt (zEA _))
 refine⟨y,hy',?_,hdiv⟩;have hn:m.natAbs=y.natAbs*2^tz m.natAbs:=by conv=>lhs;rw[hy',zAr]
 have ho:=zMw hp;have:m.natAbs/2^tz m.natAbs=y.natAbs:=by
  conv=>lhs;lhs;rw[hn]
  exact Nat.mul_div_cancel _ (Nat.pow_pos ja)
 rw[this]at ho;omega
theorem zKs{m:Int}(h:m%2=1):tz m.natAbs=0:=zLx j0
theorem zBr(e:Int):nrm 0 e=some (0,0):=rfl
theorem zMx{m e m' e':Int}(h:nrm m e=some (m',e')):Okd m' e':=by
 unfold nrm at h
 split at h
 · injection h with h;injection h with h1 h2;subst h1 h2;exact Or.inl ⟨rfl,rfl⟩
 · rename_i h0
   split at h
   · cases h
   · rename_i hc;obtain⟨y,hy,hodd,hdiv⟩:=zF8 h0;injection h with h;injection h with h1 h2
     rw[hdiv]at h1;subst h1;have hb:zA4 m.natAbs=zA4 y.natAbs+tz m.natAbs:=by
      conv=>lhs;rw[hy,zAr]
      exact zAc (Int.natAbs_pos.2 j0) _
     exact Or.inr ⟨hodd,j0,j0⟩
theorem zEE{m e:Int}(h:Okd m e):nrm m e=some (m,e):=by
 rcases h with⟨rfl,rfl⟩ | ⟨h1,h2,h3⟩
 · exact jA
 · have ht:=zKs h1;unfold nrm;rw[if_neg j0,ht,if_neg j0];simp
theorem zCl(m e:Int)(k:Nat):nrm (m*2^k) e=nrm m (e+k):=by
 by_cases h0:m=0
 · subst h0;rw[Int.zero_mul];rfl
 · have hp:=Int.natAbs_pos.2 h0;have hk:m*2^k≠0:=Int.mul_ne_zero h0 (Int.ne_of_gt (zEA _));unfold nrm;rw[if_neg h0,if_neg hk,zAr,zAc hp,zKt hp];have hd:m*2^k/2^(tz m.natAbs+k)=m/2^tz m.natAbs:=by
    rw[Int.pow_add,Int.mul_ediv_mul_of_pos_left _ _ (zEA k)]
   rw[hd];have e1:(e+k)+(tz m.natAbs:Int)=e+((tz m.natAbs+k:Nat):Int):=j0;rw[e1]
   by_cases hc:65536-(zA4 m.natAbs:Int)<e+k∨e+k< -65536-(tz m.natAbs:Int)
   · rw[if_pos hc,if_pos j0]
   · rw[if_neg hc,if_neg j0]
theorem zB5{m e m' e':Int}(h0:m≠0)(h:nrm m e=some (m',e')):∃t:Nat,m=m'*2^t∧e'=e+t∧m'%2=1∧ -65536≤e'∧e'+zA4 m'.natAbs≤65536:=by
 have hk:=zMx h;unfold nrm at h;rw[if_neg h0]at h
 split at h
 · cases h
 · obtain⟨y,hy,hodd,hdiv⟩:=zF8 h0;injection h with h;injection h with h1 h2
   rw[hdiv]at h1;subst h1;rcases hk with⟨rfl,_⟩ | hk
   · simp at hodd
   · exact⟨_,hy,h2.symm,hk⟩
theorem nrm_none{m e:Int} :nrm m e=none↔m≠0∧(65536-(zA4 m.natAbs:Int)<e∨e< -65536-(tz m.natAbs:Int)):=by
 unfold nrm
 split
 · simp_all
 · rename_i h0
   split <;> simp_all
def IsN(d:Option (Int×Int)):Prop:=∀m e,d=some (m,e)→Okd m e
theorem zCx:IsN none:=fun _ _ h=>KM
theorem zCR(m e:Int):IsN (nrm m e):=fun _ _ h=>zMx h
theorem zJN(b:Bool)(m e:Int):IsN (zMy b m e):=by
 cases b
 · exact zCR m e
 · exact zCx
theorem zJL{m e:Int}(h:Okd m e):IsN (some (m,e)):=fun _ _ h'=>by injection h' with h';injection h' with h1 h2;subst h1 h2;exact h
theorem zE0{m e:Int}(h:Okd m e):zA4 m.natAbs≤131072∧ -65536≤e∧e≤65536∧e+zA4 m.natAbs≤65536:=by
 rcases h with⟨rfl,rfl⟩ | ⟨h1,h2,h3⟩
 · exact ja
 · exact j0
theorem zAd{d:Option (Int×Int)}(h:IsN d):zA4 (zA1 d).natAbs≤131072∧ -65536≤zA7 d∧zA7 d≤65536:=by
 cases d with
 | none=>decide
 | some p=>obtain⟨m,e⟩:=p;have:=zE0 (h m e rfl);exact⟨this.1,this.2.1,this.2.2.1⟩
theorem zJM{d:Option (Int×Int)}(h:IsN d):zMy (zAj d) (zA1 d) (zA7 d)=d:=by
 cases d with
 | none=>rfl
 | some p=>obtain⟨m,e⟩:=p;exact zEE (h m e rfl)
def up(m e E:Int):Int:=m*2^(e-E).toNat
def zI2:Option (Int×Int)→Option (Int×Int)→Option (Int×Int)
 | some (m,e),some (m',e')=>nrm (up m e (min e e')+up m' e' (min e e')) (min e e')
 | _,_=>none
def zAO:Option (Int×Int)→Option (Int×Int)→Option (Int×Int)
 | some (m,e),some (m',e')=>nrm (m*m') (e+e')
 | _,_=>none
def zEt:Option (Int×Int)→Option (Int×Int)
 | some (m,e)=>some (-m,e)
 | none=>none
def zHQ:Option (Int×Int)→Option (Int×Int)
 | some (m,e)=>some ((m.natAbs:Int),e)
 | none=>none
def zOf(a b:Option (Int×Int)):Option (Int×Int):=zI2 a (zEt b)
theorem zGr{m e:Int}(h:Okd m e):Okd (-m) e:=by
 rcases h with⟨rfl,rfl⟩ | ⟨h1,h2,h3⟩
 · exact Or.inl ⟨rfl,rfl⟩
 · exact Or.inr ⟨j0,h2,by rw[Int.natAbs_neg];exact h3⟩
theorem zMu{m e:Int}(h:Okd m e):Okd (m.natAbs:Int) e:=by
 rcases Int.natAbs_eq m with h1 | h1
 · rwa[←h1]
 · have:=zGr h;rwa[show -m=(m.natAbs:Int)by omega]at this
theorem zIp{d:Option (Int×Int)}(h:IsN d):IsN (zEt d):=by
 cases d with
 | none=>exact zCx
 | some p=>obtain⟨m,e⟩:=p;exact zJL (zGr (h m e rfl))
theorem zRb{d:Option (Int×Int)}(h:IsN d):IsN (zHQ d):=by
 cases d with
 | none=>exact zCx
 | some p=>obtain⟨m,e⟩:=p;exact zJL (zMu (h m e rfl))
theorem zGx(a b:Option (Int×Int)):IsN (zI2 a b):=by
 unfold zI2;split
 · exact zCR _ _
 · exact zCx
theorem zCS(a b:Option (Int×Int)):IsN (zAO a b):=by
 unfold zAO;split
 · exact zCR _ _
 · exact zCx
theorem zS0(m e:Int)(k:Nat):up m (e+k) e=m*2^k:=by unfold up;congr 2;omega
theorem zLu(m m' e E:Int):up (m+m') e E=up m e E+up m' e E:=by unfold up;rw[Int.add_mul]
theorem zDT(e E:Int):up 0 e E=0:=by unfold up;simp
theorem zNX{m e E:Int}(h:E≤e)(hm:m≠0):(zA4 (up m e E).natAbs:Int)=zA4 m.natAbs+(e-E):=by
 unfold up;rw[zAr,zAc (Int.natAbs_pos.2 hm)];omega
theorem zCr{m e E:Int}{k:Nat}(h:E≤e)(hk:(zA4 m.natAbs:Int)+(e-E)≤k):zA4 (up m e E).natAbs≤k:=by
 by_cases h0:m=0
 · subst h0;rw[zDT];exact Nat.zero_le _
 · have:=zNX h h0;omega
theorem zQd(m e E:Int)(h:E≤e):nrm (up m e E) E=nrm m e:=by
 unfold up;rw[zCl];congr 1;omega
theorem zQx(m:Int){e F E:Int}(h1:E≤F)(h2:F≤e):up (up m e F) F E=up m e E:=by
 unfold up;rw[Int.mul_assoc,←Int.pow_add];congr 2;omega
theorem zPC(M N E F:Int)(hM:nrm M E≠none)(hN:nrm N F≠none):zAO (nrm M E) (nrm N F)=nrm (M*N) (E+F):=by
 cases h:nrm M E with
 | none=>exact absurd h hM
 | some p=>
  cases k:nrm N F with
  | none=>exact absurd k hN
  | some q=>
   obtain⟨m,e⟩:=p;obtain⟨n,f⟩:=q;show nrm (m*n) (e+f)=_
   by_cases h0:M=0
   · subst h0;rw[zBr]at h;injection h with h;injection h with h1 h2;subst h1 h2;simp[zBr]
   · by_cases h1:N=0
     · subst h1;rw[zBr]at k;injection k with k;injection k with h1 h2;subst h1 h2;simp[zBr]
     · obtain⟨t,ht,he,_⟩:=zB5 h0 h;obtain⟨u,hu,hf,_⟩:=zB5 h1 k;have e1:M*N=(m*n)*2^(t+u):=(by rw[ht,hu,Int.pow_add];grind);rw[e1,zCl];congr 1;omega
theorem zKb{m n:Int}{p:Int}(hp:0<p):zAq (m*p) (n*p)=zAq m n:=by
 unfold zAq;have h1:m*p<n*p↔m<n:=Int.mul_lt_mul_right hp;have h2:n*p<m*p↔n<m:=Int.mul_lt_mul_right hp;simp only[h1,h2]
theorem zBf(m:Int)(k:Nat):(m*2^k<0↔m<0)∧(0<m*2^k↔0<m):=by
 have hp:=zEA k;have h1:m*2^k<0*2^k↔m<0:=Int.mul_lt_mul_right hp;have h2:0*2^k<m*2^k↔0<m:=Int.mul_lt_mul_right hp;rw[Int.zero_mul]at h1 h2;exact⟨h1,h2⟩
def rdn(x:Nat)(E q:Int):Nat:=if q≤E then x*2^(E-q).toNat else x/2^(q-E).toNat
def rex(x:Nat)(more:Bool)(k:Nat):Bool:=decide (x%2^k=0)&&!more
def rcm(x:Nat)(more:Bool)(k:Nat):Int:=
 if zAq ((x%2^k:Nat):Int) ((2^(k-1):Nat):Int)=0∧more=true then 1 else zAq ((x%2^k:Nat):Int) ((2^(k-1):Nat):Int)
def raw(s:Bool)(n:Nat)(c:Int)(ex:Bool)(mode:Int):Bool:=
 if ex then false else if mode=1 then s else if mode=2 then !s else if mode=3 then false else decide (0<c)||(decide (c=0)&&decide (n%2=1))
def rax(s:Bool)(x:Nat)(E:Int)(more:Bool)(q mode:Int):Bool:=
 if q≤E then false else raw s (rdn x E q) (rcm x more (q-E).toNat) (rex x more (q-E).toNat) mode
def zGh(s:Bool)(x:Nat)(E:Int)(more:Bool)(q mode:Int):Nat:=rdn x E q+if rax s x E more q mode then 1 else 0
def rlg(x:Nat)(E:Int):Int:=E+zA4 x-1
def qsh(a b:Int)(prec:Int):Nat:=(max 0 (prec+3+zA4 b.natAbs-zA4 a.natAbs)).toNat
end Go.Proofs.YtmbkgapknoammaaGreatDoor
namespace Go.Proofs.YtmbkgapknoammaaGreatDoor
open Go.RowKit Sp
theorem zM7(w:World)(a:Option Addr)(cap:Nat)(z:Int)(T:Nat)(hm:Mag w a (nl z.natAbs) cap z.natAbs)(hlim:nl z.natAbs≤1099511627776)(hT:T≤1048576):Calls Tryz.prog 180 #[.agg #[.bool (decide (z<0)),.slice a (nl z.natAbs) cap],.int .i64 T] w (zAl w (shl z (-(T:Int)))):=by
 have h:=zM8 w (decide (z<0)) a _ cap _ (T:Int) hm hlim j0 j0;rwa[zAk]at h
theorem zPy(w:World)(s:Bool)(a:Option Addr)(n cap x:Nat)(e:Int)(hx:Mag w a n cap x)(hlim:n≤1099511627776)(hx0:x≠0)(hT:Tab w)(hB:zA4 x≤1048576)(hTz:tz x≤1048576)(_he0: -9223372036854775808≤e)(_he1:e≤9223372036854775807)(hh:¬65536-(zA4 x:Int)<e)(hl:e< -65536-(tz x:Int)):Calls Tryz.prog 157 #[.agg #[.bool false,.bool s,.slice a n cap,.int .i64 e]] w (zFx w none):=by
 have e2:¬w.heap.size+1=w.heap.size:=j0
 have HN:=fun W h=>Lib.hid (zEF W s a n cap x h hlim);have HB:=fun W b c h=>Lib.hid (zDf W (decide (sgn s x<0)) b (nl x) c x h (Nat.le_trans (zAH hx.lt) hlim));have HT:=fun W b c hw h=>Lib.hid (zC2 W hw (decide (sgn s x<0)) b (nl x) c x h (Nat.le_trans (zAH hx.lt) hlim));obtain⟨z,hz⟩:∃z,z=sgn s x:=⟨_,rfl⟩;have hzx:x=z.natAbs:=by rw[hz,zAg]
 have hz0:z≠0:=j0
 rw[←hz]at HN HB HT;(try rw[←hz]at hzx');obtain⟨B,hB2⟩:∃B,B=zA4 x:=⟨_,rfl⟩;obtain⟨T,hT2⟩:∃T,T=tz x:=⟨_,rfl⟩;rw[←hB2]at HB hB hh;rw[←hT2]at HT;(try rw[←hT2]at hl hTz);(try rw[←hT2]at hf);(try rw[←hT2,←hz]at hy);rw[hzx]at HB HT;clear hz hzx hB2 hT2;have HG:=fun W b c h=>Lib.hid (zEh W b c z h);obtain⟨g,hg⟩:∃g,g=sg z:=⟨_,rfl⟩;rw[←hg]at HG;have hg0:decide (g=0)=false:=by
  have:z≠0:=hz0;subst hg;unfold sg zAq;simp;split <;> (try split) <;> omega
 clear hg;have hge:(g==0)=false:=by simpa using hg0
 have hd:decide (IntKind.i64.wrap (65536-(B:Int))<e)=false:=KB
 have hd2:decide (e<IntKind.i64.wrap (-65536-(T:Int)))=true:=KB
 go_enter Tryz.func157,Tryz.ntmps157;go_wp2_with fail;refine(HN _ (hx.below zbh)).out.mono ?_;rintro e w1 ⟨a1,c1,rfl,hm1,hb,hf1⟩;obtain⟨hc1,hz1⟩:=zA6 (hb.mono (show w.heap.size+2≤_ by simp));have hg1:w.heap.size+2≤w1.heap.size:=jK
 obtain⟨g1,g2,g3,g4,l1,l2,l3⟩:=zSo hg1;go_wp2_with fail;refine(HG _ a1 c1 (hm1.below zbh)).out.mono ?_;rintro e w2 ⟨rfl,hb2⟩;obtain⟨hc2,hz2⟩:=zA6 (hb2.mono (show w1.heap.size+1≤_ by simp));go_wp2_with fail;have hbw0:=zA0 (w:=w) zbh hb;have hbw1:Below w.heap.size w _:=hbw0.alloc j0 (.cells #[.bool (decide (z<0)),.slice a1 (nl z.natAbs) c1] 51);have hbw2:=zA0 hbw1 hb2;have hs2:w1.heap.size+1≤w2.heap.size:=QY
 have hm2:Mag w2 a1 (nl z.natAbs) c1 z.natAbs:=(hm1.below zbh).below hb2;refine(HT w2 a1 c1 (hT.below hbw2) hm2).out.mono ?_;rintro e w3 ⟨rfl,hb3⟩;obtain⟨hc3,hz3⟩:=zA6 (hb3.mono (show w1.heap.size+1≤_ from hs2));have hm3:=hm2.below hb3;have hbw3:=zA0 hbw2 hb3;have hs3:w1.heap.size+1≤w3.heap.size:=Nat.le_trans hs2 hb3.size;go_wp2_with fail
 first | go_region_held3 (fun w'=>w'.cell? ⟨w.heap.size,3,none⟩=some (.int .i64 e)∧w'.cell? ⟨w1.heap.size,0,none⟩=some (.bool (decide (z<0)))∧w'.cell? ⟨w1.heap.size,1,none⟩=some (.slice a1 (nl z.natAbs) c1)) (first | go_keep)
  (first | (go_at_call 179; refine (HB _ a1 c1 (hm3.below zbh)).out.mono ?_; rintro e w4 ⟨rfl, hb4⟩; obtain ⟨hc4, hz4⟩ := zA6 (hb4.mono (show w1.heap.size + 1 ≤ _ from hs3)))) | fail "region"
 go_wp2_with fail;have hbw4:=zA0 hbw3.drew hb4;have hs4:w1.heap.size+1≤w4.heap.size:=Nat.le_trans hs3 hb4.size;refine(zFw _).mono ?_;rintro e w5 ⟨rfl,hb5⟩;obtain⟨hc5,hz5⟩:=zA6 (hb5.mono (show w1.heap.size+1≤_ from hs4));have hbw:=zA0 hbw4 hb5;go_wp2_with fail;refine zAf (v:=.tuple #[.agg #[.bool true,.bool false,.slice none 0 0,.int .i64 0],.bool false]) (by simp[results,Tryz.results157,go_sem,hc5,hc4,hc3,hc2,hc1,l1,l2]) rfl ?_;exact⟨none,0,rfl,Mag.nil ..,(have:=Beh.mk hbw;zbh),nl0⟩
theorem zPz(w:World)(s:Bool)(a:Option Addr)(n cap x:Nat)(e:Int)(hx:Mag w a n cap x)(hlim:n≤1099511627776)(hx0:x≠0)(hT:Tab w)(hB:zA4 x≤1048576)(hTz:tz x≤1048576)(he0: -9223372036854775808≤e)(he1:e≤9223372036854775807)(hh:¬65536-(zA4 x:Int)<e)(hl:¬e< -65536-(tz x:Int))(y f:Int)(hy:y=shl (sgn s x) (-(tz x:Int)))(hf:f=e+tz x):Calls Tryz.prog 157 #[.agg #[.bool false,.bool s,.slice a n cap,.int .i64 e]] w (zFx w (some (y,f))):=by
 have hzx':(sgn s x).natAbs=x:=zAg s x;have e2:¬w.heap.size+1=w.heap.size:=j0
 have HN:=fun W h=>Lib.hid (zEF W s a n cap x h hlim);have HB:=fun W b c h=>Lib.hid (zDf W (decide (sgn s x<0)) b (nl x) c x h (Nat.le_trans (zAH hx.lt) hlim));have HT:=fun W b c hw h=>Lib.hid (zC2 W hw (decide (sgn s x<0)) b (nl x) c x h (Nat.le_trans (zAH hx.lt) hlim));obtain⟨z,hz⟩:∃z,z=sgn s x:=⟨_,rfl⟩;have hzx:x=z.natAbs:=by rw[hz,zAg]
 have hz0:z≠0:=j0
 rw[←hz]at HN HB HT;(try rw[←hz]at hzx');obtain⟨B,hB2⟩:∃B,B=zA4 x:=⟨_,rfl⟩;obtain⟨T,hT2⟩:∃T,T=tz x:=⟨_,rfl⟩;rw[←hB2]at HB hB hh;rw[←hT2]at HT;(try rw[←hT2]at hl hTz);(try rw[←hT2]at hf);(try rw[←hT2,←hz]at hy);rw[hzx]at HB HT;clear hz hzx hB2 hT2;have HG:=fun W b c h=>Lib.hid (zEh W b c z h);obtain⟨g,hg⟩:∃g,g=sg z:=⟨_,rfl⟩;rw[←hg]at HG;have hg0:decide (g=0)=false:=by
  have:z≠0:=hz0;subst hg;unfold sg zAq;simp;split <;> (try split) <;> omega
 clear hg;have hge:(g==0)=false:=by simpa using hg0
 have hd:decide (IntKind.i64.wrap (65536-(B:Int))<e)=false:=KB
 have hd2:decide (e<IntKind.i64.wrap (-65536-(T:Int)))=false:=KB
 have hw1:IntKind.i64.wrap (e+(T:Int))=f:=jg
 have HR:=fun W b c h=>Lib.hid (zM7 W b c z T h (Nat.le_trans (hzx' ▸ zAH hx.lt) hlim) hTz);rw[←hy]at HR;clear hy hzx' hf;go_enter Tryz.func157,Tryz.ntmps157;go_wp2_with fail;refine(HN _ (hx.below zbh)).out.mono ?_;rintro e w1 ⟨a1,c1,rfl,hm1,hb,hf1⟩;obtain⟨hc1,hz1⟩:=zA6 (hb.mono (show w.heap.size+2≤_ by simp));have hg1:w.heap.size+2≤w1.heap.size:=jK
 obtain⟨g1,g2,g3,g4,l1,l2,l3⟩:=zSo hg1;go_wp2_with fail;refine(HG _ a1 c1 (hm1.below zbh)).out.mono ?_;rintro e w2 ⟨rfl,hb2⟩;obtain⟨hc2,hz2⟩:=zA6 (hb2.mono (show w1.heap.size+1≤_ by simp));go_wp2_with fail;have hbw0:=zA0 (w:=w) zbh hb;have hbw1:Below w.heap.size w _:=hbw0.alloc j0 (.cells #[.bool (decide (z<0)),.slice a1 (nl z.natAbs) c1] 51);have hbw2:=zA0 hbw1 hb2;have hs2:w1.heap.size+1≤w2.heap.size:=QY
 have hm2:Mag w2 a1 (nl z.natAbs) c1 z.natAbs:=(hm1.below zbh).below hb2;refine(HT w2 a1 c1 (hT.below hbw2) hm2).out.mono ?_;rintro e w3 ⟨rfl,hb3⟩;obtain⟨hc3,hz3⟩:=zA6 (hb3.mono (show w1.heap.size+1≤_ from hs2));have hm3:=hm2.below hb3;have hbw3:=zA0 hbw2 hb3;have hs3:w1.heap.size+1≤w3.heap.size:=Nat.le_trans hs2 hb3.size;go_wp2_with fail
 first | go_region_held3 (fun w'=>w'.cell? ⟨w.heap.size,3,none⟩=some (.int .i64 e)∧w'.cell? ⟨w1.heap.size,0,none⟩=some (.bool (decide (z<0)))∧w'.cell? ⟨w1.heap.size,1,none⟩=some (.slice a1 (nl z.natAbs) c1)) (first | go_keep)
  (first | (go_at_call 179; refine (HB _ a1 c1 (hm3.below zbh)).out.mono ?_; rintro e w4 ⟨rfl, hb4⟩; obtain ⟨hc4, hz4⟩ := zA6 (hb4.mono (show w1.heap.size + 1 ≤ _ from hs3)))) | fail "region"
 go_wp2_with fail;have hbw4:=zA0 hbw3.drew hb4;have hs4:w1.heap.size+1≤w4.heap.size:=Nat.le_trans hs3 hb4.size;have hm4:=(hm3.below (Below.drew (Below.refl _ _))).below hb4
 first | go_region_held3 (fun w'=>w'.cell? ⟨w.heap.size,3,none⟩=some (.int .i64 e)∧w'.cell? ⟨w1.heap.size,0,none⟩=some (.bool (decide (z<0)))∧w'.cell? ⟨w1.heap.size,1,none⟩=some (.slice a1 (nl z.natAbs) c1)) (first | go_keep)
  (first | (go_at_call 180; refine (HR _ a1 c1 (hm4.below zbh)).out.mono ?_; rintro e w5 ⟨a5, c5, rfl, hm5, hb5, hf5⟩; obtain ⟨hc5, hz5⟩ := zA6 (hb5.mono (show w1.heap.size + 1 ≤ _ from hs4)))) | fail "region"
 go_wp2_with fail;have hbw5:=zA0 (w:=w) (hbw4.drew) hb5;have hfr:0<nl y.natAbs→w1.heap.size+1≤ab a5:=fun h=>by have:=hf5 h;simp at this;omega
 have hbw:Below w.heap.size w w5:=by first | exact hbw5 | exact zA0 hbw4 hb5
 refine zAf (v:=.tuple #[.agg #[.bool false,.bool (decide (y<0)),.slice a5 (nl y.natAbs) c5,.int .i64 f],.bool true]) (by simp[results,Tryz.results157,go_sem,hc5,hc4,hc3,hc2,hc1,l1,l2]) rfl ?_;exact⟨a5,c5,rfl,(((hm5.set (fun h=>jL) _ _).set (fun h=>jL) _ _).set (fun h=>jL) _ _).set (fun h=>jL) _ _,(have:=Beh.mk hbw;zbh),fun h=>jL⟩
theorem zFk(w:World)(bd s:Bool)(a:Option Addr)(n cap x:Nat)(e:Int)(hx:Mag w a n cap x)(hlim:n≤1099511627776)(hT:Tab w)(hB:zA4 x≤1048576)(hTz:tz x≤1048576)(he0: -9223372036854775808≤e)(he1:e≤9223372036854775807):Calls Tryz.prog 157 #[.agg #[.bool bd,.bool s,.slice a n cap,.int .i64 e]] w (zFx w (zMy bd (sgn s x) e)):=by
 cases bd with
 | true=>exact zNw w s a n cap e
 | false=>
  have hab:=zAg s x
  by_cases hx0:x=0
  · have h:=zLi w s a n cap x e hx hlim hx0;have ez:sgn s x=0:=(by subst hx0;cases s <;> rfl);rw[ez];exact h
  · have ez:sgn s x≠0:=j0;unfold zMy nrm;rw[if_neg jz,if_neg ez,hab]
    by_cases h1:65536-(zA4 x:Int)<e
    · rw[if_pos (Or.inl h1)];exact zPA w s a n cap x e hx hlim hx0 hT hB he0 he1 h1
    · by_cases h2:e< -65536-(tz x:Int)
      · rw[if_pos (Or.inr h2)];exact zPy w s a n cap x e hx hlim hx0 hT hB hTz he0 he1 h1 h2
      · rw[if_neg j0];refine zPz w s a n cap x e hx hlim hx0 hT hB hTz he0 he1 h1 h2 _ _ ?_ rfl;unfold shl;split
        · rename_i h;have:tz x=0:=j0;simp[this]
        · exact jz
end Go.Proofs.YtmbkgapknoammaaGreatDoor
namespace Sp
open Go Go.RowKit
theorem zF9(w:World)(p:Addr)(x:Value):(w.setCell p x).heap[p.block]? =(w.heap[p.block]?).map fun | .cells c elem frozen=>.cells (if p.spot.isSome then c else c.setIfInBounds p.off x) elem frozen | o=>o:=by
 unfold World.setCell;simp only[Array.getElem?_modify,if_true]
 cases w.heap[p.block]? with
 | none=>rfl
 | some o=>cases o <;> rfl
@[go_sem] theorem zOd (w:World) (p q:Addr) (x:Value):((w.setCell p x).cell? q).isSome=(w.cell? q).isSome:=by
 cases h:w.cell? q with
 | some v=>obtain⟨v',hv⟩:=cell?_setCell_some (p:=p) (x:=x) h;rw[hv];rfl
 | none=>
  by_cases e:p=q
  · subst e;unfold World.cell? at h ⊢;rw[zF9]
    cases hb:w.heap[p.block]? with
    | none=>rfl
    | some o=>
     rw[hb]at h
     cases o with
     | cells c e f=>
      simp only[Option.map_some]at h ⊢
      by_cases hs:p.spot.isSome
      · simp[hs]
      · simp only[hs,if_false,Bool.false_eq_true]at h ⊢;rw[Array.getElem?_setIfInBounds];simp at h ⊢;omega
     | _=>rfl
  · rw[World.cell?_setCell_other w p q x e,h]
theorem Mag.drew{w:World}{a:Option Addr}{n cap x:Nat}(h:Mag w a n cap x):Mag w.drew a n cap x:=h.below (Below.drew (Below.refl _ _))
theorem Mag.alloc{w:World}{a:Option Addr}{n cap x:Nat}(h:Mag w a n cap x)(o:Obj):Mag (w.alloc o) a n cap x:=h.below ((Below.refl _ _).alloc (Nat.le_refl _) _)
end Sp
namespace Go.Proofs.YtmbkgapknoammaaGreatDoor
open Go.RowKit Sp
def DyIn(w:World)(bd s:Bool)(a:Option Addr)(n cap:Nat)(e:Int)(d:Option (Int×Int)):Prop:=
 ∃x,Mag w a n cap x∧n≤1099511627776∧zA4 x≤1048576∧ -9223372036854775808≤e∧e≤9223372036854775807∧zMy bd (sgn s x) e=d
theorem DyIn.below{w w':World}{bd s:Bool}{a:Option Addr}{n cap:Nat}{e:Int}{d:Option (Int×Int)}(h:DyIn w bd s a n cap e d)(hb:Below w.heap.size w w'):DyIn w' bd s a n cap e d:=by
 obtain⟨x,h1,h2⟩:=h;exact⟨x,h1.below hb,h2⟩
theorem DyIn.isN{w:World}{bd s:Bool}{a:Option Addr}{n cap:Nat}{e:Int}{d:Option (Int×Int)}(h:DyIn w bd s a n cap e d):IsN d:=by
 obtain⟨x,_,_,_,_,_,h2⟩:=h;subst h2;exact zJN _ _ _
theorem zIZ{x:Nat}(h:zA4 x≤1048576):tz x≤1048576:=by
 rcases Nat.eq_zero_or_pos x with h0 | h0
 · subst h0;decide
 · have:=zKu h0;omega
theorem zF2(w:World){bd s:Bool}{a:Option Addr}{n cap:Nat}{e:Int}{d:Option (Int×Int)}(h:DyIn w bd s a n cap e d)(hT:Tab w):Calls Tryz.prog 157 #[.agg #[.bool bd,.bool s,.slice a n cap,.int .i64 e]] w (zFx w d):=by
 obtain⟨x,h1,h2,h3,h4,h5,h6⟩:=h;have:=zFk w bd s a n cap x e h1 h2 hT h3 (zIZ h3) h4 h5;rwa[h6]at this
theorem zAp{w:World}{d:Option (Int×Int)}{a:Option Addr}{c:Nat}(hd:IsN d)(hm:Mag w a (nl (zA1 d).natAbs) c (zA1 d).natAbs):DyIn w (zAj d) (decide (zA1 d<0)) a (nl (zA1 d).natAbs) c (zA7 d) d:=by
 have hb:=zAd hd;refine⟨_,hm,?_,j0,j0,j0,?_⟩
 · have h1:=hm.fits;exact Nat.le_trans (zAh _) j0
 · rw[zAk];exact zJM hd
def zOa(w:World)(d d':Option (Int×Int))(e:Ending)(w':World):Prop:=
 ∃a c a' c',e=.returned (.tuple #[.agg #[.bool (zAj d),.bool (decide (zA1 d<0)),.slice a (nl (zA1 d).natAbs) c,.int .i64 (zA7 d)],.agg #[.bool (zAj d'),.bool (decide (zA1 d'<0)),.slice a' (nl (zA1 d').natAbs) c',.int .i64 (zA7 d')],.bool (!zAj d&&!zAj d')])∧Mag w' a (nl (zA1 d).natAbs) c (zA1 d).natAbs∧Mag w' a' (nl (zA1 d').natAbs) c' (zA1 d').natAbs∧Below w.heap.size w w'∧(0<nl (zA1 d).natAbs→w.heap.size≤ab a)∧(0<nl (zA1 d').natAbs→w.heap.size≤ab a')
theorem zTb(w:World)(bd s bd' s':Bool)(a a':Option Addr)(n n' cap cap':Nat)(e e':Int)(d d':Option (Int×Int))(hx:DyIn w bd s a n cap e d)(hy:DyIn w bd' s' a' n' cap' e' d')(hT:Tab w)(hbd:zAj d=false):Calls Tryz.prog 151 #[.agg #[.bool bd,.bool s,.slice a n cap,.int .i64 e],.agg #[.bool bd',.bool s',.slice a' n' cap',.int .i64 e']] w (zOa w d d'):=by
 have HN:=fun W h ht=>Lib.hid (@zF2 W bd s a n cap e d h ht);have HM:=fun W h ht=>Lib.hid (@zF2 W bd' s' a' n' cap' e' d' h ht);have e1:¬w.heap.size+1=w.heap.size:=j0
 have e2:¬w.heap.size+1+1=w.heap.size:=j0
 have e3:¬w.heap.size+1+1+1=w.heap.size:=j0
 go_enter Tryz.func151,Tryz.ntmps151;go_wp2_with fail;refine(HN _ (hx.below zbh) (hT.below zbh)).out.mono ?_;rintro e w1 ⟨a1,c1,rfl,hm1,hb,hf1⟩;obtain⟨hc1,hz1⟩:=zA6 (hb.mono (show w.heap.size+4≤_ by simp));have hg1:w.heap.size+4≤w1.heap.size:=jK
 have hfr1:0<nl (zA1 d).natAbs→w.heap.size+4≤ab a1:=fun h=>jB
 have hbw:=zA0 (w:=w) zbh hb;go_wp2_with fail;refine(HM _ (hy.below (have:=Beh.mk hbw;zbh)) (hT.below (have:=Beh.mk hbw;zbh))).out.mono ?_;rintro e w2 ⟨a2,c2,rfl,hm2,hb2,hf2⟩;obtain⟨hc2,hz2⟩:=zA6 (hb2.mono (show w.heap.size+4≤_ by simpa using hg1));have hfr2:0<nl (zA1 d').natAbs→w.heap.size+4≤ab a2:=fun h=>X8
 obtain⟨q0,q1,q2,q3,q4,q5,q6,q7⟩:(w2.cell? ⟨w.heap.size+1+1,0,none⟩=some (.bool (zAj d))∧w2.cell? ⟨w.heap.size+1+1,1,none⟩=some (.bool (decide (zA1 d<0)))∧w2.cell? ⟨w.heap.size+1+1,2,none⟩=some (.slice a1 (nl (zA1 d).natAbs) c1)∧w2.cell? ⟨w.heap.size+1+1,3,none⟩=some (.int .i64 (zA7 d))
  ∧ w2.cell? ⟨w.heap.size+1+1+1,0,none⟩=some (.bool false)∧w2.cell? ⟨w.heap.size+1+1+1,1,none⟩=some (.bool false)∧w2.cell? ⟨w.heap.size+1+1+1,2,none⟩=some (.slice none 0 0)∧w2.cell? ⟨w.heap.size+1+1+1,3,none⟩=some (.int .i64 0)):=by
  refine⟨?_,?_,?_,?_,?_,?_,?_,?_⟩ <;> go_simp
 clear hc2 hc1;have hm1':Mag w2 a1 (nl (zA1 d).natAbs) c1 (zA1 d).natAbs:=Mag.below jd hb2;have hbw2:=zA0 (w:=w) (have:=Beh.mk hbw;zbh) hb2;clear hbw;have hbw:=hbw2;have hg2:w.heap.size+4≤w2.heap.size:=KS
 go_wp2_with fail
 go_big_region
 all_goals go_wp2_with fail
 all_goals(
  refine zAf (v:=.tuple #[.agg #[.bool (zAj d),.bool (decide (zA1 d<0)),.slice a1 (nl (zA1 d).natAbs) c1,.int .i64 (zA7 d)],.agg #[.bool (zAj d'),.bool (decide (zA1 d'<0)),.slice a2 (nl (zA1 d').natAbs) c2,.int .i64 (zA7 d')],.bool (!zAj d&&!zAj d')]) (by simp only[results,Tryz.results151];go_simp) rfl ?_;exact⟨a1,c1,a2,c2,rfl,jC,jf,j7,fun h=>jE,fun h=>K4⟩)
theorem zTa(w:World)(bd s bd' s':Bool)(a a':Option Addr)(n n' cap cap':Nat)(e e':Int)(d d':Option (Int×Int))(hx:DyIn w bd s a n cap e d)(hy:DyIn w bd' s' a' n' cap' e' d')(hT:Tab w)(hbd:zAj d=true):Calls Tryz.prog 151 #[.agg #[.bool bd,.bool s,.slice a n cap,.int .i64 e],.agg #[.bool bd',.bool s',.slice a' n' cap',.int .i64 e']] w (zOa w d d'):=by
 have HN:=fun W h ht=>Lib.hid (@zF2 W bd s a n cap e d h ht);have HM:=fun W h ht=>Lib.hid (@zF2 W bd' s' a' n' cap' e' d' h ht);have e1:¬w.heap.size+1=w.heap.size:=j0
 have e2:¬w.heap.size+1+1=w.heap.size:=j0
 have e3:¬w.heap.size+1+1+1=w.heap.size:=j0
 go_enter Tryz.func151,Tryz.ntmps151;go_wp2_with fail;refine(HN _ (hx.below zbh) (hT.below zbh)).out.mono ?_;rintro e w1 ⟨a1,c1,rfl,hm1,hb,hf1⟩;obtain⟨hc1,hz1⟩:=zA6 (hb.mono (show w.heap.size+4≤_ by simp));have hg1:w.heap.size+4≤w1.heap.size:=jK
 have hfr1:0<nl (zA1 d).natAbs→w.heap.size+4≤ab a1:=fun h=>jB
 have hbw:=zA0 (w:=w) zbh hb;go_wp2_with fail;refine(HM _ (hy.below (have:=Beh.mk hbw;zbh)) (hT.below (have:=Beh.mk hbw;zbh))).out.mono ?_;rintro e w2 ⟨a2,c2,rfl,hm2,hb2,hf2⟩;obtain⟨hc2,hz2⟩:=zA6 (hb2.mono (show w.heap.size+4≤_ by simpa using hg1));have hfr2:0<nl (zA1 d').natAbs→w.heap.size+4≤ab a2:=fun h=>X8
 obtain⟨q0,q1,q2,q3,q4,q5,q6,q7⟩:(w2.cell? ⟨w.heap.size+1+1,0,none⟩=some (.bool (zAj d))∧w2.cell? ⟨w.heap.size+1+1,1,none⟩=some (.bool (decide (zA1 d<0)))∧w2.cell? ⟨w.heap.size+1+1,2,none⟩=some (.slice a1 (nl (zA1 d).natAbs) c1)∧w2.cell? ⟨w.heap.size+1+1,3,none⟩=some (.int .i64 (zA7 d))
  ∧ w2.cell? ⟨w.heap.size+1+1+1,0,none⟩=some (.bool false)∧w2.cell? ⟨w.heap.size+1+1+1,1,none⟩=some (.bool false)∧w2.cell? ⟨w.heap.size+1+1+1,2,none⟩=some (.slice none 0 0)∧w2.cell? ⟨w.heap.size+1+1+1,3,none⟩=some (.int .i64 0)):=by
  refine⟨?_,?_,?_,?_,?_,?_,?_,?_⟩ <;> go_simp
 clear hc2 hc1;have hm1':Mag w2 a1 (nl (zA1 d).natAbs) c1 (zA1 d).natAbs:=Mag.below jd hb2;have hbw2:=zA0 (w:=w) (have:=Beh.mk hbw;zbh) hb2;clear hbw;have hbw:=hbw2;have hg2:w.heap.size+4≤w2.heap.size:=KS
 go_wp2_with fail
 go_big_region
 all_goals go_wp2_with fail
 all_goals(
  refine zAf (v:=.tuple #[.agg #[.bool (zAj d),.bool (decide (zA1 d<0)),.slice a1 (nl (zA1 d).natAbs) c1,.int .i64 (zA7 d)],.agg #[.bool (zAj d'),.bool (decide (zA1 d'<0)),.slice a2 (nl (zA1 d').natAbs) c2,.int .i64 (zA7 d')],.bool (!zAj d&&!zAj d')]) (by simp only[results,Tryz.results151];go_simp) rfl ?_;exact⟨a1,c1,a2,c2,rfl,jC,jf,j7,fun h=>jE,fun h=>K4⟩)
theorem zQz(w:World)(bd s bd' s':Bool)(a a':Option Addr)(n n' cap cap':Nat)(e e':Int)(d d':Option (Int×Int))(hx:DyIn w bd s a n cap e d)(hy:DyIn w bd' s' a' n' cap' e' d')(hT:Tab w):Calls Tryz.prog 151 #[.agg #[.bool bd,.bool s,.slice a n cap,.int .i64 e],.agg #[.bool bd',.bool s',.slice a' n' cap',.int .i64 e']] w (zOa w d d'):=by
 cases h:zAj d
 · exact zTb w bd s bd' s' a a' n n' cap cap' e e' d d' hx hy hT h
 · exact zTa w bd s bd' s' a a' n n' cap cap' e e' d d' hx hy hT h
def zSZ(w:World)(b:Bool)(z f:Int)(e:Ending)(w':World):Prop:=
 ∃a c,e=.returned (.tuple #[.agg #[.bool b,.bool (decide (z<0)),.slice a (nl z.natAbs) c,.int .i64 f],.bool (!b)])∧Mag w' a (nl z.natAbs) c z.natAbs∧Below w.heap.size w w'∧(0<nl z.natAbs→w.heap.size≤ab a)
theorem zMz(w:World){bd s:Bool}{a:Option Addr}{n cap:Nat}{e:Int}{d:Option (Int×Int)}(h:DyIn w bd s a n cap e d)(hT:Tab w)(b:Bool)(z f:Int)(hb:zAj d=b)(hz:zA1 d=z)(hf:zA7 d=f):Calls Tryz.prog 157 #[.agg #[.bool bd,.bool s,.slice a n cap,.int .i64 e]] w (zSZ w b z f):=by
 subst hb hz hf;exact zF2 w h hT
def zRP(w:World)(b:Bool)(z f:Int)(b':Bool)(z' f':Int)(k:Bool)(e:Ending)(w':World):Prop:=
 ∃a c a' c',e=.returned (.tuple #[.agg #[.bool b,.bool (decide (z<0)),.slice a (nl z.natAbs) c,.int .i64 f],.agg #[.bool b',.bool (decide (z'<0)),.slice a' (nl z'.natAbs) c',.int .i64 f'],.bool k])∧Mag w' a (nl z.natAbs) c z.natAbs∧Mag w' a' (nl z'.natAbs) c' z'.natAbs∧Below w.heap.size w w'∧(0<nl z.natAbs→w.heap.size≤ab a)∧(0<nl z'.natAbs→w.heap.size≤ab a')
theorem zOk(w:World){bd s bd' s':Bool}{a a':Option Addr}{n n' cap cap':Nat}{e e':Int}{d d':Option (Int×Int)}(hx:DyIn w bd s a n cap e d)(hy:DyIn w bd' s' a' n' cap' e' d')(hT:Tab w)(b:Bool)(z f:Int)(hb:zAj d=b)(hz:zA1 d=z)(hf:zA7 d=f)(b':Bool)(z' f':Int)(hb':zAj d'=b')(hz':zA1 d'=z')(hf':zA7 d'=f')(k:Bool)(hk:(!b&&!b')=k):Calls Tryz.prog 151 #[.agg #[.bool bd,.bool s,.slice a n cap,.int .i64 e],.agg #[.bool bd',.bool s',.slice a' n' cap',.int .i64 e']] w (zRP w b z f b' z' f' k):=by
 subst hb hz hf hb' hz' hf' hk;exact zQz w bd s bd' s' a a' n n' cap cap' e e' d d' hx hy hT
theorem zBa{x:Nat}(h:zA4 x≤1048576):nl x≤1099511627776:=Nat.le_trans (zAh x) j0
theorem zSf{w w':World}{d:Option (Int×Int)}{a:Option Addr}{c:Nat}(b:Bool)(z f:Int)(hb:zAj d=b)(hz:zA1 d=z)(hf:zA7 d=f)(hm:Mag w' a (nl z.natAbs) c z.natAbs)(hw:Below w.heap.size w w')(hfr:0<nl z.natAbs→w.heap.size≤ab a):zAM w d (.returned (.agg #[.bool b,.bool (decide (z<0)),.slice a (nl z.natAbs) c,.int .i64 f])) w':=by
 subst hb hz hf;exact⟨a,c,rfl,hm,hw,hfr⟩
theorem zM9{w w':World}{d:Option (Int×Int)}(hd:d=none)(hw:Below w.heap.size w w'):zAM w d (.returned (.agg #[.bool true,.bool false,.slice none 0 0,.int .i64 0])) w':=by
 subst hd;exact⟨none,0,rfl,Mag.nil _,hw,nl0⟩
end Go.Proofs.YtmbkgapknoammaaGreatDoor
namespace Go.Proofs.YtmbkgapknoammaaGreatDoor
open Go.RowKit Sp
theorem zP5(w:World)(s:Bool)(a:Option Addr)(n cap x:Nat)(e:Int)(hx:Mag w a n cap x)(hlim:n≤1099511627776)(hT:Tab w)(hB:zA4 x≤1048576)(hTz:tz x≤1048576)(he0: -9223372036854775808≤e)(he1:e≤9223372036854775807):Calls Tryz.prog 150 #[.agg #[.bool s,.slice a n cap],.int .i64 e] w (zAM w (nrm (sgn s x) e)):=by
 have e2:¬w.heap.size+1=w.heap.size:=j0
 have HN:=fun W h ht=>Lib.hid (zFk W false s a n cap x e h hlim ht hB hTz he0 he1);have ez:zMy false (sgn s x) e=nrm (sgn s x) e:=rfl;rw[ez]at HN;obtain⟨d,hd⟩:∃d,d=nrm (sgn s x) e:=⟨_,rfl⟩;rw[←hd]at HN ⊢;clear hd ez;go_enter Tryz.func150,Tryz.ntmps150;go_wp2_with fail;refine(HN _ (hx.below zbh) (hT.below zbh)).out.mono ?_;rintro e w1 ⟨a1,c1,rfl,hm1,hb,hf1⟩;obtain⟨hc1,hz1⟩:=zA6 (hb.mono (show w.heap.size+2≤_ by simp));have hg1:w.heap.size+2≤w1.heap.size:=jK
 obtain⟨g1,g2,g3,g4,l1,l2,l3⟩:=zSo hg1;have hfr:0<nl (zA1 d).natAbs→w.heap.size+2≤ab a1:=fun h=>jB
 have hbw:=zA0 (w:=w) zbh hb;go_wp2_with fail;refine bodyPost_ret (v:=.agg #[.bool (zAj d),.bool (decide (zA1 d<0)),.slice a1 (nl (zA1 d).natAbs) c1,.int .i64 (zA7 d)]) (by simp[results,Tryz.results150,go_sem,hc1,l2]) rfl ?_;exact⟨a1,c1,rfl,jQ,j7,fun h=>jL⟩
theorem zNE(w:World)(bd s:Bool)(a:Option Addr)(n cap x:Nat)(e:Int)(hx:Mag w a n cap x)(hlim:n≤1099511627776)(hT:Tab w)(hB:zA4 x≤1048576)(hTz:tz x≤1048576)(he0: -9223372036854775808≤e)(he1:e≤9223372036854775807):Calls Tryz.prog 159 #[.agg #[.bool bd,.bool s,.slice a n cap,.int .i64 e]] w (zAM w (zMy bd (sgn s x) e)):=by
 have e2:¬w.heap.size+1=w.heap.size:=j0
 have e3:¬w.heap.size=w.heap.size+1:=j0
 have HN:=fun W h ht=>Lib.hid (zFk W bd s a n cap x e h hlim ht hB hTz he0 he1);obtain⟨d,hd⟩:∃d,d=zMy bd (sgn s x) e:=⟨_,rfl⟩;rw[←hd]at HN ⊢;clear hd;go_enter Tryz.func159,Tryz.ntmps159;go_wp2_with fail;refine(HN _ (hx.below zbh) (hT.below zbh)).out.mono ?_;rintro e w1 ⟨a1,c1,rfl,hm1,hb,hf1⟩;obtain⟨hc1,hz1⟩:=zA6 (hb.mono (show w.heap.size+2≤_ by simp));have hfr:0<nl (zA1 d).natAbs→w.heap.size+2≤ab a1:=fun h=>jB
 have hbw:=zA0 (w:=w) zbh hb;go_wp2_with fail;refine bodyPost_ret (v:=.agg #[.bool (zAj d),.bool (decide (zA1 d<0)),.slice a1 (nl (zA1 d).natAbs) c1,.int .i64 (zA7 d)]) (by simp[results,Tryz.results159,go_sem,hc1]) rfl ?_;exact⟨a1,c1,rfl,jQ,j7,fun h=>jL⟩
end Go.Proofs.YtmbkgapknoammaaGreatDoor

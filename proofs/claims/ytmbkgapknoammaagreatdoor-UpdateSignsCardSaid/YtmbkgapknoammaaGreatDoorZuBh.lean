/-
  Walks: package dyad, round.go: cut.
  Walks: package dyad, round.go: Multiple.
  Walks: package dyad, round.go: fixed, Round.
-/
import Derived.Test.YtmbkgapknoammaaGreatDoorZuRa
import Derived.Test.YtmbkgapknoammaaGreatDoorZuTj
import Derived.Deep.RegionWith
import Derived.Deep.DeepCutAuto
set_option maxRecDepth 100000
set_option maxHeartbeats 20000000
namespace Go.Proofs.YtmbkgapknoammaaGreatDoor
open Go.RowKit Sp
theorem zTc(w:World)(a a':Option Addr)(cap cap':Nat)(x y v:Int)(hv:v=x-y)(hm:Mag w a (nl x.natAbs) cap x.natAbs)(hm':Mag w a' (nl y.natAbs) cap' y.natAbs)(hl:nl x.natAbs≤1099511627776)(hl':nl y.natAbs≤1099511627776):Calls Tryz.prog 204 #[.agg #[.bool (decide (x<0)),.slice a (nl x.natAbs) cap],.agg #[.bool (decide (y<0)),.slice a' (nl y.natAbs) cap']] w (zAl w v):=by
 have h:=zQB w (decide (x<0)) (decide (y<0)) a a' _ _ cap cap' _ _ hm hm' hl hl';rwa[zAk,zAk,←hv]at h
theorem zHE(w:World)(o:Int)(ho:o=1):Calls Tryz.prog 147 #[.int .i64 1] w (zAl w o):=by
 subst ho;exact zFf w 1 j0 j0
attribute [local irreducible] Calls
theorem zPH(w:World)(s more:Bool)(a:Option Addr)(c:Nat)(x E n p r h c0 g c1:Int)(ex:Bool)(T:Nat)(hx:Mag w a (nl x.natAbs) c x.natAbs)(hxl:zA4 x.natAbs≤1048576)(hT0:1≤T)(hT1:T≤zA4 x.natAbs)
 (hn:n=shl x (-(T:Int))) (hp:p=n*2^T) (hr:r=x-p) (hh:h=2^(T-1)) (hc0:c0=zAq r h) (hg:g=sg r) (hnl:zA4 n.natAbs≤1048576) (hpl:zA4 p.natAbs≤1048576) (hc1:c1=if c0=0∧more=true then 1 else c0) (hex:ex=(decide (g=0)&&!more)) :
 Calls Tryz.prog 195 #[.agg #[.bool s,.bool (decide (x<0)),.slice a (nl x.natAbs) c,.int .i64 E,.bool more],.int .i64 T] w (zOb w n c1 ex):=by
 have hl:=zBa hxl;have hln:=zBa hnl;have hlp:=zBa hpl;haveI HX:BI w a (nl x.natAbs) c x.natAbs:=⟨hx⟩;have HB:=fun W [i:BI W a (nl x.natAbs) c x.natAbs]=>Lib.hid (frm (zDe W a c x i.out hl));have HR:=fun W [i:BI W a (nl x.natAbs) c x.natAbs]=>Lib.hid (frb (zM7 W a c x T i.out hl j0));rw[←hn]at HR;have HL:=fun W b k [i:BI W b (nl n.natAbs) k n.natAbs]=>Lib.hid (frb (zFN W b k n (T:Int) p (by rw[hp];simp) i.out hln j0 j0));have HS:=fun W b k [i:BI W a (nl x.natAbs) c x.natAbs] [j:BI W b (nl p.natAbs) k p.natAbs]=>Lib.hid (frb (zTc W a b c k x p r hr i.out j.out hl hlp));obtain⟨u,hu⟩:∃u,u=(T:Int)-1:=⟨_,rfl⟩;have hwt:IntKind.i64.wrap ((T:Int)-1)=u:=jg
 obtain⟨o,ho⟩:∃o:Int,o=1:=⟨_,rfl⟩;have HO:=fun W=>Lib.hid (frb (zHE W o ho));have HH:=fun W b k [i:BI W b (nl o.natAbs) k o.natAbs]=>Lib.hid (frb (zFN W b k o u h (by rw[hh,ho,Int.one_mul,hu];congr 1;omega) i.out (by rw[ho];decide) j0 j0));have HC:=fun W b k b' k' [i:BI W b (nl r.natAbs) k r.natAbs] [j:BI W b' (nl h.natAbs) k' h.natAbs]=>Lib.hid (frm (zSQ W b b' k k' r h c0 hc0 i.out j.out));have HG:=fun W b k [i:BI W b (nl r.natAbs) k r.natAbs]=>Lib.hid (frm (zEh W b k r i.out));rw[←hg]at HG;have hT2:¬(zA4 x.natAbs:Int)<(T:Int):=j0
 have HC1:=Lib.hid hc1;have HEX:=Lib.hid hex;clear ho hu hn hp hr hh hc0 hg hnl hpl hT0 hT1 hxl hx hc1 hex;go_enter Tryz.func195,Tryz.ntmps195;go_wp2_with fail;refine(HB _).out.mono ?_;rintro e w1 ⟨rfl,b1⟩;go_wp2_with fail;have s1:w.heap.size+2≤w1.heap.size:=by have:=b1.out.size;simpa using this
 refine(HR _).out.mono ?_;rintro e w2 ⟨a2,c2,rfl,i2,b2,f2⟩;haveI n2:NA a2 (nl n.natAbs) (w.heap.size+1):=⟨fun h e=>by have:=f2 h;omega⟩;have s2:=b2.out.size;haveI nx:NA a (nl x.natAbs) (w.heap.size+1):=⟨fun h e=>by have:=HX.out.old h;omega⟩
 go_upto_region 5 with fail
 go_cut [8] (fun pt wx=>∃b8 a4 c4,pt=.pointer (some ⟨b8,0,none⟩)∧N5 wx w.heap.size (.bool s) (.bool (decide (x<0))) (.slice a (nl x.natAbs) c) (.int .i64 E) (.bool more)∧BB wx (w.heap.size+1) (decide (n<0)) (.slice a2 (nl n.natAbs) c2)∧BB wx b8 (decide (r<0)) (.slice a4 (nl r.natAbs) c4)∧BI wx a2 (nl n.natAbs) c2 n.natAbs∧BI wx a4 (nl r.natAbs) c4 r.natAbs∧Beh w wx)
 case first=>
  first
  | go_region_held3 (fun w'=>w'.cell? ⟨w.heap.size,1,none⟩=some (.bool (decide (x<0)))∧w'.cell? ⟨w.heap.size,2,none⟩=some (.slice a (nl x.natAbs) c)∧w'.cell? ⟨w.heap.size+1,0,none⟩=some (.bool (decide (n<0)))∧w'.cell? ⟨w.heap.size+1,1,none⟩=some (.slice a2 (nl n.natAbs) c2)) (first | (go_simp;done))
   (first
    | (go_at_call 171;refine(HL _ _ _).out.mono ?_;rintro e w3 ⟨a3,c3,rfl,i3,b3,f3⟩)
    | (go_at_call 204;refine(HS _ _ _).out.mono ?_;rintro e w4 ⟨a4,c4,rfl,i4,b4,f4⟩;haveI g4:=FA.mk f4)
    | fail)
  | fail "region"
  all_goals(
   go_wp2_with fail
   go_meet
   exact⟨_,a4,c4,rfl,inferInstance,inferInstance,inferInstance,(by first | infer_instance | exact⟨Mag.st2 (show BI w4 a2 (nl n.natAbs) c2 n.natAbs from inferInstance).out (fun h e=>by have h0:=i2.out.old h;have h3:=b3.out.size;(try simp at h3);omega) _ _⟩),inferInstance,inferInstance⟩)
 case rest=>
  obtain⟨b8,a4,c4,rfl,t1,t2,t3,t4,t5,t6⟩:=hcut;generalize wc=v1 at *;clear HB HR HL HS;go_wp2_with fail
  first
  | go_region_held3 (fun w'=>w'.cell? ⟨b8,0,none⟩=some (.bool (decide (r<0)))∧w'.cell? ⟨b8,1,none⟩=some (.slice a4 (nl r.natAbs) c4)) (first | (go_simp;done))
   (first
    | (go_at_call 147;refine(HO _).out.mono ?_;rintro e w5 ⟨a5,c5,rfl,i5,b5,f5⟩)
    | (go_at_call 171;refine(HH _ _ _).out.mono ?_;rintro e w6 ⟨a6,c6,rfl,i6,b6,f6⟩)
    | (go_at_call 188;refine(HC _ _ _ _ _).out.mono ?_;rintro e w7 ⟨rfl,b7⟩)
    | fail)
  | fail "region"
  go_upto_region 7 with fail
  go_cut [37] (fun v wx=>v=.bool (decide (c0=0)&&more)∧wx=w7)
  case first=>
   by_cases hz:c0=0
   · have hz2:(c0==0)=true:=Qh;go_wp2_with fail
     go_meet
     exact⟨by rw[decide_eq_true hz,Bool.true_and],rfl⟩
   · have hz2:(c0==0)=false:=Qh;go_wp2_with fail
     go_meet
     exact⟨by rw[decide_eq_false hz,Bool.false_and],rfl⟩
  case rest=>
  obtain⟨rfl,rfl⟩:=hcut
  go_upto_if 37 with fail
  go_cut [5] (fun v wx=>v=.int .i64 c1∧wx=wc)
  case first=>
   have e:=HC1.out;rcases Bool.eq_false_or_eq_true (decide (c0=0)&&more)with hz | hz
   · rw[if_pos Qh]at e;rw[hz];go_wp2_with fail
     go_meet
     exact⟨by rw[e],rfl⟩
   · rw[if_neg Qh]at e;rw[hz];go_wp2_with fail
     go_meet
     exact⟨by rw[e],rfl⟩
  case rest=>
   obtain⟨rfl,rfl⟩:=hcut;clear HC1 HO HH HC;have hE:=HEX.out;clear HEX;rcases(show(g=0∧(g==0)=true∧ex=!more)∨((g==0)=false∧ex=false)by
    by_cases k:g=0
    · exact Or.inl ⟨k,by simpa using k,by rw[hE,decide_eq_true k,Bool.true_and]⟩
    · exact Or.inr ⟨by simpa using k,by rw[hE,decide_eq_false k,Bool.false_and]⟩)with⟨g0,k1,k2⟩ | ⟨k1,k2⟩
   all_goals(
    clear hE;go_wp2_with fail
    first
    | go_region_with (first
     | (go_at_call 158;refine(HG _ _ _).out.mono ?_;rintro e w8 ⟨rfl,b8'⟩)
     | fail)
    | fail "region9"
    all_goals(
     go_wp2_with fail;refine zAf (v:=.tuple #[.agg #[.bool (decide (n<0)),.slice a2 (nl n.natAbs) c2],.int .i64 c1,.bool ex]) (by simp only[results,Tryz.results195];go_simp) rfl ?_;exact⟨a2,c2,rfl,(inferInstance:BI _ a2 (nl n.natAbs) c2 n.natAbs).out,zbh,fun h=>by have:=f2 h;omega⟩))
end Go.Proofs.YtmbkgapknoammaaGreatDoor
namespace Go.Proofs.YtmbkgapknoammaaGreatDoor
open Go.RowKit Sp
theorem zRw(w:World)(s more:Bool)(a:Option Addr)(c:Nat)(x:Nat)(E:Int)(T:Nat)(hx:Mag w a (nl x) c x)(hx0:0<x)(hxl:zA4 x≤1048576)(hT0:1≤T):Calls Tryz.prog 195 #[.agg #[.bool s,.bool false,.slice a (nl x) c,.int .i64 E,.bool more],.int .i64 T] w (zOb w ((x/2^T:Nat):Int) (rcm x more T) (rex x more T)):=by
 have hx':Mag w a (nl (x:Int).natAbs) c (x:Int).natAbs:=hx;have hd:decide ((x:Int)<0)=false:=jz
 by_cases hT1:T≤zA4 x
 · have hp2:0<2^T:=Nat.pow_pos ja;have hdm:=Nat.div_add_mod x (2^T);have hml:=Nat.mod_lt x hp2;have hn:((x/2^T:Nat):Int)=shl (x:Int) (-(T:Int)):=by
    unfold shl;rw[if_neg j0,Int.neg_neg,Int.toNat_natCast];simp
   have hp:((x/2^T*2^T:Nat):Int)=((x/2^T:Nat):Int)*2^T:=jz;have hr:((x%2^T:Nat):Int)=(x:Int)-((x/2^T*2^T:Nat):Int):=(by rw[Nat.mul_comm];omega);have hh:((2^(T-1):Nat):Int)=2^(T-1):=jz;have hnl:zA4 ((x/2^T:Nat):Int).natAbs≤1048576:=Nat.le_trans (zBC (Nat.div_le_self _ _)) hxl;have hpl:zA4 ((x/2^T*2^T:Nat):Int).natAbs≤1048576:=Nat.le_trans (zBC (Nat.div_mul_le_self _ _)) hxl;have hhp:0<2^(T-1):=Nat.pow_pos ja;have hT1':T≤zA4 (x:Int).natAbs:=hT1;have h:=zPH w s more a c (x:Int) E _ _ _ _ _ _ _ _ T hx' hxl hT0 hT1' hn hp hr hh rfl rfl hnl hpl rfl rfl;rw[hd]at h;have e2:(decide (sg ((x%2^T:Nat):Int)=0)&&!more)=rex x more T:=by
    unfold rex
    by_cases hz:x%2^T=0
    · rw[hz];rfl
    · rw[zFF j0];simp[hz]
   rw[e2]at h;exact h
 · have hlt:x<2^(T-1):=Nat.lt_of_lt_of_le (zAz x) (Nat.pow_le_pow_right ja j0);have hlt2:x<2^T:=Nat.lt_of_lt_of_le hlt (Nat.pow_le_pow_right ja j0);have h:=zRv w s more a c (x:Int) E (T:Int) hx' (zBa hxl) (by show(zA4 x:Int)<T;omega);rw[hd]at h;have e0:x/2^T=0:=Nat.div_eq_of_lt hlt2;have em:x%2^T=x:=Nat.mod_eq_of_lt hlt2;have ec:zAq (x:Int) ((2^(T-1):Nat):Int)= -1:=zAS j0;have e1:rcm x more T= -1:=(by unfold rcm;rw[em,ec,if_neg jz]);have e2:rex x more T=false:=(by unfold rex;rw[em];simp;intro h;omega);rw[e0,e1,e2];exact h
theorem zDB(w:World)(s more:Bool)(a:Option Addr)(c:Nat)(x:Nat)(E q mode:Int)(T:Nat)(y C v:Int)(X A:Bool)(hx:Mag w a (nl x) c x)(hx0:0<x)(hxl:zA4 x≤1048576)(hyl:zA4 y.natAbs≤1048576)(hT:T≤1048576)
 (h1:q≤E→IntKind.i64.wrap (E-q)=T∧y=(x*2^T:Nat)∧C= -1∧X=true) (h2:E<q→IntKind.i64.wrap (q-E)=T∧1≤T∧y=(x/2^T:Nat)∧C=rcm x more T∧X=rex x more T)
 (hy0:0≤y) (hA:A=raw s y.natAbs C X mode) (hv:v=sgn s (y.natAbs+if A then 1 else 0)) (hTab:Tab w) :
 Calls Tryz.prog 184 #[.agg #[.bool s,.bool false,.slice a (nl x) c,.int .i64 E,.bool more],.int .i64 q,.int .i64 mode] w (zAl w v):=by
 have hl:=zBa hxl;have hly:=zBa hyl;have e1:¬w.heap.size+1=w.heap.size:=j0
 have e2:¬w.heap.size+1+1=w.heap.size:=j0
 have l2:w.heap.size<w.heap.size+1+1:=j0
 have l3:w.heap.size<w.heap.size+1+1+1:=j0
 have k2:¬w.heap.size=w.heap.size+1+1:=j0
 have HA:=Lib.hid hA;have HV:=Lib.hid hv;clear hA hv;have HX1:=Lib.hid h1;have HX2:=Lib.hid h2;clear h1 h2;have HX0:=Lib.hid hx0;clear hx0;have HY0:=Lib.hid hy0;clear hy0;go_enter Tryz.func184,Tryz.ntmps184
 go_upto_if 16 with fail
 go_cut [8,9] (fun cs xs wx=>∃a1 c1,cs=.int .i64 C∧xs=.bool X∧(0<nl y.natAbs→w.heap.size+3≤ab a1)∧wx.cell? ⟨w.heap.size,0,none⟩=some (.bool s)∧wx.cell? ⟨w.heap.size+1,0,none⟩=some (.bool false)∧wx.cell? ⟨w.heap.size+1,1,none⟩=some (.slice none 0 0)∧wx.cell? ⟨w.heap.size+1+1,0,none⟩=some (.bool (decide (y<0)))∧wx.cell? ⟨w.heap.size+1+1,1,none⟩=some (.slice a1 (nl y.natAbs) c1)∧wx.frozen? ⟨w.heap.size+1,0,none⟩=false∧wx.frozen? ⟨w.heap.size+1,1,none⟩=false∧wx.frozen? ⟨w.heap.size+1+1,0,none⟩=false∧wx.frozen? ⟨w.heap.size+1+1,1,none⟩=false
  ∧ Mag wx a1 (nl y.natAbs) c1 y.natAbs∧w.heap.size+3≤wx.heap.size∧Below w.heap.size w wx)
 case first=>
  by_cases hq:q≤E
  · obtain⟨hw,hy,hC,hX⟩:=HX1.out hq;subst hC hX;have hqd:decide (q≤E)=true:=(by simpa using hq);have hz:(x:Int)*2^((T:Nat):Int).toNat=y:=(by rw[hy];simp);have HL:=fun W h=>Lib.hid (zFN W a c (x:Int) (T:Int) y hz.symm h hl j0 j0);simp only[Int.natAbs_natCast,show decide ((x:Int)<0)=false by simp]at HL;clear hz hy;go_wp2_with fail;refine(HL _ (hx.below zbh)).out.mono ?_;rintro e w1 ⟨a1,c1,rfl,hm1,hb1,hf1⟩;obtain⟨hc1,hz1⟩:=zA6 hb1;have hs1:=hb1.size;(try simp at hs1 hf1);have hfr1:0<nl y.natAbs→w.heap.size+3≤ab a1:=fun h=>(by have:=hf1 h;omega);have hbw:=zA0 (w:=w) zbh hb1;go_wp2_with fail
    go_meet
    refine⟨a1,c1,rfl,rfl,hfr1,?_,?_,?_,?_,?_,?_,?_,?_,?_,?_,?_,?_⟩
    all_goals first | (go_simp;done) | ((repeat(with_reducible first | refine Mag.set ?_ (fun h=>jE) _ _ | refine Mag.drew ?_ | refine Mag.alloc ?_ _ | refine Mag.drewN ?_ _ | refine Mag.below ?_ (Below.drew (Below.refl _ _)) | refine Mag.below ?_ ((Below.refl _ _).alloc (Nat.le_refl _) _) | exact hm1));done) | (have hszw:=(hbw).size;(repeat(with_reducible first | refine Below.setCell ?_ j8 _ | refine Below.alloc ?_ j8 _ | refine Below.drew ?_ | refine below_drewN ?_ _ | exact hbw));done) | (simp;omega)
  · obtain⟨hw,hT1,hy,hC,hX⟩:=HX2.out j0;have hqd:decide (q≤E)=false:=(by simpa using hq);have HC:=fun W h=>Lib.hid (zRw W s more a c x E T h HX0.out hxl hT1);rw[←hC,←hX,←hy]at HC;clear hC hX hy;go_wp2_with fail;refine(HC _ (hx.below zbh)).out.mono ?_;rintro e w1 ⟨a1,c1,rfl,hm1,hb1,hf1⟩;obtain⟨hc1,hz1⟩:=zA6 hb1;have hs1:=hb1.size;(try simp at hs1 hf1);have hfr1:0<nl y.natAbs→w.heap.size+3≤ab a1:=fun h=>(by have:=hf1 h;omega);have hbw:=zA0 (w:=w) zbh hb1;go_wp2_with fail
    go_meet
    refine⟨a1,c1,rfl,rfl,hfr1,?_,?_,?_,?_,?_,?_,?_,?_,?_,?_,?_,?_⟩
    all_goals first | (go_simp;done) | ((repeat(with_reducible first | refine Mag.set ?_ (fun h=>jE) _ _ | refine Mag.drew ?_ | refine Mag.alloc ?_ _ | refine Mag.drewN ?_ _ | refine Mag.below ?_ (Below.drew (Below.refl _ _)) | refine Mag.below ?_ ((Below.refl _ _).alloc (Nat.le_refl _) _) | exact hm1));done) | (have hszw:=(hbw).size;(repeat(with_reducible first | refine Below.setCell ?_ j8 _ | refine Below.alloc ?_ j8 _ | refine Below.drew ?_ | refine below_drewN ?_ _ | exact hbw));done) | (simp;omega)
 case rest=>
 obtain⟨a1,c1,rfl,rfl,hfr,q0,q1,q2,q3,q4,z1,z2,z3,z4,hm,hg,hbw⟩:=hcut;obtain⟨w1,hw1⟩:∃w1,w1=wc:=⟨_,rfl⟩;subst hw1;clear HX1 HX2 HX0 hx
 go_upto_block 0 with fail
 go_cut [10] (fun xs wx=>xs=.bool A∧wx.cell? ⟨w.heap.size,0,none⟩=some (.bool s)∧wx.cell? ⟨w.heap.size+1,0,none⟩=some (.bool false)∧wx.cell? ⟨w.heap.size+1,1,none⟩=some (.slice none 0 0)∧wx.cell? ⟨w.heap.size+1+1,0,none⟩=some (.bool (decide (y<0)))∧wx.cell? ⟨w.heap.size+1+1,1,none⟩=some (.slice a1 (nl y.natAbs) c1)∧wx.frozen? ⟨w.heap.size+1,0,none⟩=false∧wx.frozen? ⟨w.heap.size+1,1,none⟩=false∧wx.frozen? ⟨w.heap.size+1+1,0,none⟩=false∧wx.frozen? ⟨w.heap.size+1+1,1,none⟩=false
  ∧ Mag wx a1 (nl y.natAbs) c1 y.natAbs∧w.heap.size+3≤wx.heap.size∧Below w.heap.size w wx)
 case first=>
  cases X with
  | true=>
   have hA0:A=false:=(by rw[HA.out];rfl);subst hA0;go_wp2_with fail
   go_meet
   exact⟨rfl,q0,q1,q2,q3,q4,z1,z2,z3,z4,hm,hg,hbw⟩
  | false=>
   by_cases hm1:mode=1
   · have hA0:A=s:=(by rw[HA.out];simp[raw,hm1]);have hd1:(mode==1)=true:=(by simpa using hm1);subst hA0;go_wp2_with fail
     go_meet
     exact⟨rfl,q0,q1,q2,q3,q4,z1,z2,z3,z4,hm,hg,hbw⟩
   · have hd1:(mode==1)=false:=by simpa using hm1
     by_cases hm2:mode=2
     · have hA0:A=!s:=(by rw[HA.out];simp[raw,hm2]);have hd2:(mode==2)=true:=(by simpa using hm2);subst hA0;clear hm1 hm2;go_wp2_with fail
       go_meet
       exact⟨rfl,q0,q1,q2,q3,q4,z1,z2,z3,z4,hm,hg,hbw⟩
     · have hd2:(mode==2)=false:=by simpa using hm2
       by_cases hm3:mode=3
       · have hA0:A=false:=(by rw[HA.out];simp[raw,hm3]);have hd3:(mode==3)=true:=(by simpa using hm3);subst hA0;clear hm1 hm2 hm3;go_wp2_with fail
         go_meet
         exact⟨rfl,q0,q1,q2,q3,q4,z1,z2,z3,z4,hm,hg,hbw⟩
       · have hd3:(mode==3)=false:=(by simpa using hm3);have hA0:A=(decide (0<C)||(decide (C=0)&&decide (y.natAbs%2=1))):=(by rw[HA.out];simp[raw,hm1,hm2,hm3]);have HA2:=Lib.hid hA0;clear hA0 hm1 hm2 hm3
         by_cases hC1:0<C
         · have hA1:A=true:=(by rw[HA2.out];simp[hC1]);have hC2:decide (0<C)=true:=(by simpa using hC1);subst hA1;go_wp2_with fail
           go_meet
           exact⟨rfl,q0,q1,q2,q3,q4,z1,z2,z3,z4,hm,hg,hbw⟩
         · have hC2:decide (0<C)=false:=by simpa using hC1
           by_cases hC3:C=0
           · have hC4:(C==0)=true:=(by simpa using hC3);have hA1:A=decide (y.natAbs%2=1):=(by rw[HA2.out];simp[hC3]);have HG:=fun W h=>Lib.hid (zEh W a1 c1 y h);have HT:=fun W ht h=>Lib.hid (zC2 W ht (decide (y<0)) a1 _ c1 y.natAbs h hly);obtain⟨g,hg0⟩:∃g,g=sg y:=⟨_,rfl⟩;rw[←hg0]at HG
             by_cases hy0:y=0
             · have hg1:(g != 0)=false:=(by rw[hg0,hy0];rfl);have hA2:A=false:=(by rw[hA1,hy0];rfl);clear hC3 hC1 hg0 hA1 hy0;subst hA2;go_wp2_with fail;refine(HG _ hm).out.mono ?_;rintro e w2 ⟨rfl,hb2⟩;obtain⟨hc2,hz2⟩:=zA6 (hb2.mono hg);go_wp2_with fail
               go_meet
               exact⟨rfl,jj,jj,jj,jj,jj,jj,jj,jj,jj,hm.below hb2,Nat.le_trans hg hb2.size,zA0 hbw hb2⟩
             · have hg1:(g != 0)=true:=by
                rw[hg0];unfold sg zAq;split <;> (try split) <;> first | decide | (exfalso;omega)
               obtain⟨t,ht⟩:∃t,t=tz y.natAbs:=⟨_,rfl⟩;rw[←ht]at HT;have hA2:A=((t:Int)==0):=by
                rw[hA1,ht]
                by_cases hod:y.natAbs%2=1
                · rw[zLx hod];simp[hod]
                · have hp:0<y.natAbs:=Int.natAbs_pos.2 hy0;obtain⟨m,hmm⟩:=zDl hp;have hne:tz y.natAbs≠0:=by
                   intro h0;rw[h0]at hmm;omega
                  have:((tz y.natAbs:Int)==0)=false:=ju;rw[this];simp[hod]
               clear hC3 hC1 hg0 hA1 hy0 ht;go_wp2_with fail;refine(HG _ hm).out.mono ?_;rintro e w2 ⟨rfl,hb2⟩;obtain⟨hc2,hz2⟩:=zA6 (hb2.mono hg);have hm2:=hm.below hb2;have hbw2:=zA0 (w:=w) hbw hb2;go_wp2_with fail;refine(HT _ (hTab.below hbw2) hm2).out.mono ?_;rintro e w3 ⟨rfl,hb3⟩;have hg2:w.heap.size+3≤w2.heap.size:=Nat.le_trans hg hb2.size;obtain⟨hc3,hz3⟩:=zA6 (hb3.mono hg2);go_wp2_with fail
               go_meet
               exact⟨by rw[hA2],jj,jj,jj,jj,jj,jj,jj,jj,jj,hm2.below hb3,Nat.le_trans hg2 hb3.size,zA0 hbw2 hb3⟩
           · have hC4:(C==0)=false:=(by simpa using hC3);have hA1:A=false:=(by rw[HA2.out];simp[hC1,hC3]);clear hC1 hC3;subst hA1;go_wp2_with fail
             go_meet
             exact⟨rfl,q0,q1,q2,q3,q4,z1,z2,z3,z4,hm,hg,hbw⟩
 case rest=>
 clear q0 q1 q2 q3 q4 z1 z2 z3 z4 hm hg hbw;obtain⟨rfl,q0,q1,q2,q3,q4,z1,z2,z3,z4,hm,hg,hbw⟩:=hcut;have HLY:=Lib.hid hly;clear hly
 cases A with
 | false=>
  cases s with
  | false=>
   have hv:y=v:=(by rw[HV.out];simp only[zH5];have:=HY0.out;simp;omega);subst hv;go_wp2_with fail;refine bodyPost_ret (v:=.agg #[.bool (decide (y<0)),.slice a1 (nl y.natAbs) c1]) (by simp only[results,Tryz.results184];go_simp) rfl ?_;exact⟨a1,c1,rfl,(by repeat(with_reducible first | refine Mag.set ?_ (fun h=>jL) _ _ | refine Mag.drew ?_ | refine Mag.alloc ?_ _ | refine Mag.drewN ?_ _ | refine Mag.below ?_ (Below.drew (Below.refl _ _)) | refine Mag.below ?_ ((Below.refl _ _).alloc (Nat.le_refl _) _) | exact hm)),j7,fun h=>jL⟩
  | true=>
   have hv:v= -y:=(by rw[HV.out];simp only[zJ8];have:=HY0.out;simp;omega);have HN:=fun W h=>Lib.hid (zP1 W a1 c1 y v hv h HLY.out);clear hv;go_wp2_with fail;refine(HN _ hm.on).out.mono ?_;rintro e w8 ⟨a8,c8,rfl,hm8,hb8,hf8⟩;have hs8:=hb8.size;(try simp at hs8 hf8);have hg8:w.heap.size+3≤w8.heap.size:=j0;obtain⟨hc8,hz8⟩:=zA6 (hb8.mono (show w.heap.size+3≤_ by(try simp);omega));have hfr8:0<nl v.natAbs→w.heap.size+3≤ab a8:=fun h=>(by have:=hf8 h;omega);have hbw8:=zA0 (w:=w) (have:=Beh.mk hbw;zbh) hb8;clear hbw;have hbw:=hbw8;go_wp2_with fail;refine bodyPost_ret (v:=.agg #[.bool (decide (v<0)),.slice a8 (nl v.natAbs) c8]) (by simp only[results,Tryz.results184];go_simp) rfl ?_;exact⟨a8,c8,rfl,jP,j7,fun h=>Xh⟩
 | true=>
  obtain⟨o,ho⟩:∃o:Int,o=1:=⟨_,rfl⟩;have HO2:=fun W=>Lib.hid (zHE W o ho);obtain⟨y1,hy1⟩:∃y1,y1=y+o:=⟨_,rfl⟩;have HD:=fun W b c b' c' h h'=>Lib.hid (zSU W b b' c c' y o y1 hy1 h h' HLY.out (by rw[ho];decide));have hy2:y1=y.natAbs+1:=by have:=HY0.out;omega
  have HLY1:=Lib.hid (show nl y1.natAbs≤1099511627776 from by
   have h5:=zQr y o;rw[←hy1,ho]at h5;have h6:zA4 (1:Int).natAbs=1:=rfl;exact Nat.le_trans (zAh _) j0)
  clear ho hy1;have HY2:=Lib.hid hy2;clear hy2;go_wp2_with fail
  go_region_with
   (first
    | (go_at_call 147;refine(HO2 _).out.mono ?_;rintro e w5 ⟨a5,c5,rfl,hm5,hb5,hf5⟩;obtain⟨hc5,hz5⟩:=zA6 (hb5.mono (show w.heap.size+3≤_ by(try simp);omega));have hs5:=hb5.size;(try simp at hs5);have hg5:w.heap.size+3≤w5.heap.size:=j0;have hm15:Mag w5 a1 (nl y.natAbs) c1 y.natAbs:=Mag.below (Mag.below hm zbh) hb5;have hbw5:=zA0 (w:=w) (have:=Beh.mk hbw;zbh) hb5)
    | (go_at_call 154;refine(HD _ a1 c1 a5 c5 (Mag.below hm15 zbh) (Mag.below hm5 zbh)).out.mono ?_;rintro e w6 ⟨a6,c6,rfl,hm6,hb6,hf6⟩;obtain⟨hc6,hz6⟩:=zA6 (hb6.mono (show w.heap.size+3≤_ by(try simp);omega));have hs6:=hb6.size;(try simp at hs6 hf6);have hg6:w.heap.size+3≤w6.heap.size:=j0;have hbw6:=zA0 (w:=w) (have:=Beh.mk hbw5;zbh) hb6))
  all_goals(
   have hfr6:0<nl y1.natAbs→w.heap.size+3≤ab a6:=fun h=>Qs;obtain⟨q0',q1',q2',q3',q4'⟩:w6.cell? ⟨w.heap.size,0,none⟩=some (.bool s)∧w6.cell? ⟨w.heap.size+1,0,none⟩=some (.bool false)∧w6.cell? ⟨w.heap.size+1,1,none⟩=some (.slice none 0 0)∧w6.cell? ⟨w.heap.size+1+1,0,none⟩=some (.bool (decide (y<0)))∧w6.cell? ⟨w.heap.size+1+1,1,none⟩=some (.slice a1 (nl y.natAbs) c1):=by
    refine⟨?_,?_,?_,?_,?_⟩ <;> go_simp
   obtain⟨z1',z2',z3',z4'⟩:w6.frozen? ⟨w.heap.size+1,0,none⟩=false∧w6.frozen? ⟨w.heap.size+1,1,none⟩=false∧w6.frozen? ⟨w.heap.size+1+1,0,none⟩=false∧w6.frozen? ⟨w.heap.size+1+1,1,none⟩=false:=by
    refine⟨?_,?_,?_,?_⟩ <;> go_simp
   clear hc5 hz5 hc6 hz6 q0 q1 q2 q3 q4 z1 z2 z3 z4 hb5 hb6 hf5 hf6 hbw5 hbw;have hbw:=hbw6;have HLY:=HLY1
   cases s with
   | false=>
    have hv:y1=v:=(by rw[HV.out,HY2.out];simp only[zH5];simp);subst hv;go_wp2_with fail;refine bodyPost_ret (v:=.agg #[.bool (decide (y1<0)),.slice a6 (nl y1.natAbs) c6]) (by simp only[results,Tryz.results184];go_simp) rfl ?_;exact⟨a6,c6,rfl,jp,j7,fun h=>Kn⟩
   | true=>
    have hv:v= -y1:=(by rw[HV.out,HY2.out];simp only[zJ8];simp);have HN:=fun W h=>Lib.hid (zP1 W a6 c6 y1 v hv h HLY.out);clear hv;go_wp2_with fail;refine(HN _ jp).out.mono ?_;rintro e w8 ⟨a8,c8,rfl,hm8,hb8,hf8⟩;have hs8:=hb8.size;(try simp at hs8 hf8);have hg8:w.heap.size+3≤w8.heap.size:=j0;obtain⟨hc8,hz8⟩:=zA6 (hb8.mono (show w.heap.size+3≤_ by(try simp);omega));have hfr8:0<nl v.natAbs→w.heap.size+3≤ab a8:=fun h=>(by have:=hf8 h;omega);have hbw8:=zA0 (w:=w) (have:=Beh.mk hbw;zbh) hb8;clear hbw;have hbw:=hbw8;go_wp2_with fail;refine bodyPost_ret (v:=.agg #[.bool (decide (v<0)),.slice a8 (nl v.natAbs) c8]) (by simp only[results,Tryz.results184];go_simp) rfl ?_;exact⟨a8,c8,rfl,jP,j7,fun h=>Xh⟩)
end Go.Proofs.YtmbkgapknoammaaGreatDoor
namespace Go.Proofs.YtmbkgapknoammaaGreatDoor
open Go.RowKit Sp
theorem zHw(w:World)(s more:Bool)(a:Option Addr)(c:Nat)(x:Nat)(E q mode v:Int)(hx:Mag w a (nl x) c x)(hx0:0<x)(hxl:zA4 x≤524288)(hq0:E-524288≤q)(hq1:q≤E+524288)(_hE0: -9223372036854≤E)(_hE1:E≤9223372036854)(hTab:Tab w)(hv:v=sgn s (zGh s x E more q mode)):Calls Tryz.prog 184 #[.agg #[.bool s,.bool false,.slice a (nl x) c,.int .i64 E,.bool more],.int .i64 q,.int .i64 mode] w (zAl w v):=by
 by_cases hq:q≤E
 · refine zDB w s more a c x E q mode (E-q).toNat ((x*2^(E-q).toNat:Nat):Int) (-1) v true (raw s (x*2^(E-q).toNat) (-1) true mode) hx hx0 j0 ?_ j0 (fun _=>⟨jg,rfl,rfl,rfl⟩) (fun h=>absurd hq j0) (Int.natCast_nonneg _) rfl ?_ hTab
   · show zA4 (x*2^(E-q).toNat)≤1048576;rw[zAc hx0];omega
   · rw[hv];unfold zGh rax rdn raw;simp only[if_pos hq,if_true];rfl
 · refine zDB w s more a c x E q mode (q-E).toNat ((x/2^(q-E).toNat:Nat):Int) _ v _ (raw s (x/2^(q-E).toNat) (rcm x more (q-E).toNat) (rex x more (q-E).toNat) mode) hx hx0 j0 ?_ j0 (fun h=>absurd h hq) (fun _=>⟨jg,j0,rfl,rfl,rfl⟩) (Int.natCast_nonneg _) rfl ?_ hTab
   · show zA4 (x/2^(q-E).toNat)≤1048576;exact Nat.le_trans (zBC (Nat.div_le_self _ _)) j0
   · rw[hv];unfold zGh rax rdn;simp only[if_neg hq];rfl
end Go.Proofs.YtmbkgapknoammaaGreatDoor

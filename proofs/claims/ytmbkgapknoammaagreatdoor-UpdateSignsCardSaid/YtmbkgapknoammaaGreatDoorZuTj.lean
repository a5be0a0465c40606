/-
  Walks: the reference's package sparseref02: Bad, Make, Norm, Valid, Sign.
-/
import Derived.Test.YtmbkgapknoammaaGreatDoorZuCm
import Derived.Deep.RegionHeld3
set_option maxRecDepth 100000
set_option maxHeartbeats 2000000
namespace Go.Proofs.YtmbkgapknoammaaGreatDoor
open Go.RowKit Sp
theorem zD2(w:World):Calls Tryz.prog 52 #[] w fun e w'=>e=.returned (.agg #[.bool true,.bool false,.slice none 0 0,.int .i64 0])∧Below w.heap.size w w':=by
 go_enter Tryz.func52,Tryz.ntmps52;go_wp2_with fail;refine bodyPost_ret (v:=.agg #[.bool true,.bool false,.slice none 0 0,.int .i64 0]) (by simp only[results,Tryz.results52];go_simp) rfl ?_;exact⟨rfl,zbh⟩
theorem zKL(w:World)(_hT:Tab w)(s:Bool)(a:Option Addr)(n cap x:Nat)(E:Int)(z:Int)(hz:z=sgn s x)(hx:Mag w a n cap x)(hlim:n≤549755813888)(hz0:z=0):Calls Tryz.prog 54 #[.agg #[.bool s,.slice a n cap],.int .i64 E] w (zAM w (some (0,0))):=by
 haveI hX:BI w a n cap x:=⟨hx⟩;have HN:=fun W [i:BI W a n cap x]=>Lib.hid (frb (zBo W s a n cap x i.out j0));rw[←hz,hz0]at HN;clear hz hz0 hx;go_enter Tryz.func54,Tryz.ntmps54;go_wp2_with fail;refine(HN _).out.mono ?_;rintro o w1 ⟨a1,c1,rfl,m1,b1,f1⟩;have e1:=b1.out.size;simp at e1;go_wp2_with fail;refine bodyPost_ret (v:=.agg #[.bool false,.bool false,.slice none 0 0,.int .i64 0]) (by simp only[results,Tryz.results54];go_simp) rfl ?_;exact⟨none,0,rfl,Mag.nil _,zbh,nl0⟩
theorem zM5(w:World)(_hT:Tab w)(s:Bool)(a:Option Addr)(n cap x:Nat)(E:Int)(z:Int)(hz:z=sgn s x)(hx:Mag w a n cap x)(hlim:n≤549755813888)(hz0:z≠0)(hE:65536<E):Calls Tryz.prog 54 #[.agg #[.bool s,.slice a n cap],.int .i64 E] w (zAM w none):=by
 haveI hX:BI w a n cap x:=⟨hx⟩;have HN:=fun W [i:BI W a n cap x]=>Lib.hid (frb (zBo W s a n cap x i.out j0));rw[←hz]at HN;have HB:=fun W=>Lib.hid (frm (zD2 W));have hn1:(((nl z.natAbs:Nat):Int)==0)=false:=Ka
 clear hz hz0 hx;go_enter Tryz.func54,Tryz.ntmps54;go_wp2_with fail;refine(HN _).out.mono ?_;rintro o w1 ⟨a1,c1,rfl,m1,b1,f1⟩;have e1:=b1.out.size;simp at e1;go_wp2_with fail;refine(HB _).out.mono ?_;rintro o w9 ⟨rfl,b9⟩;go_wp2_with fail;refine bodyPost_ret (v:=.agg #[.bool true,.bool false,.slice none 0 0,.int .i64 0]) (by simp only[results,Tryz.results54];go_simp) rfl ?_;exact⟨none,0,rfl,Mag.nil _,zbh,nl0⟩
theorem zGg(w:World)(hT:Tab w)(s:Bool)(a:Option Addr)(n cap x:Nat)(E:Int)(z:Int)(hz:z=sgn s x)(hx:Mag w a n cap x)(hlim:n≤549755813888)(hz0:z≠0)(u v e:Int)(T bl:Nat)(hu:u=(z.natAbs:Int))(hTT:T=tz z.natAbs)(hT2:T≤1048576)(hv:v=((z.natAbs/2^T:Nat):Int))(hbl:bl=zA4 v.natAbs)(hbl2:bl≤1048576)(hE0: -9223372036854775808≤E)(hE:E≤65536)(he:e=E+T)(res:Option (Int×Int))
 (hc:(e< -65536∧res=none)∨(-65536≤e∧65536<e+bl∧res=none)∨(-65536≤e∧e+bl≤65536∧∃d:Int,s=decide (d<0)∧v.natAbs=d.natAbs∧res=some (d,e))) :
 Calls Tryz.prog 54 #[.agg #[.bool s,.slice a n cap],.int .i64 E] w (zAM w res):=by
 haveI hX:BI w a n cap x:=⟨hx⟩;haveI hTb:Tb w:=⟨hT⟩;have hnz:nl z.natAbs≤n:=by rw[hz,zAg];exact zAH hx.lt
 have HN:=fun W [i:BI W a n cap x]=>Lib.hid (frb (zBo W s a n cap x i.out j0));rw[←hz]at HN;have HB:=fun W=>Lib.hid (frm (zD2 W));have hn1:(((nl z.natAbs:Nat):Int)==0)=false:=Ka
 have hE1:decide ((65536:Int)<E)=false:=decide_eq_false j0;have HT:=fun W b c [Tb W] [i:BI W b (nl z.natAbs) c z.natAbs]=>Lib.hid (frm (zCu W tb (decide (z<0)) b (nl z.natAbs) c z.natAbs i.out j0));have HA:=fun W b c [i:BI W b (nl z.natAbs) c z.natAbs]=>Lib.hid (frb (zJk W (decide (z<0)) b (nl z.natAbs) c z.natAbs i.out j0));have eu:sgn false z.natAbs=u:=by rw[hu];rfl
 rw[eu]at HA;have huz:u.natAbs=z.natAbs:=j0
 have hu0:decide (u<0)=false:=decide_eq_false j0;have HD:=fun W b c [i:BI W b (nl u.natAbs) c u.natAbs]=>Lib.hid (frb (zEU W b (nl u.natAbs) c u.natAbs T i.out (by rw[huz];omega) hT2));rw[←hTT]at HT;rw[huz,←hv]at HD;rw[←huz]at HD;have hvl:nl v.natAbs≤549755813888:=by
  have:v.natAbs≤z.natAbs:=by rw[hv,Int.natAbs_natCast];exact Nat.div_le_self z.natAbs (2^T)
  exact Nat.le_trans (zAN this) j0
 have hv0:decide (v<0)=false:=decide_eq_false (by rw[hv];exact Int.not_lt.2 (Int.natCast_nonneg _));have HL:=fun W b c [i:BI W b (nl v.natAbs) c v.natAbs]=>Lib.hid (frm (zBu W false b (nl v.natAbs) c v.natAbs i.out j0));rw[←hbl]at HL;have hw1:IntKind.i64.wrap (E+(T:Int))=e:=jg
 have heB:e≤65536+1048576:=j0
 have HC:=Lib.hid hc;clear hz hnz hz0 hu hTT hv eu huz he hvl hc hx hbl hT;go_enter Tryz.func54,Tryz.ntmps54;go_wp2_with fail;refine(HN _).out.mono ?_;rintro o w1 ⟨a1,c1,rfl,m1,b1,f1⟩;have e1:=b1.out.size;simp at e1;go_wp2_with fail;have p0:BB (w1.alloc (.cells #[.bool (decide (z<0)),.slice a1 (nl z.natAbs) c1] 51)) w.heap.size s (.slice a n cap):=inferInstance;have p1:DB (w1.alloc (.cells #[.bool (decide (z<0)),.slice a1 (nl z.natAbs) c1] 51)) (w.heap.size+1) false false (.slice none 0 0) 0:=inferInstance;have p2:BB (w1.alloc (.cells #[.bool (decide (z<0)),.slice a1 (nl z.natAbs) c1] 51)) w1.heap.size (decide (z<0)) (.slice a1 (nl z.natAbs) c1):=inferInstance;have p3:BI (w1.alloc (.cells #[.bool (decide (z<0)),.slice a1 (nl z.natAbs) c1] 51)) a1 (nl z.natAbs) c1 z.natAbs:=inferInstance;have p4:Below w.heap.size w (w1.alloc (.cells #[.bool (decide (z<0)),.slice a1 (nl z.natAbs) c1] 51)):=zbh;generalize (w1.alloc (.cells #[.bool (decide (z<0)),.slice a1 (nl z.natAbs) c1] 51))=W1 at *;generalize w1.heap.size=b5 at *;haveI p5:From w W1:=⟨p4⟩;clear m1 b1 f1 p4;refine(HT _ _ _).out.mono ?_;rintro o w2 ⟨rfl,b2⟩;go_wp2_with fail;refine(HA _ _ _).out.mono ?_;rintro o w3 ⟨a3,c3,rfl,m3,b3,f3⟩;have x3:BB w3 b5 (decide (z<0)) (.slice a1 (nl z.natAbs) c1):=inferInstance;have l3:=x3.out.lt;have g3:0<nl u.natAbs→ab a3≠b5:=fun h=>by have h1:=f3 h;have h2:=(inferInstance:BB w2 b5 (decide (z<0)) (.slice a1 (nl z.natAbs) c1)).out.lt;omega
 have q0:BB w3 w.heap.size s (.slice a n cap):=inferInstance;have q1:DB w3 (w.heap.size+1) false false (.slice none 0 0) 0:=inferInstance;have q4:Below w.heap.size w w3:=zbh;have y0:=q0.st2 (g:=b5) j0 (.bool false) (.slice a3 (nl u.natAbs) c3);have y1:DB ((w3.setCell ⟨b5,0,none⟩ (.bool false)).setCell ⟨b5,1,none⟩ (.slice a3 (nl u.natAbs) c3)) (w.heap.size+1) false false (.slice none 0 0) 0:=⟨(q1.out.set j0 0 _).set j0 1 _⟩;have y2:=x3.pt2 false (.slice a3 (nl u.natAbs) c3);have y3:BI _ a3 (nl u.natAbs) c3 u.natAbs:=⟨Mag.st2 m3.out g3 (.bool false) (.slice a3 (nl u.natAbs) c3)⟩;have y4:=(q4.setCell (p:=⟨b5,0,none⟩) KP (.bool false)).setCell (p:=⟨b5,1,none⟩) KP (.slice a3 (nl u.natAbs) c3);go_wp2_with fail;generalize ((w3.setCell ⟨b5,0,none⟩ (.bool false)).setCell ⟨b5,1,none⟩ (.slice a3 (nl u.natAbs) c3))=W4 at *;haveI y5:From w W4:=⟨y4⟩;clear p0 p1 p2 p3 p5 b2 b3 m3 f3 x3 q0 q1 q4 g3 y4 HT HA HN;refine(HD _ _ _).out.mono ?_;rintro o w5 ⟨a5,c5,rfl,m5,b5',f5⟩;have x3:BB w5 b5 false (.slice a3 (nl u.natAbs) c3):=inferInstance;have l5:=x3.out.lt;have l4:=y2.out.lt;have g3:0<nl v.natAbs→ab a5≠b5:=fun h=>by have h1:=f5 h;omega
 have g4:0<nl v.natAbs→w.heap.size+1<ab a5:=fun h=>by have h1:=f5 h;omega
 have q0:BB w5 w.heap.size s (.slice a n cap):=inferInstance;have q1:DB w5 (w.heap.size+1) false false (.slice none 0 0) 0:=inferInstance;have q4:Below w.heap.size w w5:=zbh;have z0:=q0.st2 (g:=b5) j0 (.bool false) (.slice a5 (nl v.natAbs) c5);have z1:DB ((w5.setCell ⟨b5,0,none⟩ (.bool false)).setCell ⟨b5,1,none⟩ (.slice a5 (nl v.natAbs) c5)) (w.heap.size+1) false false (.slice none 0 0) 0:=⟨(q1.out.set j0 0 _).set j0 1 _⟩;have z2:=x3.pt2 false (.slice a5 (nl v.natAbs) c5);have z3:BI _ a5 (nl v.natAbs) c5 v.natAbs:=⟨Mag.st2 m5.out g3 (.bool false) (.slice a5 (nl v.natAbs) c5)⟩;have z4:=(q4.setCell (p:=⟨b5,0,none⟩) KP (.bool false)).setCell (p:=⟨b5,1,none⟩) KP (.slice a5 (nl v.natAbs) c5);have HNE:=g3;clear y0 y1 y2 y3 y5 b5' m5 f5 g3 HD;rcases HC.out with⟨h1,rfl⟩ | ⟨h1,h2,rfl⟩ | ⟨h1,h2,d,h3,h4,rfl⟩
 · have hlo:decide (e< -65536)=true:=decide_eq_true h1;clear h1 HC;go_wp2_with fail;generalize ((w5.setCell ⟨b5,0,none⟩ (.bool false)).setCell ⟨b5,1,none⟩ (.slice a5 (nl v.natAbs) c5))=W6 at *;haveI z5:From w W6:=⟨z4⟩;go_wp2_with fail;refine(HB _).out.mono ?_;rintro o w9 ⟨rfl,b9⟩;go_wp2_with fail;refine bodyPost_ret (v:=.agg #[.bool true,.bool false,.slice none 0 0,.int .i64 0]) (by simp only[results,Tryz.results54];go_simp) rfl ?_;exact⟨none,0,rfl,Mag.nil _,zbh,nl0⟩
 · have hlo:decide (e< -65536)=false:=decide_eq_false j0;have hhi:decide (65536<e+(bl:Int))=true:=decide_eq_true h2;have hw2:IntKind.i64.wrap (e+(bl:Int))=e+(bl:Int):=jg;clear h1 h2 HC;go_wp2_with fail;generalize ((w5.setCell ⟨b5,0,none⟩ (.bool false)).setCell ⟨b5,1,none⟩ (.slice a5 (nl v.natAbs) c5))=W6 at *;haveI z5:From w W6:=⟨z4⟩;refine(HL _ _ _).out.mono ?_;rintro o w7 ⟨rfl,b7⟩;go_wp2_with fail;refine(HB _).out.mono ?_;rintro o w9 ⟨rfl,b9⟩;go_wp2_with fail;refine bodyPost_ret (v:=.agg #[.bool true,.bool false,.slice none 0 0,.int .i64 0]) (by simp only[results,Tryz.results54];go_simp) rfl ?_;exact⟨none,0,rfl,Mag.nil _,zbh,nl0⟩
 · have hlo:decide (e< -65536)=false:=decide_eq_false j0;have hhi:decide (65536<e+(bl:Int))=false:=decide_eq_false j0;have hw2:IntKind.i64.wrap (e+(bl:Int))=e+(bl:Int):=jg;have HS:=Lib.hid h3;have HV:=Lib.hid h4;clear h1 h2 h3 h4 HC HB;go_wp2_with fail;generalize ((w5.setCell ⟨b5,0,none⟩ (.bool false)).setCell ⟨b5,1,none⟩ (.slice a5 (nl v.natAbs) c5))=W6 at *;haveI z5:From w W6:=⟨z4⟩;refine(HL _ _ _).out.mono ?_;rintro o w7 ⟨rfl,b7⟩;have t2:BB w7 b5 false (.slice a5 (nl v.natAbs) c5):=inferInstance;have t1:DB w7 (w.heap.size+1) false false (.slice none 0 0) 0:=inferInstance;have t3:BI w7 a5 (nl v.natAbs) c5 v.natAbs:=inferInstance;have t4:Below w.heap.size w w7:=zbh;have t5:=t3.out.old;have kk:0<nl v.natAbs→ab a5≠w.heap.size+1:=fun h=>(by have:=g4 h;omega);have I7:=((((t3.out.set (g:=b5) HNE 0 (.bool s)).set kk 0 (.bool false)).set kk 1 (.bool s)).set kk 2 (.slice a5 (nl v.natAbs) c5)).set kk 3 (.int .i64 e);have L7:=((((t4.setCell (p:=⟨b5,0,none⟩) KP (.bool s)).setCell (p:=⟨w.heap.size+1,0,none⟩) (Nat.le_succ _) (.bool false)).setCell (p:=⟨w.heap.size+1,1,none⟩) (Nat.le_succ _) (.bool s)).setCell (p:=⟨w.heap.size+1,2,none⟩) (Nat.le_succ _) (.slice a5 (nl v.natAbs) c5)).setCell (p:=⟨w.heap.size+1,3,none⟩) (Nat.le_succ _) (.int .i64 e);go_wp2_with fail;refine bodyPost_ret (v:=.agg #[.bool false,.bool s,.slice a5 (nl v.natAbs) c5,.int .i64 e]) (by simp only[results,Tryz.results54];go_simp) rfl ?_;refine⟨a5,c5,?_,?_,L7,fun h=>?_⟩
   · show _=Ending.returned (.agg #[.bool false,.bool (decide (d<0)),.slice a5 (nl d.natAbs) c5,.int .i64 e]);rw[←HS.out,←HV.out]
   · show Mag _ a5 (nl d.natAbs) c5 d.natAbs;rw[←HV.out];exact I7
   · have h:0<nl d.natAbs:=h;rw[←HV.out]at h;have:=g4 h;omega
theorem zIP{x:Nat}(h:0<x):zA4 (x/2^tz x)+tz x=zA4 x:=by
 obtain⟨q,hq⟩:=zLy h;have hp:0<2^tz x:=Nat.pow_pos ja;have e:x/2^tz x=q:=by
  conv=>lhs;lhs;rw[hq]
  rw[Nat.mul_div_cancel_left _ hp]
 have hq0:0<q:=by
  rcases Nat.eq_zero_or_pos q with h0 | h0
  · rw[h0,Nat.mul_zero]at hq;omega
  · exact h0
 rw[e];have:=zAc hq0 (tz x);rw[Nat.mul_comm,←hq]at this;exact this.symm
theorem zCM(w:World)(s:Bool)(a:Option Addr)(n cap x:Nat)(E:Int)(hx:Mag w a n cap x)(hlim:n≤549755813888)(hT:Tab w)(hB:zA4 x≤1048576)(he0: -9223372036854775808≤E):Calls Tryz.prog 54 #[.agg #[.bool s,.slice a n cap],.int .i64 E] w (zAM w (nrm (sgn s x) E)):=by
 have hza:=zAg s x
 by_cases hz0:sgn s x=0
 · rw[hz0,zBr];exact zKL w hT s a n cap x E _ rfl hx hlim hz0
 · have hp:0<x:=Nat.pos_of_ne_zero fun h=>hz0 (by subst h;cases s <;> rfl);have hbt:=zIP hp;have hbp:=zCE hp;have htl:=zIZ hB
   by_cases hE:E≤65536
   · have hv2:((((sgn s x).natAbs/2^tz (sgn s x).natAbs:Nat):Int)).natAbs=x/2^tz x:=by rw[hza];exact Int.natAbs_natCast _
     by_cases he1:E+(tz x:Int)< -65536
     · have:=zGg w hT s a n cap x E _ rfl hx hlim hz0 _ _ _ _ _ rfl rfl (by rw[hza];exact htl) rfl rfl (by rw[hv2];omega) he0 hE rfl none (.inl ⟨by rw[hza];exact he1,rfl⟩);rwa[nrm_none.2 ⟨hz0,.inr Qv⟩]
     · by_cases he2:65536<E+(zA4 x:Int)
       · have:=zGg w hT s a n cap x E _ rfl hx hlim hz0 _ _ _ _ _ rfl rfl (by rw[hza];exact htl) rfl rfl (by rw[hv2];omega) he0 hE rfl none (.inr (.inl ⟨Qv,by rw[hv2,hza];omega,rfl⟩));rwa[nrm_none.2 ⟨hz0,.inl Qv⟩]
       · obtain⟨y,hy,hodd,hdiv⟩:=zF8 hz0;have hya:y.natAbs=x/2^tz x:=by
          have h1:x=y.natAbs*2^tz x:=by
           conv=>lhs;rw[←hza,hy,zAr]
           rw[hza]
          conv=>rhs;lhs;rw[h1]
          rw[Nat.mul_div_cancel _ (Nat.pow_pos ja)]
         have hys:s=decide (y<0):=by
          have h1:=(zBf y (tz (sgn s x).natAbs)).1;rw[←hy]at h1;rw[decide_eq_decide.2 h1.symm,zH4];rw[decide_eq_true hp,Bool.and_true]
         have:=zGg w hT s a n cap x E _ rfl hx hlim hz0 _ _ _ _ _ rfl rfl (by rw[hza];exact htl) rfl rfl (by rw[hv2];omega) he0 hE rfl _ (.inr (.inr ⟨Qv,by rw[hv2,hza];omega,y,hys,by rw[hv2,hya],rfl⟩));have hn:nrm (sgn s x) E=some (y,E+(tz (sgn s x).natAbs:Int)):=by
          unfold nrm;rw[if_neg hz0,if_neg Qv,hdiv]
         rwa[hn]
   · have:=zM5 w hT s a n cap x E _ rfl hx hlim hz0 j0;rwa[nrm_none.2 ⟨hz0,.inl Qv⟩]
theorem zOL(w:World)(s:Bool)(a:Option Addr)(n cap:Nat)(e:Int):Calls Tryz.prog 51 #[.agg #[.bool true,.bool s,.slice a n cap,.int .i64 e]] w (zAM w none):=by
 have HB:=fun W=>Lib.hid (zD2 W);go_enter Tryz.func51,Tryz.ntmps51;go_wp2_with fail;have I1:=DyV.made' (w.alloc (.cells #[.bool true,.bool s,.slice a n cap,.int .i64 e] 53)) 53 false false (.slice none 0 0) 0 (n:=w.heap.size+1) Kr;refine(HB _).out.mono ?_;rintro e w1 ⟨rfl,hb⟩;have hbw:=zA0 (w:=w) zbh hb;have J1:=I1.below hb;clear I1 hb;obtain⟨r0,r1,r2,r3,r4,r5⟩:=J1;go_wp2_with fail;refine bodyPost_ret (v:=.agg #[.bool true,.bool false,.slice none 0 0,.int .i64 0]) (by simp only[results,Tryz.results51];go_simp) rfl ?_;exact⟨none,0,rfl,Mag.nil _,(have:=Beh.mk hbw;zbh),nl0⟩
theorem zOM(w:World)(hT:Tab w)(s:Bool)(a:Option Addr)(n cap x:Nat)(e:Int)(hx:Mag w a n cap x)(hlim:n≤549755813888)(hB:zA4 x≤1048576)(he0: -9223372036854775808≤e):Calls Tryz.prog 51 #[.agg #[.bool false,.bool s,.slice a n cap,.int .i64 e]] w (zAM w (nrm (sgn s x) e)):=by
 have HM:=fun W h ht=>Lib.hid (zCM W s a n cap x e h hlim ht hB he0);generalize nrm (sgn s x) e=d at HM ⊢;go_enter Tryz.func51,Tryz.ntmps51;go_wp2_with fail;have I1:=DyV.made' (w.alloc (.cells #[.bool false,.bool s,.slice a n cap,.int .i64 e] 53)) 53 false false (.slice none 0 0) 0 (n:=w.heap.size+1) Kr;refine(HM _ (hx.below zbh) (hT.below zbh)).out.mono ?_;rintro e w1 ⟨a1,c1,rfl,hm1,hb,hf1⟩;have hbw:=zA0 (w:=w) zbh hb;have J1:=I1.below hb;have hfr1:0<nl (zA1 d).natAbs→w.heap.size+2≤ab a1:=fun h=>jB
 clear I1 hb hf1;obtain⟨r0,r1,r2,r3,r4,r5⟩:=J1;go_wp2_with fail;refine bodyPost_ret (v:=.agg #[.bool (zAj d),.bool (decide (zA1 d<0)),.slice a1 (nl (zA1 d).natAbs) c1,.int .i64 (zA7 d)]) (by simp only[results,Tryz.results51];go_simp) rfl ?_;exact⟨a1,c1,rfl,Kl,(by have hszw:=(hbw).size;repeat(with_reducible first | refine Below.setCell ?_ j8 _ | refine Below.alloc ?_ j8 _ | refine Below.drew ?_ | refine below_drewN ?_ _ | exact hbw)),fun h=>jE⟩
theorem zKP(w:World)(hT:Tab w)(bd s:Bool)(a:Option Addr)(n cap x:Nat)(e:Int)(hx:Mag w a n cap x)(hlim:n≤549755813888)(hB:zA4 x≤1048576)(he0: -9223372036854775808≤e):Calls Tryz.prog 51 #[.agg #[.bool bd,.bool s,.slice a n cap,.int .i64 e]] w (zAM w (zMy bd (sgn s x) e)):=by
 cases bd
 · exact zOM w hT s a n cap x e hx hlim hB he0
 · exact zOL w s a n cap e
def DyIs(w:World)(bd s:Bool)(a:Option Addr)(n cap:Nat)(e:Int)(d:Option (Int×Int)):Prop:=DyIn w bd s a n cap e d∧n≤549755813888
theorem DyIs.below{w w':World}{bd s:Bool}{a:Option Addr}{n cap:Nat}{e:Int}{d:Option (Int×Int)}(h:DyIs w bd s a n cap e d)(hb:Below w.heap.size w w'):DyIs w' bd s a n cap e d:=⟨h.1.below hb,h.2⟩
theorem zAQ(w:World){bd s:Bool}{a:Option Addr}{n cap:Nat}{e:Int}{d:Option (Int×Int)}(h:DyIs w bd s a n cap e d)(hT:Tab w):Calls Tryz.prog 51 #[.agg #[.bool bd,.bool s,.slice a n cap,.int .i64 e]] w (zAM w d):=by
 obtain⟨⟨x,h1,h2,h3,h4,h5,h6⟩,hl⟩:=h;have:=zKP w hT bd s a n cap x e h1 hl h3 h4;rwa[h6]at this
theorem zOJ(w:World)(bd s:Bool)(a:Option Addr)(n cap:Nat)(e:Int)(hx:DyIs w bd s a n cap e none)(hT:Tab w):Calls Tryz.prog 46 #[.agg #[.bool bd,.bool s,.slice a n cap,.int .i64 e]] w fun o w'=>o=.returned (.int .i64 0)∧Below w.heap.size w w':=by
 have HN:=fun W h ht=>Lib.hid (@zAQ W bd s a n cap e none h ht);go_enter Tryz.func46,Tryz.ntmps46;go_wp2_with fail;have I0:=DyV.made w 53 bd s (.slice a n cap) e;refine(HN _ (hx.below zbh) (hT.below zbh)).out.mono ?_;rintro e w1 ⟨a1,c1,rfl,hm1,hb,hf1⟩;have hbw:=zA0 (w:=w) zbh hb;have J1:=I0.below hb;clear I0 hb hf1;obtain⟨r0,r1,r2,r3,r4,r5⟩:=J1;have eb:zAj none=true:=rfl;go_wp2_with fail;go_ret;exact⟨rfl,(have:=Beh.mk hbw;zbh)⟩
theorem zOK(w:World)(bd s:Bool)(a:Option Addr)(n cap:Nat)(e z f g:Int)(hx:DyIs w bd s a n cap e (some (z,f)))(hT:Tab w)(hg:g=sg z):Calls Tryz.prog 46 #[.agg #[.bool bd,.bool s,.slice a n cap,.int .i64 e]] w fun o w'=>o=.returned (.int .i64 g)∧Below w.heap.size w w':=by
 have hbz:=(zAd hx.1.isN).1;have HN:=fun W h ht=>Lib.hid (@zAQ W bd s a n cap e (some (z,f)) h ht);have HS:=fun W b c h=>Lib.hid (zCi W (decide (z<0)) b (nl z.natAbs) c z.natAbs h (Nat.le_trans (zAh _) (Nat.le_trans hbz j0)));rw[zAk,←hg]at HS;obtain⟨d,hd⟩:∃d,d=some (z,f):=⟨_,rfl⟩;have d0:zAj d=false:=by rw[hd];rfl
 have d1:zA1 d=z:=by rw[hd];rfl
 have d2:zA7 d=f:=by rw[hd];rfl
 rw[←hd]at HN hx;clear hbz hd hg;go_enter Tryz.func46,Tryz.ntmps46;go_wp2_with fail;have I0:=DyV.made w 53 bd s (.slice a n cap) e;refine(HN _ (hx.below zbh) (hT.below zbh)).out.mono ?_;rintro e w1 ⟨a1,c1,rfl,hm1,hb,hf1⟩;rw[d1]at hm1 hf1;have hfr1:0<nl z.natAbs→w.heap.size+1≤ab a1:=fun h=>jB
 have hbw:=zA0 (w:=w) zbh hb;have J1:=I0.below hb;clear I0 hb hf1;obtain⟨r0,r1,r2,r3,r4,r5⟩:=J1;go_wp2_with fail;refine(HS _ a1 c1 Kl).out.mono ?_;rintro e w2 ⟨rfl,hb⟩;have hbw2:=zA0 (w:=w) (have:=Beh.mk hbw;zbh) hb;go_wp2_with fail;go_ret;exact⟨rfl,(have:=Beh.mk hbw2;zbh)⟩
theorem zFJ(w:World)(bd s:Bool)(a:Option Addr)(n cap:Nat)(e:Int)(d:Option (Int×Int))(hx:DyIs w bd s a n cap e d)(hT:Tab w):Calls Tryz.prog 46 #[.agg #[.bool bd,.bool s,.slice a n cap,.int .i64 e]] w fun o w'=>o=.returned (.int .i64 (sg (zA1 d)))∧Below w.heap.size w w':=by
 cases d with
 | none=>exact zOJ w bd s a n cap e hx hT
 | some p=>obtain⟨z,f⟩:=p;exact zOK w bd s a n cap e z f _ hx hT rfl
end Go.Proofs.YtmbkgapknoammaaGreatDoor
namespace Go.Proofs.YtmbkgapknoammaaGreatDoor
open Go.RowKit Sp
class N5(W:World)(b:Nat)(x0 x1 x2 x3 x4:outParam Value):Prop where
 c0:W.cell? ⟨b,0,none⟩=some x0
 c1:W.cell? ⟨b,1,none⟩=some x1
 c2:W.cell? ⟨b,2,none⟩=some x2
 c3:W.cell? ⟨b,3,none⟩=some x3
 c4:W.cell? ⟨b,4,none⟩=some x4
 z:∀i,W.frozen? ⟨b,i,none⟩=false
 lt:b<W.heap.size
theorem N5.below{W W':World}{b:Nat}{x0 x1 x2 x3 x4:Value}(h:N5 W b x0 x1 x2 x3 x4)(hb:Below W.heap.size W W'):N5 W' b x0 x1 x2 x3 x4:=by
 obtain⟨h1,h2⟩:=zA6 hb;exact⟨(h1 _ _ h.lt).trans h.c0,(h1 _ _ h.lt).trans h.c1,(h1 _ _ h.lt).trans h.c2,(h1 _ _ h.lt).trans h.c3,(h1 _ _ h.lt).trans h.c4,fun i=>(h2 _ _ h.lt).trans (h.z i),Nat.lt_of_lt_of_le h.lt hb.size⟩
instance N5.dr(W:World)(b:Nat)(x0 x1 x2 x3 x4:Value)[h:N5 W b x0 x1 x2 x3 x4]:N5 W.drew b x0 x1 x2 x3 x4:=⟨h.c0,h.c1,h.c2,h.c3,h.c4,h.z,h.lt⟩
instance N5.dn(W:World)(b:Nat)(x0 x1 x2 x3 x4:Value)(q:Nat)[h:N5 W b x0 x1 x2 x3 x4]:N5 (W.drewN q) b x0 x1 x2 x3 x4:=⟨h.c0,h.c1,h.c2,h.c3,h.c4,h.z,h.lt⟩
instance N5.al(W:World)(b:Nat)(x0 x1 x2 x3 x4:Value)(o:Obj)[h:N5 W b x0 x1 x2 x3 x4]:N5 (W.alloc o) b x0 x1 x2 x3 x4:=N5.below h ((Below.refl _ _).alloc (Nat.le_refl _) _)
instance N5.fr(L w':World)(b:Nat)(x0 x1 x2 x3 x4:Value)[f:From L w'][h:N5 L b x0 x1 x2 x3 x4]:N5 w' b x0 x1 x2 x3 x4:=N5.below h f.out
theorem N5.made(W:World)(t:TypeId)(x0 x1 x2 x3 x4:Value){n:Nat}(hn:n=W.heap.size):N5 (W.alloc (.cells #[x0,x1,x2,x3,x4] t)) n x0 x1 x2 x3 x4:=by
 subst hn;exact⟨jx,jx,jx,jx,jx,fun i=>KY,jr⟩
instance N5.mk'(W:World)(t:TypeId)(x0 x1 x2 x3 x4:Value)(n:Nat)[h:Sz W n]:N5 (W.alloc (.cells #[x0,x1,x2,x3,x4] t)) n x0 x1 x2 x3 x4:=N5.made W t x0 x1 x2 x3 x4 h.out
@[go_sem] theorem N5.r0 (W:World) (b:Nat) {x0 x1 x2 x3 x4:Value} [h:N5 W b x0 x1 x2 x3 x4]:W.cell? ⟨b,0,none⟩=some x0:=h.c0
@[go_sem] theorem N5.r1 (W:World) (b:Nat) {x0 x1 x2 x3 x4:Value} [h:N5 W b x0 x1 x2 x3 x4]:W.cell? ⟨b,1,none⟩=some x1:=h.c1
@[go_sem] theorem N5.r2 (W:World) (b:Nat) {x0 x1 x2 x3 x4:Value} [h:N5 W b x0 x1 x2 x3 x4]:W.cell? ⟨b,2,none⟩=some x2:=h.c2
@[go_sem] theorem N5.r3 (W:World) (b:Nat) {x0 x1 x2 x3 x4:Value} [h:N5 W b x0 x1 x2 x3 x4]:W.cell? ⟨b,3,none⟩=some x3:=h.c3
@[go_sem] theorem N5.r4 (W:World) (b:Nat) {x0 x1 x2 x3 x4:Value} [h:N5 W b x0 x1 x2 x3 x4]:W.cell? ⟨b,4,none⟩=some x4:=h.c4
@[go_sem] theorem N5.rz (W:World) (b i:Nat) {x0 x1 x2 x3 x4:Value} [h:N5 W b x0 x1 x2 x3 x4]:W.frozen? ⟨b,i,none⟩=false:=h.z i
class DS(w:World)(v s:Bool)(a:Option Addr)(n cap:Nat)(e:Int)(d:outParam (Option (Int×Int))):Prop where out:DyIs w v s a n cap e d
theorem DyIn.set{W:World}{v s:Bool}{a:Option Addr}{n cap g:Nat}{e:Int}{d:Option (Int×Int)}(h:DyIn W v s a n cap e d)(k:0<n→ab a≠g)(i:Nat)(u:Value):DyIn (W.setCell ⟨g,i,none⟩ u) v s a n cap e d:=by
 obtain⟨x,h1,h2⟩:=h;exact⟨x,h1.set k i u,h2⟩
section
variable {W:World}{v s:Bool}{a:Option Addr}{n cap:Nat}{e:Int}{d:Option (Int×Int)}
instance DS.dr[h:DS W v s a n cap e d]:DS W.drew v s a n cap e d:=⟨h.out.below (Below.refl _ _).drew⟩
instance DS.dn(q:Nat)[h:DS W v s a n cap e d]:DS (W.drewN q) v s a n cap e d:=⟨h.out.below (below_drewN (Below.refl _ _) _)⟩
instance DS.al(o:Obj)[h:DS W v s a n cap e d]:DS (W.alloc o) v s a n cap e d:=⟨h.out.below ((Below.refl _ _).alloc (Nat.le_refl _) _)⟩
instance DS.fr(L:World)[k:From L W][h:DS L v s a n cap e d]:DS W v s a n cap e d:=⟨h.out.below k.out⟩
instance DS.se{g:Nat}(i:Nat)(u:Value)[h:DS W v s a n cap e d][k:NA a n g]:DS (W.setCell ⟨g,i,none⟩ u) v s a n cap e d:=⟨h.out.1.set k.out i u,h.out.2⟩
instance DI.se{g:Nat}(i:Nat)(u:Value)[h:DI W v s a n cap e d][k:NA a n g]:DI (W.setCell ⟨g,i,none⟩ u) v s a n cap e d:=⟨h.out.set k.out i u⟩
end
theorem zHM{w:World}{d:Option (Int×Int)}{a:Option Addr}{c:Nat}(hd:IsN d)(hm:Mag w a (nl (zA1 d).natAbs) c (zA1 d).natAbs):DyIs w (zAj d) (decide (zA1 d<0)) a (nl (zA1 d).natAbs) c (zA7 d) d:=
 ⟨zAp hd hm,Nat.le_trans (zAh _) (Nat.le_trans (zAd hd).1 ja)⟩
theorem frs{P:Program}{f:FuncId}{args:Array Value}{W:World}{d:Option (Int×Int)}(hd:IsN d)(h:Calls P f args W (zAM W d)):Calls P f args W fun e w'=>∃a c,e=.returned (.agg #[.bool (zAj d),.bool (decide (zA1 d<0)),.slice a (nl (zA1 d).natAbs) c,.int .i64 (zA7 d)]) ∧
  DS w' (zAj d) (decide (zA1 d<0)) a (nl (zA1 d).natAbs) c (zA7 d) d∧From W w':=
 h.mono fun _ _ ⟨a,c,he,hm,hb,_⟩=>⟨a,c,he,⟨zHM hd hm⟩,⟨hb⟩⟩
theorem zRU{P:Program}{f:FuncId}{args:Array Value}{W:World}{d:Option (Int×Int)}(hd:IsN d)(h:Calls P f args W (zAM W d)):Calls P f args W fun e w'=>∃a c,e=.returned (.agg #[.bool (zAj d),.bool (decide (zA1 d<0)),.slice a (nl (zA1 d).natAbs) c,.int .i64 (zA7 d)]) ∧
  DS w' (zAj d) (decide (zA1 d<0)) a (nl (zA1 d).natAbs) c (zA7 d) d∧From W w'∧BI w' a (nl (zA1 d).natAbs) c (zA1 d).natAbs∧(0<nl (zA1 d).natAbs→W.heap.size≤ab a):=
 h.mono fun _ _ ⟨a,c,he,hm,hb,hf⟩=>⟨a,c,he,⟨zHM hd hm⟩,⟨hb⟩,⟨hm⟩,hf⟩
theorem frF{P:Program}{f:FuncId}{args:Array Value}{W:World}{d:Option (Int×Int)}(h:Calls P f args W (zAM W d)):Calls P f args W fun e w'=>∃a c,e=.returned (.agg #[.bool (zAj d),.bool (decide (zA1 d<0)),.slice a (nl (zA1 d).natAbs) c,.int .i64 (zA7 d)])∧BI w' a (nl (zA1 d).natAbs) c (zA1 d).natAbs∧From W w'∧(0<nl (zA1 d).natAbs→W.heap.size≤ab a):=
 h.mono fun _ _ ⟨a,c,he,hm,hb,hf⟩=>⟨a,c,he,⟨hm⟩,⟨hb⟩,hf⟩
theorem DyV.st4{W:World}{b:Nat}{v s:Bool}{sl:Value}{f:Int}(h:DyV W b v s sl f)(v' s':Bool)(sl':Value)(f':Int):DyV ((((W.setCell ⟨b,0,none⟩ (.bool v')).setCell ⟨b,1,none⟩ (.bool s')).setCell ⟨b,2,none⟩ sl').setCell ⟨b,3,none⟩ (.int .i64 f')) b v' s' sl' f':=(DB.pt4 ⟨h⟩ v' s' sl' f').out
instance DB.se4{W:World}{b:Nat}{v s v' s':Bool}{sl sl':Value}{f f':Int}[h:DB W b v s sl f]:DB ((((W.setCell ⟨b,0,none⟩ (.bool v')).setCell ⟨b,1,none⟩ (.bool s')).setCell ⟨b,2,none⟩ sl').setCell ⟨b,3,none⟩ (.int .i64 f')) b v' s' sl' f':=h.pt4 _ _ _ _
theorem zJu{L:World}{b:Nat}{v s:Bool}{sl:Value}{f:Int}[h:DB L b v s sl f]{n:Nat}{a:Option Addr}(k:0<n→L.heap.size≤ab a):0<n→ab a≠b:=
 fun q e=>by have:=k q;have:=h.out.lt;omega
theorem zIB{d:Option (Int×Int)}(hb:zAj d=false):d=some (zA1 d,zA7 d):=by cases d with | none=>cases hb | some p=>rfl
instance N5.sen{W:World}{b g i:Nat}{v x0 x1 x2 x3 x4:Value}[h:N5 W b x0 x1 x2 x3 x4][k:NB b g]:N5 (W.setCell ⟨g,i,none⟩ v) b x0 x1 x2 x3 x4:=
 ⟨(zAm k.out _ _ _).trans h.c0,(zAm k.out _ _ _).trans h.c1,(zAm k.out _ _ _).trans h.c2,(zAm k.out _ _ _).trans h.c3,(zAm k.out _ _ _).trans h.c4,fun j=>(zAs j _ _).trans (h.z j),jW⟩
instance NB.n1(W:World)(b:Nat){L:World}{x0 x1 x2 x3 x4:Value}[f:From L W][h:N5 L b x0 x1 x2 x3 x4]:NB b W.heap.size:=⟨fun e=>Kx⟩
instance NB.n0(W:World)(b:Nat){x0 x1 x2 x3 x4:Value}[h:N5 W b x0 x1 x2 x3 x4]:NB b W.heap.size:=⟨fun e=>by have:=h.lt;omega⟩
end Go.Proofs.YtmbkgapknoammaaGreatDoor
namespace Go.Proofs.YtmbkgapknoammaaGreatDoor
section
variable {P:Program}{ops:Array Oper}{Q:Exit→Act→World→Prop}{md:Region.Mode}{T:World→Prop}{last:List Nat}
def zBP(P:Program)(md:Region.Mode)(ops:Array Oper)(Q:Exit→Act→World→Prop)(T:World→Prop)(last:List Nat):Nat→Array Bool→Act→World→Prop
 | 0,l,a,w=>Region.ready md ops l= []∧Q .normal a w
 | fuel+1,l,a,w=>
  (Region.ready md ops l= []→Q .normal a w) ∧
  ∀i∈Region.ready md ops l,wpOp P ops Q i (fun a' w'=>(i∈last∨T w')∧zBP P md ops Q T last fuel (l.setIfInBounds i true) a' w') a w
theorem zFA:∀(fuel:Nat) (l:Array Bool) (a:Act) (w:World),zBP P md ops Q T last fuel l a w→wpAny P md ops Q fuel l a w
 | 0,_,_,_,h=>h
 | fuel+1,_,_,_,h=>⟨h.1,fun i hi=>wpOp_mono (fun a' w' h'=>zFA fuel _ a' w' h'.2) (h.2 i hi)⟩
def zL6(md:Region.Mode)(ops:Array Oper)(i:Nat)(last:List Nat)(l:Array Bool)(late:List Nat):Bool:=
 last.all late.contains&&!late.contains i&&late.all fun j=>!l.getD j false&&match ops[j]? with | some o=>o.after.any fun e=>Region.binds md e&&(e.on==i||late.contains e.on) | none=>true
theorem zPd{i:Nat}{late:List Nat}{l0 l:Array Bool}(hb:zL6 md ops i last l0 late=true)(hi:l.getD i false=false)(hu:∀j∈late,l.getD j false=false){j:Nat}(hj:j∈Region.ready md ops l):¬j∈late:=by
 intro hjl;obtain⟨_,o,ho,hall⟩:=mem_ready.1 hj;unfold zL6 at hb;simp only[Bool.and_eq_true,List.all_eq_true]at hb;have h2:=(hb.2 j hjl).2;rw[ho]at h2;simp only at h2;rw[Array.any_eq_true]at h2;obtain⟨x,hx,hy⟩:=h2;simp only[Bool.and_eq_true,Bool.or_eq_true,beq_iff_eq]at hy;have h3:=hall _ (Array.getElem_mem hx) hy.1;rcases hy.2 with h4 | h4
 · rw[h4,hi]at h3;cases h3
 · rw[hu _ (by simpa using h4)]at h3;cases h3
theorem zGT{i:Nat}{oi:Oper}{v:Value}{late:List Nat}{l0:Array Bool}(hi:ops[i]? =some oi)(hsel:∀(j:Nat) (o:Oper) cs b,ops[j]? =some o→o.op≠.select cs b)
 (hQ:∀c a w,Q (.panic c) (a.put oi.dst v) w→Q (.panic c) a w) (hb:zL6 md ops i last l0 late=true) (hla:∀j∈last,j∈late) (hil:i ∉ late) :
 ∀(fuel:Nat) (l:Array Bool) (a:Act) (w:World),
  (∀j oj,ops[j]? =some oj→j≠i→l.getD j true=false→(∀e∈oj.after,Region.binds md e=true→e.on≠i)→oi.apart ops oj=true) →
  i∈Region.ready md ops l→(∀j∈late,l.getD j false=false)→YieldsIf P ops T oi v a→T w →
  zBP P md ops Q T last fuel (l.setIfInBounds i true) (a.put oi.dst v) w→zBP P md ops Q T last (fuel+1) l a w:=by
 intro fuel
 induction fuel with
 | zero=>
  intro l a w _ hr _ hy hS H;refine⟨fun h=>(by rw[h]at hr;cases hr),fun j hj=>?_⟩
  by_cases hji:j=i
  · subst hji;exact hy.wpOp hi hS ⟨Or.inr hS,H⟩
  · have:=ready_mono hj hji;rw[H.1]at this
    cases this
 | succ fuel ih=>
  intro l a w hfree hr hu hy hS H;refine⟨fun h=>(by rw[h]at hr;cases hr),fun j hj=>?_⟩
  by_cases hji:j=i
  · subst hji;exact hy.wpOp hi hS ⟨Or.inr hS,H⟩
  · have h1:=H.2 j (ready_mono hj hji);obtain⟨hjun,oj,hoj,hall⟩:=mem_ready.1 hj;have hiu:l.getD i false=false:=by
     have h0:=(mem_ready.1 hr).1;rcases Nat.lt_or_ge i l.size with h' | h'
     · simpa[h'] using h0
     · simp[Array.getElem?_eq_none h']at h0
    have hnot:∀e∈oj.after,Region.binds md e=true→e.on≠i:=fun e he hbi heq=>by
     have h1:=hall e he hbi;rw[heq,hiu]at h1;cases h1
    have hjl:j ∉ late:=zPd hb hiu hu hj;have hjlast:j ∉ last:=fun e=>hjl (hla j e);have h2:=wpOp_putIf hoj (hfree j oj hoj hji hjun hnot) (fun cs b=>hsel i oi cs b hi) (fun cs b=>hsel j oj cs b hoj) hQ hy h1;have hfree':∀k ok,ops[k]? =some ok→k≠i→(l.setIfInBounds j true).getD k true=false →
     (∀e∈ok.after,Region.binds md e=true→e.on≠i)→oi.apart ops ok=true:=fun k ok hk hki hun hno=>by
     refine hfree k ok hk hki ?_ hno
     by_cases hjk:j=k
     · subst hjk;exact hjun
     · rw[getD_set_ne true hjk]at hun;exact hun
    refine wpOp_mono (fun a' w' h3=>?_) h2;have hT:T w':=h3.2.1.resolve_left hjlast;refine⟨h3.2.1,ih (l.setIfInBounds j true) a' w' hfree' (ready_mono hr (Ne.symm hji)) (fun k hk=>?_) h3.1 hT ?_⟩
    · rw[getD_set_ne false (fun e:j=k=>hjl (by rw[e];exact hk))];exact hu k hk
    · rw[Array.setIfInBounds_comm _ _ hji];exact h3.2.2
theorem tkj{fuel:Nat}{l:Array Bool}{ts ts':Array Value}{D:List Deferred}{w:World}(i t:Nat)(v:Value)(late:List Nat){o:Oper}
 (hi:ops[i]? =some o:=by rfl) (hd:o.dst=some t:=by rfl) (hs:Region.noSelect ops=true:=by kernel_rfl) (hf:Region.free md ops l i=true:=by kernel_rfl) (hr:(Region.ready md ops l).contains i=true:=by kernel_rfl)
 (hb:zL6 md ops i last l late=true:=by kernel_rfl)
 (hQ:∀c a w,Q (.panic c) (a.put o.dst v) w→Q (.panic c) a w:=by exact fun _ _ _ h=>h) (hw:Region.wanted o (yielded ops ts)=true:=by rfl)
 (hts:ts.setIfInBounds t v=ts':=by(simp only[List.setIfInBounds_toArray,List.set_cons_zero,List.set_cons_succ];exact rfl))
 (hy:∀w,T w→(execOp (Act.eval ⟨ts,D⟩) o).run P w=.ok (.value v) w) (hS:T w)
 (h:zBP P md ops Q T last fuel (l.setIfInBounds i true) ⟨ts',D⟩ w):zBP P md ops Q T last (fuel+1) l ⟨ts,D⟩ w:=by
 subst hts;have hb':=hb;unfold zL6 at hb';simp only[Bool.and_eq_true,List.all_eq_true,Bool.not_eq_true']at hb';refine zGT hi (Region.noSelect_spec hs) hQ hb (fun j hj=>by simpa using hb'.1.1 j hj) (by simpa using hb'.1.2) fuel l _ w (Region.free_spec hi hf) (by simpa using hr) (fun j hj=>(hb'.2 j hj).1) (Or.inl ⟨hw,hy⟩) hS ?_;rw[hd];exact h
theorem tk{fuel:Nat}{l:Array Bool}{ts ts':Array Value}{D:List Deferred}{w:World}{v:Value}{o:Oper}(i t:Nat)(late:List Nat)
 (h:zBP P md ops Q T last fuel (l.setIfInBounds i true) ⟨ts',D⟩ w)
 (hi:ops[i]? =some o:=by rfl) (hd:o.dst=some t:=by rfl) (hs:Region.noSelect ops=true:=by kernel_rfl) (hf:Region.free md ops l i=true:=by kernel_rfl) (hr:(Region.ready md ops l).contains i=true:=by kernel_rfl)
 (hb:zL6 md ops i last l late=true:=by kernel_rfl)
 (hQ:∀c a w,Q (.panic c) (a.put o.dst v) w→Q (.panic c) a w:=by exact fun _ _ _ h=>h) (hw:Region.wanted o (yielded ops ts)=true:=by rfl)
 (hts:ts.setIfInBounds t v=ts':=by(simp only[List.setIfInBounds_toArray,List.set_cons_zero,List.set_cons_succ];exact rfl))
 (hy:∀w,T w→(execOp (Act.eval ⟨ts,D⟩) o).run P w=.ok (.value v) w:=by(intro w hSw;haveI:=From.mk hSw;go_simp;(try with_reducible rfl))) (hS:T w:=by exact zbh):zBP P md ops Q T last (fuel+1) l ⟨ts,D⟩ w:=
 tkj i t v late hi hd hs hf hr hb hQ hw hts hy hS h
theorem stj{fuel:Nat}{l:Array Bool}{a:Act}{w:World}(i:Nat){o:Oper}(ho:ops[i]? =some o:=by rfl)(hr:Region.ready md ops l= [i]:=by kernel_rfl)
 (h:∀K:Act→World→Prop,Shut (∀a' w',(i∈last∨T w')→zBP P md ops Q T last fuel (l.setIfInBounds i true) a' w'→K a' w') →
  if Region.wanted o (yielded ops a.tmps)=true then Oper.wp P o a w K Q else K (a.put o.dst undef) w):zBP P md ops Q T last (fuel+1) l a w:=by
 refine⟨fun h0=>(by rw[hr]at h0;cases h0),fun j hj=>?_⟩;rw[hr]at hj;obtain rfl:j=i:=by simpa using hj
 exact wpOp_step ho fun K hK=>h K fun a' w' h1 h2=>hK a' w' ⟨h1,h2⟩
theorem enj{l:Array Bool}{a:Act}{w:World}(hr:Region.ready md ops l= [])(h:Q .normal a w):∀fuel,zBP P md ops Q T last fuel l a w
 | 0=>⟨hr,h⟩
 | _+1=>⟨fun _=>h,by rw[hr];simp⟩
theorem bgj{id:Nat}{a:Act}{w:World}(T:World→Prop)(last:List Nat)(hm:P.follows .mixedOrders=true)(hT:T w.drew)
 (h:T w.drew→zBP P .any ops Q T last ops.size (Array.replicate ops.size false) a w.drew):(Code.region id ops true).wp P Q a w:=
 wp_region_any hm (zFA _ _ _ _ (h hT))
end
end Go.Proofs.YtmbkgapknoammaaGreatDoor

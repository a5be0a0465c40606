/-
  Walks: package dyad, round.go: Root, Sqrt.
-/
import Derived.Test.YtmbkgapknoammaaGreatDoorZuBh
import Derived.Test.YtmbkgapknoammaaGreatDoorZuRa
import Derived.Test.YtmbkgapknoammaaGreatDoorZuGo
import Derived.Test.YtmbkgapknoammaaGreatDoorZuBf
import Derived.Test.YtmbkgapknoammaaGreatDoorZuGt
import Derived.Test.YtmbkgapknoammaaGreatDoorZuBL
import Derived.Test.YtmbkgapknoammaaGreatDoorZuGq
import Derived.Test.YtmbkgapknoammaaGreatDoorZuTj
import Derived.Test.YtmbkgapknoammaaGreatDoorZuS3
import Derived.Deep.AppendLies
import Derived.Test.YtmbkgapknoammaaGreatDoorZuCm
import Derived.Test.YtmbkgapknoammaaGreatDoorZuOpen
import Derived.Deep.Grids
set_option maxRecDepth 100000
set_option maxHeartbeats 2000000
namespace Go.Proofs.YtmbkgapknoammaaGreatDoor
open Go.RowKit Sp
structure ReV(W:World)(b:Nat):Prop where
 c0:W.cell? ⟨b,0,none⟩=some (.bool false)
 c1:W.cell? ⟨b,1,none⟩=some (.bool false)
 c2:W.cell? ⟨b,2,none⟩=some (.slice none 0 0)
 c3:W.cell? ⟨b,3,none⟩=some (.int .i64 0)
 c4:W.cell? ⟨b,4,none⟩=some (.bool false)
 z:∀i,W.frozen? ⟨b,i,none⟩=false
 lt:b<W.heap.size
theorem ReV.below{W W':World}{b:Nat}(h:ReV W b)(hb:Below W.heap.size W W'):ReV W' b:=by
 obtain⟨h1,h2⟩:=zA6 hb;exact⟨(h1 _ _ h.lt).trans h.c0,(h1 _ _ h.lt).trans h.c1,(h1 _ _ h.lt).trans h.c2,(h1 _ _ h.lt).trans h.c3,(h1 _ _ h.lt).trans h.c4,fun i=>(h2 _ _ h.lt).trans (h.z i),Nat.lt_of_lt_of_le h.lt hb.size⟩
theorem ReV.alloc{W:World}{b:Nat}(h:ReV W b)(o:Obj):ReV (W.alloc o) b:=h.below ((Below.refl _ _).alloc (Nat.le_refl _) _)
theorem ReV.made(W:World)(t:TypeId){n:Nat}(hn:n=W.heap.size):ReV (W.alloc (.cells #[.bool false,.bool false,.slice none 0 0,.int .i64 0,.bool false] t)) n:=by
 subst hn;refine⟨jx,jx,jx,jx,jx,fun i=>KY,jr⟩
theorem ReV.drew{W:World}{b:Nat}(h:ReV W b):ReV W.drew b:=⟨h.c0,h.c1,h.c2,h.c3,h.c4,h.z,h.lt⟩
theorem ReV.drewN{W:World}{b:Nat}(h:ReV W b)(q:Nat):ReV (W.drewN q) b:=⟨h.c0,h.c1,h.c2,h.c3,h.c4,h.z,h.lt⟩
theorem zM3(w:World)(bd:Bool)(a:Option Addr)(c:Nat)(z f p n0 n y E q:Int)(B X r:Nat)(odd more:Bool)(hx:Mag w a (nl z.natAbs) c z.natAbs)(hl:nl z.natAbs≤1099511627776)(hB:B=zA4 z.natAbs)(hB1:B≤131072)(hp0:1≤p)(hp1:p≤4096)(hf: -65536≤f)(hf1:f≤65536)
 (hn0:max 0 (2*(p+3)-(B:Int))=n0) (hodd:odd=((f-n0).tmod 2 != 0)) (hn:n=if odd then n0+1 else n0) (hz:0≤z) (hX:X=z.natAbs*2^n.toNat) (hy:y=(X:Int)) (hXl:nl X≤17179869184) (hr1:r*r≤X) (hr2:X<(r+1)*(r+1)) (hq:q=(r:Int)) (hE:(f-n).tdiv 2=E) (hEb: -100000≤E∧E≤100000) (hmo:more=(zAq ((r*r:Nat):Int) (X:Int) != 0)) :
 Calls Tryz.prog 161 #[.agg #[.bool bd,.bool (decide (z<0)),.slice a (nl z.natAbs) c,.int .i64 f],.int .i64 p] w (zKk w false r E more):=by
 have e1:¬w.heap.size+1=w.heap.size:=j0
 have e2:¬w.heap.size=w.heap.size+1:=j0
 have hn00:0≤n0:=j0
 have hn01:n0≤8198:=j0
 have hn2:0≤n:=by rw[hn];split <;> omega
 have hn3:n≤8199:=by rw[hn];split <;> omega
 have HBl:=fun W h=>Lib.hid (zDe W a c z h hl);rw[←hB]at HBl;have HL:=fun W h=>Lib.hid (zJJ W (decide (z<0)) a (nl z.natAbs) c z.natAbs n h hl hn2 j0);have esh:shl (sgn (decide (z<0)) z.natAbs) n=y:=by
  rw[zAk];unfold shl;rw[if_pos hn2,hy,hX];rw[show z=(z.natAbs:Int)by omega];simp
 rw[esh]at HL;have hyX:y.natAbs=X:=j0
 have hy0:decide (y<0)=false:=jq
 have HS:=fun W b c (h:Mag W b (nl y.natAbs) c y.natAbs)=>Lib.hid (zOs W false b (nl y.natAbs) c y.natAbs r h (by rw[hyX];exact hXl) (by simp[sgn]) (by rw[hyX];exact hr1) (by rw[hyX];exact hr2));rw[show sgn false r=q by rw[hq];rfl]at HS;have hqr:q.natAbs=r:=j0
 have hq0:decide (q<0)=false:=jq
 have hqn:nl q.natAbs≤17179869184:=by
  rw[hqr];refine Nat.le_trans (zAN ?_) hXl;refine Nat.le_trans ?_ hr1;rcases Nat.eq_zero_or_pos r with h | h
  · rw[h];exact Nat.zero_le _
  · exact Nat.le_mul_of_pos_left _ h
 obtain⟨v,hv⟩:∃v,v=q*q:=⟨_,rfl⟩;have hv0:decide (v<0)=false:=by
  have:0≤v:=by rw[hv,hq];exact Int.mul_nonneg j0 j0
  simp;omega
 have HM:=fun W b c h=>Lib.hid (zSt W b b c c q q v hv h h j0 j0);rw[hq0]at HM;obtain⟨g,hg⟩:∃g,g=zAq v y:=⟨_,rfl⟩;have HC:=fun W b b' c c' h h'=>Lib.hid (zSQ W b b' c c' v y g hg h h');rw[hv0,hy0]at HC;have hmg:(g != 0)=more:=by rw[hmo,hg,hv,hq,hy];simp
 have hE1:IntKind.i64.wrap (f-n)=f-n:=jg
 have hE2:IntKind.i64.wrap ((f-n).tdiv 2)=E:=by rw[hE,IntKind.wrap_i64];omega
 have hE3:IntKind.i64.wrap E=E:=jg
 have hod:((f-n0).tmod 2 != 0)=odd:=hodd.symm;have HQR:=Lib.hid hqr;clear hqr hodd hB hg hv hmo hX hy hXl hr1 hr2 hq esh hyX;have hz0:decide (z<0)=false:=jq
 rw[hz0]at HBl HL ⊢
 cases odd
 all_goals(
  simp only[if_true,if_false,Bool.false_eq_true]at hn;subst hn;go_enter Tryz.func161,Tryz.ntmps161;go_wp2_with fail;have Ip:=(DyV.made w 53 bd false (.slice a (nl z.natAbs) c) f).alloc (.cells #[.bool false,.bool false,.slice none 0 0,.int .i64 0,.bool false] 188);have Ir:=ReV.made (w.alloc (.cells #[.bool bd,.bool false,.slice a (nl z.natAbs) c,.int .i64 f] 53)) 188 (n:=w.heap.size+1) Kr;have Mx0:Mag ((w.alloc (.cells #[.bool bd,.bool false,.slice a (nl z.natAbs) c,.int .i64 f] 53)).alloc (.cells #[.bool false,.bool false,.slice none 0 0,.int .i64 0,.bool false] 188)) a (nl z.natAbs) c z.natAbs:=(hx.alloc _).alloc _;have B0:Below w.heap.size w ((w.alloc (.cells #[.bool bd,.bool false,.slice a (nl z.natAbs) c,.int .i64 f] 53)).alloc (.cells #[.bool false,.bool false,.slice none 0 0,.int .i64 0,.bool false] 188)):=zbh;generalize ((w.alloc (.cells #[.bool bd,.bool false,.slice a (nl z.natAbs) c,.int .i64 f] 53)).alloc (.cells #[.bool false,.bool false,.slice none 0 0,.int .i64 0,.bool false] 188))=w0 at Ip Ir Mx0 B0 ⊢;obtain⟨pc0,pc1,pc2,pc3,pc4,pc5⟩:=Ip;have Vp0:=Lib.hid (DyV.mk pc0 pc1 pc2 pc3 pc4 pc5);obtain⟨rc0,rc1,rc2,rc3,rc4,rc5,rc6⟩:=Ir;have Vr0:=Lib.hid (ReV.mk rc0 rc1 rc2 rc3 rc4 rc5 rc6);refine(HBl _ Mx0.on).out.mono ?_;rintro e w1 ⟨rfl,hb1⟩;have Vp1:DyV w1 w.heap.size bd false (.slice a (nl z.natAbs) c) f:=(Vp0.out.on.below hb1);obtain⟨pc0,pc1,pc2,pc3,pc4,pc5⟩:=Vp1;have Vp1:=Lib.hid (DyV.mk pc0 pc1 pc2 pc3 pc4 pc5);have Vr1:ReV w1 (w.heap.size+1)  := (by refine ReV.below ?_ hb1;(repeat(with_reducible first | refine ReV.drew ?_ | refine ReV.drewN ?_ _ | refine ReV.alloc ?_ _));exact Vr0.out);obtain⟨rc0,rc1,rc2,rc3,rc4,rc5,rc6⟩:=Vr1;have Vr1:=Lib.hid (ReV.mk rc0 rc1 rc2 rc3 rc4 rc5 rc6);have Mx1:Mag w1 a (nl z.natAbs) c z.natAbs:=Mag.below Mx0.on hb1;have B1:=zA0 (w:=w) (have:=Beh.mk B0;zbh) hb1;clear hb1;go_wp2_with fail;refine(HL _ Mx1.on).out.mono ?_;rintro e w2 ⟨ay,cy,rfl,My2,hb2,hf2⟩;have Vp2:DyV w2 w.heap.size bd false (.slice a (nl z.natAbs) c) f:=(Vp1.out.on.below hb2);obtain⟨pc0,pc1,pc2,pc3,pc4,pc5⟩:=Vp2;have Vp2:=Lib.hid (DyV.mk pc0 pc1 pc2 pc3 pc4 pc5);have Vr2:ReV w2 (w.heap.size+1)  := (by refine ReV.below ?_ hb2;(repeat(with_reducible first | refine ReV.drew ?_ | refine ReV.drewN ?_ _ | refine ReV.alloc ?_ _));exact Vr1.out);obtain⟨rc0,rc1,rc2,rc3,rc4,rc5,rc6⟩:=Vr2;have Vr2:=Lib.hid (ReV.mk rc0 rc1 rc2 rc3 rc4 rc5 rc6);have Mx2:Mag w2 a (nl z.natAbs) c z.natAbs:=Mag.below Mx1.on hb2;have B2:=zA0 (w:=w) (have:=Beh.mk B1;zbh) hb2;clear hb2 hf2;go_wp2_with fail;have Vy3:=BgV.made w2 51 false (.slice ay (nl y.natAbs) cy);have Vp3:=DyV.alloc Vp2.out (.cells #[.bool false,(.slice ay (nl y.natAbs) cy)] 51);have Vr3:=ReV.alloc Vr2.out (.cells #[.bool false,(.slice ay (nl y.natAbs) cy)] 51);have My3:=My2.alloc (.cells #[.bool false,(.slice ay (nl y.natAbs) cy)] 51);have B3:Below w.heap.size w (w2.alloc (.cells #[.bool false,(.slice ay (nl y.natAbs) cy)] 51)):=B2.alloc B2.size _;generalize (w2.alloc (.cells #[.bool false,(.slice ay (nl y.natAbs) cy)] 51))=w3 at Vy3 Vp3 Vr3 My3 B3 ⊢;have lzy:w.heap.size+1<w2.heap.size:=Vr2.out.lt;generalize w2.heap.size=zy at Vy3 lzy ⊢;have mzy:¬w.heap.size+1=zy:=j0
  have nzy:¬zy=w.heap.size+1:=j0
  obtain⟨pc0,pc1,pc2,pc3,pc4,pc5⟩:=Vp3;have Vp3:=Lib.hid (DyV.mk pc0 pc1 pc2 pc3 pc4 pc5);obtain⟨rc0,rc1,rc2,rc3,rc4,rc5,rc6⟩:=Vr3;have Vr3:=Lib.hid (ReV.mk rc0 rc1 rc2 rc3 rc4 rc5 rc6);obtain⟨yc0,yc1,yc2,yc3⟩:=Vy3;have Vy3:=Lib.hid (BgV.mk yc0 yc1 yc2 yc3);refine(HS _ ay cy My3.on).out.mono ?_;rintro e w4 ⟨aq,cq,rfl,Mq4,hb4,hf4⟩;have Vp4:DyV w4 w.heap.size bd false (.slice a (nl z.natAbs) c) f:=(Vp3.out.on.below hb4);obtain⟨pc0,pc1,pc2,pc3,pc4,pc5⟩:=Vp4;have Vp4:=Lib.hid (DyV.mk pc0 pc1 pc2 pc3 pc4 pc5);have Vr4:ReV w4 (w.heap.size+1)  := (by refine ReV.below ?_ hb4;(repeat(with_reducible first | refine ReV.drew ?_ | refine ReV.drewN ?_ _ | refine ReV.alloc ?_ _));exact Vr3.out);obtain⟨rc0,rc1,rc2,rc3,rc4,rc5,rc6⟩:=Vr4;have Vr4:=Lib.hid (ReV.mk rc0 rc1 rc2 rc3 rc4 rc5 rc6);have Vy4:BgV w4 zy false (.slice ay (nl y.natAbs) cy):=(Vy3.out.on.below hb4);obtain⟨yc0,yc1,yc2,yc3⟩:=Vy4;have Vy4:=Lib.hid (BgV.mk yc0 yc1 yc2 yc3);have My4:Mag w4 ay (nl y.natAbs) cy y.natAbs:=Mag.below My3.on hb4;have B4:=zA0 (w:=w) (have:=Beh.mk B3;zbh) hb4;have hfq:0<nl q.natAbs→w.heap.size+2≤ab aq:=fun h=>by have:=hf4 h;have:=Vr3.out.lt;omega
  clear hb4 hf4;go_wp2_with fail;have Vq5:=BgV.made w4 51 false (.slice aq (nl q.natAbs) cq);have Vp5:=DyV.alloc Vp4.out (.cells #[.bool false,(.slice aq (nl q.natAbs) cq)] 51);have Vr5:=ReV.alloc Vr4.out (.cells #[.bool false,(.slice aq (nl q.natAbs) cq)] 51);have Vy5:=BgV.alloc Vy4.out (.cells #[.bool false,(.slice aq (nl q.natAbs) cq)] 51);have My5:=My4.alloc (.cells #[.bool false,(.slice aq (nl q.natAbs) cq)] 51);have Mq5:=Mq4.alloc (.cells #[.bool false,(.slice aq (nl q.natAbs) cq)] 51);have B5:Below w.heap.size w (w4.alloc (.cells #[.bool false,(.slice aq (nl q.natAbs) cq)] 51)):=B4.alloc B4.size _;generalize (w4.alloc (.cells #[.bool false,(.slice aq (nl q.natAbs) cq)] 51))=w5 at Vq5 Vp5 Vr5 Vy5 My5 Mq5 B5 ⊢;have lzq:w.heap.size+1<w4.heap.size:=Vr4.out.lt;generalize w4.heap.size=zq at Vq5 lzq ⊢;have mzq:¬w.heap.size+1=zq:=j0
  have nzq:¬zq=w.heap.size+1:=j0
  obtain⟨pc0,pc1,pc2,pc3,pc4,pc5⟩:=Vp5;have Vp5:=Lib.hid (DyV.mk pc0 pc1 pc2 pc3 pc4 pc5);obtain⟨rc0,rc1,rc2,rc3,rc4,rc5,rc6⟩:=Vr5;have Vr5:=Lib.hid (ReV.mk rc0 rc1 rc2 rc3 rc4 rc5 rc6);obtain⟨yc0,yc1,yc2,yc3⟩:=Vy5;have Vy5:=Lib.hid (BgV.mk yc0 yc1 yc2 yc3);obtain⟨qc0,qc1,qc2,qc3⟩:=Vq5;have Vq5:=Lib.hid (BgV.mk qc0 qc1 qc2 qc3)
  first
  | go_region_held3 (fun w'=>w'.cell? ⟨w.heap.size,0,none⟩=some (.bool bd)∧w'.cell? ⟨w.heap.size,1,none⟩=some (.bool false)∧w'.cell? ⟨w.heap.size,2,none⟩=some ((.slice a (nl z.natAbs) c))∧w'.cell? ⟨w.heap.size,3,none⟩=some (.int .i64 f)∧w'.cell? ⟨zy,0,none⟩=some (.bool false)∧w'.cell? ⟨zy,1,none⟩=some ((.slice ay (nl y.natAbs) cy))∧w'.cell? ⟨zq,0,none⟩=some (.bool false)∧w'.cell? ⟨zq,1,none⟩=some ((.slice aq (nl q.natAbs) cq))) (first | (go_keep;done) | (go_simp;done))
   (first
    | (go_at_call 188;have xx:=B6;refine(HC _ av ay cv cy Mv6.on My6.on).out.mono ?_;rintro e w7 ⟨rfl,hb7⟩;have Vp7:DyV w7 w.heap.size bd false (.slice a (nl z.natAbs) c) f:=(Vp6.out.on.below hb7);obtain⟨pc0,pc1,pc2,pc3,pc4,pc5⟩:=Vp7;have Vp7:=Lib.hid (DyV.mk pc0 pc1 pc2 pc3 pc4 pc5);have Vr7:ReV w7 (w.heap.size+1)  := (by refine ReV.below ?_ hb7;(repeat(with_reducible first | refine ReV.drew ?_ | refine ReV.drewN ?_ _ | refine ReV.alloc ?_ _));exact Vr6.out);obtain⟨rc0,rc1,rc2,rc3,rc4,rc5,rc6⟩:=Vr7;have Vr7:=Lib.hid (ReV.mk rc0 rc1 rc2 rc3 rc4 rc5 rc6);have Vy7:BgV w7 zy false (.slice ay (nl y.natAbs) cy):=(Vy6.out.on.below hb7);obtain⟨yc0,yc1,yc2,yc3⟩:=Vy7;have Vy7:=Lib.hid (BgV.mk yc0 yc1 yc2 yc3);have Vq7:BgV w7 zq false (.slice aq (nl q.natAbs) cq):=(Vq6.out.on.below hb7);obtain⟨qc0,qc1,qc2,qc3⟩:=Vq7;have Vq7:=Lib.hid (BgV.mk qc0 qc1 qc2 qc3);have My7:Mag w7 ay (nl y.natAbs) cy y.natAbs:=Mag.below My6.on hb7;have Mq7:Mag w7 aq (nl q.natAbs) cq q.natAbs:=Mag.below Mq6.on hb7;have B7:=zA0 (w:=w) (have:=Beh.mk B6;zbh) hb7;clear hb7)
    | (go_at_call 155;refine(HM _ aq cq Mq5.on).out.mono ?_;rintro e w6 ⟨av,cv,rfl,Mv6,hb6,hf6⟩;have Vp6:DyV w6 w.heap.size bd false (.slice a (nl z.natAbs) c) f:=(Vp5.out.on.below hb6);obtain⟨pc0,pc1,pc2,pc3,pc4,pc5⟩:=Vp6;have Vp6:=Lib.hid (DyV.mk pc0 pc1 pc2 pc3 pc4 pc5);have Vr6:ReV w6 (w.heap.size+1)  := (by refine ReV.below ?_ hb6;(repeat(with_reducible first | refine ReV.drew ?_ | refine ReV.drewN ?_ _ | refine ReV.alloc ?_ _));exact Vr5.out);obtain⟨rc0,rc1,rc2,rc3,rc4,rc5,rc6⟩:=Vr6;have Vr6:=Lib.hid (ReV.mk rc0 rc1 rc2 rc3 rc4 rc5 rc6);have Vy6:BgV w6 zy false (.slice ay (nl y.natAbs) cy):=(Vy5.out.on.below hb6);obtain⟨yc0,yc1,yc2,yc3⟩:=Vy6;have Vy6:=Lib.hid (BgV.mk yc0 yc1 yc2 yc3);have Vq6:BgV w6 zq false (.slice aq (nl q.natAbs) cq):=(Vq5.out.on.below hb6);obtain⟨qc0,qc1,qc2,qc3⟩:=Vq6;have Vq6:=Lib.hid (BgV.mk qc0 qc1 qc2 qc3);have My6:Mag w6 ay (nl y.natAbs) cy y.natAbs:=Mag.below My5.on hb6;have Mq6:Mag w6 aq (nl q.natAbs) cq q.natAbs:=Mag.below Mq5.on hb6;have B6:=zA0 (w:=w) (have:=Beh.mk B5;zbh) hb6;clear hb6 hf6)
    | fail)
  | fail "region"
  all_goals go_wp2_with fail
  all_goals(
   refine bodyPost_ret (v:=.agg #[.bool false,.bool false,.slice aq (nl q.natAbs) cq,.int .i64 E,.bool more]) (by simp only[results,Tryz.results161];go_simp) rfl ?_;unfold zKk;rw[←HQR.out];exact⟨aq,cq,rfl,(by repeat(with_reducible first | refine Mag.set ?_ (fun h=>by have:=hfq h;omega) _ _ | exact Mq7)),(have:=Beh.mk B7;zbh),fun h=>by have:=hfq h;omega⟩))
theorem zNv(w:World)(bd:Bool)(a:Option Addr)(c:Nat)(z f p:Int)(hx:Mag w a (nl z.natAbs) c z.natAbs)(hb:zA4 z.natAbs≤131072)(hz:0<z)(hp0:1≤p)(hp1:p≤4096)(hf: -65536≤f)(hf1:f≤65536):Calls Tryz.prog 161 #[.agg #[.bool bd,.bool (decide (z<0)),.slice a (nl z.natAbs) c,.int .i64 f],.int .i64 p] w
  (zKk w false (isq (z.natAbs*2^rsh z f p)) ((f-rsh z f p)/2) (decide (isq (z.natAbs*2^rsh z f p)*isq (z.natAbs*2^rsh z f p)≠z.natAbs*2^rsh z f p))):=by
 have hz0:0<z.natAbs:=j0
 obtain⟨n0,hn0⟩:∃n0,n0=max 0 (2*(p+3)-(zA4 z.natAbs:Int)):=⟨_,rfl⟩;have hn0':0≤n0:=j0
 have hrsh:((rsh z f p:Nat):Int)=if((f-n0).tmod 2 != 0)=true then n0+1 else n0:=by
  unfold rsh;rw[←hn0];have e1:((n0.toNat:Nat):Int)=n0:=Int.toNat_of_nonneg hn0';rw[e1];have e2:(((f-n0).tmod 2 != 0)=true)↔((f-n0)%2≠0):=by
   rw[bne_iff_ne,Ne,Ne,←Int.dvd_iff_tmod_eq_zero,←Int.dvd_iff_emod_eq_zero]
  by_cases h:(f-n0)%2≠0
  · rw[if_pos h,if_pos (e2.2 h)];omega
  · rw[if_neg h,if_neg (fun h'=>h (e2.1 h'))];omega
 have hle:=zQ5 z f p j0;have hev:=zGe z f p;have hbX:zA4 (z.natAbs*2^rsh z f p)=zA4 z.natAbs+rsh z f p:=zAc hz0 _;have hdv:(f-(rsh z f p:Nat)).tdiv 2=(f-(rsh z f p:Nat))/2:=by
  obtain⟨k,hk⟩:(2:Int) ∣ (f-(rsh z f p:Nat)):=Int.dvd_of_emod_eq_zero hev;rw[hk,Int.mul_tdiv_cancel_left _ j0,Int.mul_ediv_cancel_left _ j0]
 generalize hR:rsh z f p=R at *;refine zM3 w bd a c z f p n0 (R:Int) ((z.natAbs*2^R:Nat):Int) ((f-R)/2) ((isq (z.natAbs*2^R):Nat):Int) (zA4 z.natAbs) (z.natAbs*2^R) (isq (z.natAbs*2^R)) _ _ hx (zBa j0) rfl hb hp0 hp1 hf hf1 hn0.symm rfl hrsh j0 (by rw[Int.toNat_natCast]) rfl ?_ (zDE _) (zDD _) rfl hdv j0 ?_
 · exact Nat.le_trans (zAh _) j0
 · generalize isq (z.natAbs*2^R)=s;generalize z.natAbs*2^R=X
   by_cases h:s*s=X
   · rw[h,zCf rfl];simp
   · have h1:zAq ((s*s:Nat):Int) (X:Int)≠0:=fun h2=>h (by have:=cmpI_eq0.1 h2;omega);have h2:decide (s*s≠X)=true:=KT;rw[h2];symm;rw[bne_iff_ne];exact h1
end Go.Proofs.YtmbkgapknoammaaGreatDoor
set_option maxRecDepth 100000
set_option maxHeartbeats 20000000
namespace Go.Proofs.YtmbkgapknoammaaGreatDoor
open Go.RowKit Sp
attribute [local irreducible] Calls
theorem zLr(w:World)(bd s:Bool)(a:Option Addr)(n cap:Nat)(e mode:Int)(d:Option (Int×Int))(hx:DyIn w bd s a n cap e d)(hT:Tab w):Calls Tryz.prog 120 #[.agg #[.bool bd,.bool s,.slice a n cap,.int .i64 e],.int .i64 mode] w fun o w'=>o=.returned (.int .u64 (zBc d mode:Nat))∧Below w.heap.size w w':=by
 have HT:Tb w:=⟨hT⟩;have Hw:∀(W:World) [Beh w W],Tb W:=fun W b=>⟨hT.below b.out⟩;have HX:DI w bd s a n cap e d:=⟨hx⟩;have N1:=hx.isN;have HN:=fun W [i:DI W bd s a n cap e d] [Tb W]=>Lib.hid (frF (zIF W i.out tb));have hB:=zAd N1;obtain⟨u,hu⟩:∃u:Int,u=((zBc d mode:Nat):Int):=⟨_,rfl⟩;rw[←hu];have hU:=Lib.hid hu;clear hx hu;go_enter Tryz.func120,Tryz.ntmps120;go_wp2_with fail;refine(HN _).out.mono ?_;rintro o w1 ⟨a1,c1,rfl,j1,b1,f1⟩;haveI g1:=FA.mk f1;clear HN
 cases d with
 | none=>
  obtain rfl:u=9221120237041090560:=by rw[hU.out];rfl
  clear hU;go_wp2_with fail;go_ret;exact⟨rfl,zbh⟩
 | some p=>
  obtain⟨m,E⟩:=p;have j1:BI w1 a1 (nl m.natAbs) c1 m.natAbs:=j1;have g1:FA _ a1 (nl m.natAbs):=g1;have hB:zA4 m.natAbs≤131072∧ -65536≤E∧E≤65536:=hB;have HG:=fun W b c [i:BI W b (nl m.natAbs) c m.natAbs] [Tb W]=>Lib.hid (frm (zCV W false (decide (m<0)) b _ c E (some (m,E)) (zAp (d:=some (m,E)) N1 i.out) tb));have HG:=fun W b c [i:BI W b (nl m.natAbs) c m.natAbs] [Tb W]=>Lib.hid (show Calls Tryz.prog 119 #[.agg #[.bool false,.bool (decide (m<0)),.slice b (nl m.natAbs) c,.int .i64 E]] W fun o w'=>o=.returned (.int .i64 (zAq m 0))∧From W w' from(HG W b c).out);have hu:u=((if m<0 then zK1 else if m=0 then 0 else zCg false (isq (m.natAbs*2^rsh m E 56)) ((E-rsh m E 56)/2) (decide (isq (m.natAbs*2^rsh m E 56)*isq (m.natAbs*2^rsh m E 56)≠m.natAbs*2^rsh m E 56)) mode:Nat):Int):=hU.out;clear N1 hU HX;rcases Int.lt_trichotomy m 0 with hz | hz | hz
  · obtain rfl:u=9221120237041090560:=(by rw[hu,if_pos hz];rfl);rw[show zAq m 0= -1 from zAS hz]at HG;clear hz hu hB;go_wp2_with fail;refine(HG _ _ _).out.mono ?_;rintro o w3 ⟨rfl,b3⟩;go_wp2_with fail;go_ret;exact⟨rfl,zbh⟩
  · obtain rfl:u=0:=(by rw[hu,if_neg j0,if_pos hz];rfl);rw[show zAq m 0=0 from zCf hz]at HG;clear hz hu hB;go_wp2_with fail;refine(HG _ _ _).out.mono ?_;rintro o w3 ⟨rfl,b3⟩;go_wp2_with fail;refine(HG _ _ _).out.mono ?_;rintro o w4 ⟨rfl,b4⟩;go_wp2_with fail;go_ret;exact⟨rfl,zbh⟩
  · rw[if_neg j0,if_neg j0]at hu;rw[show zAq m 0=1 from zAW hz]at HG;have hr1:=zQ5 m E 56 ja;have hr2:=zLX m E 56;have HO:=fun W b c [i:BI W b (nl m.natAbs) c m.natAbs]=>Lib.hid (zNv W false b c m E 56 i.out hB.1 hz j0 j0 hB.2.1 hB.2.2);have hM:0<m.natAbs*2^rsh m E 56:=Nat.mul_pos j0 (Nat.pow_pos ja);have hMb:zA4 (m.natAbs*2^rsh m E 56)≤200000:=(by rw[zAc j0];omega);have hX0:0<isq (m.natAbs*2^rsh m E 56):=by
     have:=zDD (m.natAbs*2^rsh m E 56);rcases Nat.eq_zero_or_pos (isq (m.natAbs*2^rsh m E 56))with h | h
     · rw[h]at this;omega
     · exact h
    have hXb:zA4 (isq (m.natAbs*2^rsh m E 56))≤500000:=by
     refine Nat.le_trans (zBC (y:=m.natAbs*2^rsh m E 56) ?_) j0;exact Nat.le_trans (Nat.le_mul_of_pos_left _ hX0) (zDE _)
    have hE: -500000≤(E-(rsh m E 56:Int))/2∧(E-(rsh m E 56:Int))/2≤500000:=j0;generalize (decide (isq (m.natAbs*2^rsh m E 56)*isq (m.natAbs*2^rsh m E 56)≠m.natAbs*2^rsh m E 56))=mo at *;generalize isq (m.natAbs*2^rsh m E 56)=X at *;generalize (E-(rsh m E 56:Int))/2=EE at *;have HR:=fun W b c (h:Mag W b (nl X) c X) [Tb W]=>Lib.hid (frm (zET W false mo b c X EE mode h hX0 hXb hE.1 hE.2 tb));rw[←hu]at HR;clear hB hz hr1 hr2 hu hM hMb hX0 hXb hE;go_wp2_with fail;refine(HG _ _ _).out.mono ?_;rintro o w3 ⟨rfl,b3⟩;go_wp2_with fail;refine(HG _ _ _).out.mono ?_;rintro o w4 ⟨rfl,b4⟩;go_wp2_with fail;refine(HO _ _ _).out.mono ?_;rintro o w5 ⟨a5,c5,rfl,m5,b5,f5⟩;haveI i5:From _ w5:=⟨b5⟩;go_wp2_with fail;refine(HR _ _ _ m5).out.mono ?_;rintro o w6 ⟨rfl,b6⟩;go_wp2_with fail;go_ret;exact⟨rfl,zbh⟩
end Go.Proofs.YtmbkgapknoammaaGreatDoor
set_option maxRecDepth 100000
set_option maxHeartbeats 2000000
namespace Go.Proofs.YtmbkgapknoammaaGreatDoor
open Go.RowKit Sp
theorem zT7:Tryz.prog.underlying 25 =some (.slice (Tryz.prog.elem 25)):=je
theorem zTf(w:World):(Go.sizeOf (Tryz.prog.elem 25)).run Tryz.prog w=.ok 1 w:=je
structure Fls(w:World)(a:Option Addr)(n cap:Nat)(L:Nat→Nat):Prop where
 fits:n≤cap
 lim:cap≤9223372036854775807
 addr:0<n→a=some ⟨ab a,ao a,none⟩
 cell:∀i,i<n→w.cell? ⟨ab a,ao a+i,none⟩=some (.int .u64 (L i:Nat))
 b:∀i,i<n→L i<18446744073709551616
 old:0<n→ab a<w.heap.size
theorem Fls.below{w w':World}{a:Option Addr}{n cap:Nat}{L:Nat→Nat}(h:Fls w a n cap L)(hb:Below w.heap.size w w'):Fls w' a n cap L:=
 ⟨h.fits,h.lim,h.addr,fun i hi=>jN,h.b,fun hn=>Nat.lt_of_lt_of_le (h.old hn) hb.size⟩
theorem Fls.idx{w:World}{a:Option Addr}{n cap:Nat}{L:Nat→Nat}(h:Fls w a n cap L)(i:Nat)(hi:i<n)(W:World):(Instr.indexAt 25 (.slice a n cap) (.int .i64 i)).run Tryz.prog W=.ok (.pointer (some ⟨ab a,ao a+i,none⟩)) W:=by
 have ha:=h.addr j0;generalize ab a=b at *;generalize ao a=o at *;subst ha;rw[run_indexAt_slice _ _ _ _ _ _ _ zT7,if_pos ⟨j0,j0⟩,zTf];simp only[Result.andThen,Int.toNat_natCast,Nat.mul_one,Addr.add_lit]
def zBI(L:Nat→Nat):Nat→Bool
 | 0=>true
 | k+1=>zBI L k&&zAA (L k)
theorem zDg(L:Nat→Nat)(n:Nat):zBI L n=true↔∀i,i<n→zAA (L i)=true:=by
 induction n with
 | zero=>simp[zBI]
 | succ n ih=>
  simp only[zBI,Bool.and_eq_true,ih];constructor
  · rintro⟨h,h'⟩ i hi
    by_cases hin:i<n
    · exact h i hin
    · obtain rfl:i=n:=j0;exact h'
  · intro h;exact⟨fun i hi=>h i j0,h n j0⟩
theorem zEe{L:Nat→Nat}{n i:Nat}(hi:i<n)(h:zAA (L i)=false):zBI L n=false:=by
 cases hc:zBI L n with
 | false=>rfl
 | true=>rw[(zDg L n).1 hc i hi]at h;cases h
theorem zId(w:World)(a:Option Addr)(n cap:Nat)(L:Nat→Nat)(hL:Fls w a n cap L):Calls Tryz.prog 135 #[.slice a n cap] w fun e w'=>e=.returned (.bool (zBI L n))∧w=w':=by
 have l1:=hL.lim;have l2:=hL.fits;have HL:=Lib.hid hL;clear hL;go_enter Tryz.func135,Tryz.ntmps135
 go_wp2
 go_loop [3] (fun i=>∃k:Nat,k≤n∧i=.int .i64 k∧zBI L k=true) (fun i=>n-(intOf i).toNat)
 case atStart=>exact⟨0,j0,rfl,rfl⟩
 case round=>
  obtain⟨k,hk,rfl,hz⟩:=hrel;have HZ:=Lib.hid hz;clear hz
  by_cases hlt:k<n
  · have c1:=HL.out.cell k hlt;have i1:=HL.out.idx k hlt;have HT:=fun W=>Lib.hid (zC3 W (L k));obtain⟨v,hv⟩:∃v,v=zAA (L k):=⟨_,rfl⟩;rw[←hv]at HT;have HV:=Lib.hid hv;clear hv
    cases v with
    | false=>
     go_wp2_with fail;(refine(HT _).out.mono ?_;rintro e w1 ⟨rfl,rfl⟩;go_wp2_with fail);go_ret;exact⟨by rw[zEe hlt HV.out.symm];rfl,rfl⟩
    | true=>
     go_wp2_with fail;(refine(HT _).out.mono ?_;rintro e w1 ⟨rfl,rfl⟩;go_wp2_with fail)
     go_round
     case rel=>exact⟨k+1,j0,jm,by show(zBI L k&&zAA (L k))=true;rw[HZ.out,←HV.out];rfl⟩
     case measure=>exact jb
  · obtain rfl:k=n:=by omega
    go_wp2
    go_ret;exact⟨by rw[HZ.out];rfl,rfl⟩
def zCm(d:Nat→Option (Int×Int))(A:Nat→Option Addr)(C:Nat→Nat)(i:Nat):Value×Value×Value×Value:=
 (.bool (zAj (d i)),.bool (decide (zA1 (d i)<0)),.slice (A i) (nl (zA1 (d i)).natAbs) (C i),.int .i64 (zA7 (d i)))
structure Dms(w:World)(base:Nat)(v:Value)(k:Nat)(d:Nat→Option (Int×Int))(A:Nat→Option Addr)(C:Nat→Nat):Prop where
 own:w.ownsRow base 53 4 v k (zAv (zCm d A C) k)
 m:∀i,i<k→Mag w (A i) (nl (zA1 (d i)).natAbs) (C i) (zA1 (d i)).natAbs
 ap:∀i,i<k→0<nl (zA1 (d i)).natAbs→some (ab (A i))≠v.ownBlock
theorem Dms.below{w w':World}{base:Nat}{v:Value}{k:Nat}{d:Nat→Option (Int×Int)}{A:Nat→Option Addr}{C:Nat→Nat}(h:Dms w base v k d A C)(hb:Below w.heap.size w w'):Dms w' base v k d A C:=
 ⟨zB4 h.own hb,fun i hi=>(h.m i hi).below hb,h.ap⟩
theorem Dms.app{w w':World}{base:Nat}{v v':Value}{k:Nat}{d:Nat→Option (Int×Int)}{A:Nat→Option Addr}{C:Nat→Nat}{a1:Option Addr}{c1:Nat}(h:Dms w base v k d A C)
 (ho:w'.ownsRow base 53 4 v' (k+1) (zAv (zCm d A C) k++ [.bool (zAj (d k)),.bool (decide (zA1 (d k)<0)),.slice a1 (nl (zA1 (d k)).natAbs) c1,.int .i64 (zA7 (d k))]))
 (hg:w.grownBy w' v.ownBlock) (hv:v'.ownBlock=v.ownBlock∨v'.ownBlock=some w.heap.size) (hm:Mag w a1 (nl (zA1 (d k)).natAbs) c1 (zA1 (d k)).natAbs) (hne:0<nl (zA1 (d k)).natAbs→some (ab a1)≠v.ownBlock) :
 Dms w' base v' (k+1) d (fun i=>if i=k then a1 else A i) (fun i=>if i=k then c1 else C i):=by
 have hap:∀(x:Option Addr) (n:Nat),(0<n→ab x<w.heap.size)→(0<n→some (ab x)≠v.ownBlock)→0<n→some (ab x)≠v'.ownBlock:=fun x n h1 h2 h3 h4=>by
  rcases hv with hv | hv
  · rw[hv]at h4;exact h2 h3 h4
  · rw[hv]at h4;injection h4 with h4;have:=h1 h3;omega
 refine⟨?_,fun i hi=>?_,fun i hi=>?_⟩
 · have e1:zAv (zCm d (fun i=>if i=k then a1 else A i) (fun i=>if i=k then c1 else C i)) k=zAv (zCm d A C) k:=zBA fun i hi=>by
    unfold zCm;simp only[if_neg (show ¬i=k by omega)]
   simp only[zAv];rw[e1];unfold zCm;simp only[if_pos];exact ho
 · by_cases hk:i=k
   · subst hk;simp only[if_pos];exact zBW hm hg hne
   · simp only[if_neg hk];exact zBW (h.m i j0) hg (h.ap i j0)
 · by_cases hk:i=k
   · exact Xr
   · simp only[if_neg hk];exact hap _ _ (h.m i j0).old (h.ap i j0)
theorem Dms.dys{w:World}{base:Nat}{v:Value}{k:Nat}{d:Nat→Option (Int×Int)}{A:Nat→Option Addr}{C:Nat→Nat}(h:Dms w base v k d A C)(hd:∀i,IsN (d i)):∃a cap,v=.slice a k cap∧Dys w a k cap (fun i=>⟨zAj (d i),decide (zA1 (d i)<0),A i,nl (zA1 (d i)).natAbs,C i,zA7 (d i),(zA1 (d i)).natAbs⟩):=by
 have hbd:∀i,i<k→ -9223372036854775808≤zA7 (d i)∧zA7 (d i)≤9223372036854775807:=fun i _=>by have:=zAd (hd i);omega
 rcases h.own.2 with⟨hv,hk⟩ | ⟨g,cap,cur,hv,hbg,hgg,hkc,hcm,hcs,htake⟩
 · subst hk;exact⟨none,0,hv,⟨j0,j0,j0,fun i hi=>j0,fun i hi=>j0,fun i hi=>j0,fun i hi=>j0,fun i hi=>j0,fun i hi=>j0,j0⟩⟩
 · have ho:=h.own;rw[hv]at ho;have hc:∀j,j<k*4→w.cell? ⟨g,j,none⟩=(zAv (zCm d A C) k)[j]? :=fun j hj=>ho.cellAt j hj;refine⟨some ⟨g,0,none⟩,cap,hv,hkc,Q7,fun _=>rfl,fun i hi=>?_,fun i hi=>?_,fun i hi=>?_,fun i hi=>?_,h.m,hbd,fun _=>(Array.getElem?_eq_some_iff.1 hgg).1⟩
   · rw[zAF,zB8,Nat.zero_add,hc _ j0];exact(zAY _ hi).1
   · rw[zAF,zB8,Nat.zero_add,hc _ j0];exact(zAY _ hi).2.1
   · rw[zAF,zB8,Nat.zero_add,hc _ j0];exact(zAY _ hi).2.2.1
   · rw[zAF,zB8,Nat.zero_add,hc _ j0];exact(zAY _ hi).2.2.2
theorem zTm{d:Nat→Option (Int×Int)}{A:Nat→Option Addr}{C:Nat→Nat}(hd:∀i,IsN (d i))(n:Nat):zDS (fun i=>(El.mk (zAj (d i)) (decide (zA1 (d i)<0)) (A i) (nl (zA1 (d i)).natAbs) (C i) (zA7 (d i)) (zA1 (d i)).natAbs).d) n=zDS d n:=by
 congr 1
 funext i
 show zMy (zAj (d i)) (sgn (decide (zA1 (d i)<0)) (zA1 (d i)).natAbs) (zA7 (d i))=d i;rw[zAk];exact zJM (hd i)
theorem zA3{w:World}{base:Nat}{e:TypeId}{size:Nat}{v:Value}{n:Nat}{xs:List Value}(h:w.ownsRow base e size v n xs):∃a c,v=.slice a n c:=by
 rcases h.2 with⟨rfl,rfl⟩ | ⟨g,cap,cur,rfl,_⟩
 · exact⟨none,0,rfl⟩
 · exact⟨_,_,rfl⟩
theorem zG9{ops:Array Oper}{o:Oper}{a:Act}{K:Act→World→Prop}{Q:Exit→Act→World→Prop}{w:World}{E:Prop}(hgd:o.guard=none)(s x:Operand)
 (ho:o.op=.call { callee:=.builtin .append,args:=#[s,x],argTypes:=#[44,44] }) (base:Nat) (v:Value) (n:Nat) (xs:List Value) (hs:a.eval s=v) (g:Nat) (b0 s0:Bool) (sl:Value) (f0:Int) (hsl:sl.oneCell'=true)
 (hx:a.eval x=.slice (some ⟨g,0,none⟩) 1 1) (hown:w.ownsRow base 53 4 v n xs) (k0:w.cell? ⟨g,0,none⟩=some (.bool b0)) (k1:w.cell? ⟨g,1,none⟩=some (.bool s0)) (k2:w.cell? ⟨g,2,none⟩=some sl) (k3:w.cell? ⟨g,3,none⟩=some (.int .i64 f0)) (hn:n≤1048576)
 (hbase:base≤w.heap.size) (h:∀g' cap' w',w'.ownsRow base 53 4 (.slice (some ⟨g',0,none⟩) (n+1) cap') (n+1) (xs++ [.bool b0,.bool s0,sl,.int .i64 f0])→w.grownBy w' v.ownBlock→((Value.slice (some ⟨g',0,none⟩) (n+1) cap').ownBlock=v.ownBlock∨(Value.slice (some ⟨g',0,none⟩) (n+1) cap').ownBlock=some w.heap.size)→K (a.put o.dst (.slice (some ⟨g',0,none⟩) (n+1) cap')) w') :
 if Region.wanted o (yielded ops a.tmps)=true then Oper.wp Tryz.prog o a w K Q else E:=by
 obtain⟨i0,hi,hz0,hz1,hz2⟩:=info_parts zTC;refine step_append_lies w hgd s x _ ho base _ i0 _ 4 48 zT8 hi hz0 hz1 hz2 rfl ja v n xs hs hown ⟨g,0,none⟩ 1 1 [.bool b0,.bool s0,sl,.int .i64 f0] hx rfl ?_ ?_ ja jJ j0 hbase _ rfl (fun g' cap' w' h1 h2 h3 _=>h g' cap' w' h1 h2 ?_)
 · intro j u hu;rw[Addr.add_lit,Nat.zero_add];rcases j with _ | _ | _ | _ | j
   · simp at hu;subst hu;exact k0
   · simp at hu;subst hu;exact k1
   · simp at hu;subst hu;exact k2
   · simp at hu;subst hu;exact k3
   · simp at hu
 · intro u hu;simp only[List.mem_cons,List.not_mem_nil,or_false]at hu;rcases hu with rfl | rfl | rfl | rfl
   · exact jA
   · exact jA
   · exact hsl
   · exact jA
 · have e:(Value.slice (some ⟨g',0,none⟩) (n+1) cap').ownBlock=some g':=rfl;rw[e];rcases h3 with h3 | h3
   · exact Or.inl h3.symm
   · exact Or.inr (by rw[h3])
end Go.Proofs.YtmbkgapknoammaaGreatDoor
set_option maxRecDepth 100000
namespace Go.Proofs.YtmbkgapknoammaaGreatDoor
open Go.ChangeShapes Go.WideShapes Go.ChangeAt Go.RowKit Sp
theorem zSR:Tryz.prog.cellsOf 36 =1:=je
theorem zMa:Tryz.prog.readableRec 22 =true:=je
theorem zOD:22 <Tryz.prog.types.size:=of_decide_eq_true je
theorem zKo{H:Type}{enc:TypeId×Value→H}{W:World}{base:Nat}{sp:Nat→Bool}{hd:Bool}{r:Reach}{b0:Nat}{v:Value}{d:DataW H}{p:List MemPlace}(hsp:∀b,sp b=true)
 (hv:Value.okWide Tryz.prog W r b0 22 v) (h:DataW.Trod enc Tryz.prog W base sp hd 22 v d p) :
 ∃(a:Option Addr) (n cap:Nat) (L:Nat→Nat),v=.slice a n cap∧Fls W a n cap L:=by
 obtain⟨a0,n0,c0,rfl⟩:=okWide_slice Tryz.underlying22 hv;obtain⟨fuel,hf⟩:=h;rcases open_ints Tryz.underlying22 Tryz.underlying36 zSR hf with⟨hcs,_⟩ | ⟨a,len,cap,ns,hcs,_,hle,hmax,hl,_,hall,hns⟩
 · simp[Value.cells]at hcs;obtain⟨rfl,rfl,rfl⟩:=hcs;exact⟨none,0,0,fun _=>0,rfl,⟨j0,j0,j0,fun i hi=>j0,fun i hi=>j0,j0⟩⟩
 · simp[Value.cells]at hcs;obtain⟨rfl,rfl,rfl⟩:=hcs;rw[hsp,if_pos rfl]at hl;have hb:∀i,i<ns.length→0≤ns.getD i 0∧ns.getD i 0≤18446744073709551615:=fun i hi=>by
    have h1:ns.getD i 0=ns[i]:=(by rw[List.getD_eq_getElem?_getD,List.getElem?_eq_getElem hi];rfl);rw[h1];exact bounds_u64 (hns _ (List.getElem_mem hi))
   have hspot:0<n0→a.spot=none:=fun h0=>by
    obtain⟨_,_,_,_,hs⟩:=World.shape?_of_cell? (hall 0 j0);exact hs
   obtain⟨b,o,q⟩:=a;refine⟨_,_,_,fun i=>(ns.getD i 0).toNat,rfl,⟨hle,by unfold maxLen at hmax;omega,fun h0=>?_,fun i hi=>?_,fun i hi=>?_,fun h0=>?_⟩⟩
   · have hq:q=none:=hspot h0;subst hq;rfl
   · have hq:q=none:=hspot j0;subst hq;have h1:=hall i j0;have h2:=hb i j0;rw[show(((ns.getD i 0).toNat:Nat):Int)=ns.getD i 0 by omega];rw[Addr.add_lit]at h1;exact h1
   · have h2:=hb i j0;show(ns.getD i 0).toNat<18446744073709551616;omega
   · exact zDn (hall 0 j0)
end Go.Proofs.YtmbkgapknoammaaGreatDoor
set_option maxRecDepth 100000
namespace Go.Proofs.YtmbkgapknoammaaGreatDoor
open Go.ChangeShapes Go.WideShapes Go.ChangeAt Go.RowKit Sp
structure Bls(w:World)(a:Option Addr)(n cap:Nat)(f:Nat→Bool):Prop where
 fits:n≤cap
 lim:cap≤9223372036854775807
 addr:0<n→a=some ⟨ab a,ao a,none⟩
 cell:∀i,i<n→w.cell? ⟨ab a,ao a+i,none⟩=some (.bool (f i))
 old:0<n→ab a<w.heap.size
class BZ(W:World)(a:Option Addr)(n c:Nat)(f:outParam (Nat→Bool)):Prop where out:Bls W a n c f
section
variable {W W':World}{a:Option Addr}{n c:Nat}{f:Nat→Bool}
theorem Bls.below(h:Bls W a n c f)(hb:Below W.heap.size W W'):Bls W' a n c f:=
 ⟨h.fits,h.lim,h.addr,fun i hi=>jN,fun hn=>Nat.lt_of_lt_of_le (h.old hn) hb.size⟩
instance BZ.dr[h:BZ W a n c f]:BZ W.drew a n c f:=⟨h.out.below (Below.refl _ _).drew⟩
instance BZ.dn(q:Nat)[h:BZ W a n c f]:BZ (W.drewN q) a n c f:=⟨h.out.below (below_drewN (Below.refl _ _) _)⟩
instance BZ.al(o:Obj)[h:BZ W a n c f]:BZ (W.alloc o) a n c f:=⟨h.out.below ((Below.refl _ _).alloc (Nat.le_refl _) _)⟩
instance BZ.fr(L:World)[k:From L W][h:BZ L a n c f]:BZ W a n c f:=⟨h.out.below k.out⟩
end
theorem zT9:Tryz.prog.underlying 23 =some (.slice (Tryz.prog.elem 23)):=je
theorem zTg(w:World):(Go.sizeOf (Tryz.prog.elem 23)).run Tryz.prog w=.ok 1 w:=je
theorem Bls.idx{w:World}{a:Option Addr}{n cap:Nat}{f:Nat→Bool}(h:Bls w a n cap f)(i:Nat)(hi:i<n)(W:World):(Instr.indexAt 23 (.slice a n cap) (.int .i64 i)).run Tryz.prog W=.ok (.pointer (some ⟨ab a,ao a+i,none⟩)) W:=by
 have ha:=h.addr j0;generalize ab a=b at *;generalize ao a=o at *;subst ha;rw[run_indexAt_slice _ _ _ _ _ _ _ zT9,if_pos ⟨j0,j0⟩,zTg];simp only[Result.andThen,Int.toNat_natCast,Nat.mul_one,Addr.add_lit]
theorem zRD:Tryz.prog.cellsOf 4 =1:=je
theorem zMb:Tryz.prog.readableRec 23 =true:=je
theorem zOF:23 <Tryz.prog.types.size:=of_decide_eq_true je
theorem zLo{H:Type}{enc:TypeId×Value→H}{W:World}{base:Nat}{sp:Nat→Bool}{hd:Bool}{r:Reach}{b0:Nat}{v:Value}{d:DataW H}{p:List MemPlace}(hsp:∀b,sp b=true)
 (hv:Value.okWide Tryz.prog W r b0 23 v) (h:DataW.Trod enc Tryz.prog W base sp hd 23 v d p) :
 ∃(a:Option Addr) (n cap:Nat) (f:Nat→Bool),v=.slice a n cap∧Bls W a n cap f:=by
 obtain rfl:sp=fun _=>true:=funext hsp;obtain⟨a0,n0,c0,rfl⟩:=okWide_slice Tryz.underlying23 hv;obtain⟨fuel,hf⟩:=h;rcases Go.Deep.open_bools Tryz.underlying23 Tryz.underlying4 zRD hf with⟨hcs,_⟩ | ⟨a,len,cap,B,hcs,_,hle,hmax,_,hall⟩
 · simp[Value.cells]at hcs;obtain⟨rfl,rfl,rfl⟩:=hcs;exact⟨none,0,0,fun _=>false,rfl,⟨j0,j0,j0,fun i hi=>j0,j0⟩⟩
 · simp[Value.cells]at hcs;obtain⟨rfl,rfl,rfl⟩:=hcs;have hspot:0<n0→a.spot=none:=fun h0=>by
    obtain⟨_,_,_,_,hs⟩:=World.shape?_of_cell? (hall 0 j0);exact hs
   obtain⟨b,o,q⟩:=a;refine⟨_,_,_,B,rfl,⟨hle,by unfold maxLen at hmax;omega,fun h0=>?_,fun i hi=>?_,fun h0=>?_⟩⟩
   · have hq:q=none:=hspot h0;subst hq;rfl
   · have hq:q=none:=hspot j0;subst hq;have h1:=hall i j0;rw[Addr.add_lit]at h1;exact h1
   · exact zDn (hall 0 j0)
end Go.Proofs.YtmbkgapknoammaaGreatDoor
namespace Go.Proofs.YtmbkgapknoammaaGreatDoor
open Go.RowKit Sp
theorem zT2:(Tryz.prog.info? 37).map (fun i=>(i.zero,i.size,i.bytes))=some (some (.int .u64 0),1,8):=je
theorem zOj:Tryz.prog.underlying 25 =some (.slice 37):=je
def zBh(L:Nat→Nat):Nat→List Value
 | 0=> []
 | k+1=>zBh L k++ [.int .u64 (L k:Nat)]
theorem zCU(L:Nat→Nat)(k:Nat):(zBh L k).length=k:=by
 induction k with
 | zero=>rfl
 | succ n ih=>simp[zBh,ih]
theorem zNl(L:Nat→Nat){k i:Nat}(h:i<k):(zBh L k)[i]? =some (.int .u64 (L i:Nat)):=by
 induction k with
 | zero=>omega
 | succ n ih=>
  show(zBh L n++ [.int .u64 (L n:Nat)])[i]? =_
  by_cases hi:i<n
  · rw[List.getElem?_append_left (by rw[zCU];exact hi)];exact ih hi
  · obtain rfl:i=n:=j0;rw[List.getElem?_append_right (by rw[zCU];omega),zCU,Nat.sub_self];rfl
theorem zDZ{w:World}{base:Nat}{v:Value}{k:Nat}{L:Nat→Nat}(h:w.ownsRow base 37 1 v k (zBh L k))(hb:∀i,i<k→L i<18446744073709551616):∃a cap,v=.slice a k cap∧Fls w a k cap L:=by
 rcases h.2 with⟨hv,hk⟩ | ⟨g,cap,cur,hv,hbg,hgg,hkc,hcm,hcs,htake⟩
 · subst hk;exact⟨none,0,hv,⟨j0,j0,j0,fun i hi=>j0,fun i hi=>j0,j0⟩⟩
 · have ho:=h;rw[hv]at ho;have hc:∀j,j<k→w.cell? ⟨g,j,none⟩=(zBh L k)[j]? :=fun j hj=>ho.cellAt j j0;refine⟨some ⟨g,0,none⟩,cap,hv,hkc,Q7,fun _=>rfl,fun i hi=>?_,hb,fun _=>(Array.getElem?_eq_some_iff.1 hgg).1⟩;rw[zAF,zB8,Nat.zero_add,hc _ j0];exact zNl L hi
end Go.Proofs.YtmbkgapknoammaaGreatDoor

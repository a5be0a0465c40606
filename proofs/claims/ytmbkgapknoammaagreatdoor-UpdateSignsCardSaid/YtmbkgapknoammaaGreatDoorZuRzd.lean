/-
  Walks: the reference's integers: DivMod of numbers that are not negative.
-/
import Derived.Test.YtmbkgapknoammaaGreatDoorZuRz
import Derived.Test.YtmbkgapknoammaaGreatDoorZuRa
import Derived.Deep.LoopGhost
set_option maxRecDepth 100000
set_option maxHeartbeats 20000000
namespace Go.Proofs.YtmbkgapknoammaaGreatDoor
open Go.RowKit Sp
def zKl(w:World)(q r:Int)(e:Ending)(w':World):Prop:=
 ∃a c a' c',e=.returned (.tuple #[.agg #[.bool (decide (q<0)),.slice a (nl q.natAbs) c],.agg #[.bool (decide (r<0)),.slice a' (nl r.natAbs) c']])∧Mag w' a (nl q.natAbs) c q.natAbs∧Mag w' a' (nl r.natAbs) c' r.natAbs∧Below w.heap.size w w'∧(0<nl q.natAbs→w.heap.size≤ab a)∧(0<nl r.natAbs→w.heap.size≤ab a')
theorem zEW(w:World)(a a':Option Addr)(cap cap' X Y:Nat)(hx:Mag w a (nl X) cap X)(hy:Mag w a' (nl Y) cap' Y)(hl:nl X≤549755813887)(hl':nl Y≤549755813887)(hy0:0<Y):Calls Tryz.prog 168 #[.agg #[.bool false,.slice a (nl X) cap],.agg #[.bool false,.slice a' (nl Y) cap']] w (zKl w ((X/Y:Nat):Int) ((X%Y:Nat):Int)):=by
 have hN1:=fun W h=>zBo W false a (nl X) cap X h j0;have hN2:=fun W h=>zBo W false a' (nl Y) cap' Y h j0;obtain⟨x,hx1⟩:∃x:Int,x=(X:Int):=⟨_,rfl⟩;obtain⟨y,hy1⟩:∃y:Int,y=(Y:Int):=⟨_,rfl⟩;rw[show sgn false X=x from hx1.symm]at hN1;rw[show sgn false Y=y from hy1.symm]at hN2;have hxa:x.natAbs=X:=j0
 have hya:y.natAbs=Y:=j0
 have hxd:decide (x<0)=false:=jq
 have hyd:decide (y<0)=false:=jq
 rw[←hxa]at hx hN1 hl;rw[←hya]at hy hN2 hl' hy0;have HN1:=fun W h=>Lib.hid (hN1 W h);have HN2:=fun W h=>Lib.hid (hN2 W h);have HD:=fun W b c b' c' (h:Mag W b (nl x.natAbs) c x.natAbs) (h':Mag W b' (nl y.natAbs) c' y.natAbs)=>Lib.hid (zMe W b b' (nl y.natAbs) (nl x.natAbs) c c' x.natAbs y.natAbs h h' rfl rfl hl hy0);rw[←hxa,←hya];have hqb:nl (x.natAbs/y.natAbs)≤549755813888:=Nat.le_trans (zAN (Nat.div_le_self _ _)) j0;have hrb:nl (x.natAbs%y.natAbs)≤549755813888:=Nat.le_trans (zAN (Nat.mod_le _ _)) j0;generalize x.natAbs/y.natAbs=Q at HD hqb ⊢;generalize x.natAbs%y.natAbs=R at HD hrb ⊢;have HM1:=fun W b c h=>Lib.hid (zAG W false b (nl Q) c Q h j0);have HM2:=fun W b c h=>Lib.hid (zAG W false b (nl R) c R h j0);obtain⟨q,hq⟩:∃q:Int,q=(Q:Int):=⟨_,rfl⟩;obtain⟨r,hr⟩:∃r:Int,r=(R:Int):=⟨_,rfl⟩;rw[show sgn false Q=q from hq.symm]at HM1;rw[show sgn false R=r from hr.symm]at HM2;have hra:r.natAbs=R:=j0
 have HS:=fun W b c h=>Lib.hid (zEj W b c r _ rfl h (by rw[hra];exact hrb));obtain⟨g,hg⟩:∃g,g=sg r:=⟨_,rfl⟩;rw[←hg]at HS;have hg0:decide (g<0)=false:=by rw[hg];unfold sg zAq;simp;(try split) <;> (try split) <;> omega
 rw[←hq,←hr];clear hg hq hr hra hqb hrb hN1 hN2 hx1 hy1 hxa hya hl hl' hy0;go_enter Tryz.func168,Tryz.ntmps168;go_wp2_with fail;have Ia:=((((BgV.made' w 51 false (.slice a (nl x.natAbs) cap) (n:=w.heap.size) jA).alloc (.cells #[.bool false,(.slice a' (nl y.natAbs) cap')] 51)).alloc (.cells #[.bool false,(.slice none 0 0)] 51)).alloc (.cells #[.bool false,(.slice none 0 0)] 51));have Ib:=(((BgV.made' (w.alloc (.cells #[.bool false,(.slice a (nl x.natAbs) cap)] 51)) 51 false (.slice a' (nl y.natAbs) cap') (n:=w.heap.size+1) Kr).alloc (.cells #[.bool false,(.slice none 0 0)] 51)).alloc (.cells #[.bool false,(.slice none 0 0)] 51));have Is:=((BgV.made' ((w.alloc (.cells #[.bool false,(.slice a (nl x.natAbs) cap)] 51)).alloc (.cells #[.bool false,(.slice a' (nl y.natAbs) cap')] 51)) 51 false (.slice none 0 0) (n:=w.heap.size+1+1) Qd).alloc (.cells #[.bool false,(.slice none 0 0)] 51));have It:=(BgV.made' (((w.alloc (.cells #[.bool false,(.slice a (nl x.natAbs) cap)] 51)).alloc (.cells #[.bool false,(.slice a' (nl y.natAbs) cap')] 51)).alloc (.cells #[.bool false,(.slice none 0 0)] 51)) 51 false (.slice none 0 0) (n:=w.heap.size+1+1+1) (by rw[World.size_alloc,World.size_alloc,World.size_alloc]));have B0:Below w.heap.size w ((((w.alloc (.cells #[.bool false,(.slice a (nl x.natAbs) cap)] 51)).alloc (.cells #[.bool false,(.slice a' (nl y.natAbs) cap')] 51)).alloc (.cells #[.bool false,(.slice none 0 0)] 51)).alloc (.cells #[.bool false,(.slice none 0 0)] 51)):=zbh;have nab:¬w.heap.size=w.heap.size+1:=j0
 have nas:¬w.heap.size=w.heap.size+1+1:=j0
 have nat:¬w.heap.size=w.heap.size+1+1+1:=j0
 have nba:¬w.heap.size+1=w.heap.size:=j0
 have nbs:¬w.heap.size+1=w.heap.size+1+1:=j0
 have nbt:¬w.heap.size+1=w.heap.size+1+1+1:=j0
 have nsa:¬w.heap.size+1+1=w.heap.size:=j0
 have nsb:¬w.heap.size+1+1=w.heap.size+1:=j0
 have nst:¬w.heap.size+1+1=w.heap.size+1+1+1:=j0
 have nta:¬w.heap.size+1+1+1=w.heap.size:=j0
 have ntb:¬w.heap.size+1+1+1=w.heap.size+1:=j0
 have nts:¬w.heap.size+1+1+1=w.heap.size+1+1:=j0
 generalize ((((w.alloc (.cells #[.bool false,(.slice a (nl x.natAbs) cap)] 51)).alloc (.cells #[.bool false,(.slice a' (nl y.natAbs) cap')] 51)).alloc (.cells #[.bool false,(.slice none 0 0)] 51)).alloc (.cells #[.bool false,(.slice none 0 0)] 51))=w0 at Ia Ib Is It B0 ⊢;generalize hb3:w.heap.size+1+1+1=b3 at It nab nas nat nba nbs nbt nsa nsb nst nta ntb nts ⊢;generalize hb2:w.heap.size+1+1=b2 at Is nab nas nat nba nbs nbt nsa nsb nst nta ntb nts hb3 ⊢;generalize hb1:w.heap.size+1=b1 at Ib nab nas nat nba nbs nbt nsa nsb nst nta ntb nts hb2 ⊢;generalize hb0:w.heap.size=b0 at Ia nab nas nat nba nbs nbt nsa nsb nst nta ntb nts hb1 ⊢;obtain⟨ac0,ac1,ac2,ac3⟩:=Ia;have Va0:=Lib.hid (BgV.mk ac0 ac1 ac2 ac3);obtain⟨bc0,bc1,bc2,bc3⟩:=Ib;have Vb0:=Lib.hid (BgV.mk bc0 bc1 bc2 bc3);obtain⟨sc0,sc1,sc2,sc3⟩:=Is;have Vs0:=Lib.hid (BgV.mk sc0 sc1 sc2 sc3);obtain⟨tc0,tc1,tc2,tc3⟩:=It;have Vt0:=Lib.hid (BgV.mk tc0 tc1 tc2 tc3)
 first
 | go_region_with
  (first
   | (go_at_call 87;have xx:=B1;refine(HN2 _ (hy.below (have:=Beh.mk B1;zbh))).out.mono ?_;rintro e w2 ⟨a2,c2,rfl,M22,hb2,hf2⟩;have Va2:BgV w2 b0 false (.slice a (nl x.natAbs) cap):=(Va1.out.on.below hb2);(try clear ac0 ac1 ac2);obtain⟨ac0,ac1,ac2,ac3⟩:=Va2;have Va2:=Lib.hid (BgV.mk ac0 ac1 ac2 ac3);have Vb2:BgV w2 b1 false (.slice a' (nl y.natAbs) cap'):=(Vb1.out.on.below hb2);(try clear bc0 bc1 bc2);obtain⟨bc0,bc1,bc2,bc3⟩:=Vb2;have Vb2:=Lib.hid (BgV.mk bc0 bc1 bc2 bc3);have Vs2:BgV w2 b2 false (.slice none 0 0):=(Vs1.out.on.below hb2);(try clear sc0 sc1 sc2);obtain⟨sc0,sc1,sc2,sc3⟩:=Vs2;have Vs2:=Lib.hid (BgV.mk sc0 sc1 sc2 sc3);have Vt2:BgV w2 b3 false (.slice none 0 0):=(Vt1.out.on.below hb2);(try clear tc0 tc1 tc2);obtain⟨tc0,tc1,tc2,tc3⟩:=Vt2;have Vt2:=Lib.hid (BgV.mk tc0 tc1 tc2 tc3);have M12:Mag w2 a1 (nl x.natAbs) c1 x.natAbs:=Mag.below M11.on hb2;have B2:=zA0 (w:=w) (have:=Beh.mk B1;zbh) hb2;have hF2:0<(nl y.natAbs)→w1.heap.size≤ab a2:=(fun h=>Ko);have fr2a:0<(nl y.natAbs)→ab a2≠b0:=(fun h=>by have:=hF2 h;have:=Va1.out.lt;omega);have fr2b:0<(nl y.natAbs)→ab a2≠b1:=(fun h=>by have:=hF2 h;have:=Vb1.out.lt;omega);have fr2s:0<(nl y.natAbs)→ab a2≠b2:=(fun h=>by have:=hF2 h;have:=Vs1.out.lt;omega);have fr2t:0<(nl y.natAbs)→ab a2≠b3:=(fun h=>by have:=hF2 h;have:=Vt1.out.lt;omega);have fo2:0<(nl y.natAbs)→w.heap.size≤ab a2:=(fun h=>KC);clear hF2;clear hb2 hf2)
   | (go_at_call 87;refine(HN1 _ (hx.below (have:=Beh.mk B0;zbh))).out.mono ?_;rintro e w1 ⟨a1,c1,rfl,M11,hb1,hf1⟩;have Va1:BgV w1 b0 false (.slice a (nl x.natAbs) cap):=(Va0.out.on.below hb1);(try clear ac0 ac1 ac2);obtain⟨ac0,ac1,ac2,ac3⟩:=Va1;have Va1:=Lib.hid (BgV.mk ac0 ac1 ac2 ac3);have Vb1:BgV w1 b1 false (.slice a' (nl y.natAbs) cap'):=(Vb0.out.on.below hb1);(try clear bc0 bc1 bc2);obtain⟨bc0,bc1,bc2,bc3⟩:=Vb1;have Vb1:=Lib.hid (BgV.mk bc0 bc1 bc2 bc3);have Vs1:BgV w1 b2 false (.slice none 0 0):=(Vs0.out.on.below hb1);(try clear sc0 sc1 sc2);obtain⟨sc0,sc1,sc2,sc3⟩:=Vs1;have Vs1:=Lib.hid (BgV.mk sc0 sc1 sc2 sc3);have Vt1:BgV w1 b3 false (.slice none 0 0):=(Vt0.out.on.below hb1);(try clear tc0 tc1 tc2);obtain⟨tc0,tc1,tc2,tc3⟩:=Vt1;have Vt1:=Lib.hid (BgV.mk tc0 tc1 tc2 tc3);have B1:=zA0 (w:=w) (have:=Beh.mk B0;zbh) hb1;have hF1:0<(nl x.natAbs)→w0.heap.size≤ab a1:=(fun h=>jT);have fr1a:0<(nl x.natAbs)→ab a1≠b0:=(fun h=>by have:=hF1 h;have:=Va0.out.lt;omega);have fr1b:0<(nl x.natAbs)→ab a1≠b1:=(fun h=>by have:=hF1 h;have:=Vb0.out.lt;omega);have fr1s:0<(nl x.natAbs)→ab a1≠b2:=(fun h=>by have:=hF1 h;have:=Vs0.out.lt;omega);have fr1t:0<(nl x.natAbs)→ab a1≠b3:=(fun h=>by have:=hF1 h;have:=Vt0.out.lt;omega);have fo1:0<(nl x.natAbs)→w.heap.size≤ab a1:=(fun h=>K0);clear hF1;clear hb1 hf1)
   | fail)
 | fail "region"
 all_goals(
  go_wp2_with fail;have Va3:=BgV.put Va2.out false (.slice a1 (nl x.natAbs) c1);have Vb3:=(BgV.set (BgV.set Vb2.out nba 0 (.bool false)) nba 1 (.slice a1 (nl x.natAbs) c1));have Vs3:=(BgV.set (BgV.set Vs2.out nsa 0 (.bool false)) nsa 1 (.slice a1 (nl x.natAbs) c1));have Vt3:=(BgV.set (BgV.set Vt2.out nta 0 (.bool false)) nta 1 (.slice a1 (nl x.natAbs) c1));have M13:=(Mag.set (Mag.set M12 fr1a 0 (.bool false)) fr1a 1 (.slice a1 (nl x.natAbs) c1));have M23:=(Mag.set (Mag.set M22 fr2a 0 (.bool false)) fr2a 1 (.slice a1 (nl x.natAbs) c1));have B3:Below w.heap.size w ((w2.setCell ⟨b0,0,none⟩ (.bool false)).setCell ⟨b0,1,none⟩ (.slice a1 (nl x.natAbs) c1)):=jv;generalize ((w2.setCell ⟨b0,0,none⟩ (.bool false)).setCell ⟨b0,1,none⟩ (.slice a1 (nl x.natAbs) c1))=w3 at Va3 Vb3 Vs3 Vt3 M13 M23 B3 ⊢;(try clear ac0 ac1 ac2);obtain⟨ac0,ac1,ac2,ac3⟩:=Va3;have Va3:=Lib.hid (BgV.mk ac0 ac1 ac2 ac3);(try clear bc0 bc1 bc2);obtain⟨bc0,bc1,bc2,bc3⟩:=Vb3;have Vb3:=Lib.hid (BgV.mk bc0 bc1 bc2 bc3);(try clear sc0 sc1 sc2);obtain⟨sc0,sc1,sc2,sc3⟩:=Vs3;have Vs3:=Lib.hid (BgV.mk sc0 sc1 sc2 sc3);(try clear tc0 tc1 tc2);obtain⟨tc0,tc1,tc2,tc3⟩:=Vt3;have Vt3:=Lib.hid (BgV.mk tc0 tc1 tc2 tc3);have Vb4:=BgV.put Vb3.out false (.slice a2 (nl y.natAbs) c2);have Va4:=(BgV.set (BgV.set Va3.out nab 0 (.bool false)) nab 1 (.slice a2 (nl y.natAbs) c2));have Vs4:=(BgV.set (BgV.set Vs3.out nsb 0 (.bool false)) nsb 1 (.slice a2 (nl y.natAbs) c2));have Vt4:=(BgV.set (BgV.set Vt3.out ntb 0 (.bool false)) ntb 1 (.slice a2 (nl y.natAbs) c2));have M14:=(Mag.set (Mag.set M13 fr1b 0 (.bool false)) fr1b 1 (.slice a2 (nl y.natAbs) c2));have M24:=(Mag.set (Mag.set M23 fr2b 0 (.bool false)) fr2b 1 (.slice a2 (nl y.natAbs) c2));have B4:Below w.heap.size w ((w3.setCell ⟨b1,0,none⟩ (.bool false)).setCell ⟨b1,1,none⟩ (.slice a2 (nl y.natAbs) c2)):=(by have hszw:=(B3).size;repeat(with_reducible first | refine Below.setCell ?_ j8 _ | refine Below.alloc ?_ j8 _ | refine Below.drew ?_ | refine below_drewN ?_ _ | exact B3));generalize ((w3.setCell ⟨b1,0,none⟩ (.bool false)).setCell ⟨b1,1,none⟩ (.slice a2 (nl y.natAbs) c2))=w4 at Vb4 Va4 Vs4 Vt4 M14 M24 B4 ⊢;(try clear ac0 ac1 ac2);obtain⟨ac0,ac1,ac2,ac3⟩:=Va4;have Va4:=Lib.hid (BgV.mk ac0 ac1 ac2 ac3);(try clear bc0 bc1 bc2);obtain⟨bc0,bc1,bc2,bc3⟩:=Vb4;have Vb4:=Lib.hid (BgV.mk bc0 bc1 bc2 bc3);(try clear sc0 sc1 sc2);obtain⟨sc0,sc1,sc2,sc3⟩:=Vs4;have Vs4:=Lib.hid (BgV.mk sc0 sc1 sc2 sc3);(try clear tc0 tc1 tc2);obtain⟨tc0,tc1,tc2,tc3⟩:=Vt4;have Vt4:=Lib.hid (BgV.mk tc0 tc1 tc2 tc3);refine(HD _ a1 c1 a2 c2 M14.on M24.on).out.mono ?_;rintro e w5 ⟨ap,cp,au,cu,rfl,Mp5,Mu5,hb5⟩;have Va5:BgV w5 b0 false (.slice a1 (nl x.natAbs) c1):=(Va4.out.on.below hb5);(try clear ac0 ac1 ac2);obtain⟨ac0,ac1,ac2,ac3⟩:=Va5;have Va5:=Lib.hid (BgV.mk ac0 ac1 ac2 ac3);have Vb5:BgV w5 b1 false (.slice a2 (nl y.natAbs) c2):=(Vb4.out.on.below hb5);(try clear bc0 bc1 bc2);obtain⟨bc0,bc1,bc2,bc3⟩:=Vb5;have Vb5:=Lib.hid (BgV.mk bc0 bc1 bc2 bc3);have Vs5:BgV w5 b2 false (.slice none 0 0):=(Vs4.out.on.below hb5);(try clear sc0 sc1 sc2);obtain⟨sc0,sc1,sc2,sc3⟩:=Vs5;have Vs5:=Lib.hid (BgV.mk sc0 sc1 sc2 sc3);have Vt5:BgV w5 b3 false (.slice none 0 0):=(Vt4.out.on.below hb5);(try clear tc0 tc1 tc2);obtain⟨tc0,tc1,tc2,tc3⟩:=Vt5;have Vt5:=Lib.hid (BgV.mk tc0 tc1 tc2 tc3);have B5:=zA0 (w:=w) (have:=Beh.mk B4;zbh) hb5;clear hb5;go_wp2_with fail
  go_cut [8,9] (fun ptq ptm wx=>∃zq aq cq zm am cm,ptq=.pointer (some ⟨zq,0,none⟩)∧ptm=.pointer (some ⟨zm,0,none⟩)∧Below w5.heap.size w5 wx∧w5.heap.size≤zq∧(0<(nl q.natAbs)→w5.heap.size≤ab aq)∧w5.heap.size≤zm∧(0<(nl r.natAbs)→w5.heap.size≤ab am)∧¬zq=zm∧BgV wx zq (decide (q<0)) (.slice aq (nl q.natAbs) cq)∧Mag wx aq (nl q.natAbs) cq q.natAbs∧BgV wx zm (decide (r<0)) (.slice am (nl r.natAbs) cm)∧Mag wx am (nl r.natAbs) cm r.natAbs)
  case first=>
   have hBz5:Below w5.heap.size w5 w5:=Below.refl _ _
   go_region_held3 (fun w'=>w'.cell? ⟨b0,0,none⟩=some (.bool false)∧w'.cell? ⟨b0,1,none⟩=some ((.slice a1 (nl x.natAbs) c1))∧w'.cell? ⟨b1,0,none⟩=some (.bool false)∧w'.cell? ⟨b1,1,none⟩=some ((.slice a2 (nl y.natAbs) c2))∧w'.cell? ⟨b2,0,none⟩=some (.bool false)∧w'.cell? ⟨b2,1,none⟩=some ((.slice none 0 0))∧w'.cell? ⟨b3,0,none⟩=some (.bool false)∧w'.cell? ⟨b3,1,none⟩=some ((.slice none 0 0))) (first | (go_keep;done) | (go_simp;done))
    (first
     | (go_at_call 92;have xx:=B6;refine(HM2 _ au cu Mu6.on).out.mono ?_;rintro e w7 ⟨am,cm,rfl,Mm7,hb7,hf7⟩;have hs7:=hb7.size;(try simp at hs7 hf7);have o7:=Mm7.old;have Va7:BgV w7 b0 false (.slice a1 (nl x.natAbs) c1):=(Va6.out.on.below hb7);(try clear ac0 ac1 ac2);obtain⟨ac0,ac1,ac2,ac3⟩:=Va7;have Va7:=Lib.hid (BgV.mk ac0 ac1 ac2 ac3);have Vb7:BgV w7 b1 false (.slice a2 (nl y.natAbs) c2):=(Vb6.out.on.below hb7);(try clear bc0 bc1 bc2);obtain⟨bc0,bc1,bc2,bc3⟩:=Vb7;have Vb7:=Lib.hid (BgV.mk bc0 bc1 bc2 bc3);have Vs7:BgV w7 b2 false (.slice none 0 0):=(Vs6.out.on.below hb7);(try clear sc0 sc1 sc2);obtain⟨sc0,sc1,sc2,sc3⟩:=Vs7;have Vs7:=Lib.hid (BgV.mk sc0 sc1 sc2 sc3);have Vt7:BgV w7 b3 false (.slice none 0 0):=(Vt6.out.on.below hb7);(try clear tc0 tc1 tc2);obtain⟨tc0,tc1,tc2,tc3⟩:=Vt7;have Vt7:=Lib.hid (BgV.mk tc0 tc1 tc2 tc3);have Mq7:Mag w7 aq (nl q.natAbs) cq q.natAbs:=Mag.below Mq6.on hb7;have Mp7:Mag w7 ap (nl Q) cp Q:=Mag.below Mp6.on hb7;have Mu7:Mag w7 au (nl R) cu R:=Mag.below Mu6.on hb7;have B7:=zA0 (w:=w) (have:=Beh.mk B6;zbh) hb7;have hBz7:Below w5.heap.size w5 w7:=Below.trans (by have hszw:=(hBz6).size;repeat(with_reducible first | refine Below.setCell ?_ j8 _ | refine Below.alloc ?_ j8 _ | refine Below.drew ?_ | refine below_drewN ?_ _ | exact hBz6)) (hb7.mono QF);have hsz7:=hBz7.size;(try(have F0x0B:BgV w7 (w5.heap.size) false (.slice none 0 0):=(by first | (refine BgV.below ?_ hb7;(repeat(first | exact F0x0B.out | (refine BgV.made' _ _ _ _ ?_;first | rfl | (simp;done)) | with_reducible refine BgV.drew ?_ | with_reducible refine BgV.alloc ?_ _));done) | fail);obtain⟨F0x0Bc0,F0x0Bc1,F0x0Bc2,F0x0Bc3⟩:=F0x0B;have F0x0B:=Lib.hid (BgV.mk F0x0Bc0 F0x0Bc1 F0x0Bc2 F0x0Bc3)));(try(have F0x1B:BgV w7 (w5.heap.size+1) false (.slice none 0 0):=(by first | (refine BgV.below ?_ hb7;(repeat(first | exact F0x1B.out | (refine BgV.made' _ _ _ _ ?_;first | rfl | (simp;done)) | with_reducible refine BgV.drew ?_ | with_reducible refine BgV.alloc ?_ _));done) | fail);obtain⟨F0x1Bc0,F0x1Bc1,F0x1Bc2,F0x1Bc3⟩:=F0x1B;have F0x1B:=Lib.hid (BgV.mk F0x1Bc0 F0x1Bc1 F0x1Bc2 F0x1Bc3)));(try(have F1x0B:BgV w7 (w6.heap.size) false (.slice none 0 0):=(by first | (refine BgV.below ?_ hb7;(repeat(first | exact F1x0B.out | (refine BgV.made' _ _ _ _ ?_;first | rfl | (simp;done)) | with_reducible refine BgV.drew ?_ | with_reducible refine BgV.alloc ?_ _));done) | fail);obtain⟨F1x0Bc0,F1x0Bc1,F1x0Bc2,F1x0Bc3⟩:=F1x0B;have F1x0B:=Lib.hid (BgV.mk F1x0Bc0 F1x0Bc1 F1x0Bc2 F1x0Bc3)));(try(have F1x1B:BgV w7 (w6.heap.size+1) false (.slice none 0 0):=(by first | (refine BgV.below ?_ hb7;(repeat(first | exact F1x1B.out | (refine BgV.made' _ _ _ _ ?_;first | rfl | (simp;done)) | with_reducible refine BgV.drew ?_ | with_reducible refine BgV.alloc ?_ _));done) | fail);obtain⟨F1x1Bc0,F1x1Bc1,F1x1Bc2,F1x1Bc3⟩:=F1x1B;have F1x1B:=Lib.hid (BgV.mk F1x1Bc0 F1x1Bc1 F1x1Bc2 F1x1Bc3))))
     | (go_at_call 92;have xx:=B5;refine(HM1 _ ap cp Mp5.on).out.mono ?_;rintro e w6 ⟨aq,cq,rfl,Mq6,hb6,hf6⟩;have hs6:=hb6.size;(try simp at hs6 hf6);have o6:=Mq6.old;have Va6:BgV w6 b0 false (.slice a1 (nl x.natAbs) c1):=(Va5.out.on.below hb6);(try clear ac0 ac1 ac2);obtain⟨ac0,ac1,ac2,ac3⟩:=Va6;have Va6:=Lib.hid (BgV.mk ac0 ac1 ac2 ac3);have Vb6:BgV w6 b1 false (.slice a2 (nl y.natAbs) c2):=(Vb5.out.on.below hb6);(try clear bc0 bc1 bc2);obtain⟨bc0,bc1,bc2,bc3⟩:=Vb6;have Vb6:=Lib.hid (BgV.mk bc0 bc1 bc2 bc3);have Vs6:BgV w6 b2 false (.slice none 0 0):=(Vs5.out.on.below hb6);(try clear sc0 sc1 sc2);obtain⟨sc0,sc1,sc2,sc3⟩:=Vs6;have Vs6:=Lib.hid (BgV.mk sc0 sc1 sc2 sc3);have Vt6:BgV w6 b3 false (.slice none 0 0):=(Vt5.out.on.below hb6);(try clear tc0 tc1 tc2);obtain⟨tc0,tc1,tc2,tc3⟩:=Vt6;have Vt6:=Lib.hid (BgV.mk tc0 tc1 tc2 tc3);have Mp6:Mag w6 ap (nl Q) cp Q:=Mag.below Mp5.on hb6;have Mu6:Mag w6 au (nl R) cu R:=Mag.below Mu5.on hb6;have B6:=zA0 (w:=w) (have:=Beh.mk B5;zbh) hb6;have hBz6:Below w5.heap.size w5 w6:=Below.trans (by have hszw:=(hBz5).size;repeat(with_reducible first | refine Below.setCell ?_ j8 _ | refine Below.alloc ?_ j8 _ | refine Below.drew ?_ | refine below_drewN ?_ _ | exact hBz5)) (hb6.mono QF);have hsz6:=hBz6.size;(try(have F0x0B:BgV w6 (w5.heap.size) false (.slice none 0 0):=(by first | (refine BgV.below ?_ hb6;(repeat(first | exact F0x0B.out | (refine BgV.made' _ _ _ _ ?_;first | rfl | (simp;done)) | with_reducible refine BgV.drew ?_ | with_reducible refine BgV.alloc ?_ _));done) | fail);obtain⟨F0x0Bc0,F0x0Bc1,F0x0Bc2,F0x0Bc3⟩:=F0x0B;have F0x0B:=Lib.hid (BgV.mk F0x0Bc0 F0x0Bc1 F0x0Bc2 F0x0Bc3)));(try(have F0x1B:BgV w6 (w5.heap.size+1) false (.slice none 0 0):=(by first | (refine BgV.below ?_ hb6;(repeat(first | exact F0x1B.out | (refine BgV.made' _ _ _ _ ?_;first | rfl | (simp;done)) | with_reducible refine BgV.drew ?_ | with_reducible refine BgV.alloc ?_ _));done) | fail);obtain⟨F0x1Bc0,F0x1Bc1,F0x1Bc2,F0x1Bc3⟩:=F0x1B;have F0x1B:=Lib.hid (BgV.mk F0x1Bc0 F0x1Bc1 F0x1Bc2 F0x1Bc3))))
     | fail)
   all_goals as_aux_lemma=>(
    (try have ne0x1:¬w5.heap.size=w5.heap.size+1:=by omega);(try have me0x1:¬w5.heap.size+1=w5.heap.size:=by omega);(try have ne0x2:¬w5.heap.size=w6.heap.size:=by omega);(try have me0x2:¬w6.heap.size=w5.heap.size:=by omega);(try have ne0x3:¬w5.heap.size=w6.heap.size+1:=by omega);(try have me0x3:¬w6.heap.size+1=w5.heap.size:=by omega);(try have ne0x4:¬w5.heap.size=w7.heap.size:=by omega);(try have me0x4:¬w7.heap.size=w5.heap.size:=by omega);(try have ne0x5:¬w5.heap.size=w7.heap.size+1:=by omega);(try have me0x5:¬w7.heap.size+1=w5.heap.size:=by omega);(try have ne1x2:¬w5.heap.size+1=w6.heap.size:=by omega);(try have me1x2:¬w6.heap.size=w5.heap.size+1:=by omega);(try have ne1x3:¬w5.heap.size+1=w6.heap.size+1:=by omega);(try have me1x3:¬w6.heap.size+1=w5.heap.size+1:=by omega);(try have ne1x4:¬w5.heap.size+1=w7.heap.size:=by omega);(try have me1x4:¬w7.heap.size=w5.heap.size+1:=by omega);(try have ne1x5:¬w5.heap.size+1=w7.heap.size+1:=by omega);(try have me1x5:¬w7.heap.size+1=w5.heap.size+1:=by omega);(try have ne2x3:¬w6.heap.size=w6.heap.size+1:=by omega);(try have me2x3:¬w6.heap.size+1=w6.heap.size:=by omega);(try have ne2x4:¬w6.heap.size=w7.heap.size:=by omega);(try have me2x4:¬w7.heap.size=w6.heap.size:=by omega);(try have ne2x5:¬w6.heap.size=w7.heap.size+1:=by omega);(try have me2x5:¬w7.heap.size+1=w6.heap.size:=by omega);(try have ne3x4:¬w6.heap.size+1=w7.heap.size:=by omega);(try have me3x4:¬w7.heap.size=w6.heap.size+1:=by omega);(try have ne3x5:¬w6.heap.size+1=w7.heap.size+1:=by omega);(try have me3x5:¬w7.heap.size+1=w6.heap.size+1:=by omega);(try have ne4x5:¬w7.heap.size=w7.heap.size+1:=by omega);(try have me4x5:¬w7.heap.size+1=w7.heap.size:=by omega);go_wp2_with fail
    go_meet
    refine⟨_,aq,cq,_,am,cm,rfl,rfl,?_,?_,?_,?_,?_,?_,⟨?_,?_,?_,?_⟩,?_,⟨?_,?_,?_,?_⟩,?_⟩
    · exact(by have hszw:=(hBz7).size;repeat(with_reducible first | refine Below.setCell ?_ j8 _ | refine Below.alloc ?_ j8 _ | refine Below.drew ?_ | refine below_drewN ?_ _ | exact hBz7))
    · first | (simp;done) | omega | (simp <;> omega)
    · exact fun h=>by have:=hf6 h;have:=hBz5.size;omega
    · first | (simp;done) | omega | (simp <;> omega)
    · exact fun h=>by have:=hf7 h;have:=hBz6.size;omega
    · first | (simp;done) | omega | (simp <;> omega)
    · exact jj
    · exact jj
    · intro i;go_simp
    · first | (simp;done) | omega | (simp <;> omega)
    · repeat(with_reducible first | refine Mag.set ?_ (fun h=>by have:=hf6 h;have:=o6 h;first | omega | (simp;omega)) _ _ | refine Mag.drew ?_ | refine Mag.alloc ?_ _ | exact Mq7)
    · exact jj
    · exact jj
    · intro i;go_simp
    · first | (simp;done) | omega | (simp <;> omega)
    · repeat(with_reducible first | refine Mag.set ?_ (fun h=>by have:=hf7 h;have:=o7 h;first | omega | (simp;omega)) _ _ | refine Mag.drew ?_ | refine Mag.alloc ?_ _ | exact Mm7))
  case rest=>
  obtain⟨w6,hww⟩:∃w6,w6=wc:=⟨_,rfl⟩;subst hww;obtain⟨zq,aq,cq,zm,am,cm,rfl,rfl,hbz,lzq,lfq,lzm,lfm,nqm,Vq6,Mq6,Vm6,Mm6⟩:=hcut;have nmq:¬zm=zq:=fun h=>nqm h.symm;have naq:¬b0=zq:=QE
  have nqa:¬zq=b0:=QE
  have frqa:0<(nl q.natAbs)→ab aq≠b0:=fun h=>by have:=lfq h;have:=Va5.out.lt;omega
  have nbq:¬b1=zq:=QD
  have nqb:¬zq=b1:=QD
  have frqb:0<(nl q.natAbs)→ab aq≠b1:=fun h=>by have:=lfq h;have:=Vb5.out.lt;omega
  have nsq:¬b2=zq:=QC
  have nqs:¬zq=b2:=QC
  have frqs:0<(nl q.natAbs)→ab aq≠b2:=fun h=>by have:=lfq h;have:=Vs5.out.lt;omega
  have ntq:¬b3=zq:=QB
  have nqt:¬zq=b3:=QB
  have frqt:0<(nl q.natAbs)→ab aq≠b3:=fun h=>by have:=lfq h;have:=Vt5.out.lt;omega
  have foq:0<(nl q.natAbs)→w.heap.size≤ab aq:=fun h=>by have:=lfq h;have:=B5.size;omega
  have frpq:0<(nl Q)→ab ap≠zq:=fun h=>by have:=Mp5.old h;omega
  have fruq:0<(nl R)→ab au≠zq:=fun h=>by have:=Mu5.old h;omega
  have nam:¬b0=zm:=QE
  have nma:¬zm=b0:=QE
  have frma:0<(nl r.natAbs)→ab am≠b0:=fun h=>by have:=lfm h;have:=Va5.out.lt;omega
  have nbm:¬b1=zm:=QD
  have nmb:¬zm=b1:=QD
  have frmb:0<(nl r.natAbs)→ab am≠b1:=fun h=>by have:=lfm h;have:=Vb5.out.lt;omega
  have nsm:¬b2=zm:=QC
  have nms:¬zm=b2:=QC
  have frms:0<(nl r.natAbs)→ab am≠b2:=fun h=>by have:=lfm h;have:=Vs5.out.lt;omega
  have ntm:¬b3=zm:=QB
  have nmt:¬zm=b3:=QB
  have frmt:0<(nl r.natAbs)→ab am≠b3:=fun h=>by have:=lfm h;have:=Vt5.out.lt;omega
  have fom:0<(nl r.natAbs)→w.heap.size≤ab am:=fun h=>by have:=lfm h;have:=B5.size;omega
  have frpm:0<(nl Q)→ab ap≠zm:=fun h=>by have:=Mp5.old h;omega
  have frum:0<(nl R)→ab au≠zm:=fun h=>by have:=Mu5.old h;omega
  have Va6:BgV w6 b0 false (.slice a1 (nl x.natAbs) c1):=Va5.out.below hbz;have Vb6:BgV w6 b1 false (.slice a2 (nl y.natAbs) c2):=Vb5.out.below hbz;have Vs6:BgV w6 b2 false (.slice none 0 0):=Vs5.out.below hbz;have Vt6:BgV w6 b3 false (.slice none 0 0):=Vt5.out.below hbz;have Mp6:=Mp5.below hbz;have Mu6:=Mu5.below hbz;have B6:=zA0 (w:=w) B5 hbz;clear hbz;(try clear ac0 ac1 ac2);obtain⟨ac0,ac1,ac2,ac3⟩:=Va6;have Va6:=Lib.hid (BgV.mk ac0 ac1 ac2 ac3);(try clear bc0 bc1 bc2);obtain⟨bc0,bc1,bc2,bc3⟩:=Vb6;have Vb6:=Lib.hid (BgV.mk bc0 bc1 bc2 bc3);(try clear sc0 sc1 sc2);obtain⟨sc0,sc1,sc2,sc3⟩:=Vs6;have Vs6:=Lib.hid (BgV.mk sc0 sc1 sc2 sc3);(try clear tc0 tc1 tc2);obtain⟨tc0,tc1,tc2,tc3⟩:=Vt6;have Vt6:=Lib.hid (BgV.mk tc0 tc1 tc2 tc3);(try clear qc0 qc1 qc2);obtain⟨qc0,qc1,qc2,qc3⟩:=Vq6;have Vq6:=Lib.hid (BgV.mk qc0 qc1 qc2 qc3);(try clear mc0 mc1 mc2);obtain⟨mc0,mc1,mc2,mc3⟩:=Vm6;have Vm6:=Lib.hid (BgV.mk mc0 mc1 mc2 mc3);go_wp2_with fail;refine(HS _ am cm Mm6.on).out.mono ?_;rintro e w7 ⟨rfl,hb7⟩;have Va7:BgV w7 b0 false (.slice a1 (nl x.natAbs) c1):=(Va6.out.on.below hb7);(try clear ac0 ac1 ac2);obtain⟨ac0,ac1,ac2,ac3⟩:=Va7;have Va7:=Lib.hid (BgV.mk ac0 ac1 ac2 ac3);have Vb7:BgV w7 b1 false (.slice a2 (nl y.natAbs) c2):=(Vb6.out.on.below hb7);(try clear bc0 bc1 bc2);obtain⟨bc0,bc1,bc2,bc3⟩:=Vb7;have Vb7:=Lib.hid (BgV.mk bc0 bc1 bc2 bc3);have Vs7:BgV w7 b2 false (.slice none 0 0):=(Vs6.out.on.below hb7);(try clear sc0 sc1 sc2);obtain⟨sc0,sc1,sc2,sc3⟩:=Vs7;have Vs7:=Lib.hid (BgV.mk sc0 sc1 sc2 sc3);have Vt7:BgV w7 b3 false (.slice none 0 0):=(Vt6.out.on.below hb7);(try clear tc0 tc1 tc2);obtain⟨tc0,tc1,tc2,tc3⟩:=Vt7;have Vt7:=Lib.hid (BgV.mk tc0 tc1 tc2 tc3);have Vq7:BgV w7 zq (decide (q<0)) (.slice aq (nl q.natAbs) cq):=(Vq6.out.on.below hb7);(try clear qc0 qc1 qc2);obtain⟨qc0,qc1,qc2,qc3⟩:=Vq7;have Vq7:=Lib.hid (BgV.mk qc0 qc1 qc2 qc3);have Vm7:BgV w7 zm (decide (r<0)) (.slice am (nl r.natAbs) cm):=(Vm6.out.on.below hb7);(try clear mc0 mc1 mc2);obtain⟨mc0,mc1,mc2,mc3⟩:=Vm7;have Vm7:=Lib.hid (BgV.mk mc0 mc1 mc2 mc3);have Mp7:Mag w7 ap (nl Q) cp Q:=Mag.below Mp6.on hb7;have Mu7:Mag w7 au (nl R) cu R:=Mag.below Mu6.on hb7;have Mq7:Mag w7 aq (nl q.natAbs) cq q.natAbs:=Mag.below Mq6.on hb7;have Mm7:Mag w7 am (nl r.natAbs) cm r.natAbs:=Mag.below Mm6.on hb7;have B7:=zA0 (w:=w) (have:=Beh.mk B6;zbh) hb7;clear hb7;go_wp2_with fail
  first
  | go_big_region
  | fail "region"
  all_goals(
   go_wp2_with fail;refine zAf (v:=.tuple #[.agg #[.bool (decide (q<0)),.slice aq (nl q.natAbs) cq],.agg #[.bool (decide (r<0)),.slice am (nl r.natAbs) cm]]) (by simp only[results,Tryz.results168];go_simp) rfl ?_;exact⟨aq,cq,am,cm,rfl,(by repeat(with_reducible first | refine Mag.set ?_ frqa _ _ | refine Mag.set ?_ frqb _ _ | refine Mag.set ?_ frqs _ _ | refine Mag.set ?_ frqt _ _ | refine Mag.set ?_ frqq _ _ | refine Mag.set ?_ frqm _ _ | refine Mag.drew ?_ | refine Mag.drewN ?_ _ | refine Mag.alloc ?_ _ | exact Mq7)),(by repeat(with_reducible first | refine Mag.set ?_ frma _ _ | refine Mag.set ?_ frmb _ _ | refine Mag.set ?_ frms _ _ | refine Mag.set ?_ frmt _ _ | refine Mag.set ?_ frmq _ _ | refine Mag.set ?_ frmm _ _ | refine Mag.drew ?_ | refine Mag.drewN ?_ _ | refine Mag.alloc ?_ _ | exact Mm7)),(by have hszw:=(B7).size;repeat(with_reducible first | refine Below.setCell ?_ j8 _ | refine Below.alloc ?_ j8 _ | refine Below.drew ?_ | refine below_drewN ?_ _ | exact B7)),foq,fom⟩))
end Go.Proofs.YtmbkgapknoammaaGreatDoor
set_option maxRecDepth 100000
set_option maxHeartbeats 20000000
namespace Go.Proofs.YtmbkgapknoammaaGreatDoor
open Go.RowKit Sp
attribute [local irreducible] Calls
theorem zSG{P:Program}{f:FuncId}{args:Array Value}{W:World}{q r:Nat}(h:Calls P f args W (zKl W (q:Int) (r:Int))):Calls P f args W fun e w'=>∃a c a' c',e=.returned (.tuple #[.agg #[.bool false,.slice a (nl q) c],.agg #[.bool false,.slice a' (nl r) c']])∧BI w' a (nl q) c q∧BI w' a' (nl r) c' r∧From W w'∧(0<nl q→W.heap.size≤ab a)∧(0<nl r→W.heap.size≤ab a'):=by
 refine h.mono fun _ _ h=>?_;obtain⟨a,c,a',c',he,hm,hm',hb,hf,hf'⟩:=h;rw[Int.natAbs_natCast]at hm hf;rw[Int.natAbs_natCast]at hm' hf';refine⟨a,c,a',c',?_,⟨hm⟩,⟨hm'⟩,⟨hb⟩,hf,hf'⟩;rw[he,Int.natAbs_natCast,Int.natAbs_natCast,decide_eq_false (show ¬(q:Int)<0 by omega),decide_eq_false (show ¬(r:Int)<0 by omega)]
theorem zKy{A r k:Nat}(h1:r*r≤A)(hk:k=(zA4 A+1)/2):r≤2^k:=by
 have h2:=zAz A;rcases Nat.lt_or_ge (2^k) r with h | h
 · exfalso;have h3:2^k*2^k<r*r:=Nat.mul_lt_mul'' h h;rw[←Nat.pow_add]at h3;have h4:2^zA4 A≤2^(k+k):=Nat.pow_le_pow_right ja j0;omega
 · exact h
theorem zQL{w w':World}{X:Nat}{a:Option Addr}{c:Nat}(hm:Mag w' a (nl X) c X)(hb:Below w.heap.size w w')(hf:0<nl X→w.heap.size≤ab a):zAl w (X:Int) (.returned (.agg #[.bool false,.slice a (nl X) c])) w':=by
 refine⟨a,c,?_,?_,hb,?_⟩
 · rw[Int.natAbs_natCast,decide_eq_false (show ¬(X:Int)<0 by omega)]
 · rw[Int.natAbs_natCast];exact hm
 · rw[Int.natAbs_natCast];exact hf
theorem zRB{m n:Int} :0≤zAq m n↔n≤m:=K3
theorem zLU(w:World)(a:Option Addr)(cap A r:Nat)(hx:Mag w a (nl A) cap A)(hA:zA4 A≤524288)(h1:r*r≤A)(h2:A<(r+1)*(r+1)):Calls Tryz.prog 167 #[.agg #[.bool false,.slice a (nl A) cap]] w (zAl w (r:Int)):=by
 have HM:BI w a (nl A) cap A:=⟨hx⟩;have hlA:nl A≤549755813887:=Nat.le_trans (zAh _) j0;have HG:=fun W [i:BI W a (nl A) cap A]=>Lib.hid (frm (zCi W false a (nl A) cap A i.out j0));obtain⟨g,hg⟩:∃g,g=sg (sgn false A):=⟨_,rfl⟩;rw[←hg]at HG
 by_cases hA0:A=0
 · have hr:r=0:=by
    rcases Nat.eq_zero_or_pos r with h | h
    · exact h
    · have:=Nat.mul_le_mul h h;omega
   have hg0:g=0:=(by rw[hg,hA0];rfl);subst hg0;rw[hr];clear hg hr h1 h2 hA0;go_enter Tryz.func167,Tryz.ntmps167;go_wp2_with fail;refine(HG _).out.mono ?_;rintro e w1 ⟨rfl,b1⟩;go_wp2_with fail;refine bodyPost_ret (v:=.agg #[.bool false,.slice none 0 0]) (by simp only[results,Tryz.results167];go_simp) rfl ?_;exact⟨none,0,rfl,Mag.nil _,zbh,nl0⟩
 · have hg0:(g==0)=false:=(by rw[hg,beq_eq_false_iff_ne];unfold sg zAq sgn;simp;omega);have hg1:¬g=0:=(by simpa using hg0);have HL:=fun W [i:BI W a (nl A) cap A]=>Lib.hid (frm (zBu W false a (nl A) cap A i.out j0));obtain⟨k,hk⟩:∃k:Nat,k=(zA4 A+1)/2:=⟨_,rfl⟩;have hst:=zKy h1 hk;obtain⟨l,hl⟩:∃l,l=zA4 A:=⟨_,rfl⟩;rw[←hl]at HL hA hk;have hkI:((l:Int)+1)/2=(k:Int):=j0;have hkT:Int.tdiv ((l:Int)+1) 2=(k:Int):=(by rw[Int.tdiv_eq_ediv_of_nonneg j0];exact hkI);have hw1:IntKind.i64.wrap ((l:Int)+1)=l+1:=jg;have hw2:IntKind.i64.wrap (k:Int)=k:=jg;have hw3:IntKind.i64.wrap ((IntKind.i64.wrap ((l:Int)+1)).tdiv 2)=k:=(by rw[hw1,hkT,hw2]);obtain⟨o,ho⟩:∃o:Nat,o=1:=⟨_,rfl⟩;have HO:∀W,Hid (Calls Tryz.prog 114 #[.int .i64 1] W fun e w'=>∃a c,e=.returned (.agg #[.bool false,.slice a (nl o) c])∧BI w' a (nl o) c o∧From W w'∧(0<nl o→W.heap.size≤ab a)):=fun W=>by
    rw[ho];exact Lib.hid (zOe (zCN W 1 j0 j0))
   obtain⟨X0,hX0⟩:∃X0:Nat,X0=2^k:=⟨_,rfl⟩;have HS:∀W b c [BI W b (nl o) c o],Hid (Calls Tryz.prog 86 #[.agg #[.bool false,.slice b (nl o) c],.int .i64 k] W fun e w'=>∃a c,e=.returned (.agg #[.bool false,.slice a (nl X0) c])∧BI w' a (nl X0) c X0∧From W w'∧(0<nl X0→W.heap.size≤ab a)):=fun W b c i=>by
    have:=zCj W false b (nl o) c o k i.out (by rw[ho];decide) j0;rw[show sgn false o*2^k=(X0:Int)by rw[ho,hX0];simp[sgn]]at this;exact Lib.hid (zOe this)
   have hXl:nl (X0+A)≤549755813887:=by
    have e1:zA4 (2^k)=k+1:=(by have:=zAc (x:=1) j0 k;rw[Nat.one_mul]at this;rw[this,show zA4 1=1 from rfl];omega);have e2:=zFt X0 A;rw[hX0]at e2 ⊢;exact Nat.le_trans (zAh _) j0
   rw[←hX0]at hst;have hXp:0<X0:=(by rw[hX0];exact Nat.pow_pos ja);have hx1:nl X0≤nl (X0+A):=zAN j0;have HD:∀(X:Nat),0<X→X≤X0→∀W b c [BI W a (nl A) cap A] [BI W b (nl X) c X],Hid (Calls Tryz.prog 168 #[.agg #[.bool false,.slice a (nl A) cap],.agg #[.bool false,.slice b (nl X) c]] W _):=fun X hX hX1 W b c i j=>
    Lib.hid (zSG (zEW W a b cap c A X i.out j.out j0 (Nat.le_trans (zAN (show X≤X0+A by omega)) hXl) hX))
   have HA:∀(X q:Nat),X≤X0→q≤A→∀W b c b' c' [BI W b (nl X) c X] [BI W b' (nl q) c' q],Hid (Calls Tryz.prog 55 #[.agg #[.bool false,.slice b (nl X) c],.agg #[.bool false,.slice b' (nl q) c']] W fun e w'=>∃a c,e=.returned (.agg #[.bool false,.slice a (nl (X+q)) c])∧BI w' a (nl (X+q)) c (X+q)∧From W w'∧(0<nl (X+q)→W.heap.size≤ab a)):=fun X q h h' W b c b' c' i j=>by
    have:=zEx W false false b b' _ _ c c' X q i.out j.out (Nat.le_trans (zAN (show X≤X0+A by omega)) j0) (Nat.le_trans (zAN (show q≤X0+A by omega)) j0);rw[show sgn false X+sgn false q=((X+q:Nat):Int)by simp[sgn]]at this;exact Lib.hid (zOe this)
   have HH:∀(s:Nat),s≤X0+A→∀W b c [BI W b (nl s) c s],Hid (Calls Tryz.prog 86 #[.agg #[.bool false,.slice b (nl s) c],.int .i64 (-1)] W fun e w'=>∃a c,e=.returned (.agg #[.bool false,.slice a (nl (s/2)) c])∧BI w' a (nl (s/2)) c (s/2)∧From W w'∧(0<nl (s/2)→W.heap.size≤ab a)):=fun s h W b c i=>by
    have:=zHd W b (nl s) c s 1 (-1) i.out (Nat.le_trans (zAN h) j0) j0 j0 j0;rw[Nat.pow_one]at this;exact Lib.hid (zOe this)
   have HC:∀(y X:Nat),y≤X0+A→X≤X0→∀W b c b' c' [BI W b (nl y) c y] [BI W b' (nl X) c' X],Hid (Calls Tryz.prog 97 #[.agg #[.bool false,.slice b (nl y) c],.agg #[.bool false,.slice b' (nl X) c']] W fun e w'=>e=.returned (.int .i64 (zAq (y:Int) (X:Int)))∧From W w'):=fun y X h h' W b c b' c' i j=>by
    have:=zJh W false false b b' _ _ c c' y X i.out j.out (Nat.le_trans (zAN h) j0) (Nat.le_trans (zAN (show X≤X0+A by omega)) j0);exact Lib.hid (frm this)
   have hr0:0<r:=by
    rcases Nat.eq_zero_or_pos r with h | h
    · rw[h]at h2;omega
    · exact h
   have H1:=Lib.hid h1;have H2:=Lib.hid h2;clear hg hk hl ho hX0 h1 h2 hkI hx1;go_enter Tryz.func167,Tryz.ntmps167;go_wp2_with fail;refine(HG _).out.mono ?_;rintro e w1 ⟨rfl,b1⟩
   go_upto_region 3 with fail
   go_cut [3] (fun pt wx=>∃zx ax cx,pt=.pointer (some ⟨zx,0,none⟩)∧BB wx zx false (.slice ax (nl X0) cx)∧BI wx ax (nl X0) cx X0∧From w1 wx∧w1.heap.size≤zx∧(0<nl X0→w1.heap.size≤ab ax∧ab ax≠zx))
   case first=>
    obtain⟨p1,q1⟩:=zL3 w1 w.heap.size
    first
    | go_region_held3 (fun w'=>w'.cell? ⟨w.heap.size,0,none⟩=some (.bool false)∧w'.cell? ⟨w.heap.size,1,none⟩=some (.slice a (nl A) cap)) (first | (go_simp;done))
     (first
      | (go_at_call 114;refine(HO _).out.mono ?_;rintro e w2 ⟨a2,c2,rfl,i2,b2,f2⟩;obtain⟨p2,q2⟩:=zL3 w2 w.heap.size)
      | (go_at_call 90;refine(HL _).out.mono ?_;rintro e w3 ⟨rfl,b3⟩;obtain⟨p3,q3⟩:=zL3 w3 w.heap.size)
      | (go_at_call 86;refine(HS _ _ _).out.mono ?_;rintro e w4 ⟨a4,c4,rfl,i4,b4,f4⟩;obtain⟨p4,q4⟩:=zL3 w4 w.heap.size)
      | fail)
    | fail "region"
    all_goals(
     go_wp2_with fail
     go_meet
     exact⟨_,a4,c4,rfl,(by first | exact inferInstance | exact BB.pt2 inferInstance _ _),⟨by repeat(first | exact i4.out.on | exact i4.out | refine Mag.set ?_ (zF5 f4) _ _)⟩,⟨zbh⟩,Abv.out,fun h=>⟨zC6 b4 f4 h,by first | exact zF5 f4 h | exact Nat.ne_of_lt (i4.out.old h)⟩⟩)
   case rest=>
   obtain⟨zx,ax,cx,rfl,V0,i0,b2,hzx,hax⟩:=hcut;generalize wc=v1 at *;clear HO HS HL hw1 hw2 hw3 hkT;haveI hAb:Abv w1 zx:=⟨hzx⟩;have hz0:w.heap.size+2≤w1.heap.size:=(by have:=b1.out.size;simpa using this);go_wp2_with fail
   go_loopg [] X0 (fun n wr=>∃X a3 c3,BB wr zx false (.slice a3 (nl X) c3)∧BI wr a3 (nl X) c3 X∧r≤X∧0<X∧X≤X0∧n=X∧From w1 wr∧(0<nl X→w1.heap.size≤ab a3∧ab a3≠zx))
   case atStart=>exact⟨X0,ax,cx,V0,i0,hst,hXp,Nat.le_refl _,rfl,b2,hax⟩
   case round=>
    obtain⟨X,a3,c3,V3,i3,hrX,hX,hXX,hgk,b3,hf3⟩:=hrel;clear V0 i0 b2 hax;obtain⟨Y,hY⟩:∃Y,Y=A/X:=⟨_,rfl⟩;have hYA:Y≤A:=(by rw[hY];exact Nat.div_le_self _ _);obtain⟨S,hS⟩:∃S,S=X+Y:=⟨_,rfl⟩;obtain⟨y,hy⟩:∃y,y=S/2:=⟨_,rfl⟩;have hge:r≤y:=(by rw[hy,hS,hY];exact zHu H1.out hX);have hend:X≤y→X=r:=fun h=>zF3 H2.out hrX hX (by rw[←hY,←hS,←hy];exact h);have D1:=HD X hX hXX;have A1:=HA X Y hXX hYA;have S1:=HH S j0;have C1:=HC y X j0 hXX;rw[←hY]at D1;rw[←hS]at A1;rw[←hy]at S1;obtain⟨u,hu⟩:∃u,u=zAq (y:Int) (X:Int):=⟨_,rfl⟩;have hu1:0≤u↔X≤y:=(by rw[hu,zRB];omega);rw[←hu]at C1;clear HD HA HH HC hY hS hy hu;have l3:=V3.out.lt;have V3h:=V3;go_wp2_with fail;refine(D1 _ _ _).out.mono ?_;rintro e w3 ⟨a5,c5,a6,c6,rfl,i5,i6,b5,f5,f6⟩;go_wp2_with fail;refine(A1 _ _ _ _ _).out.mono ?_;rintro e w4 ⟨a7,c7,rfl,i7,b7,f7⟩;go_wp2_with fail;refine(S1 _ _ _).out.mono ?_;rintro e w5 ⟨a8,c8,rfl,i8,b8,f8⟩;go_wp2_with fail;refine(C1 _ _ _ _ _).out.mono ?_;rintro e w6 ⟨rfl,b9⟩
    by_cases hc:0≤u
    · obtain rfl:=hend (hu1.1 hc);go_wp2_with fail;refine bodyPost_ret (v:=.agg #[.bool false,.slice a3 (nl X) c3]) (by simp only[results,Tryz.results167];go_simp) rfl ?_;exact zQL (by repeat(first | exact i3.out.on | refine Mag.set ?_ (fun h=>by have:=(hf3 h).1;omega) _ _)) zbh (fun h=>by have:=(hf3 h).1;omega)
    · have hlt:y<X:=(by have:=mt hu1.2 hc;omega);go_wp2_with fail
      go_roundg y
      case measure=>rw[hgk];exact hlt
      case rel=>exact⟨y,a8,c8,BB.pt2 (inferInstance:BB w6 zx _ _) _ _,⟨by repeat(first | exact i8.out.on | refine Mag.set ?_ (zF5 f8) _ _)⟩,hge,j0,j0,rfl,⟨zbh⟩,fun h=>⟨zC6 b8 f8 h,zF5 f8 h⟩⟩
end Go.Proofs.YtmbkgapknoammaaGreatDoor

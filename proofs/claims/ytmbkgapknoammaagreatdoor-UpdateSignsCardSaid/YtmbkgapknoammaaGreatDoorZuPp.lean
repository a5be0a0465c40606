/-
  Walks: the reference's package sparseref02: Sum.
-/
import Derived.Test.YtmbkgapknoammaaGreatDoorZuRp
import Derived.Test.YtmbkgapknoammaaGreatDoorZuTj
import Derived.Test.YtmbkgapknoammaaGreatDoorZuGq
import Derived.Test.YtmbkgapknoammaaGreatDoorZuPo
set_option maxRecDepth 100000
set_option maxHeartbeats 20000000
namespace Go.Proofs.YtmbkgapknoammaaGreatDoor
open Go.RowKit Sp
theorem zIj{d0 d1:Option (Int×Int)}(h:IsN d1)(hd:d0=d1):(zA4 (zA1 d0).natAbs:Int)+zA7 d0≤65536:=by
 subst hd
 cases d0 with
 | none=>decide
 | some p=>obtain⟨m,e⟩:=p;have:=zE0 (h m e rfl);show(zA4 m.natAbs:Int)+e≤_;omega
theorem zLq{m e E:Int}(h:E≤e){k:Nat}(hk:zA4 (up m e E).natAbs≤k):(zA4 m.natAbs:Int)+(if m=0 then 0 else e-E)≤k:=by
 by_cases hm:m=0
 · subst hm;simp[zA4]
 · rw[if_neg hm];have:=zNX h hm;omega
theorem zJc(w:World)(z:Int)(a:Option Addr)(cap k:Nat)(v:Int)(hv:v=z*2^k)(hx:Mag w a (nl z.natAbs) cap z.natAbs)(hlim:nl z.natAbs≤549755813888)(hk:k≤1048576):Calls Tryz.prog 86 #[.agg #[.bool (decide (z<0)),.slice a (nl z.natAbs) cap],.int .i64 k] w (zAl w v):=by
 have h:=zCj w (decide (z<0)) a _ cap _ k hx hlim hk;rwa[zAk,←hv]at h
theorem zQ7(w:World)(a a':Option Addr)(cap cap':Nat)(x y v:Int)(hv:v=x+y)(hx:Mag w a (nl x.natAbs) cap x.natAbs)(hy:Mag w a' (nl y.natAbs) cap' y.natAbs)(hl:nl x.natAbs≤549755813888)(hl':nl y.natAbs≤549755813888):Calls Tryz.prog 55 #[.agg #[.bool (decide (x<0)),.slice a (nl x.natAbs) cap],.agg #[.bool (decide (y<0)),.slice a' (nl y.natAbs) cap']] w (zAl w v):=by
 have h:=zEx w (decide (x<0)) (decide (y<0)) a a' _ _ cap cap' _ _ hx hy hl hl';rwa[zAk,zAk,←hv]at h
theorem zLV(w:World)(a:Option Addr)(cap:Nat)(z:Int)(hx:Mag w a (nl z.natAbs) cap z.natAbs)(hl:nl z.natAbs≤549755813888):Calls Tryz.prog 59 #[.agg #[.bool (decide (z<0)),.slice a (nl z.natAbs) cap]] w fun e w'=>e=.returned (.int .i64 (sg z))∧Below w.heap.size w w':=by
 have h:=zCi w (decide (z<0)) a _ cap _ hx j0;rwa[zAk]at h
theorem zSc{z:Int}(h:z≠0):(sg z==0)=false:=by
 rw[beq_eq_false_iff_ne];unfold sg zAq;split <;> (try split) <;> omega
theorem zOz(w:World)(hT:Tab w)(a:Option Addr)(n cap:Nat)(L:Nat→El)(hL:Dys w a n cap L)(hn:n≤1048576)(hs:∀i,i<n→(L i).n≤549755813888∧zA4 (L i).x≤1048576):Calls Tryz.prog 50 #[.slice a n cap] w (zAM w (zDS (fun i=>(L i).d) n)):=by
 have l1:=hL.lim;have l2:=hL.fits;obtain⟨d,hd⟩:∃d,d=fun i=>(L i).d:=⟨_,rfl⟩;have hdi:∀i,d i=(L i).d:=fun i=>by rw[hd]
 rw[←hd];have hNd:∀i,IsN (d i):=fun i=>by rw[hdi];exact zJN _ _ _
 have HN:=fun(k:Nat) (hk:k<n) W (h:Mag W (L k).a (L k).n (L k).p (L k).x) ht=>Lib.hid (@zAQ W (L k).bd (L k).s (L k).a (L k).n (L k).p (L k).e (d k) ⟨⟨_,h,by have:=(hs k hk).1;omega,(hs k hk).2,(hL.b k hk).1,(hL.b k hk).2,(hdi k).symm⟩,(hs k hk).1⟩ ht);have HB:=fun W=>Lib.hid (zD2 W);have hmn1:=zSu d hNd n;have hmn0:=zQZ d n;have hEk:∀i,i<n→mnE d n≤zA7 (d i):=fun i hi=>zQf d hi;have hSb:∀j,j≤n→zA4 (smE d (mnE d n) j).natAbs≤131100:=fun j hj=>zOu d hNd hmn1 j0 (fun i hi=>hEk i j0);have hds:zCs d n=false→zDS d n=nrm (smE d (mnE d n) n) (mnE d n):=fun h=>by unfold zDS;rw[h];rfl
 obtain⟨E,hE⟩:∃E,E=mnE d n:=⟨_,rfl⟩;rw[←hE]at hmn1 hmn0 hEk hSb hds;have HLL:=Lib.hid hL;have HND:=Lib.hid hNd;have HEK:=Lib.hid hEk;have HSB:=Lib.hid hSb;have HDS:=Lib.hid hds;have e1:¬w.heap.size+1=w.heap.size:=j0
 have e2:¬w.heap.size=w.heap.size+1:=j0
 clear hL hs hd hdi hNd hEk hSb hds hE;go_enter Tryz.func50,Tryz.ntmps50;go_wp2_with fail;have Ir:=(DyV.made w 53 false false (.slice none 0 0) 0).alloc (.cells #[.bool false,.slice none 0 0] 51);have It:=BgV.made' (w.alloc (.cells #[.bool false,.bool false,.slice none 0 0,.int .i64 0] 53)) 51 false (.slice none 0 0) (n:=w.heap.size+1) Kr;have B0:Below w.heap.size w ((w.alloc (.cells #[.bool false,.bool false,.slice none 0 0,.int .i64 0] 53)).alloc (.cells #[.bool false,.slice none 0 0] 51)):=zbh;generalize ((w.alloc (.cells #[.bool false,.bool false,.slice none 0 0,.int .i64 0] 53)).alloc (.cells #[.bool false,.slice none 0 0] 51))=w0 at Ir It B0 ⊢
 go_loopw [4,5] (fun e i wr=>∃(k:Nat) (T f:Int) (aT:Option Addr) (cT:Nat),k≤n∧i=.int .i64 k∧e=.int .i64 f∧E≤f∧f≤65536∧up T f E=smE d E k∧zCs d k=false∧BgV wr (w.heap.size+1) (decide (T<0)) (.slice aT (nl T.natAbs) cT)∧Mag wr aT (nl T.natAbs) cT T.natAbs∧DyV wr w.heap.size false false (.slice none 0 0) 0∧Below w.heap.size w wr) (fun _ i _=>n-(intOf i).toNat)
 case atStart=>exact⟨0,0,0,none,0,j0,rfl,rfl,j0,j0,zDT _ _,rfl,It,Mag.nil _,Ir,B0⟩
 case round=>
  clear Ir It B0;obtain⟨k,T,f,aT,cT,hk,rfl,rfl,hEf,hf6,hup,hbad,It,MT0,Ir,B0⟩:=hrel;have HUP:=Lib.hid hup;have HBAD:=Lib.hid hbad;have hTb:zA4 T.natAbs≤131100:=by
   have h1:=HSB.out k hk;rw[←HUP.out]at h1;have h2:=zLq hEf h1
   split at h2 <;> omega
  clear hup hbad;have Vr0:=Lib.hid Ir;have Vt0:=Lib.hid It
  by_cases hlt:k<n
  · have hL':=HLL.out.below B0;have k0:=hL'.c0 k hlt;have k1:=hL'.c1 k hlt;have k2:=hL'.c2 k hlt;have k3:=hL'.c3 k hlt;have i1:=hL'.idx k hlt;have mk:=hL'.m k hlt;have HNk:=HN k hlt;have hej:=HEK.out k hlt;have hbj:=zAd (HND.out k);have hSk1:=HSB.out (k+1) hlt;generalize hQ:L k=Q at k0 k1 k2 k3 mk HNk;obtain⟨dk,hdk⟩:∃dk,dk=d k:=⟨_,rfl⟩;rw[←hdk]at HNk hej hbj;have hsm:smE d E (k+1)=smE d E k+up (zA1 dk) (zA7 dk) E:=(by rw[hdk];rfl);have HSM:=Lib.hid hsm;have HDK:=Lib.hid hdk;clear hL' hQ hdk hsm;obtain⟨rc0,rc1,rc2,rc3,rc4,rc5⟩:=Ir;obtain⟨tc0,tc1,tc2,tc3⟩:=It;go_wp2_with fail;refine(HNk _ mk (hT.below B0)).out.mono ?_;rintro e w1 ⟨ad,cd,rfl,Md1,hb1,hf1⟩;have Vr1:DyV w1 w.heap.size false false (.slice none 0 0) 0:=(Vr0.out.on.below hb1);(try clear rc0 rc1 rc2 rc3 rc4);obtain⟨rc0,rc1,rc2,rc3,rc4,rc5⟩:=Vr1;have Vr1:=Lib.hid (DyV.mk rc0 rc1 rc2 rc3 rc4 rc5);have Vt1:BgV w1 (w.heap.size+1) (decide (T<0)) (.slice aT (nl T.natAbs) cT):=(Vt0.out.on.below hb1);(try clear tc0 tc1 tc2);obtain⟨tc0,tc1,tc2,tc3⟩:=Vt1;have Vt1:=Lib.hid (BgV.mk tc0 tc1 tc2 tc3);have MT1:Mag w1 aT (nl T.natAbs) cT T.natAbs:=Mag.below MT0.on hb1;have B1:=zA0 (w:=w) (have:=Beh.mk B0;zbh) hb1;have frd:0<nl (zA1 dk).natAbs→w.heap.size+1<ab ad:=(fun h=>by have:=hf1 h;have:=Vt0.out.lt;omega);clear hb1 hf1;clear k0 k1 k2 k3 i1 mk
    cases hbd:zAj dk with
    | true=>
     have hany:zCs d n=true:=(zFY d n).2 ⟨k,hlt,by rw[←HDK.out];exact hbd⟩;have e0:zDS d n=none:=(by unfold zDS;rw[hany];rfl);go_wp2_with fail;refine(HB _).out.mono ?_;rintro e w9 ⟨rfl,hb⟩;have B9:=zA0 (w:=w) (B1.alloc B1.size (.cells #[.bool true,.bool (decide (zA1 dk<0)),.slice ad (nl (zA1 dk).natAbs) cd,.int .i64 (zA7 dk)] 53)) hb;have V9:=(Vr1.out.alloc (.cells #[.bool true,.bool (decide (zA1 dk<0)),.slice ad (nl (zA1 dk).natAbs) cd,.int .i64 (zA7 dk)] 53)).below hb;obtain⟨p0,p1,p2,p3,p4,p5⟩:=V9;go_wp2_with fail;refine bodyPost_ret (v:=.agg #[.bool true,.bool false,.slice none 0 0,.int .i64 0]) (by simp only[results,Tryz.results50];go_simp) rfl ?_;rw[e0];exact⟨none,0,rfl,Mag.nil _,(have:=Beh.mk B9;zbh),nl0⟩
    | false=>
     have hbk:zCs d (k+1)=false:=by
      show(zCs d k||zAj (d k))=false;rw[HBAD.out,←HDK.out,hbd];rfl
     have HBK:=Lib.hid hbk;clear hbk;have HS1:=fun W b c h=>Lib.hid (zLV W b c (zA1 dk) h (Nat.le_trans (zAh _) j0));have HS2:=fun W b c h=>Lib.hid (zLV W b c T h (Nat.le_trans (zAh _) j0));go_wp2_with fail;have Vd2:=DyV.made w1 53 false (decide (zA1 dk<0)) (.slice ad (nl (zA1 dk).natAbs) cd) (zA7 dk);have Vr2:=DyV.alloc Vr1.out (.cells #[.bool false,.bool (decide (zA1 dk<0)),(.slice ad (nl (zA1 dk).natAbs) cd),.int .i64 (zA7 dk)] 53);have Vt2:=BgV.alloc Vt1.out (.cells #[.bool false,.bool (decide (zA1 dk<0)),(.slice ad (nl (zA1 dk).natAbs) cd),.int .i64 (zA7 dk)] 53);have MT2:=MT1.alloc (.cells #[.bool false,.bool (decide (zA1 dk<0)),(.slice ad (nl (zA1 dk).natAbs) cd),.int .i64 (zA7 dk)] 53);have Md2:=Md1.alloc (.cells #[.bool false,.bool (decide (zA1 dk<0)),(.slice ad (nl (zA1 dk).natAbs) cd),.int .i64 (zA7 dk)] 53);have B2:Below w.heap.size w (w1.alloc (.cells #[.bool false,.bool (decide (zA1 dk<0)),(.slice ad (nl (zA1 dk).natAbs) cd),.int .i64 (zA7 dk)] 53)):=B1.alloc B1.size _;generalize (w1.alloc (.cells #[.bool false,.bool (decide (zA1 dk<0)),(.slice ad (nl (zA1 dk).natAbs) cd),.int .i64 (zA7 dk)] 53))=w2 at Vd2 Vr2 Vt2 MT2 Md2 B2 ⊢;have lzd:w.heap.size+1<w1.heap.size:=Vt1.out.lt;generalize w1.heap.size=zd at Vd2 lzd ⊢;have nd1:¬zd=w.heap.size+1:=j0;have nd2:¬w.heap.size+1=zd:=j0;(try clear rc0 rc1 rc2 rc3 rc4);obtain⟨rc0,rc1,rc2,rc3,rc4,rc5⟩:=Vr2;have Vr2:=Lib.hid (DyV.mk rc0 rc1 rc2 rc3 rc4 rc5);(try clear tc0 tc1 tc2);obtain⟨tc0,tc1,tc2,tc3⟩:=Vt2;have Vt2:=Lib.hid (BgV.mk tc0 tc1 tc2 tc3);(try clear dc0 dc1 dc2 dc3 dc4);obtain⟨dc0,dc1,dc2,dc3,dc4,dc5⟩:=Vd2;have Vd2:=Lib.hid (DyV.mk dc0 dc1 dc2 dc3 dc4 dc5);refine(HS1 _ ad cd Md2.on).out.mono ?_;rintro e w3 ⟨rfl,hb3⟩;have Vr3:DyV w3 w.heap.size false false (.slice none 0 0) 0:=(Vr2.out.on.below hb3);(try clear rc0 rc1 rc2 rc3 rc4);obtain⟨rc0,rc1,rc2,rc3,rc4,rc5⟩:=Vr3;have Vr3:=Lib.hid (DyV.mk rc0 rc1 rc2 rc3 rc4 rc5);have Vt3:BgV w3 (w.heap.size+1) (decide (T<0)) (.slice aT (nl T.natAbs) cT):=(Vt2.out.on.below hb3);(try clear tc0 tc1 tc2);obtain⟨tc0,tc1,tc2,tc3⟩:=Vt3;have Vt3:=Lib.hid (BgV.mk tc0 tc1 tc2 tc3);have Vd3:DyV w3 zd false (decide (zA1 dk<0)) (.slice ad (nl (zA1 dk).natAbs) cd) (zA7 dk):=(Vd2.out.on.below hb3);(try clear dc0 dc1 dc2 dc3 dc4);obtain⟨dc0,dc1,dc2,dc3,dc4,dc5⟩:=Vd3;have Vd3:=Lib.hid (DyV.mk dc0 dc1 dc2 dc3 dc4 dc5);have MT3:Mag w3 aT (nl T.natAbs) cT T.natAbs:=Mag.below MT2.on hb3;have Md3:Mag w3 ad (nl (zA1 dk).natAbs) cd (zA1 dk).natAbs:=Mag.below Md2.on hb3;have B3:=zA0 (w:=w) (have:=Beh.mk B2;zbh) hb3;clear hb3
     by_cases hm0:zA1 dk=0
     · have hg1:(sg (zA1 dk)==0)=true:=(by rw[hm0];rfl);have hu0:smE d E (k+1)=smE d E k:=(by rw[HSM.out,hm0,zDT,Int.add_zero]);have HU0:=Lib.hid hu0;clear hu0 hm0;go_wp2_with fail;go_roundw
       case rel=>exact⟨k+1,T,f,aT,cT,j0,jm,rfl,hEf,hf6,by rw[HU0.out];exact HUP.out,HBK.out,Vt3.out,MT3,Vr3.out,B3⟩
       case measure=>exact jb
     · have hg1:(sg (zA1 dk)==0)=false:=zSc hm0;clear hm0;go_wp2_with fail;refine(HS2 _ aT cT MT3.on).out.mono ?_;rintro e w4 ⟨rfl,hb4⟩;have Vr4:DyV w4 w.heap.size false false (.slice none 0 0) 0:=(Vr3.out.on.below hb4);(try clear rc0 rc1 rc2 rc3 rc4);obtain⟨rc0,rc1,rc2,rc3,rc4,rc5⟩:=Vr4;have Vr4:=Lib.hid (DyV.mk rc0 rc1 rc2 rc3 rc4 rc5);have Vt4:BgV w4 (w.heap.size+1) (decide (T<0)) (.slice aT (nl T.natAbs) cT):=(Vt3.out.on.below hb4);(try clear tc0 tc1 tc2);obtain⟨tc0,tc1,tc2,tc3⟩:=Vt4;have Vt4:=Lib.hid (BgV.mk tc0 tc1 tc2 tc3);have Vd4:DyV w4 zd false (decide (zA1 dk<0)) (.slice ad (nl (zA1 dk).natAbs) cd) (zA7 dk):=(Vd3.out.on.below hb4);(try clear dc0 dc1 dc2 dc3 dc4);obtain⟨dc0,dc1,dc2,dc3,dc4,dc5⟩:=Vd4;have Vd4:=Lib.hid (DyV.mk dc0 dc1 dc2 dc3 dc4 dc5);have MT4:Mag w4 aT (nl T.natAbs) cT T.natAbs:=Mag.below MT3.on hb4;have Md4:Mag w4 ad (nl (zA1 dk).natAbs) cd (zA1 dk).natAbs:=Mag.below Md3.on hb4;have B4:=zA0 (w:=w) (have:=Beh.mk B3;zbh) hb4;clear hb4;have frT:0<nl (zA1 dk).natAbs→ab ad≠w.heap.size+1:=fun h=>(by have:=frd h;omega);have nr:(w.heap.size:Nat)≠w.heap.size+1:=by omega
       by_cases hT0:T=0
       · have hg2:(sg T==0)=true:=(by rw[hT0];rfl);have hu1:up (zA1 dk) (zA7 dk) E=smE d E (k+1):=by
          have h1:=HUP.out;rw[hT0,zDT]at h1;rw[HSM.out,←h1,Int.zero_add]
         have HU1:=Lib.hid hu1;clear hu1;go_wp2_with fail
         first | go_big_region | fail "region"
         all_goals go_wp2_with fail
         all_goals(
          go_roundw
          case rel=>exact⟨k+1,zA1 dk,zA7 dk,ad,cd,j0,jm,rfl,hej,j0,HU1.out,HBK.out,⟨jj,jj,fun i=>jj,by simpa using tc3⟩,(by repeat(with_reducible first | refine Mag.set ?_ frT _ _ | refine Mag.drew ?_ | refine Mag.drewN ?_ _ | exact Md4)),(by repeat(with_reducible first | refine DyV.set ?_ nr _ _ | refine DyV.drew ?_ | refine DyV.drewN ?_ _ | exact Vr4.out)),(have:=Beh.mk B4;zbh)⟩
          case measure=>simp[intOf];omega)
       · have hg2:(sg T==0)=false:=zSc hT0;clear hT0
         by_cases hfe:f≤zA7 dk
         · obtain⟨q,hq⟩:∃q:Nat,zA7 dk-f=(q:Int):=⟨(zA7 dk-f).toNat,j0⟩;have hq1:q≤1048576:=j0;have hge:decide (f≤zA7 dk)=true:=(by simpa using hfe);have hwq:IntKind.i64.wrap (zA7 dk-f)=(q:Int):=(by rw[hq,IntKind.wrap_i64];omega);obtain⟨u,hu⟩:∃u,u=zA1 dk*2^q:=⟨_,rfl⟩;obtain⟨S,hS⟩:∃S,S=T+u:=⟨_,rfl⟩;have huu:u=up (zA1 dk) (zA7 dk) f:=(by rw[hu];unfold up;congr 2;omega);have hup2:up S f E=smE d E (k+1):=(by rw[hS,zLu,HUP.out,huu,zQx _ hEf hfe,HSM.out]);have hub:zA4 u.natAbs≤131072:=(by rw[huu];exact zCr hfe (by have:=zIj (HND.out k) HDK.out;omega));have HSH:=fun W b c h=>Lib.hid (zJc W (zA1 dk) b c q u hu h (Nat.le_trans (zAh _) j0) hq1);have HAD:=fun W b b' c c' h h'=>Lib.hid (zQ7 W b b' c c' T u S hS h h' (Nat.le_trans (zAh _) j0) (Nat.le_trans (zAh _) j0));have HU2:=Lib.hid hup2;clear hup2 huu hu hS hq;go_wp2_with fail
           first
           | go_region_with
            (first
             | (go_at_call 55;have xx:=B5;refine(HAD _ aT au cT cu MT5.on Mu5.on).out.mono ?_;rintro e w6 ⟨as1,cs1,rfl,Ms16,hb6,hf6⟩;have Vr6:DyV w6 w.heap.size false false (.slice none 0 0) 0:=(Vr5.out.on.below hb6);(try clear rc0 rc1 rc2 rc3 rc4);obtain⟨rc0,rc1,rc2,rc3,rc4,rc5⟩:=Vr6;have Vr6:=Lib.hid (DyV.mk rc0 rc1 rc2 rc3 rc4 rc5);have Vt6:BgV w6 (w.heap.size+1) (decide (T<0)) (.slice aT (nl T.natAbs) cT):=(Vt5.out.on.below hb6);(try clear tc0 tc1 tc2);obtain⟨tc0,tc1,tc2,tc3⟩:=Vt6;have Vt6:=Lib.hid (BgV.mk tc0 tc1 tc2 tc3);have Vd6:DyV w6 zd false (decide (zA1 dk<0)) (.slice ad (nl (zA1 dk).natAbs) cd) (zA7 dk):=(Vd5.out.on.below hb6);(try clear dc0 dc1 dc2 dc3 dc4);obtain⟨dc0,dc1,dc2,dc3,dc4,dc5⟩:=Vd6;have Vd6:=Lib.hid (DyV.mk dc0 dc1 dc2 dc3 dc4 dc5);have MT6:Mag w6 aT (nl T.natAbs) cT T.natAbs:=Mag.below MT5.on hb6;have Md6:Mag w6 ad (nl (zA1 dk).natAbs) cd (zA1 dk).natAbs:=Mag.below Md5.on hb6;have Mu6:Mag w6 au (nl u.natAbs) cu u.natAbs:=Mag.below Mu5.on hb6;have B6:=zA0 (w:=w) (have:=Beh.mk B5;zbh) hb6;have frs:0<nl S.natAbs→ab as1≠w.heap.size+1:=(fun h=>Xo);clear hb6 hf6)
             | (go_at_call 86;have xx:=B4;refine(HSH _ ad cd Md4.on).out.mono ?_;rintro e w5 ⟨au,cu,rfl,Mu5,hb5,hf5⟩;have Vr5:DyV w5 w.heap.size false false (.slice none 0 0) 0:=(Vr4.out.on.below hb5);(try clear rc0 rc1 rc2 rc3 rc4);obtain⟨rc0,rc1,rc2,rc3,rc4,rc5⟩:=Vr5;have Vr5:=Lib.hid (DyV.mk rc0 rc1 rc2 rc3 rc4 rc5);have Vt5:BgV w5 (w.heap.size+1) (decide (T<0)) (.slice aT (nl T.natAbs) cT):=(Vt4.out.on.below hb5);(try clear tc0 tc1 tc2);obtain⟨tc0,tc1,tc2,tc3⟩:=Vt5;have Vt5:=Lib.hid (BgV.mk tc0 tc1 tc2 tc3);have Vd5:DyV w5 zd false (decide (zA1 dk<0)) (.slice ad (nl (zA1 dk).natAbs) cd) (zA7 dk):=(Vd4.out.on.below hb5);(try clear dc0 dc1 dc2 dc3 dc4);obtain⟨dc0,dc1,dc2,dc3,dc4,dc5⟩:=Vd5;have Vd5:=Lib.hid (DyV.mk dc0 dc1 dc2 dc3 dc4 dc5);have MT5:Mag w5 aT (nl T.natAbs) cT T.natAbs:=Mag.below MT4.on hb5;have Md5:Mag w5 ad (nl (zA1 dk).natAbs) cd (zA1 dk).natAbs:=Mag.below Md4.on hb5;have B5:=zA0 (w:=w) (have:=Beh.mk B4;zbh) hb5;clear hb5 hf5)
             | fail)
           | fail "region"
           all_goals as_aux_lemma=>(
            go_wp2_with fail;go_roundw
            case rel=>exact⟨k+1,S,f,as1,cs1,j0,jm,rfl,j0,j0,HU2.out,HBK.out,⟨jj,jj,fun i=>jj,by simpa using tc3⟩,KI,KG,(have:=Beh.mk B6;zbh)⟩
            case measure=>simp[intOf];omega)
         · obtain⟨q,hq⟩:∃q:Nat,f-zA7 dk=(q:Int):=⟨(f-zA7 dk).toNat,j0⟩;have hq1:q≤1048576:=j0;have hge:decide (f≤zA7 dk)=false:=jq;have hwq:IntKind.i64.wrap (f-zA7 dk)=(q:Int):=(by rw[hq,IntKind.wrap_i64];omega);obtain⟨u,hu⟩:∃u,u=T*2^q:=⟨_,rfl⟩;obtain⟨S,hS⟩:∃S,S=u+zA1 dk:=⟨_,rfl⟩;have huu:u=up T f (zA7 dk):=(by rw[hu];unfold up;congr 2;omega);have hup2:up S (zA7 dk) E=smE d E (k+1):=(by rw[hS,zLu,huu,zQx _ hej j0,HUP.out,HSM.out]);have hub:zA4 u.natAbs≤300000:=by
            rw[huu];exact zCr j0 j0
           have HSH:=fun W b c h=>Lib.hid (zJc W T b c q u hu h (Nat.le_trans (zAh _) j0) hq1);have HAD:=fun W b b' c c' h h'=>Lib.hid (zQ7 W b b' c c' u (zA1 dk) S hS h h' (Nat.le_trans (zAh _) j0) (Nat.le_trans (zAh _) j0));have HU2:=Lib.hid hup2;clear hup2 huu hu hS hq;go_wp2_with fail
           first
           | go_region_with
            (first
             | (go_at_call 55;have xx:=B5;refine(HAD _ au ad cu cd Mu5.on Md5.on).out.mono ?_;rintro e w6 ⟨as1,cs1,rfl,Ms16,hb6,hf6⟩;have Vr6:DyV w6 w.heap.size false false (.slice none 0 0) 0:=(Vr5.out.on.below hb6);(try clear rc0 rc1 rc2 rc3 rc4);obtain⟨rc0,rc1,rc2,rc3,rc4,rc5⟩:=Vr6;have Vr6:=Lib.hid (DyV.mk rc0 rc1 rc2 rc3 rc4 rc5);have Vt6:BgV w6 (w.heap.size+1) (decide (T<0)) (.slice aT (nl T.natAbs) cT):=(Vt5.out.on.below hb6);(try clear tc0 tc1 tc2);obtain⟨tc0,tc1,tc2,tc3⟩:=Vt6;have Vt6:=Lib.hid (BgV.mk tc0 tc1 tc2 tc3);have Vd6:DyV w6 zd false (decide (zA1 dk<0)) (.slice ad (nl (zA1 dk).natAbs) cd) (zA7 dk):=(Vd5.out.on.below hb6);(try clear dc0 dc1 dc2 dc3 dc4);obtain⟨dc0,dc1,dc2,dc3,dc4,dc5⟩:=Vd6;have Vd6:=Lib.hid (DyV.mk dc0 dc1 dc2 dc3 dc4 dc5);have MT6:Mag w6 aT (nl T.natAbs) cT T.natAbs:=Mag.below MT5.on hb6;have Md6:Mag w6 ad (nl (zA1 dk).natAbs) cd (zA1 dk).natAbs:=Mag.below Md5.on hb6;have Mu6:Mag w6 au (nl u.natAbs) cu u.natAbs:=Mag.below Mu5.on hb6;have B6:=zA0 (w:=w) (have:=Beh.mk B5;zbh) hb6;have frs:0<nl S.natAbs→ab as1≠w.heap.size+1:=(fun h=>Xo);clear hb6 hf6)
             | (go_at_call 86;have xx:=B4;refine(HSH _ aT cT MT4.on).out.mono ?_;rintro e w5 ⟨au,cu,rfl,Mu5,hb5,hf5⟩;have Vr5:DyV w5 w.heap.size false false (.slice none 0 0) 0:=(Vr4.out.on.below hb5);(try clear rc0 rc1 rc2 rc3 rc4);obtain⟨rc0,rc1,rc2,rc3,rc4,rc5⟩:=Vr5;have Vr5:=Lib.hid (DyV.mk rc0 rc1 rc2 rc3 rc4 rc5);have Vt5:BgV w5 (w.heap.size+1) (decide (T<0)) (.slice aT (nl T.natAbs) cT):=(Vt4.out.on.below hb5);(try clear tc0 tc1 tc2);obtain⟨tc0,tc1,tc2,tc3⟩:=Vt5;have Vt5:=Lib.hid (BgV.mk tc0 tc1 tc2 tc3);have Vd5:DyV w5 zd false (decide (zA1 dk<0)) (.slice ad (nl (zA1 dk).natAbs) cd) (zA7 dk):=(Vd4.out.on.below hb5);(try clear dc0 dc1 dc2 dc3 dc4);obtain⟨dc0,dc1,dc2,dc3,dc4,dc5⟩:=Vd5;have Vd5:=Lib.hid (DyV.mk dc0 dc1 dc2 dc3 dc4 dc5);have MT5:Mag w5 aT (nl T.natAbs) cT T.natAbs:=Mag.below MT4.on hb5;have Md5:Mag w5 ad (nl (zA1 dk).natAbs) cd (zA1 dk).natAbs:=Mag.below Md4.on hb5;have B5:=zA0 (w:=w) (have:=Beh.mk B4;zbh) hb5;clear hb5 hf5)
             | fail)
           | fail "region"
           all_goals as_aux_lemma=>(
            go_wp2_with fail;go_roundw
            case rel=>exact⟨k+1,S,zA7 dk,as1,cs1,j0,jm,rfl,j0,j0,HU2.out,HBK.out,⟨jj,jj,fun i=>jj,by simpa using tc3⟩,KI,KG,(have:=Beh.mk B6;zbh)⟩
            case measure=>simp[intOf];omega)
  · obtain rfl:k=n:=j0;have hdsn:=HDS.out HBAD.out;have hdd:zDS d k=nrm T f:=(by rw[hdsn,←HUP.out,zQd _ _ _ hEf]);have HMk:=fun W b c h ht=>Lib.hid (zCM W (decide (T<0)) b (nl T.natAbs) c T.natAbs f h (Nat.le_trans (zAh _) j0) ht j0 j0);rw[zAk,←hdd]at HMk;obtain⟨ds,hds⟩:∃ds,ds=zDS d k:=⟨_,rfl⟩;rw[←hds]at HMk;have HD3:=Lib.hid hds;clear hds hdd hdsn;obtain⟨rc0,rc1,rc2,rc3,rc4,rc5⟩:=Ir;obtain⟨tc0,tc1,tc2,tc3⟩:=It;go_wp2_with fail;refine(HMk _ aT cT MT0 (hT.below B0)).out.mono ?_;rintro e w5 ⟨a5,c5,rfl,m5,hb5,hf5⟩;have B5:=zA0 (w:=w) B0 hb5;have V5:=Vr0.out.below hb5;have hf6:0<nl (zA1 ds).natAbs→w.heap.size<ab a5:=fun h=>(by have:=hf5 h;have:=Vr0.out.lt;omega);clear rc0 rc1 rc2 rc3 rc4 rc5 hb5 hf5;obtain⟨rc0,rc1,rc2,rc3,rc4,rc5⟩:=V5;go_wp2_with fail;refine bodyPost_ret (v:=.agg #[.bool (zAj ds),.bool (decide (zA1 ds<0)),.slice a5 (nl (zA1 ds).natAbs) c5,.int .i64 (zA7 ds)]) (by simp only[results,Tryz.results50];go_simp) rfl ?_;rw[←HD3.out];exact⟨a5,c5,rfl,(by repeat(with_reducible first | refine Mag.set ?_ (fun h=>Qs) _ _ | exact m5)),(have:=Beh.mk B5;zbh),fun h=>Qs⟩
end Go.Proofs.YtmbkgapknoammaaGreatDoor
namespace Go.Proofs.YtmbkgapknoammaaGreatDoor
open Go.RowKit Sp
theorem zGF{w:World}{base:Nat}{v:Value}{k:Nat}{d:Nat→Option (Int×Int)}{A:Nat→Option Addr}{C:Nat→Nat}(hT:Tab w)(h:Dms w base v k d A C)(hd:∀i,IsN (d i))(hk:k≤1048576):∃a cap,v=.slice a k cap∧Calls Tryz.prog 50 #[.slice a k cap] w (zAM w (zDS d k)):=by
 obtain⟨a,cap,hv,hD⟩:=h.dys hd;refine⟨a,cap,hv,?_⟩;have s:=zOz w hT a k cap _ hD hk (fun i hi=>by
  have:=zAd (hd i);refine⟨Nat.le_trans (zAh _) j0,?_⟩;show zA4 (zA1 (d i)).natAbs≤1048576;omega)
 rwa[zTm hd]at s
theorem N3.grown{W W':World}{b:Nat}{x0 x1 x2:Value}(h:N3 W b x0 x1 x2){row:Option Nat}(hg:W.grownBy W' row)(hne:some b≠row):N3 W' b x0 x1 x2:=by
 have hblk:=hg.block b h.lt hne;have hc:∀i,W'.cell? ⟨b,i,none⟩=W.cell? ⟨b,i,none⟩:=fun i=>World.cell?_of_block (a:=⟨b,i,none⟩) hblk;exact⟨(hc 0).trans h.c0,(hc 1).trans h.c1,(hc 2).trans h.c2,fun i=>(World.frozen?_of_block (a:=⟨b,i,none⟩) hblk).trans (h.z i),Nat.lt_of_lt_of_le h.lt hg.size⟩
attribute [local irreducible] Calls
end Go.Proofs.YtmbkgapknoammaaGreatDoor

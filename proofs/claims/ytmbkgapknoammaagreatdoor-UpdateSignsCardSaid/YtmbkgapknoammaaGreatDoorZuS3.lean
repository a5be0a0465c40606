/-
  Walks: the reference's floats: the functions of the bits.
  Walks: the reference's floats: Cmp, Up, Down.
  Walks: the reference's Int, and Of of its floats.
  Walks: the reference's floats: rounded.
  Walks: the reference's floats: Round, FromInt.
-/
import Derived.Test.YtmbkgapknoammaaGreatDoorZuCm
import Derived.Test.YtmbkgapknoammaaGreatDoorZuGi
import Derived.Test.YtmbkgapknoammaaGreatDoorZuTj
import Derived.Test.YtmbkgapknoammaaGreatDoorZuGo
import Derived.Test.YtmbkgapknoammaaGreatDoorZuRa
import Derived.Test.YtmbkgapknoammaaGreatDoorZuGr
import Derived.Deep.DeepCutAuto
set_option maxRecDepth 100000
set_option maxHeartbeats 20000000
namespace Go.Proofs.YtmbkgapknoammaaGreatDoor
open Go.RowKit Sp
theorem zC3(w:World)(f:Nat):Calls Tryz.prog 45 #[.int .u64 f] w fun e w'=>e=.returned (.bool (zAA f))∧w=w':=by
 have h1:=zKh f;have hk:(((fE f:Nat):Int) != 2047)=zAA f:=by rw[zDI,Bool.eq_iff_iff];simp;omega
 generalize ((fE f:Nat):Int)=E at *;go_enter Tryz.func45,Tryz.ntmps45;go_wp2_with fail;go_ret;exact⟨jz,rfl⟩
theorem zFI(w:World)(f:Nat)(hf:f<18446744073709551616):Calls Tryz.prog 57 #[.int .u64 f] w fun e w'=>e=.returned (.bool (fS f))∧w=w':=by
 have h1:=zHY hf
 cases hs:fS f <;> rw[hs]at h1 <;>
 · simp only[if_true,Bool.false_eq_true,if_false]at h1;go_enter Tryz.func57,Tryz.ntmps57
   go_wp2
   go_ret;exact⟨jz,rfl⟩
theorem zBS(w:World)(c:Nat)(s:Bool)(hc:c<9223372036854775808):Calls Tryz.prog 126 #[.bool s,.int .u64 c] w fun e w'=>e=.returned (.int .u64 (zBE s c:Nat))∧w=w':=by
 have h1:=zEr hc
 cases s
 · go_enter Tryz.func126,Tryz.ntmps126
   go_wp2
   go_ret;exact⟨rfl,rfl⟩
 · generalize ((zBE true c:Nat):Int)=v at *;go_enter Tryz.func126,Tryz.ntmps126
   go_wp2
   go_ret;exact⟨jz,rfl⟩
theorem zKV(w:World)(mode:Int)(s:Bool):Calls Tryz.prog 123 #[.bool s,.int .i64 mode] w fun e w'=>e=.returned (.int .u64 (zCd s mode:Nat))∧w=w':=by
 have hv:=zJv mode s;have HM:=fun W=>Lib.hid (show Calls Tryz.prog 126 #[.bool s,.int .u64 9218868437227405311] W fun e w'=>e=.returned (.int .u64 (zBE s zK2:Nat))∧W=w' from zBS W zK2 s ja);have HI:=fun W=>Lib.hid (show Calls Tryz.prog 126 #[.bool s,.int .u64 9218868437227405312] W fun e w'=>e=.returned (.int .u64 (zBE s zE9:Nat))∧W=w' from zBS W zE9 s ja);rw[hv];clear hv
 cases hb:(mode==3||(mode==1&&!s)||(mode==2&&s))with
 | true=>
  simp only[if_true];generalize ((zBE s zK2:Nat):Int)=v at *
  cases h3:(mode==3) <;> cases h1:(mode==1) <;> cases h2:(mode==2) <;> cases s <;> rw[h3,h1,h2]at hb <;> first
  | (exfalso;revert hb;decide)
  | (clear hb
     go_enter Tryz.func123,Tryz.ntmps123;go_wp2_with fail;refine(HM _).out.mono ?_;rintro e w1 ⟨rfl,rfl⟩;go_wp2_with fail;go_ret;exact⟨rfl,rfl⟩)
 | false=>
  simp only[Bool.false_eq_true,if_false];generalize ((zBE s zE9:Nat):Int)=v at *
  cases h3:(mode==3) <;> cases h1:(mode==1) <;> cases h2:(mode==2) <;> cases s <;> rw[h3,h1,h2]at hb <;> first
  | (exfalso;revert hb;decide)
  | (clear hb
     go_enter Tryz.func123,Tryz.ntmps123;go_wp2_with fail;refine(HI _).out.mono ?_;rintro e w1 ⟨rfl,rfl⟩;go_wp2_with fail;go_ret;exact⟨rfl,rfl⟩)
end Go.Proofs.YtmbkgapknoammaaGreatDoor
namespace Go.Proofs.YtmbkgapknoammaaGreatDoor
open Go.RowKit Sp
end Go.Proofs.YtmbkgapknoammaaGreatDoor
namespace Go.Proofs.YtmbkgapknoammaaGreatDoor
open Go.RowKit Sp
theorem zMl(w:World)(a:Option Addr)(cap x:Nat)(hx:Mag w a (nl x) cap x)(hb:x≤9007199254740992):Calls Tryz.prog 125 #[.agg #[.bool false,.slice a (nl x) cap]] w fun e w'=>e=.returned (.tuple #[.int .i64 x,.bool true])∧Below w.heap.size w w':=by
 have hn:nl x≤2:=zAH (x:=x) (n:=2) (by rw[show B^2=18446744073709551616 by decide];omega);have l1:=hx.lim;have l2:=hx.fits;have HN:=fun W h=>Lib.hid (zBo W false a (nl x) cap x h j0);obtain⟨z,hz⟩:∃z:Int,z=sgn false x:=⟨_,rfl⟩;rw[←hz]at HN;have hz0:decide (z<0)=false:=by rw[hz];unfold sgn;simp
 have hza:z.natAbs=x:=by rw[hz,zAg]
 have hd:decide ((2:Int)<((nl z.natAbs:Nat):Int))=false:=by rw[hza];simp;omega
 have HA:=Lib.hid hza;clear hz hza;go_enter Tryz.func125,Tryz.ntmps125;go_wp2_with fail;have Ia:=(BgV.made' w 51 false (.slice a (nl x) cap) (n:=w.heap.size) jA);have B0:Below w.heap.size w (w.alloc (.cells #[.bool false,(.slice a (nl x) cap)] 51)):=zbh;generalize (w.alloc (.cells #[.bool false,(.slice a (nl x) cap)] 51))=w0 at Ia B0 ⊢;generalize hb0:w.heap.size=b0 at Ia ⊢;obtain⟨ac0,ac1,ac2,ac3⟩:=Ia;have Va0:=Lib.hid (BgV.mk ac0 ac1 ac2 ac3);refine(HN _ (hx.below (have:=Beh.mk B0;zbh))).out.mono ?_;rintro e w1 ⟨az,cz,rfl,Mz1,hb1,hf1⟩;have Va1:BgV w1 b0 false (.slice a (nl x) cap):=(Va0.out.on.below hb1);(try clear ac0 ac1 ac2);obtain⟨ac0,ac1,ac2,ac3⟩:=Va1;have Va1:=Lib.hid (BgV.mk ac0 ac1 ac2 ac3);have B1:=zA0 (w:=w) (have:=Beh.mk B0;zbh) hb1;have hF1:0<(nl z.natAbs)→w0.heap.size≤ab az:=(fun h=>jT);have frza:0<(nl z.natAbs)→ab az≠b0:=(fun h=>by have:=hF1 h;have:=Va0.out.lt;omega);have foz:0<(nl z.natAbs)→w.heap.size≤ab az:=(fun h=>K0);clear hF1;clear hb1 hf1;go_wp2_with fail;have Va2:=BgV.put Va1.out false (.slice az (nl z.natAbs) cz);have Mz2:=(Mag.set (Mag.set Mz1 frza 0 (.bool false)) frza 1 (.slice az (nl z.natAbs) cz));have B2:Below w.heap.size w ((w1.setCell ⟨b0,0,none⟩ (.bool false)).setCell ⟨b0,1,none⟩ (.slice az (nl z.natAbs) cz)):=jn;generalize ((w1.setCell ⟨b0,0,none⟩ (.bool false)).setCell ⟨b0,1,none⟩ (.slice az (nl z.natAbs) cz))=w2 at Va2 Mz2 B2 ⊢;(try clear ac0 ac1 ac2);obtain⟨ac0,ac1,ac2,ac3⟩:=Va2;have Va2:=Lib.hid (BgV.mk ac0 ac1 ac2 ac3);go_wp2_with fail;have hz2:nl z.natAbs≤2:=by rw[HA.out];exact hn
 go_loop [4,5] (fun u i=>∃k:Nat,k≤nl z.natAbs∧i=.int .i64 k∧u=.int .u64 (z.natAbs%B^k:Nat)) (fun _ i=>nl z.natAbs-(intOf i).toNat)
 case atStart=>exact⟨0,Nat.zero_le _,rfl,by rw[Nat.pow_zero,Nat.mod_one];rfl⟩
 case round=>
  obtain⟨k,hk,rfl,rfl⟩:=hrel;have l3:=Mz2.lim;have l4:=Mz2.fits
  by_cases h0:k<nl z.natAbs
  · have c1:=Mz2.cell k h0;have i1:=Mz2.idx 49 und siz k h0;have hval:=zJR (x:=z.natAbs) (k:=k) j0;have hw32:IntKind.i64.wrap (32*(k:Int))=((32*k:Nat):Int):=jg;have hw32':wrap64 (32*(k:Int))=((32*k:Nat):Int):=jD;generalize hy:((z.natAbs%B^(k+1):Nat):Int)=y at hval;generalize ((z.natAbs%B^k:Nat):Int)=U at hval ⊢;generalize ((dig z.natAbs k:Nat):Int)=D at hval c1;have HY:=Lib.hid hy;clear hy
    go_wp2
    go_round
    case rel=>exact⟨k+1,j0,jm,by rw[HY.out]⟩
    case measure=>exact jb
  · obtain rfl:k=nl z.natAbs:=j0;have hval:z.natAbs%B^nl z.natAbs=x:=(by rw[zA8 Mz2.lt,HA.out]);have h1:IntKind.i64.wrap (x:Int)=x:=jg;have h2:decide ((9223372036854775807:Int)<(x:Int))=false:=jq;rw[hval];clear hval
    go_wp2
    refine bodyPost_ret (v:=.tuple #[.int .i64 x,.bool true]) (by simp only[results,Tryz.results125];go_simp) rfl ?_;exact⟨rfl,by first | exact B2 | (rw[←hb0];exact B2)⟩
theorem zSh(w:World)(f:Nat)(hf:f<18446744073709551616)(h0:fE f=0)(m:Nat)(hm:m=fR f)(e:Int)(he:e= -1074)(d:Option (Int×Int))(hd:d=nrm (sgn (fS f) m) e)(hT:Tab w):Calls Tryz.prog 24 #[.int .u64 f] w (zAM w d):=by
 have HF:=fun W=>Lib.hid (zC3 W f);have hfin:zAA f=true:=by rw[zDI];simp;omega
 rw[hfin]at HF;have HS:=fun W=>Lib.hid (zFI W f hf);have hR:=zHK f;have hE:=zHL f;have e1:=zKh f;have e2:=zNZ f;have hmb:m<9007199254740992:=j0
 have hbl:zA4 m≤53:=zAC hmb;have hw:IntKind.i64.wrap ((fE f:Nat):Int)=(fE f:Nat):=jg
 have a2:decide (0<((fE f:Nat):Int))=false:=jq
 have d0:(m:Int)%4294967296=((m%4294967296:Nat):Int):=jz
 have d1:(m:Int)/4294967296%4294967296=((m/4294967296:Nat):Int):=j0
 have d2:(m:Int)/4294967296=((m/4294967296:Nat):Int):=j0
 have hmm:m%4294967296+m/4294967296*B=m:=jR
 have hl0:m%4294967296<4294967296:=j0
 have hl1:m/4294967296<4294967296:=j0
 have HM:=fun W b c (h:Mag W b 2 c m) ht=>Lib.hid (show Calls Tryz.prog 54 #[.agg #[.bool (fS f),.slice b 2 c],.int .i64 e] W (zAM W d)from Qn);have a5:((fR f:Nat):Int)=m:=by rw[hm]
 have HMM:=Lib.hid hmm;generalize ((fE f:Nat):Int)=E at *;generalize ((fR f:Nat):Int)=R at *;generalize hL0:m%4294967296=L0 at *;generalize hL1:m/4294967296=L1 at *;generalize fS f=sg at *;subst a5;subst he;clear hL0 hL1 hbl hd hm hR hE hmb hmm  h0 hfin;go_enter Tryz.func24,Tryz.ntmps24;go_wp2_with fail;have Ir:=(DyV.made' w 53 false false (.slice none 0 0) 0 (n:=w.heap.size) jA);have B0:Below w.heap.size w (w.alloc (.cells #[.bool false,.bool false,(.slice none 0 0),.int .i64 0] 53)):=zbh;generalize (w.alloc (.cells #[.bool false,.bool false,(.slice none 0 0),.int .i64 0] 53))=w0 at Ir B0 ⊢;generalize hb0:w.heap.size=b0 at Ir ⊢;obtain⟨rc0,rc1,rc2,rc3,rc4,rc5⟩:=Ir;have Vr0:=Lib.hid (DyV.mk rc0 rc1 rc2 rc3 rc4 rc5);refine(HF _).out.mono ?_;rintro e1 w1 ⟨rfl,rfl⟩;go_wp2_with fail;refine(HS _).out.mono ?_;rintro e1 w1 ⟨rfl,rfl⟩;go_wp2_with fail;have I1:=Mag.two w0 94 L0 L1 hl0 hl1;rw[HMM.out]at I1;have Vr1:=DyV.alloc Vr0.out (.cells #[.int .u32 L0,.int .u32 L1] 94);have B1:Below w.heap.size w (w0.alloc (.cells #[.int .u32 L0,.int .u32 L1] 94)):=(have:=Beh.mk B0;zbh);have nb:¬w0.heap.size=b0:=by have:=Vr0.out.lt;omega
 generalize (w0.alloc (.cells #[.int .u32 L0,.int .u32 L1] 94))=w1 at I1 Vr1 B1 ⊢;(try clear rc0 rc1 rc2 rc3 rc4);obtain⟨rc0,rc1,rc2,rc3,rc4,rc5⟩:=Vr1;have Vr1:=Lib.hid (DyV.mk rc0 rc1 rc2 rc3 rc4 rc5);refine(HM _ (some ⟨w0.heap.size,0,none⟩) 2 I1 (hT.below (have:=Beh.mk B1;zbh))).out.mono ?_;rintro e w2 ⟨ad,cd,rfl,Md2,hb2,hf2⟩;have Vr2:DyV w2 b0 false false (.slice none 0 0) 0:=(Vr1.out.on.below hb2);(try clear rc0 rc1 rc2 rc3 rc4);obtain⟨rc0,rc1,rc2,rc3,rc4,rc5⟩:=Vr2;have Vr2:=Lib.hid (DyV.mk rc0 rc1 rc2 rc3 rc4 rc5);have B2:=zA0 (w:=w) (have:=Beh.mk B1;zbh) hb2;have hF2:0<(nl (zA1 d).natAbs)→w1.heap.size≤ab ad:=(fun h=>Ko);have frdr:0<(nl (zA1 d).natAbs)→ab ad≠b0:=(fun h=>Qx);have fod:0<(nl (zA1 d).natAbs)→w.heap.size≤ab ad:=(fun h=>KC);clear hF2;clear hb2 hf2;go_wp2_with fail;refine bodyPost_ret (v:=.agg #[.bool (zAj d),.bool (decide (zA1 d<0)),.slice ad (nl (zA1 d).natAbs) cd,.int .i64 (zA7 d)]) (by simp only[results,Tryz.results24];go_simp) rfl ?_;exact⟨ad,cd,rfl,Kv,jv,fod⟩
theorem zSi(w:World)(f:Nat)(hf:f<18446744073709551616)(h0:fE f≠0)(h1:fE f≠2047)(m:Nat)(hm:m=fR f+4503599627370496)(e:Int)(he:e=(fE f:Int)-1075)(d:Option (Int×Int))(hd:d=nrm (sgn (fS f) m) e)(hT:Tab w):Calls Tryz.prog 24 #[.int .u64 f] w (zAM w d):=by
 have HF:=fun W=>Lib.hid (zC3 W f);have hfin:zAA f=true:=by rw[zDI];simp;omega
 rw[hfin]at HF;have HS:=fun W=>Lib.hid (zFI W f hf);have hR:=zHK f;have hE:=zHL f;have e1:=zKh f;have e2:=zNZ f;have hmb:m<9007199254740992:=j0
 have hbl:zA4 m≤53:=zAC hmb;have hw:IntKind.i64.wrap ((fE f:Nat):Int)=(fE f:Nat):=jg
 have a2:decide (0<((fE f:Nat):Int))=true:=jq
 have d0:(m:Int)%4294967296=((m%4294967296:Nat):Int):=jz
 have d1:(m:Int)/4294967296%4294967296=((m/4294967296:Nat):Int):=j0
 have d2:(m:Int)/4294967296=((m/4294967296:Nat):Int):=j0
 have hmm:m%4294967296+m/4294967296*B=m:=jR
 have hl0:m%4294967296<4294967296:=j0
 have hl1:m/4294967296<4294967296:=j0
 have HM:=fun W b c (h:Mag W b 2 c m) ht=>Lib.hid (show Calls Tryz.prog 54 #[.agg #[.bool (fS f),.slice b 2 c],.int .i64 e] W (zAM W d)from Qn);have a3:=zFu hR;rw[←hm]at a3;have a4:IntKind.i64.wrap (((fE f:Nat):Int)-1075)=e:=by rw[he,IntKind.wrap_i64];omega
 have a5:wrap64 (((fE f:Nat):Int)-1075)=e:=jD
 have HMM:=Lib.hid hmm;generalize ((fE f:Nat):Int)=E at *;generalize ((fR f:Nat):Int)=R at *;generalize hL0:m%4294967296=L0 at *;generalize hL1:m/4294967296=L1 at *;generalize fS f=sg at *
 skip
 skip
 clear hL0 hL1 hbl hd hm hR hE hmb hmm he h1 h0 hfin;go_enter Tryz.func24,Tryz.ntmps24;go_wp2_with fail;have Ir:=(DyV.made' w 53 false false (.slice none 0 0) 0 (n:=w.heap.size) jA);have B0:Below w.heap.size w (w.alloc (.cells #[.bool false,.bool false,(.slice none 0 0),.int .i64 0] 53)):=zbh;generalize (w.alloc (.cells #[.bool false,.bool false,(.slice none 0 0),.int .i64 0] 53))=w0 at Ir B0 ⊢;generalize hb0:w.heap.size=b0 at Ir ⊢;obtain⟨rc0,rc1,rc2,rc3,rc4,rc5⟩:=Ir;have Vr0:=Lib.hid (DyV.mk rc0 rc1 rc2 rc3 rc4 rc5);refine(HF _).out.mono ?_;rintro e1 w1 ⟨rfl,rfl⟩;go_wp2_with fail;refine(HS _).out.mono ?_;rintro e1 w1 ⟨rfl,rfl⟩;go_wp2_with fail;have I1:=Mag.two w0 94 L0 L1 hl0 hl1;rw[HMM.out]at I1;have Vr1:=DyV.alloc Vr0.out (.cells #[.int .u32 L0,.int .u32 L1] 94);have B1:Below w.heap.size w (w0.alloc (.cells #[.int .u32 L0,.int .u32 L1] 94)):=(have:=Beh.mk B0;zbh);have nb:¬w0.heap.size=b0:=by have:=Vr0.out.lt;omega
 generalize (w0.alloc (.cells #[.int .u32 L0,.int .u32 L1] 94))=w1 at I1 Vr1 B1 ⊢;(try clear rc0 rc1 rc2 rc3 rc4);obtain⟨rc0,rc1,rc2,rc3,rc4,rc5⟩:=Vr1;have Vr1:=Lib.hid (DyV.mk rc0 rc1 rc2 rc3 rc4 rc5);refine(HM _ (some ⟨w0.heap.size,0,none⟩) 2 I1 (hT.below (have:=Beh.mk B1;zbh))).out.mono ?_;rintro e w2 ⟨ad,cd,rfl,Md2,hb2,hf2⟩;have Vr2:DyV w2 b0 false false (.slice none 0 0) 0:=(Vr1.out.on.below hb2);(try clear rc0 rc1 rc2 rc3 rc4);obtain⟨rc0,rc1,rc2,rc3,rc4,rc5⟩:=Vr2;have Vr2:=Lib.hid (DyV.mk rc0 rc1 rc2 rc3 rc4 rc5);have B2:=zA0 (w:=w) (have:=Beh.mk B1;zbh) hb2;have hF2:0<(nl (zA1 d).natAbs)→w1.heap.size≤ab ad:=(fun h=>Ko);have frdr:0<(nl (zA1 d).natAbs)→ab ad≠b0:=(fun h=>Qx);have fod:0<(nl (zA1 d).natAbs)→w.heap.size≤ab ad:=(fun h=>KC);clear hF2;clear hb2 hf2;go_wp2_with fail;refine bodyPost_ret (v:=.agg #[.bool (zAj d),.bool (decide (zA1 d<0)),.slice ad (nl (zA1 d).natAbs) cd,.int .i64 (zA7 d)]) (by simp only[results,Tryz.results24];go_simp) rfl ?_;exact⟨ad,cd,rfl,Kv,jv,fod⟩
theorem zOP(w:World)(f:Nat)(h:zAA f=false):Calls Tryz.prog 24 #[.int .u64 f] w (zAM w none):=by
 have HF:=fun W=>Lib.hid (zC3 W f);rw[h]at HF;have HB:=fun W=>Lib.hid (zD2 W);go_enter Tryz.func24,Tryz.ntmps24;go_wp2_with fail;have Ir:=(DyV.made' w 53 false false (.slice none 0 0) 0 (n:=w.heap.size) jA);have B0:Below w.heap.size w (w.alloc (.cells #[.bool false,.bool false,(.slice none 0 0),.int .i64 0] 53)):=zbh;generalize (w.alloc (.cells #[.bool false,.bool false,(.slice none 0 0),.int .i64 0] 53))=w0 at Ir B0 ⊢;generalize hb0:w.heap.size=b0 at Ir ⊢;obtain⟨rc0,rc1,rc2,rc3,rc4,rc5⟩:=Ir;have Vr0:=Lib.hid (DyV.mk rc0 rc1 rc2 rc3 rc4 rc5);refine(HF _).out.mono ?_;rintro e1 w1 ⟨rfl,rfl⟩;go_wp2_with fail;refine(HB _).out.mono ?_;rintro e w1 ⟨rfl,hb1⟩;have Vr1:DyV w1 b0 false false (.slice none 0 0) 0:=(Vr0.out.on.below hb1);(try clear rc0 rc1 rc2 rc3 rc4);obtain⟨rc0,rc1,rc2,rc3,rc4,rc5⟩:=Vr1;have Vr1:=Lib.hid (DyV.mk rc0 rc1 rc2 rc3 rc4 rc5);have B1:=zA0 (w:=w) (have:=Beh.mk B0;zbh) hb1;clear hb1;go_wp2_with fail;refine bodyPost_ret (v:=.agg #[.bool true,.bool false,.slice none 0 0,.int .i64 0]) (by simp only[results,Tryz.results24];go_simp) rfl ?_;exact⟨none,0,rfl,Mag.nil _,jn,nl0⟩
theorem zD3(w:World)(f:Nat)(hf:f<18446744073709551616)(hT:Tab w):Calls Tryz.prog 24 #[.int .u64 f] w (zAM w (fof f)):=by
 by_cases h1:fE f=2047
 · have h:=zNi (f:=f) KW;rw[h];exact zOP w f KW
 · have hd:fof f=nrm (sgn (fS f) (if fE f=0 then fR f else fR f+4503599627370496)) (if fE f=0 then -1074 else(fE f:Int)-1075):=by
    rw[zCA KW];exact zJV f
   by_cases h0:fE f=0
   · rw[if_pos h0,if_pos h0]at hd;exact zSh w f hf h0 _ rfl _ rfl _ hd hT
   · rw[if_neg h0,if_neg h0]at hd;exact zSi w f hf h0 h1 _ rfl _ rfl _ hd hT
end Go.Proofs.YtmbkgapknoammaaGreatDoor
namespace Go.Proofs.YtmbkgapknoammaaGreatDoor
open Go.RowKit Sp
attribute [local irreducible] Calls
theorem zPp{s more:Bool}{x:Nat}{E mode:Int}(hx0:0<x)(h:1024≤rlg x E):zCg s x E more mode=zCd s mode:=by
 obtain⟨q,hq⟩:∃q,q=max (rlg x E-52) (-1074):=⟨_,rfl⟩;obtain⟨h1,h2,h3,h4,h5⟩:=@zNh s more x E mode q _ hx0 hq rfl;have hp:=zEV hx0 E q hq;have hn:rdn x E q≤zGh s x E more q mode:=by unfold zGh;omega
 generalize zGh s x E more q mode=n at *;have h6:4503599627370496≤n:=by rcases hp.2 with h | h <;> omega
 rcases Nat.lt_or_ge n 9007199254740992 with hh | hh
 · rw[h4 h6 hh,if_pos j0]
 · rw[h5 j0,if_pos j0]
theorem zNI{s more:Bool}{x:Nat}{E q mode:Int}(h:E≤q)(hm:more=true→E<q):zRX s x (q-E).toNat more mode=zGh s x E more q mode:=by
 rcases Int.lt_or_eq_of_le h with h1 | h1
 · have hr:rdn x E q=x/2^(q-E).toNat:=(by unfold rdn;rw[if_neg j0]);unfold zRX zGh rax;rw[if_neg (show ¬q≤E by omega),hr]
 · subst h1;have hmf:more=false:=by cases more with
    | false=>rfl
    | true=>have:=hm rfl;omega
   subst hmf;have hr:rdn x E E=x:=(by unfold rdn;rw[if_pos (Int.le_refl _)];simp);have e:(E-E).toNat=0:=j0;unfold zRX zGh rax;rw[if_pos (Int.le_refl E),hr,e];have:rex x false 0=true:=(by unfold rex;simp[Nat.mod_one]);rw[this];unfold raw;simp
theorem zKB{s more:Bool}{x:Nat}{E q mode:Int}(h:q<E):sgn false x*2^(E-q).toNat=((zGh s x E more q mode:Nat):Int):=by
 have hr:rdn x E q=x*2^(E-q).toNat:=by unfold rdn;rw[if_pos j0]
 unfold zGh rax;rw[if_pos (show q≤E by omega),hr];unfold sgn;simp
theorem zCv(w:World)(neg more:Bool)(a:Option Addr)(cap:Nat)(x:Nat)(E mode:Int)(hx:Mag w a (nl x) cap x)(hx0:0<x)(hxl:zA4 x≤500000)(hE0: -500000≤E)(hE1:E≤500000)(hm:more=true→54≤zA4 x)(hT:Tab w):Calls Tryz.prog 85 #[.bool neg,.agg #[.bool false,.slice a (nl x) cap],.int .i64 E,.bool more,.int .i64 mode] w fun o w'=>o=.returned (.int .u64 (zCg neg x E more mode:Nat))∧Below w.heap.size w w':=by
 have HT:Tb w:=⟨hT⟩;have HM:BI w a (nl x) cap x:=⟨hx⟩;have hlx:nl x≤549755813888:=zAZ j0;have HL:=fun W [i:BI W a (nl x) cap x]=>Lib.hid (frm (zBu W false a (nl x) cap x i.out j0));have HO:=fun W=>Lib.hid (zKV W mode neg);obtain⟨k,hk⟩:∃k,k=rlg x E:=⟨_,rfl⟩;have hkk:IntKind.i64.wrap (IntKind.i64.wrap (E+(zA4 x:Int))-1)=k:=X6
 have hkk':wrap64 (wrap64 (E+(zA4 x:Int))-1)=k:=by rw[hk];unfold rlg wrap64;omega
 have hk0:E+(zA4 x:Int)-1=k:=by rw[hk];unfold rlg;rfl
 by_cases hf:1024≤k
 · rw[zPp hx0 j0];have b0':decide (1024≤k)=true:=(by simpa using hf);generalize ((zCd neg mode:Nat):Int)=V at *;generalize zA4 x=l at *;clear hk hf;go_enter Tryz.func85,Tryz.ntmps85;go_wp2_with fail;refine(HL _).out.mono ?_;rintro e w1 ⟨rfl,b1⟩;go_wp2_with fail;refine(HO _).out.mono ?_;rintro e w2 ⟨rfl,rfl⟩;go_wp2_with fail;go_ret;exact⟨rfl,zbh⟩
 · have b0':decide (1024≤k)=false:=jq;obtain⟨q,hq⟩:∃q,q=max (k-52) (-1074):=⟨_,rfl⟩;have hqw:max (IntKind.i64.wrap (k-52)) (-1074)=q:=(by rw[hq,hk];unfold rlg;rw[IntKind.wrap_i64];omega);have hqw':max (wrap64 (k-52)) (-1074)=q:=(by rw[hq,hk];unfold rlg wrap64;omega);have hq0:max (k-52) (-1074)=q:=hq.symm;have hql: -500100≤q∧q≤1100000:=(by rw[hq,hk];unfold rlg;omega);obtain⟨n,hn⟩:∃n:Nat,n=zGh neg x E more q mode:=⟨_,rfl⟩;obtain⟨h1,h2,h3,h4,h5⟩:=zNh hx0 (by rw[←hk];exact hq) hn;obtain⟨z,hz⟩:∃z:Int,z=(n:Int):=⟨_,rfl⟩;have hza:z.natAbs=n:=j0;have z0:decide (z<0)=false:=jq;have HI:=fun W b c [i:BI W b (nl z.natAbs) c z.natAbs]=>Lib.hid (show Calls Tryz.prog 125 #[.agg #[.bool false,.slice b (nl z.natAbs) c]] W fun e w'=>e=.returned (.tuple #[.int .i64 z,.bool true])∧From W w' from by
    have:=frm (zMl W b c z.natAbs i.out j0);rwa[show((z.natAbs:Nat):Int)=z by omega]at this)
   have HC:E≤q→∀W [BI W a (nl x) cap x] [Tb W],Hid (Calls Tryz.prog 124 #[.bool neg,.agg #[.bool false,.slice a (nl x) cap],.int .i64 (q-E),.bool more,.int .i64 mode] W fun e w'=>∃a c,e=.returned (.agg #[.bool (decide (z<0)),.slice a (nl z.natAbs) c])∧BI w' a (nl z.natAbs) c z.natAbs∧From W w'∧(0<nl z.natAbs→W.heap.size≤ab a)):=fun hc W i _=>by
    have hmq:more=true→E<q:=fun h=>(by have:=hm h;rw[hq,hk];unfold rlg;omega);have:=frb (zON W tb neg more a cap x (q-E).toNat mode i.out hlx j0 z (by rw[hz,hn,zNI hc hmq]));rw[show(((q-E).toNat:Nat):Int)=q-E by omega]at this;exact Lib.hid this
   have HS:q<E→∀W [BI W a (nl x) cap x],Hid (Calls Tryz.prog 86 #[.agg #[.bool false,.slice a (nl x) cap],.int .i64 (E-q)] W fun e w'=>∃a c,e=.returned (.agg #[.bool (decide (z<0)),.slice a (nl z.natAbs) c])∧BI w' a (nl z.natAbs) c z.natAbs∧From W w'∧(0<nl z.natAbs→W.heap.size≤ab a)):=fun hc W i=>by
    have:=zCj W false a (nl x) cap x (E-q).toNat i.out hlx j0;rw[zKB (s:=neg) (more:=more) (mode:=mode) hc,←hn,←hz,show(((E-q).toNat:Nat):Int)=E-q by omega]at this;exact Lib.hid (frb this)
   have w1':IntKind.i64.wrap (q-E)=q-E:=jg;have w2':IntKind.i64.wrap (E-q)=E-q:=jg;have w3':wrap64 (q-E)=q-E:=jD;have w4':wrap64 (E-q)=E-q:=jD;obtain⟨U,hU⟩:∃U:Int,U=((zCg neg x E more mode:Nat):Int):=⟨_,rfl⟩;rw[←hU];generalize zCg neg x E more mode=U' at *;replace h3:=fun h=>(h3 h).2;have hZ:=Lib.hid hz;have hUU:=Lib.hid hU;clear hk hq hn hf hm hza hz hU;go_enter Tryz.func85,Tryz.ntmps85;go_wp2_with fail;refine(HL _).out.mono ?_;rintro e w1 ⟨rfl,b1⟩
   go_upto_if 31 with fail
   go_cut [12] (fun t wx=>t=.int .i64 q∧∃az cz,BB wx w1.heap.size false (.slice az (nl z.natAbs) cz)∧BI wx az (nl z.natAbs) cz z.natAbs∧From w1 wx)
   case first=>
    clear h3 h4 h5 HI HO
    by_cases hc:E≤q
    · have b1':decide (E≤q)=true:=(by simpa using hc);have HC1:=HC hc;clear HC HS;go_wp2_with fail;refine(HC1 _).out.mono ?_;rintro e w3 ⟨a3,c3,rfl,i3,b3,f3⟩;go_wp2_with fail
      go_meet
      exact⟨rfl,a3,c3,(inferInstance:BB w3 w1.heap.size _ _).pt2 _ _,⟨X7⟩,⟨zbh⟩⟩
    · have b1':decide (E≤q)=false:=(by simpa using hc);have HC1:=HS j0;clear HC HS;go_wp2_with fail;refine(HC1 _).out.mono ?_;rintro e w3 ⟨a3,c3,rfl,i3,b3,f3⟩;go_wp2_with fail
      go_meet
      exact⟨rfl,a3,c3,(inferInstance:BB w3 w1.heap.size _ _).pt2 _ _,⟨X7⟩,⟨zbh⟩⟩
   case rest=>
   obtain⟨rfl,az,cz,V,i2,b2⟩:=hcut;clear HC HS HL hkk hkk' hqw hqw' hq0 w1' w2' w3' w4' hk0;generalize wc=v1 at *;have hw:(z<4503599627370496∧U'=zBE neg n)∨(4503599627370496≤z∧z<9007199254740992∧2047≤q+1075∧U'=zCd neg mode)∨(4503599627370496≤z∧z<9007199254740992∧¬2047≤q+1075∧U'=zBE neg ((q+1075).toNat*4503599627370496+(n-4503599627370496))) ∨
    (z=9007199254740992∧2047≤q+1076∧U'=zCd neg mode)∨(z=9007199254740992∧¬2047≤q+1076∧U'=zBE neg ((q+1076).toNat*4503599627370496)):=by
    have hz:=hZ.out;rcases Nat.lt_or_ge n 4503599627370496 with hl | hl
    · left;exact⟨j0,h3 hl⟩
    · rcases Nat.lt_or_ge n 9007199254740992 with hh | hh
      · have e:=h4 hl hh
        by_cases ho:2047≤q+1075
        · rw[if_pos ho]at e;right;left;exact⟨j0,j0,ho,e⟩
        · rw[if_neg ho]at e;right;right;left;exact⟨j0,j0,ho,e⟩
      · have he:n=9007199254740992:=j0;have e:=h5 he
        by_cases ho:2047≤q+1076
        · rw[if_pos ho]at e;right;right;right;left;exact⟨j0,ho,e⟩
        · rw[if_neg ho]at e;right;right;right;right;exact⟨j0,ho,e⟩
   clear h3 h4 h5;have hU:=hUU.out;rcases hw with⟨k1,kU⟩ | ⟨k1,k2,k3,kU⟩ | ⟨k1,k2,k3,kU⟩ | ⟨k1,k3,kU⟩ | ⟨k1,k3,kU⟩
   · have hz:=hZ.out;have e1':(z==9007199254740992)=false:=ju;have e2':decide (4503599627370496≤z)=false:=K7;have u1:IntKind.u64.wrap z=z:=jG;have HS:=fun W=>Lib.hid (show Calls Tryz.prog 126 #[.bool neg,.int .u64 z] W fun e w'=>e=.returned (.int .u64 U)∧W=w' from by rw[hz,hU,kU];exact zBS W n neg j0);clear hU kU k1 hz h1 h2 hql HO;go_wp2_with fail;refine(HI _ _ _).out.mono ?_;rintro e w4 ⟨rfl,b4⟩;go_wp2_with fail;refine(HS _).out.mono ?_;rintro e w5 ⟨rfl,rfl⟩;go_wp2_with fail;go_ret;exact⟨rfl,zbh⟩
   · have e1':(z==9007199254740992)=false:=ju;have e2':decide (4503599627370496≤z)=true:=Kk;have q1:IntKind.i64.wrap (q+53)=q+53:=jg;have q1':wrap64 (q+53)=q+53:=jD;have e3':decide (1024<q+53)=true:=Kk;rw[←kU,←hU]at HO;clear hU kU k1 k2 k3 h1 h2 hql;go_wp2_with fail;refine(HI _ _ _).out.mono ?_;rintro e w4 ⟨rfl,b4⟩;go_wp2_with fail;refine(HO _).out.mono ?_;rintro e w5 ⟨rfl,rfl⟩;go_wp2_with fail;go_ret;exact⟨rfl,zbh⟩
   · have hz:=hZ.out;obtain⟨K,hK⟩:∃K:Nat,K=(q+1075).toNat:=⟨_,rfl⟩;obtain⟨m,hm⟩:∃m:Nat,m=n-4503599627370496:=⟨_,rfl⟩;rw[←hK,←hm]at kU;have HS:=fun W=>Lib.hid (show Calls Tryz.prog 126 #[.bool neg,.int .u64 (K*4503599627370496+m:Nat)] W fun e w'=>e=.returned (.int .u64 U)∧W=w' from by rw[hU,kU];exact zBS W (K*4503599627370496+m) neg j0);have hbc:=zDN (E:=K) (m:=m) j0 j0;have u1:IntKind.u64.wrap (K:Int)=K:=jG;have u2:IntKind.u64.wrap ((K:Int)*4503599627370496)=(K:Int)*4503599627370496:=jG;have u4:IntKind.u64.wrap (m:Int)=m:=jG;have e1':(z==9007199254740992)=false:=ju;have e2':decide (4503599627370496≤z)=true:=Kk;have q1:IntKind.i64.wrap (q+53)=q+53:=jg;have q1':wrap64 (q+53)=q+53:=jD;have e3':decide (1024<q+53)=false:=K7;have q3:IntKind.i64.wrap (q+1075)=K:=jg;have q3':wrap64 (q+1075)=K:=jD;have u3:IntKind.i64.wrap (z-4503599627370496)=m:=jg;have u3':wrap64 (z-4503599627370496)=m:=jD;generalize ((K*4503599627370496+m:Nat):Int)=C at *;generalize (K:Int)=KK at *;generalize (m:Int)=mm at *;clear hU kU k1 k2 k3 hz h1 h2 hql hK hm HO;go_wp2_with fail;refine(HI _ _ _).out.mono ?_;rintro e w4 ⟨rfl,b4⟩;go_wp2_with fail;refine(HS _).out.mono ?_;rintro e w5 ⟨rfl,rfl⟩;go_wp2_with fail;go_ret;exact⟨rfl,zbh⟩
   · have e1':(z==9007199254740992)=true:=Q6;have q1:IntKind.i64.wrap (q+1)=q+1:=jg;have q1':wrap64 (q+1)=q+1:=jD;have q2:IntKind.i64.wrap (q+1+53)=q+1+53:=jg;have q2':wrap64 (q+1+53)=q+1+53:=jD;have e3':decide (1024<q+1+53)=true:=Kk;rw[←kU,←hU]at HO;clear hU kU k1 k3 h1 h2 hql;go_wp2_with fail;refine(HI _ _ _).out.mono ?_;rintro e w4 ⟨rfl,b4⟩;go_wp2_with fail;refine(HO _).out.mono ?_;rintro e w5 ⟨rfl,rfl⟩;go_wp2_with fail;go_ret;exact⟨rfl,zbh⟩
   · have hz:=hZ.out;obtain⟨K,hK⟩:∃K:Nat,K=(q+1076).toNat:=⟨_,rfl⟩;rw[←hK]at kU;have HS:=fun W=>Lib.hid (show Calls Tryz.prog 126 #[.bool neg,.int .u64 (K*4503599627370496:Nat)] W fun e w'=>e=.returned (.int .u64 U)∧W=w' from by rw[hU,kU];exact zBS W (K*4503599627370496) neg j0);have hbc:Go.bits .or .u64 ((K:Int)*4503599627370496) 0=((K*4503599627370496:Nat):Int):=by
      have h:=zDN (E:=K) (m:=0) j0 j0;rw[Nat.add_zero]at h;exact h
     have u1:IntKind.u64.wrap (K:Int)=K:=jG;have u2:IntKind.u64.wrap ((K:Int)*4503599627370496)=(K:Int)*4503599627370496:=jG;have e1':(z==9007199254740992)=true:=Q6;have q1:IntKind.i64.wrap (q+1)=q+1:=jg;have q1':wrap64 (q+1)=q+1:=jD;have q2:IntKind.i64.wrap (q+1+53)=q+1+53:=jg;have q2':wrap64 (q+1+53)=q+1+53:=jD;have e3':decide (1024<q+1+53)=false:=K7;have q3:IntKind.i64.wrap (q+1+1075)=K:=jg;have q3':wrap64 (q+1+1075)=K:=jD;generalize ((K*4503599627370496:Nat):Int)=C at *;generalize (K:Int)=KK at *;clear hU kU k1 k3 hz h1 h2 hql hK HO;go_wp2_with fail;refine(HI _ _ _).out.mono ?_;rintro e w4 ⟨rfl,b4⟩;go_wp2_with fail;refine(HS _).out.mono ?_;rintro e w5 ⟨rfl,rfl⟩;go_wp2_with fail;go_ret;exact⟨rfl,zbh⟩
end Go.Proofs.YtmbkgapknoammaaGreatDoor
namespace Go.Proofs.YtmbkgapknoammaaGreatDoor
open Go.RowKit Sp
theorem zSN{w:World}{d:Option (Int×Int)}{a:Option Addr}{c:Nat}(hd:IsN d)(hm:Mag w a (nl (zA1 d).natAbs) c (zA1 d).natAbs):DyIs w (zAj d) (decide (zA1 d<0)) a (nl (zA1 d).natAbs) c (zA7 d) d:=
 ⟨zAp hd hm,zAZ (by have:=zAd hd;omega)⟩
theorem zNf{d:Option (Int×Int)}(h:zAj d=false)(mode:Int):zAu d mode=if zA1 d=0 then 0 else zCg (decide (zA1 d<0)) (zA1 d).natAbs (zA7 d) false mode:=by
 cases d with
 | none=>cases h
 | some p=>rfl
theorem zTM{z:Int}(h:z=0):(sg z==0)=true:=by subst h;rfl
theorem zTL{z:Int}(h:z≠0):(sg z==0)=false:=by
 rw[beq_eq_false_iff_ne];unfold sg zAq;split <;> (try split) <;> omega
theorem zIg(w:World)(bd s:Bool)(a:Option Addr)(n cap:Nat)(e mode:Int)(d:Option (Int×Int))(hx:DyIs w bd s a n cap e d)(hT:Tab w)(hb:zAj d=true):Calls Tryz.prog 42 #[.agg #[.bool bd,.bool s,.slice a n cap,.int .i64 e],.int .i64 mode] w fun o w'=>o=.returned (.int .u64 9221120237041090560)∧Below w.heap.size w w':=by
 have HN:=fun W h ht=>Lib.hid (@zAQ W bd s a n cap e d h ht);go_enter Tryz.func42,Tryz.ntmps42;go_wp2_with fail;have Ix:=(DyV.made' w 53 bd s (.slice a n cap) e (n:=w.heap.size) jA);have B0:Below w.heap.size w (w.alloc (.cells #[.bool bd,.bool s,(.slice a n cap),.int .i64 e] 53)):=zbh;generalize (w.alloc (.cells #[.bool bd,.bool s,(.slice a n cap),.int .i64 e] 53))=w0 at Ix B0 ⊢;generalize hb0:w.heap.size=b0 at Ix ⊢;obtain⟨xc0,xc1,xc2,xc3,xc4,xc5⟩:=Ix;have Vx0:=Lib.hid (DyV.mk xc0 xc1 xc2 xc3 xc4 xc5);refine(HN _ (hx.below (have:=Beh.mk B0;zbh)) (hT.below (have:=Beh.mk B0;zbh))).out.mono ?_;rintro e w1 ⟨a1,c1,rfl,M11,hb1,hf1⟩;have Vx1:DyV w1 b0 bd s (.slice a n cap) e:=(Vx0.out.on.below hb1);(try clear xc0 xc1 xc2 xc3 xc4);obtain⟨xc0,xc1,xc2,xc3,xc4,xc5⟩:=Vx1;have Vx1:=Lib.hid (DyV.mk xc0 xc1 xc2 xc3 xc4 xc5);have B1:=zA0 (w:=w) (have:=Beh.mk B0;zbh) hb1;have hF1:0<(nl (zA1 d).natAbs)→w0.heap.size≤ab a1:=(fun h=>jT);have fr1x:0<(nl (zA1 d).natAbs)→ab a1≠b0:=(fun h=>Ki);have fo1:0<(nl (zA1 d).natAbs)→w.heap.size≤ab a1:=(fun h=>K0);clear hF1;clear hb1 hf1;go_wp2_with fail;have Vx2:=DyV.put Vx1.out true (decide (zA1 d<0)) (.slice a1 (nl (zA1 d).natAbs) c1) (zA7 d);have M12:=(Mag.set (Mag.set (Mag.set (Mag.set M11 fr1x 0 (.bool true)) fr1x 1 (.bool (decide (zA1 d<0)))) fr1x 2 (.slice a1 (nl (zA1 d).natAbs) c1)) fr1x 3 (.int .i64 (zA7 d)));have B2:Below w.heap.size w ((((w1.setCell ⟨b0,0,none⟩ (.bool true)).setCell ⟨b0,1,none⟩ (.bool (decide (zA1 d<0)))).setCell ⟨b0,2,none⟩ (.slice a1 (nl (zA1 d).natAbs) c1)).setCell ⟨b0,3,none⟩ (.int .i64 (zA7 d))):=jn;generalize ((((w1.setCell ⟨b0,0,none⟩ (.bool true)).setCell ⟨b0,1,none⟩ (.bool (decide (zA1 d<0)))).setCell ⟨b0,2,none⟩ (.slice a1 (nl (zA1 d).natAbs) c1)).setCell ⟨b0,3,none⟩ (.int .i64 (zA7 d)))=w2 at Vx2 M12 B2 ⊢;(try clear xc0 xc1 xc2 xc3 xc4);obtain⟨xc0,xc1,xc2,xc3,xc4,xc5⟩:=Vx2;have Vx2:=Lib.hid (DyV.mk xc0 xc1 xc2 xc3 xc4 xc5);go_wp2_with fail;go_ret;exact⟨rfl,(have:=Beh.mk B2;zbh)⟩
theorem zHn(w:World)(bd s:Bool)(a:Option Addr)(n cap:Nat)(e mode:Int)(d:Option (Int×Int))(hx:DyIs w bd s a n cap e d)(hT:Tab w)(hb:zAj d=false)(hz:zA1 d=0):Calls Tryz.prog 42 #[.agg #[.bool bd,.bool s,.slice a n cap,.int .i64 e],.int .i64 mode] w fun o w'=>o=.returned (.int .u64 0)∧Below w.heap.size w w':=by
 have HN:=fun W h ht=>Lib.hid (@zAQ W bd s a n cap e d h ht);have hbz:=zAd hx.1.isN;have HS:=fun W b c h=>Lib.hid (zEj W b c (zA1 d) _ rfl h (zAZ j0));obtain⟨g,hg⟩:∃g,g=sg (zA1 d):=⟨_,rfl⟩;have hgz:(g==0)=true:=by rw[hg];exact zTM hz
 rw[←hg]at HS;clear hg;clear hz hbz;go_enter Tryz.func42,Tryz.ntmps42;go_wp2_with fail;have Ix:=(DyV.made' w 53 bd s (.slice a n cap) e (n:=w.heap.size) jA);have B0:Below w.heap.size w (w.alloc (.cells #[.bool bd,.bool s,(.slice a n cap),.int .i64 e] 53)):=zbh;generalize (w.alloc (.cells #[.bool bd,.bool s,(.slice a n cap),.int .i64 e] 53))=w0 at Ix B0 ⊢;generalize hb0:w.heap.size=b0 at Ix ⊢;obtain⟨xc0,xc1,xc2,xc3,xc4,xc5⟩:=Ix;have Vx0:=Lib.hid (DyV.mk xc0 xc1 xc2 xc3 xc4 xc5);refine(HN _ (hx.below (have:=Beh.mk B0;zbh)) (hT.below (have:=Beh.mk B0;zbh))).out.mono ?_;rintro e w1 ⟨a1,c1,rfl,M11,hb1,hf1⟩;have Vx1:DyV w1 b0 bd s (.slice a n cap) e:=(Vx0.out.on.below hb1);(try clear xc0 xc1 xc2 xc3 xc4);obtain⟨xc0,xc1,xc2,xc3,xc4,xc5⟩:=Vx1;have Vx1:=Lib.hid (DyV.mk xc0 xc1 xc2 xc3 xc4 xc5);have B1:=zA0 (w:=w) (have:=Beh.mk B0;zbh) hb1;have hF1:0<(nl (zA1 d).natAbs)→w0.heap.size≤ab a1:=(fun h=>jT);have fr1x:0<(nl (zA1 d).natAbs)→ab a1≠b0:=(fun h=>Ki);have fo1:0<(nl (zA1 d).natAbs)→w.heap.size≤ab a1:=(fun h=>K0);clear hF1;clear hb1 hf1;go_wp2_with fail;have Vx2:=DyV.put Vx1.out false (decide (zA1 d<0)) (.slice a1 (nl (zA1 d).natAbs) c1) (zA7 d);have M12:=(Mag.set (Mag.set (Mag.set (Mag.set M11 fr1x 0 (.bool false)) fr1x 1 (.bool (decide (zA1 d<0)))) fr1x 2 (.slice a1 (nl (zA1 d).natAbs) c1)) fr1x 3 (.int .i64 (zA7 d)));have B2:Below w.heap.size w ((((w1.setCell ⟨b0,0,none⟩ (.bool false)).setCell ⟨b0,1,none⟩ (.bool (decide (zA1 d<0)))).setCell ⟨b0,2,none⟩ (.slice a1 (nl (zA1 d).natAbs) c1)).setCell ⟨b0,3,none⟩ (.int .i64 (zA7 d))):=jn;generalize ((((w1.setCell ⟨b0,0,none⟩ (.bool false)).setCell ⟨b0,1,none⟩ (.bool (decide (zA1 d<0)))).setCell ⟨b0,2,none⟩ (.slice a1 (nl (zA1 d).natAbs) c1)).setCell ⟨b0,3,none⟩ (.int .i64 (zA7 d)))=w2 at Vx2 M12 B2 ⊢;(try clear xc0 xc1 xc2 xc3 xc4);obtain⟨xc0,xc1,xc2,xc3,xc4,xc5⟩:=Vx2;have Vx2:=Lib.hid (DyV.mk xc0 xc1 xc2 xc3 xc4 xc5);go_wp2_with fail;refine(HS _ a1 c1 M12.on).out.mono ?_;rintro e w3 ⟨rfl,hb3⟩;have Vx3:DyV w3 b0 false (decide (zA1 d<0)) (.slice a1 (nl (zA1 d).natAbs) c1) (zA7 d):=(Vx2.out.on.below hb3);(try clear xc0 xc1 xc2 xc3 xc4);obtain⟨xc0,xc1,xc2,xc3,xc4,xc5⟩:=Vx3;have Vx3:=Lib.hid (DyV.mk xc0 xc1 xc2 xc3 xc4 xc5);have M13:Mag w3 a1 (nl (zA1 d).natAbs) c1 (zA1 d).natAbs:=Mag.below M12.on hb3;have B3:=zA0 (w:=w) (have:=Beh.mk B2;zbh) hb3;clear hb3;go_wp2_with fail;go_ret;exact⟨rfl,(have:=Beh.mk B3;zbh)⟩
theorem zKT(w:World)(bd s:Bool)(a:Option Addr)(n cap:Nat)(e mode:Int)(d:Option (Int×Int))(hx:DyIs w bd s a n cap e d)(hT:Tab w)(hb:zAj d=false)(hz:zA1 d≠0):Calls Tryz.prog 42 #[.agg #[.bool bd,.bool s,.slice a n cap,.int .i64 e],.int .i64 mode] w fun o w'=>o=.returned (.int .u64 (zCg (decide (zA1 d<0)) (zA1 d).natAbs (zA7 d) false mode:Nat))∧Below w.heap.size w w':=by
 have HN:=fun W h ht=>Lib.hid (@zAQ W bd s a n cap e d h ht);have hbz:=zAd hx.1.isN;have HS:=fun W b c h=>Lib.hid (zEj W b c (zA1 d) _ rfl h (zAZ j0));obtain⟨g,hg⟩:∃g,g=sg (zA1 d):=⟨_,rfl⟩;have hgz:(g==0)=false:=by rw[hg];exact zTL hz
 rw[←hg]at HS;clear hg;obtain⟨u,hu⟩:∃u:Int,u=((zA1 d).natAbs:Int):=⟨_,rfl⟩;have hua:(zA1 d).natAbs=u.natAbs:=j0
 have hu0:decide (u<0)=false:=jq
 have HG:=fun W b c h=>Lib.hid (zJj W b c (zA1 d) u hu h (zAZ j0));have hbu:zA4 u.natAbs≤131072:=by rw[←hua];exact hbz.1
 have HR:=fun W b c h ht=>Lib.hid (zCv W (decide (zA1 d<0)) false b c u.natAbs (zA7 d) mode h j0 j0 j0 j0 (fun h=>KM) ht);rw[hua];generalize ((zCg (decide (zA1 d<0)) u.natAbs (zA7 d) false mode:Nat):Int)=V at *;clear hu hua hbu hbz hz;go_enter Tryz.func42,Tryz.ntmps42;go_wp2_with fail;have Ix:=(DyV.made' w 53 bd s (.slice a n cap) e (n:=w.heap.size) jA);have B0:Below w.heap.size w (w.alloc (.cells #[.bool bd,.bool s,(.slice a n cap),.int .i64 e] 53)):=zbh;generalize (w.alloc (.cells #[.bool bd,.bool s,(.slice a n cap),.int .i64 e] 53))=w0 at Ix B0 ⊢;generalize hb0:w.heap.size=b0 at Ix ⊢;obtain⟨xc0,xc1,xc2,xc3,xc4,xc5⟩:=Ix;have Vx0:=Lib.hid (DyV.mk xc0 xc1 xc2 xc3 xc4 xc5);refine(HN _ (hx.below (have:=Beh.mk B0;zbh)) (hT.below (have:=Beh.mk B0;zbh))).out.mono ?_;rintro e w1 ⟨a1,c1,rfl,M11,hb1,hf1⟩;have Vx1:DyV w1 b0 bd s (.slice a n cap) e:=(Vx0.out.on.below hb1);(try clear xc0 xc1 xc2 xc3 xc4);obtain⟨xc0,xc1,xc2,xc3,xc4,xc5⟩:=Vx1;have Vx1:=Lib.hid (DyV.mk xc0 xc1 xc2 xc3 xc4 xc5);have B1:=zA0 (w:=w) (have:=Beh.mk B0;zbh) hb1;have hF1:0<(nl (zA1 d).natAbs)→w0.heap.size≤ab a1:=(fun h=>jT);have fr1x:0<(nl (zA1 d).natAbs)→ab a1≠b0:=(fun h=>Ki);have fo1:0<(nl (zA1 d).natAbs)→w.heap.size≤ab a1:=(fun h=>K0);clear hF1;clear hb1 hf1;go_wp2_with fail;have Vx2:=DyV.put Vx1.out false (decide (zA1 d<0)) (.slice a1 (nl (zA1 d).natAbs) c1) (zA7 d);have M12:=(Mag.set (Mag.set (Mag.set (Mag.set M11 fr1x 0 (.bool false)) fr1x 1 (.bool (decide (zA1 d<0)))) fr1x 2 (.slice a1 (nl (zA1 d).natAbs) c1)) fr1x 3 (.int .i64 (zA7 d)));have B2:Below w.heap.size w ((((w1.setCell ⟨b0,0,none⟩ (.bool false)).setCell ⟨b0,1,none⟩ (.bool (decide (zA1 d<0)))).setCell ⟨b0,2,none⟩ (.slice a1 (nl (zA1 d).natAbs) c1)).setCell ⟨b0,3,none⟩ (.int .i64 (zA7 d))):=jn;generalize ((((w1.setCell ⟨b0,0,none⟩ (.bool false)).setCell ⟨b0,1,none⟩ (.bool (decide (zA1 d<0)))).setCell ⟨b0,2,none⟩ (.slice a1 (nl (zA1 d).natAbs) c1)).setCell ⟨b0,3,none⟩ (.int .i64 (zA7 d)))=w2 at Vx2 M12 B2 ⊢;(try clear xc0 xc1 xc2 xc3 xc4);obtain⟨xc0,xc1,xc2,xc3,xc4,xc5⟩:=Vx2;have Vx2:=Lib.hid (DyV.mk xc0 xc1 xc2 xc3 xc4 xc5);go_wp2_with fail;refine(HS _ a1 c1 M12.on).out.mono ?_;rintro e w3 ⟨rfl,hb3⟩;have Vx3:DyV w3 b0 false (decide (zA1 d<0)) (.slice a1 (nl (zA1 d).natAbs) c1) (zA7 d):=(Vx2.out.on.below hb3);(try clear xc0 xc1 xc2 xc3 xc4);obtain⟨xc0,xc1,xc2,xc3,xc4,xc5⟩:=Vx3;have Vx3:=Lib.hid (DyV.mk xc0 xc1 xc2 xc3 xc4 xc5);have M13:Mag w3 a1 (nl (zA1 d).natAbs) c1 (zA1 d).natAbs:=Mag.below M12.on hb3;have B3:=zA0 (w:=w) (have:=Beh.mk B2;zbh) hb3;clear hb3;go_wp2_with fail
 first
 | go_region_held3 (fun w'=>w'.cell? ⟨b0,0,none⟩=some (.bool false)∧w'.cell? ⟨b0,1,none⟩=some (.bool (decide (zA1 d<0)))∧w'.cell? ⟨b0,2,none⟩=some ((.slice a1 (nl (zA1 d).natAbs) c1))∧w'.cell? ⟨b0,3,none⟩=some (.int .i64 (zA7 d))) (first | (go_keep;done) | (go_simp;done))
  (first
   | (go_at_call 85;have xx:=B4;refine(HR _ a2 c2 M24.on (hT.below (have:=Beh.mk B4;zbh))).out.mono ?_;rintro e w5 ⟨rfl,hb5⟩;have Vx5:DyV w5 b0 false (decide (zA1 d<0)) (.slice a1 (nl (zA1 d).natAbs) c1) (zA7 d):=(Vx4.out.on.below hb5);(try clear xc0 xc1 xc2 xc3 xc4);obtain⟨xc0,xc1,xc2,xc3,xc4,xc5⟩:=Vx5;have Vx5:=Lib.hid (DyV.mk xc0 xc1 xc2 xc3 xc4 xc5);have M15:Mag w5 a1 (nl (zA1 d).natAbs) c1 (zA1 d).natAbs:=Mag.below M14.on hb5;have M25:Mag w5 a2 (nl u.natAbs) c2 u.natAbs:=Mag.below M24.on hb5;have B5:=zA0 (w:=w) (have:=Beh.mk B4;zbh) hb5;clear hb5)
   | (go_at_call 60;have xx:=B3;refine(HG _ a1 c1 M13.on).out.mono ?_;rintro e w4 ⟨a2,c2,rfl,M24,hb4,hf4⟩;have Vx4:DyV w4 b0 false (decide (zA1 d<0)) (.slice a1 (nl (zA1 d).natAbs) c1) (zA7 d):=(Vx3.out.on.below hb4);(try clear xc0 xc1 xc2 xc3 xc4);obtain⟨xc0,xc1,xc2,xc3,xc4,xc5⟩:=Vx4;have Vx4:=Lib.hid (DyV.mk xc0 xc1 xc2 xc3 xc4 xc5);have M14:Mag w4 a1 (nl (zA1 d).natAbs) c1 (zA1 d).natAbs:=Mag.below M13.on hb4;have B4:=zA0 (w:=w) (have:=Beh.mk B3;zbh) hb4;have hF4:0<(nl u.natAbs)→w3.heap.size≤ab a2:=(fun h=>by have hq:=hf4 h;(try simp at hq);omega);have fr2x:0<(nl u.natAbs)→ab a2≠b0:=(fun h=>by have:=hF4 h;have:=Vx3.out.lt;omega);have fo2:0<(nl u.natAbs)→w.heap.size≤ab a2:=(fun h=>by have:=hF4 h;have:=B3.size;omega);clear hF4;clear hb4 hf4)
   | fail)
 | fail "region"
 all_goals(
  go_wp2_with fail;go_ret;exact⟨rfl,(have:=Beh.mk B5;zbh)⟩)
theorem zEY(w:World)(bd s:Bool)(a:Option Addr)(n cap:Nat)(e mode:Int)(d:Option (Int×Int))(hx:DyIs w bd s a n cap e d)(hT:Tab w):Calls Tryz.prog 42 #[.agg #[.bool bd,.bool s,.slice a n cap,.int .i64 e],.int .i64 mode] w fun o w'=>o=.returned (.int .u64 (zAu d mode:Nat))∧Below w.heap.size w w':=by
 cases hb:zAj d with
 | true=>
  have hd:d=none:=zBB hb;have h:=zIg w bd s a n cap e mode d hx hT hb;have hv:zAu d mode=9221120237041090560:=by rw[hd];rfl
  rw[hv];exact h
 | false=>
  have hd:=zNf hb mode
  by_cases h0:zA1 d=0
  · rw[hd,if_pos h0];exact zHn w bd s a n cap e mode d hx hT hb h0
  · rw[hd,if_neg h0];exact zKT w bd s a n cap e mode d hx hT hb h0
theorem zBJ(w:World)(n mode:Int)(h0: -9223372036854775808≤n)(h1:n≤9223372036854775807)(hT:Tab w):Calls Tryz.prog 39 #[.int .i64 n,.int .i64 mode] w fun o w'=>o=.returned (.int .u64 (zAu (nrm n 0) mode:Nat))∧Below w.heap.size w w':=by
 have HI:=fun W ht=>Lib.hid (zDx W n ht h0 h1);have HN:=Lib.hid (zCR n 0);have HR:=fun W b q (h:Mag W b (nl (zA1 (nrm n 0)).natAbs) q (zA1 (nrm n 0)).natAbs) ht=>Lib.hid (zEY W _ _ _ _ _ _ mode _ (zSN HN.out h) ht);generalize nrm n 0=d at *;generalize ((zAu d mode:Nat):Int)=V at *;clear h0 h1;go_enter Tryz.func39,Tryz.ntmps39;go_wp2_with fail;refine(HI _ hT).out.mono ?_;rintro e w1 ⟨a1,c1,rfl,M1,hb,_⟩;have B1:=zA0 (w:=w) (Below.refl _ _) hb;go_wp2_with fail;refine(HR _ a1 c1 M1 (hT.below B1)).out.mono ?_;rintro e w2 ⟨rfl,hb2⟩;have B2:=zA0 (w:=w) B1 hb2;go_wp2_with fail;go_ret;exact⟨rfl,B2⟩
end Go.Proofs.YtmbkgapknoammaaGreatDoor

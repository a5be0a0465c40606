/-
  Walks: package float: rounded.
-/
import Derived.Test.YtmbkgapknoammaaGreatDoorZuCm
import Derived.Test.YtmbkgapknoammaaGreatDoorZuGi
import Derived.Test.YtmbkgapknoammaaGreatDoorZuBh
set_option maxRecDepth 100000
set_option maxHeartbeats 2000000
namespace Go.Proofs.YtmbkgapknoammaaGreatDoor
open Go.RowKit Sp
structure RvV(W:World)(b:Nat)(s:Bool)(sl:Value)(E:Int)(m:Bool):Prop where
 c0:W.cell? ⟨b,0,none⟩=some (.bool s)
 c1:W.cell? ⟨b,1,none⟩=some (.bool false)
 c2:W.cell? ⟨b,2,none⟩=some sl
 c3:W.cell? ⟨b,3,none⟩=some (.int .i64 E)
 c4:W.cell? ⟨b,4,none⟩=some (.bool m)
 z:∀i,W.frozen? ⟨b,i,none⟩=false
 lt:b<W.heap.size
theorem RvV.below{W W':World}{b:Nat}{s m:Bool}{sl:Value}{E:Int}(h:RvV W b s sl E m)(hb:Below W.heap.size W W'):RvV W' b s sl E m:=by
 obtain⟨h1,h2⟩:=zA6 hb;exact⟨(h1 _ _ h.lt).trans h.c0,(h1 _ _ h.lt).trans h.c1,(h1 _ _ h.lt).trans h.c2,(h1 _ _ h.lt).trans h.c3,(h1 _ _ h.lt).trans h.c4,fun i=>(h2 _ _ h.lt).trans (h.z i),Nat.lt_of_lt_of_le h.lt hb.size⟩
theorem RvV.alloc{W:World}{b:Nat}{s m:Bool}{sl:Value}{E:Int}(h:RvV W b s sl E m)(o:Obj):RvV (W.alloc o) b s sl E m:=h.below ((Below.refl _ _).alloc (Nat.le_refl _) _)
theorem RvV.made(W:World)(t:TypeId)(s m:Bool)(sl:Value)(E:Int):RvV (W.alloc (.cells #[.bool s,.bool false,sl,.int .i64 E,.bool m] t)) W.heap.size s sl E m:=by
 refine⟨?_,?_,?_,?_,?_,fun i=>?_,jz⟩ <;> go_simp
theorem zNh{s more:Bool}{x:Nat}{E mode q:Int}{n:Nat}(hx0:0<x)(hq:q=max (rlg x E-52) (-1074))(hn:n=zGh s x E more q mode):n≤9007199254740992∧ -1074≤q∧(n<4503599627370496→q= -1074∧zCg s x E more mode=zBE s n) ∧
 (4503599627370496≤n→n<9007199254740992→zCg s x E more mode=if 2047≤q+1075 then zCd s mode else zBE s ((q+1075).toNat*4503599627370496+(n-4503599627370496))) ∧
 (n=9007199254740992→zCg s x E more mode=if 2047≤q+1076 then zCd s mode else zBE s ((q+1076).toNat*4503599627370496)):=by
 have hp:=zEV hx0 E q hq;have hn2:n≤rdn x E q+1∧rdn x E q≤n:=by rw[hn];unfold zGh;split <;> omega
 have hf:zCg s x E more mode=zDt s ((q+1074).toNat*4503599627370496+n) mode:=by unfold zCg zNp;rw[←hq,hn]
 rw[hf];clear hf hn;generalize rdn x E q=r at *;obtain⟨k,hk⟩:∃k:Nat,q=(k:Int)-1074:=⟨(q+1074).toNat,j0⟩;clear hq;subst hk;have e1:((k:Int)-1074+1074).toNat=k:=j0
 have e2:((k:Int)-1074+1075).toNat=k+1:=j0
 have e3:((k:Int)-1074+1076).toNat=k+2:=j0
 rw[e1]at hp ⊢;rw[e2,e3];unfold zDt zE9;refine⟨j0,j0,fun h=>⟨j0,?_⟩,fun h h'=>?_,fun h=>?_⟩
 · have:k=0:=j0;subst this;rw[if_neg j0,Nat.zero_mul,Nat.zero_add]
 · by_cases hc:2047≤(k:Int)-1074+1075
   · rw[if_pos hc,if_pos j0]
   · rw[if_neg hc,if_neg j0];exact congrArg (zBE s) j0
 · by_cases hc:2047≤(k:Int)-1074+1076
   · rw[if_pos hc,if_pos j0]
   · rw[if_neg hc,if_neg j0];exact congrArg (zBE s) j0
theorem zET(w:World)(s more:Bool)(a:Option Addr)(c:Nat)(x:Nat)(E mode:Int)(hx:Mag w a (nl x) c x)(hx0:0<x)(hxl:zA4 x≤500000)(hE0: -500000≤E)(hE1:E≤500000)(hTab:Tab w):Calls Tryz.prog 160 #[.agg #[.bool s,.bool false,.slice a (nl x) c,.int .i64 E,.bool more],.int .i64 mode] w fun o w'=>o=.returned (.int .u64 (zCg s x E more mode:Nat))∧Below w.heap.size w w':=by
 obtain⟨q,hqq⟩:∃q,q=max (rlg x E-52) (-1074):=⟨_,rfl⟩;obtain⟨n,hn⟩:∃n,n=zGh s x E more q mode:=⟨_,rfl⟩;obtain⟨k,hk⟩:∃k,k=rlg x E:=⟨_,rfl⟩;obtain⟨v,hv⟩:∃v,v=sgn s n:=⟨_,rfl⟩;have HF:=Lib.hid (zNh (mode:=mode) hx0 hqq hn);have hn53:=HF.out.1;have hb:=zCE hx0;have hq0:E-524288≤q:=by rw[hqq];unfold rlg;omega
 have hq1:q≤E+524288:=by rw[hqq];unfold rlg;omega
 have HB:=Lib.hid (show q≤E+524288∧E≤500000 from⟨hq1,hE1⟩);rw[←hk]at hqq;have hkk:IntKind.i64.wrap (IntKind.i64.wrap (E+(zA4 x:Int))-1)=k:=X6
 have HL:=fun W h=>Lib.hid (zM6 W s more a c (x:Int) E k h (zBa (x:=x) j0) hkk);simp only[show decide ((x:Int)<0)=false by simp,Int.natAbs_natCast]at HL;have HM:=fun W h ht=>Lib.hid (zHw W s more a c x E q mode v h hx0 j0 hq0 hq1 j0 j0 ht (by rw[hv,hn]));have HA:=fun W b c h=>Lib.hid (zRL W b c v (n:Int) (by rw[hv,zAg]) h (zBa (by rw[hv,zAg];exact Nat.le_trans (zAC (x:=n) (n:=54) j0) j0)));have HI:=fun W b c (h:Mag W b (nl (n:Int).natAbs) c (n:Int).natAbs)=>Lib.hid (show Calls Tryz.prog 182 #[.agg #[.bool false,.slice b (nl (n:Int).natAbs) c]] W fun e w'=>e=.returned (.tuple #[.int .i64 n,.bool true])∧Below W.heap.size W w' from zRe W b c n h hn53);have hN0:decide ((n:Int)<0)=false:=jz
 have hqw:max (wrap64 (k-52)) (-1074)=q:=by rw[hqq,hk];unfold rlg wrap64;omega
 have hw1:IntKind.u64.wrap (n:Int)=n:=jG
 clear hkk hk hqq hq0 hq1 hE0 hE1 hv hn hx0 hxl hn53 hb;obtain⟨R,hR⟩:∃R,R=zCg s x E more mode:=⟨_,rfl⟩;rw[←hR]at HF;rw[←hR];clear hR;go_enter Tryz.func160,Tryz.ntmps160;go_wp2_with fail;have I0:=RvV.made w 188 s more (.slice a (nl x) c) E;have B0:Below w.heap.size w (w.alloc (.cells #[.bool s,.bool false,.slice a (nl x) c,.int .i64 E,.bool more] 188)):=zbh;generalize (w.alloc (.cells #[.bool s,.bool false,.slice a (nl x) c,.int .i64 E,.bool more] 188))=w0 at I0 B0 ⊢;generalize hz0:w.heap.size=b0 at I0 ⊢;refine(HL _ (hx.below B0)).out.mono ?_;rintro e w1 ⟨rfl,hb1⟩;have B1:=zA0 (w:=w) B0 hb1;have R1:=I0.below hb1;have R1':=Lib.hid R1;clear hb1 I0;obtain⟨r0,r1,r2,r3,r4,r5,r6⟩:=R1;go_wp2_with fail;refine(HM _ (hx.below B1) (hTab.below B1)).out.mono ?_;rintro e w2 ⟨a2,c2,rfl,M2,hb2,_⟩;have B2:=zA0 (w:=w) B1 hb2;have R2:=R1'.out.below hb2;clear hb2 r0 r1 r2 r3 r4 r5 r6 R1';go_wp2_with fail;refine(HA _ a2 c2 M2).out.mono ?_;rintro e w3 ⟨a3,c3,rfl,M3,hb3,_⟩;have B3:=zA0 (w:=w) B2 hb3;have R3:=R2.below hb3;clear hb3 R2;go_wp2_with fail;refine(HI _ a3 c3 M3).out.mono ?_;rintro e w4 ⟨rfl,hb4⟩;have B4:=zA0 (w:=w) B3 hb4;have R4:=R3.below hb4;clear hb4 R3;obtain⟨r0,r1,r2,r3,r4,r5,r6⟩:=R4;obtain⟨hn53,hq3,h3,h4,h5⟩:=HF.out;obtain⟨hq1,hE1⟩:=HB.out;clear HL HM HA HI;rcases Nat.lt_or_ge n 4503599627370496 with hnl | hnl
 · have hR1:((R:Nat):Int)=((zBE s n:Nat):Int):=(by rw[(h3 hnl).2]);clear h3 h4 h5 HF;have b1:((n:Int)==9007199254740992)=false:=ju;have b2:decide ((n:Int)<4503599627370496)=true:=Kk;have HS:=fun W=>Lib.hid (zBX W n s j0);generalize ((zBE s n:Nat):Int)=V at *;generalize (n:Int)=N at *;go_wp2_with fail;refine(HS _).out.mono ?_;rintro e w5 ⟨rfl,rfl⟩;go_wp2_with fail;go_ret;exact⟨QX,B4⟩
 · rcases Nat.lt_or_ge n 9007199254740992 with hnh | hnh
   · have hR1:=congrArg (fun z:Nat=>(z:Int)) (h4 hnl hnh);clear h3 h4 h5 HF
     by_cases ho:2047≤q+1075
     · rw[if_pos ho]at hR1;have b1:((n:Int)==9007199254740992)=false:=ju;have b2:decide ((n:Int)<4503599627370496)=false:=K7;have q1:IntKind.i64.wrap (q+1075)=q+1075:=jg;have q2:wrap64 (q+1075)=q+1075:=jD;have b3:decide (2047≤q+1075)=true:=Kk;have HO:=fun W=>Lib.hid (zHG W mode s);generalize ((zCd s mode:Nat):Int)=V at *;generalize (n:Int)=N at *;go_wp2_with fail;refine(HO _).out.mono ?_;rintro e w5 ⟨rfl,rfl⟩;go_wp2_with fail;go_ret;exact⟨QX,B4⟩
     · rw[if_neg ho]at hR1;obtain⟨K,hK⟩:∃K:Nat,K=(q+1075).toNat:=⟨_,rfl⟩;obtain⟨m,hm⟩:∃m:Nat,m=n-4503599627370496:=⟨_,rfl⟩;rw[←hK,←hm]at hR1;have HS:=fun W=>Lib.hid (zBX W (K*4503599627370496+m) s j0);have hbc:=zDN (E:=K) (m:=m) j0 j0;have b1:((n:Int)==9007199254740992)=false:=ju;have b2:decide ((n:Int)<4503599627370496)=false:=K7;have q1:IntKind.i64.wrap (q+1075)=K:=jg;have q2:wrap64 (q+1075)=K:=jD;have b3:decide (2047≤(K:Int))=false:=K7;have u1:IntKind.u64.wrap (K:Int)=K:=jG;have u2:IntKind.u64.wrap ((K:Int)*4503599627370496)=(K:Int)*4503599627370496:=jG;have u3:IntKind.u64.wrap ((n:Int)-4503599627370496)=m:=jG;have u4:IntKind.u64.wrap (m:Int)=m:=jG;generalize ((zBE s (K*4503599627370496+m):Nat):Int)=V at *;generalize ((K*4503599627370496+m:Nat):Int)=C at *;generalize (K:Int)=KK at *;generalize (m:Int)=mm at *;generalize (n:Int)=N at *;go_wp2_with fail;refine(HS _).out.mono ?_;rintro e w5 ⟨rfl,rfl⟩;go_wp2_with fail;go_ret;exact⟨QX,B4⟩
   · have hnl:n=9007199254740992:=j0;have hR1:=congrArg (fun z:Nat=>(z:Int)) (h5 hnl);clear h3 h4 h5 HF hnh
     by_cases ho:2047≤q+1076
     · rw[if_pos ho]at hR1;have b1:((n:Int)==9007199254740992)=true:=Q6;have q1:IntKind.i64.wrap (q+1)=q+1:=jg;have q2:wrap64 (q+1)=q+1:=jD;have q3:IntKind.i64.wrap (q+1+1075)=q+1076:=jg;have q4:wrap64 (q+1+1075)=q+1076:=jD;have b3:decide (2047≤q+1076)=true:=Kk;have HO:=fun W=>Lib.hid (zHG W mode s);generalize ((zCd s mode:Nat):Int)=V at *;generalize (n:Int)=N at *;go_wp2_with fail;refine(HO _).out.mono ?_;rintro e w5 ⟨rfl,rfl⟩;go_wp2_with fail;go_ret;exact⟨QX,B4⟩
     · rw[if_neg ho]at hR1;obtain⟨K,hK⟩:∃K:Nat,K=(q+1076).toNat:=⟨_,rfl⟩;rw[←hK]at hR1;have HS:=fun W=>Lib.hid (zBX W (K*4503599627370496) s j0);have hbc:Go.bits .or .u64 ((K:Int)*4503599627370496) 0=((K*4503599627370496:Nat):Int):=by
        have:=zDN (E:=K) (m:=0) j0 ja;rw[Nat.add_zero]at this;exact this
       have b1:((n:Int)==9007199254740992)=true:=Q6;have q1:IntKind.i64.wrap (q+1)=q+1:=jg;have q2:wrap64 (q+1)=q+1:=jD;have q3:IntKind.i64.wrap (q+1+1075)=K:=jg;have q4:wrap64 (q+1+1075)=K:=jD;have b3:decide (2047≤(K:Int))=false:=K7;have u1:IntKind.u64.wrap (K:Int)=K:=jG;have u2:IntKind.u64.wrap ((K:Int)*4503599627370496)=(K:Int)*4503599627370496:=jG;generalize ((zBE s (K*4503599627370496):Nat):Int)=V at *;generalize ((K*4503599627370496:Nat):Int)=C at *;generalize (K:Int)=KK at *;generalize (n:Int)=N at *;go_wp2_with fail;refine(HS _).out.mono ?_;rintro e w5 ⟨rfl,rfl⟩;go_wp2_with fail;go_ret;exact⟨QX,B4⟩
end Go.Proofs.YtmbkgapknoammaaGreatDoor

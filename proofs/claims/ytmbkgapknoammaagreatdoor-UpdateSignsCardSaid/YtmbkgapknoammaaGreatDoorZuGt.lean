/-
  Walks: package dyad, round.go: Ratio.
-/
import Derived.Test.YtmbkgapknoammaaGreatDoorZuRa
import Derived.Test.YtmbkgapknoammaaGreatDoorZuBh
import Derived.Test.YtmbkgapknoammaaGreatDoorZuGq
import Derived.Test.YtmbkgapknoammaaGreatDoorZuTj
set_option maxRecDepth 100000
set_option maxHeartbeats 40000000
namespace Go.Proofs.YtmbkgapknoammaaGreatDoor
open Go.RowKit Sp
theorem zPE(w:World)(a a':Option Addr)(cap cap':Nat)(x y q r:Int)(X Y:Nat)(hX:x=(X:Int))(hY:y=(Y:Int))(hY0:0<Y)(hq:q=((X/Y:Nat):Int))(hr:r=((X%Y:Nat):Int))(hm:Mag w a (nl x.natAbs) cap x.natAbs)(hm':Mag w a' (nl y.natAbs) cap' y.natAbs)(hl:nl x.natAbs≤1099511627776)(hl':nl y.natAbs≤1099511627776):Calls Tryz.prog 189 #[.agg #[.bool (decide (x<0)),.slice a (nl x.natAbs) cap],.agg #[.bool (decide (y<0)),.slice a' (nl y.natAbs) cap']] w (zKm w q r 0):=by
 subst hX hY hq hr;exact zHN w _ _ a a' _ _ cap cap' X Y hm hm' hl hl' hY0 jz _ _ rfl rfl
theorem zCk{a b:Nat}(h:a<b):a<b∧(¬a=b)∧(¬b=a)∧a<b+1∧a<b+1+1∧(¬a=b+1)∧(¬b+1=a)∧a<b+2∧a≤b:=j0
structure RatSt(m:Nat)(s t:Bool)(sl sl':Value)(f f':Int)(W:World):Prop where
 a1:W.cell? ⟨m,1,none⟩=some (.bool s)
 a2:W.cell? ⟨m,2,none⟩=some sl
 a3:W.cell? ⟨m,3,none⟩=some (.int .i64 f)
 b1:W.cell? ⟨m+1,1,none⟩=some (.bool t)
 b2:W.cell? ⟨m+1,2,none⟩=some sl'
 b3:W.cell? ⟨m+1,3,none⟩=some (.int .i64 f')
 r0:W.cell? ⟨m+1+1,0,none⟩=some (.bool false)
 r1:W.cell? ⟨m+1+1,1,none⟩=some (.bool false)
 r2:W.cell? ⟨m+1+1,2,none⟩=some (.slice none 0 0)
 r3:W.cell? ⟨m+1+1,3,none⟩=some (.int .i64 0)
 r4:W.cell? ⟨m+1+1,4,none⟩=some (.bool false)
 z:∀i,W.frozen? ⟨m+1+1,i,none⟩=false
theorem RatSt.below{m:Nat}{s t:Bool}{sl sl':Value}{f f':Int}{W W':World}(h:RatSt m s t sl sl' f f' W)(hb:Below (m+3) W W'):RatSt m s t sl sl' f f' W':=by
 obtain⟨h1,h2⟩:=zA6 hb;exact⟨(h1 _ _ j0).trans h.a1,(h1 _ _ j0).trans h.a2,(h1 _ _ j0).trans h.a3,(h1 _ _ j0).trans h.b1,(h1 _ _ j0).trans h.b2,(h1 _ _ j0).trans h.b3,
  (h1 _ _ j0).trans h.r0,(h1 _ _ j0).trans h.r1,(h1 _ _ j0).trans h.r2,(h1 _ _ j0).trans h.r3,(h1 _ _ j0).trans h.r4,fun i=>(h2 _ _ j0).trans (h.z i)⟩
theorem zL0{a b:Nat}(h:a+3≤b):(¬a=b)∧(¬a+1=b)∧(¬b=a)∧(¬b=a+1)∧(¬a=b+1)∧(¬b+1=a)∧a<b∧a+1<b∧a<b+1:=j0
structure Big0(W:World)(b:Nat):Prop where
 c0:W.cell? ⟨b,0,none⟩=some (.bool false)
 c1:W.cell? ⟨b,1,none⟩=some (.slice none 0 0)
 z:∀i,W.frozen? ⟨b,i,none⟩=false
 lt:b<W.heap.size
theorem Big0.below{W W':World}{b:Nat}(h:Big0 W b)(hb:Below W.heap.size W W'):Big0 W' b:=by
 obtain⟨h1,h2⟩:=zA6 hb;exact⟨(h1 _ _ h.lt).trans h.c0,(h1 _ _ h.lt).trans h.c1,fun i=>(h2 _ _ h.lt).trans (h.z i),Nat.lt_of_lt_of_le h.lt hb.size⟩
theorem Big0.drew{W:World}{b:Nat}(h:Big0 W b):Big0 W.drew b:=⟨h.c0,h.c1,h.z,h.lt⟩
theorem Big0.alloc{W:World}{b:Nat}(h:Big0 W b)(o:Obj):Big0 (W.alloc o) b:=h.below ((Below.refl _ _).alloc (Nat.le_refl _) _)
theorem Big0.made(W:World)(t:TypeId)(n:Nat)(hn:n=W.heap.size):Big0 (W.alloc (.cells #[.bool false,.slice none 0 0] t)) n:=by
 subst hn;refine⟨jx,jx,fun i=>KY,jr⟩
theorem zKS(w:World)(bd bd':Bool)(a a':Option Addr)(c c':Nat)(z f z' f' p n E' x y q r:Int)(B B' X Y:Nat)(hx:Mag w a (nl z.natAbs) c z.natAbs)(hy:Mag w a' (nl z'.natAbs) c' z'.natAbs)(hl:nl z.natAbs≤1099511627776)(hl':nl z'.natAbs≤1099511627776)
 (hB:B=zA4 z.natAbs) (hB':B'=zA4 z'.natAbs) (hB1:B≤131072) (hB1':B'≤131072) (hp0:1≤p) (hp1:p≤4096) (hn':max 0 (p+3+(B':Int)-(B:Int))=n) (hX0:x=(z.natAbs:Int)) (hx1:y=x*2^n.toNat) (hX:y=(X:Int)) (hY:(z'.natAbs:Int)=(Y:Int)) (hY0:0<Y)
 (hq:q=((X/Y:Nat):Int)) (hr:r=((X%Y:Nat):Int)) (hyl:nl y.natAbs≤1099511627776) (hf: -65536≤f) (hf1:f≤65536) (hf': -65536≤f') (hf1':f'≤65536) (hE:f-n-f'=E') :
 Calls Tryz.prog 162 #[.agg #[.bool bd,.bool (decide (z<0)),.slice a (nl z.natAbs) c,.int .i64 f],.agg #[.bool bd',.bool (decide (z'<0)),.slice a' (nl z'.natAbs) c',.int .i64 f'],.int .i64 p] w (zTw w (decide (z<0) != decide (z'<0)) q E' (sg r != 0)):=by
 have hn:max 0 (IntKind.i64.wrap (IntKind.i64.wrap (IntKind.i64.wrap (p+3)+(B':Int))-(B:Int)))=n:=by rw[IntKind.wrap_i64,IntKind.wrap_i64,IntKind.wrap_i64];omega
 have hn0:0≤n:=j0
 have hn1:n≤262144:=j0
 have HB:=fun W h=>Lib.hid (zDe W a c z h hl);have HB':=fun W h=>Lib.hid (zDe W a' c' z' h hl');rw[←hB]at HB;rw[←hB']at HB';have HA:=fun W h=>Lib.hid (zRL W a c z x hX0 h hl);have HL:=fun W b c h=>Lib.hid (zFN W b c x n y hx1 h (by rw[hX0];exact hl) hn0 j0);obtain⟨u,hu⟩:∃u:Int,u=(z'.natAbs:Int):=⟨_,rfl⟩;have HA':=fun W h=>Lib.hid (zRL W a' c' z' u hu h hl');have hul:nl u.natAbs≤1099511627776:=by rw[hu];exact hl'
 have HD:=fun W b c b' c' h h'=>Lib.hid (zPE W b b' c c' y u q r X Y hX (by rw[hu];exact hY) hY0 hq hr h h' hyl hul);have HG:=fun W b c h=>Lib.hid (zEh W b c r h);obtain⟨g,hg⟩:∃g,g=sg r:=⟨_,rfl⟩;rw[←hg]at HG ⊢;obtain⟨sb,hsb⟩:∃sb,sb=(decide (z<0) != decide (z'<0)):=⟨_,rfl⟩;have hsb2:(decide (z<0)==decide (z'<0))=!sb:=by rw[hsb];simp[bne]
 rw[←hsb];have hsb1:=hsb.symm;clear hsb;have e1:¬w.heap.size+1=w.heap.size:=j0
 have e2:¬w.heap.size+1+1=w.heap.size:=j0
 have l2:w.heap.size<w.heap.size+1+1:=j0
 have l3:w.heap.size<w.heap.size+1+1+1:=j0
 have k2:¬w.heap.size=w.heap.size+1+1:=j0
 clear hn' hB hB' hX0 hx1 hX hY hY0 hq hr hyl hu hul hg;go_enter Tryz.func162,Tryz.ntmps162;go_wp2_with fail
 go_region_held3 (fun w'=>w'.cell? ⟨w.heap.size,1,none⟩=some (.bool (decide (z<0)))∧w'.cell? ⟨w.heap.size,2,none⟩=some (.slice a (nl z.natAbs) c)∧w'.cell? ⟨w.heap.size+1,1,none⟩=some (.bool (decide (z'<0)))∧w'.cell? ⟨w.heap.size+1,2,none⟩=some (.slice a' (nl z'.natAbs) c')) (first | (go_keep;done) | (go_simp;done))
  (first
   | (go_at_call 179;with_reducible refine(HB' _ (hy.below zbh)).out.mono ?_;rintro e w1 ⟨rfl,hb1⟩;obtain⟨hc1,hz1⟩:=zA6 (hb1.mono (show w.heap.size+3≤_ by simp));have hs1:=hb1.size;(try simp at hs1);have hg1:w.heap.size+3≤w1.heap.size:=j0;have hbw1:=zA0 (w:=w) zbh hb1)
   | (go_at_call 179;with_reducible refine(HB _ (hx.below (have:=Beh.mk hbw1;zbh))).out.mono ?_;rintro e w2 ⟨rfl,hb2⟩;obtain⟨hc2,hz2⟩:=zA6 (hb2.mono (show w.heap.size+3≤_ by(try simp);omega));have hs2:=hb2.size;(try simp at hs2);have hg2:w.heap.size+3≤w2.heap.size:=j0;have hbw2:=zA0 (w:=w) (have:=Beh.mk hbw1;zbh) hb2))
 obtain⟨q1,q2,q3,q4,q5,q6⟩:w2.cell? ⟨w.heap.size,1,none⟩=some (.bool (decide (z<0)))∧w2.cell? ⟨w.heap.size,2,none⟩=some (.slice a (nl z.natAbs) c)∧w2.cell? ⟨w.heap.size,3,none⟩=some (.int .i64 f)∧w2.cell? ⟨w.heap.size+1,1,none⟩=some (.bool (decide (z'<0)))∧w2.cell? ⟨w.heap.size+1,2,none⟩=some (.slice a' (nl z'.natAbs) c')∧w2.cell? ⟨w.heap.size+1,3,none⟩=some (.int .i64 f'):=by
  refine⟨?_,?_,?_,?_,?_,?_⟩ <;> go_simp
 obtain⟨r0,r1,r2,r3,r4⟩:w2.cell? ⟨w.heap.size+1+1,0,none⟩=some (.bool false)∧w2.cell? ⟨w.heap.size+1+1,1,none⟩=some (.bool false)∧w2.cell? ⟨w.heap.size+1+1,2,none⟩=some (.slice none 0 0)∧w2.cell? ⟨w.heap.size+1+1,3,none⟩=some (.int .i64 0)∧w2.cell? ⟨w.heap.size+1+1,4,none⟩=some (.bool false):=by
  refine⟨?_,?_,?_,?_,?_⟩ <;> go_simp
 obtain⟨y0,y1,y2,y3,y4⟩:w2.frozen? ⟨w.heap.size+1+1,0,none⟩=false∧w2.frozen? ⟨w.heap.size+1+1,1,none⟩=false∧w2.frozen? ⟨w.heap.size+1+1,2,none⟩=false∧w2.frozen? ⟨w.heap.size+1+1,3,none⟩=false∧w2.frozen? ⟨w.heap.size+1+1,4,none⟩=false:=by
  refine⟨?_,?_,?_,?_,?_⟩ <;> go_simp
 have st2:RatSt w.heap.size (decide (z<0)) (decide (z'<0)) (.slice a (nl z.natAbs) c) (.slice a' (nl z'.natAbs) c') f f' w2:=⟨q1,q2,q3,q4,q5,q6,r0,r1,r2,r3,r4,fun i=>jj⟩;clear hc1 hz1 hc2 hz2 hb1 hb2 hbw1 HB HB' q3 q6 r0 r1 r2 r3 r4 y0 y1 y2 y3 y4;have hbw:=hbw2;go_wp2_with fail
 go_cut [8,9,10] (fun p8 p9 v10 wx=>∃b8 b9 a6 c6 a7 c7,p8=.pointer (some ⟨b8,0,none⟩)∧p9=.pointer (some ⟨b9,0,none⟩)∧v10=.int .i64 0∧(0<nl q.natAbs→w.heap.size+3≤ab a6)∧Mag wx a6 (nl q.natAbs) c6 q.natAbs∧Mag wx a7 (nl r.natAbs) c7 r.natAbs∧Below (w.heap.size+3) w2 wx∧w.heap.size+3≤b8∧b8<wx.heap.size∧w.heap.size+3≤b9∧b9<wx.heap.size
  ∧ wx.cell? ⟨b8,0,none⟩=some (.bool (decide (q<0)))∧wx.cell? ⟨b8,1,none⟩=some (.slice a6 (nl q.natAbs) c6)∧wx.cell? ⟨b9,0,none⟩=some (.bool (decide (r<0)))∧wx.cell? ⟨b9,1,none⟩=some (.slice a7 (nl r.natAbs) c7))
 case first=>
  have hB2:Below (w.heap.size+3) w2 w2:=Below.refl _ _
  go_region_held3 (fun w'=>w'.cell? ⟨w.heap.size,1,none⟩=some (.bool (decide (z<0)))∧w'.cell? ⟨w.heap.size,2,none⟩=some (.slice a (nl z.natAbs) c)∧w'.cell? ⟨w.heap.size+1,1,none⟩=some (.bool (decide (z'<0)))∧w'.cell? ⟨w.heap.size+1,2,none⟩=some (.slice a' (nl z'.natAbs) c')) (first | (go_keep;done) | (go_simp;done))
   (first
    | (have hB4x:=hB4;go_at_call 183;refine(HA' _ (hy.below (Below.trans hbw2 (Below.mono (B:=w.heap.size+3) jU j0)))).out.mono ?_;rintro e w5 ⟨a5,c5,rfl,hm5,hb5,hf5⟩;have hs5:=hb5.size;(try simp at hs5 hf5);have hB5:Below (w.heap.size+3) w2 w5:=Below.trans jU (hb5.mono (by(try simp);omega));obtain⟨S51,S52,S53,S54,S55,S56,_,_,_,_,_,_⟩:=st2.below hB5;(try(have B5x0:Big0 w5 (w2.heap.size):=jk));(try(have B5x1:Big0 w5 (w2.heap.size+1):=jk));(try(have B5x2:Big0 w5 (w3.heap.size):=jk));(try(have B5x3:Big0 w5 (w3.heap.size+1):=jk));(try(have B5x4:Big0 w5 (w4.heap.size):=jk));(try(have B5x5:Big0 w5 (w4.heap.size+1):=jk));have hm45:Mag w5 a4 (nl y.natAbs) c4 y.natAbs:=Mag.below (Mag.below hm4 zbh) hb5)
    | (go_at_call 183;refine(HA _ (hx.below (Below.trans hbw2 (Below.mono (B:=w.heap.size+3) jV j0)))).out.mono ?_;rintro e w3 ⟨a3,c3,rfl,hm3,hb3,hf3⟩;have hs3:=hb3.size;(try simp at hs3 hf3);have hB3:Below (w.heap.size+3) w2 w3:=Below.trans jV (hb3.mono (by(try simp);omega));obtain⟨S31,S32,S33,S34,S35,S36,_,_,_,_,_,_⟩:=st2.below hB3;(try(have B3x0:Big0 w3 (w2.heap.size):=K1));(try(have B3x1:Big0 w3 (w2.heap.size+1):=K1)))
    | (go_at_call 171;refine(HL _ a3 c3 (Mag.below hm3 zbh)).out.mono ?_;rintro e w4 ⟨a4,c4,rfl,hm4,hb4,hf4⟩;have hs4:=hb4.size;(try simp at hs4 hf4);have hB4:Below (w.heap.size+3) w2 w4:=Below.trans (by have hszw:=(hB3).size;repeat(with_reducible first | refine Below.setCell ?_ j8 _ | refine Below.alloc ?_ j8 _ | refine Below.drew ?_ | refine below_drewN ?_ _ | exact hB3)) (hb4.mono (by(try simp);omega));obtain⟨S41,S42,S43,S44,S45,S46,_,_,_,_,_,_⟩:=st2.below hB4;(try(have B4x0:Big0 w4 (w2.heap.size):=jy));(try(have B4x1:Big0 w4 (w2.heap.size+1):=jy));(try(have B4x2:Big0 w4 (w3.heap.size):=jy));(try(have B4x3:Big0 w4 (w3.heap.size+1):=jy)))
    | (go_at_call 189;refine(HD _ a4 c4 a5 c5 (Mag.below hm45 zbh) (Mag.below hm5 zbh)).out.mono ?_;rintro e w6 ⟨a6,c6,a7,c7,rfl,hm6,hm7,hb6,hf6,hf7⟩;have hs6:=hb6.size;(try simp at hs6 hf6 hf7);have hB6:Below (w.heap.size+3) w2 w6:=Below.trans (by have hszw:=(hB5).size;repeat(with_reducible first | refine Below.setCell ?_ j8 _ | refine Below.alloc ?_ j8 _ | refine Below.drew ?_ | refine below_drewN ?_ _ | exact hB5)) (hb6.mono (by(try simp);omega));obtain⟨S61,S62,S63,S64,S65,S66,_,_,_,_,_,_⟩:=st2.below hB6;(try(have B6x0:Big0 w6 (w2.heap.size):=jh));(try(have B6x1:Big0 w6 (w2.heap.size+1):=jh));(try(have B6x2:Big0 w6 (w3.heap.size):=jh));(try(have B6x3:Big0 w6 (w3.heap.size+1):=jh));(try(have B6x4:Big0 w6 (w4.heap.size):=jh));(try(have B6x5:Big0 w6 (w4.heap.size+1):=jh));(try(have B6x6:Big0 w6 (w5.heap.size):=jh));(try(have B6x7:Big0 w6 (w5.heap.size+1):=jh));obtain⟨n31,n32,n33,n34,n35,n36,n37,n38,n39⟩:=zL0 (show w.heap.size+3≤w3.heap.size from j0);obtain⟨n41,n42,n43,n44,n45,n46,n47,n48,n49⟩:=zL0 (show w.heap.size+3≤w4.heap.size from j0);obtain⟨n51,n52,n53,n54,n55,n56,n57,n58,n59⟩:=zL0 (show w.heap.size+3≤w5.heap.size from j0);obtain⟨n61,n62,n63,n64,n65,n66,n67,n68,n69⟩:=zL0 (show w.heap.size+3≤w6.heap.size from j0);(try(obtain⟨g01,g02,g03,g04⟩:=B6x0));(try(obtain⟨g11,g12,g13,g14⟩:=B6x1));(try(obtain⟨g21,g22,g23,g24⟩:=B6x2));(try(obtain⟨g31,g32,g33,g34⟩:=B6x3));(try(obtain⟨g41,g42,g43,g44⟩:=B6x4));(try(obtain⟨g51,g52,g53,g54⟩:=B6x5));(try(obtain⟨g61,g62,g63,g64⟩:=B6x6));(try(obtain⟨g71,g72,g73,g74⟩:=B6x7));(try(have hlt0:w2.heap.size<w3.heap.size:=j0;obtain⟨m01,m02,m03,m04,m05,m06,m07,m08,m09⟩:=zCk hlt0));(try(have hlt0:w2.heap.size+1<w3.heap.size:=j0;obtain⟨m11,m12,m13,m14,m15,m16,m17,m18,m19⟩:=zCk hlt0));(try(have hlt0:w2.heap.size<w4.heap.size:=j0;obtain⟨m21,m22,m23,m24,m25,m26,m27,m28,m29⟩:=zCk hlt0));(try(have hlt0:w2.heap.size+1<w4.heap.size:=j0;obtain⟨m31,m32,m33,m34,m35,m36,m37,m38,m39⟩:=zCk hlt0));(try(have hlt0:w2.heap.size<w5.heap.size:=j0;obtain⟨m41,m42,m43,m44,m45,m46,m47,m48,m49⟩:=zCk hlt0));(try(have hlt0:w2.heap.size+1<w5.heap.size:=j0;obtain⟨m51,m52,m53,m54,m55,m56,m57,m58,m59⟩:=zCk hlt0));(try(have hlt0:w2.heap.size<w6.heap.size:=j0;obtain⟨m61,m62,m63,m64,m65,m66,m67,m68,m69⟩:=zCk hlt0));(try(have hlt0:w2.heap.size+1<w6.heap.size:=j0;obtain⟨m71,m72,m73,m74,m75,m76,m77,m78,m79⟩:=zCk hlt0));(try(have hlt0:w3.heap.size<w4.heap.size:=j0;obtain⟨m81,m82,m83,m84,m85,m86,m87,m88,m89⟩:=zCk hlt0));(try(have hlt0:w3.heap.size+1<w4.heap.size:=j0;obtain⟨m91,m92,m93,m94,m95,m96,m97,m98,m99⟩:=zCk hlt0));(try(have hlt0:w3.heap.size<w5.heap.size:=j0;obtain⟨m101,m102,m103,m104,m105,m106,m107,m108,m109⟩:=zCk hlt0));(try(have hlt0:w3.heap.size+1<w5.heap.size:=j0;obtain⟨m111,m112,m113,m114,m115,m116,m117,m118,m119⟩:=zCk hlt0));(try(have hlt0:w3.heap.size<w6.heap.size:=j0;obtain⟨m121,m122,m123,m124,m125,m126,m127,m128,m129⟩:=zCk hlt0));(try(have hlt0:w3.heap.size+1<w6.heap.size:=j0;obtain⟨m131,m132,m133,m134,m135,m136,m137,m138,m139⟩:=zCk hlt0));(try(have hlt0:w4.heap.size<w5.heap.size:=j0;obtain⟨m141,m142,m143,m144,m145,m146,m147,m148,m149⟩:=zCk hlt0));(try(have hlt0:w4.heap.size+1<w5.heap.size:=j0;obtain⟨m151,m152,m153,m154,m155,m156,m157,m158,m159⟩:=zCk hlt0));(try(have hlt0:w4.heap.size<w6.heap.size:=j0;obtain⟨m161,m162,m163,m164,m165,m166,m167,m168,m169⟩:=zCk hlt0));(try(have hlt0:w4.heap.size+1<w6.heap.size:=j0;obtain⟨m171,m172,m173,m174,m175,m176,m177,m178,m179⟩:=zCk hlt0));(try(have hlt0:w5.heap.size<w6.heap.size:=j0;obtain⟨m181,m182,m183,m184,m185,m186,m187,m188,m189⟩:=zCk hlt0));(try(have hlt0:w5.heap.size+1<w6.heap.size:=j0;obtain⟨m191,m192,m193,m194,m195,m196,m197,m198,m199⟩:=zCk hlt0))))
  all_goals(
   have o6q:0<nl q.natAbs→ab a6<w6.heap.size:=hm6.old;have o6r:0<nl r.natAbs→ab a7<w6.heap.size:=hm7.old;have z6q:0<nl q.natAbs→w.heap.size+3≤ab a6:=fun h=>Qs;go_wp2_with fail
   go_meet
   refine⟨_,_,a6,c6,a7,c7,rfl,rfl,rfl,z6q,?_,?_,?_,?_,?_,?_,?_,?_,?_,?_,?_⟩
   · repeat(with_reducible first | refine Mag.set ?_ (fun h=>by have:=hf6 h;have:=o6q h;omega) _ _ | refine Mag.drew ?_ | refine Mag.alloc ?_ _ | refine Mag.drewN ?_ _ | exact hm6)
   · repeat(with_reducible first | refine Mag.set ?_ (fun h=>by have:=hf7 h;have:=o6r h;omega) _ _ | refine Mag.drew ?_ | refine Mag.alloc ?_ _ | refine Mag.drewN ?_ _ | exact hm7)
   · exact(by have hszw:=(hB6).size;repeat(with_reducible first | refine Below.setCell ?_ j8 _ | refine Below.alloc ?_ j8 _ | refine Below.drew ?_ | refine below_drewN ?_ _ | exact hB6))
   · exact j0
   · first | omega | (simp <;> omega) | fail
   · exact j0
   · first | omega | (simp <;> omega) | fail
   · exact jj
   · exact jj
   · exact jj
   · go_simp)
 case rest=>
 obtain⟨b8,b9,a6,c6,a7,c7,rfl,rfl,rfl,hfr6,hm6,hm7,hB6,hb8,hb8',hb9,hb9',x1,x2,x3,x4⟩:=hcut;have st6:=st2.below hB6;obtain⟨s1,s2,s3,s4,s5,s6,s7,s8,s9,s10,s11,s12⟩:=st6;have hbw6:Below w.heap.size w wc:=hbw2.trans (hB6.mono j0);have hg6:w.heap.size+3≤wc.heap.size:=Nat.le_trans hg2 hB6.size;have fr0:=s12 0;have fr1:=s12 1;have fr2:=s12 2;have fr3:=s12 3;have fr4:=s12 4;clear q1 q2 q4 q5 st2 hB6 hbw hbw2 s12;have hwn:IntKind.i64.wrap (IntKind.i64.wrap (f-n)-f')=E':=by rw[IntKind.wrap_i64,IntKind.wrap_i64];omega
 obtain⟨m1,m2,m3,m4,m5,m6,m7,m8,m9⟩:=zL0 hb8;obtain⟨n1,n2,n3,n4,n5,n6,n7,n8,n9⟩:=zL0 hb9;obtain⟨o01k,o02k,o03k,o04k,o05k,o06k,o07k,o08k,o09k,o10k,o11k,o12k,o13k,o14k,o15k,o16k,o17k,o18k,o19k,o20k,o21k,o22k,o23k,o24k,o25k,o26k⟩:=zTA hg6;have hbw:=hbw6;go_wp2_with fail
 go_region_held3 (fun w'=>w'.cell? ⟨w.heap.size,1,none⟩=some (.bool (decide (z<0)))∧w'.cell? ⟨w.heap.size,3,none⟩=some (.int .i64 f)∧w'.cell? ⟨w.heap.size+1,1,none⟩=some (.bool (decide (z'<0)))∧w'.cell? ⟨w.heap.size+1,3,none⟩=some (.int .i64 f')
  ∧ w'.cell? ⟨b8,0,none⟩=some (.bool (decide (q<0)))∧w'.cell? ⟨b8,1,none⟩=some (.slice a6 (nl q.natAbs) c6)∧w'.cell? ⟨b9,0,none⟩=some (.bool (decide (r<0)))∧w'.cell? ⟨b9,1,none⟩=some (.slice a7 (nl r.natAbs) c7)) (first | (go_keep;done) | (go_simp;done))
  (first | (go_at_call 158;refine(HG _ a7 c7 (Mag.below hm7 zbh)).out.mono ?_;rintro e w8 ⟨rfl,hw8⟩;have hm68:Mag w8 a6 (nl q.natAbs) c6 q.natAbs:=Mag.below (Mag.below hm6 zbh) hw8;obtain⟨hc8,hz8⟩:=zA6 (hw8.mono (show wc.heap.size≤_ from Nat.le_refl _))))
 have hbw8:=zA0 (w:=w) (have:=Beh.mk hbw;zbh) hw8;clear hbw;have hbw:=hbw8;go_wp2_with fail;refine bodyPost_ret (v:=.agg #[.bool sb,.bool (decide (q<0)),.slice a6 (nl q.natAbs) c6,.int .i64 E',.bool (g != 0)]) (by simp only[results,Tryz.results162];go_simp) rfl ?_;exact⟨a6,c6,rfl,(by repeat(with_reducible first | refine Mag.set ?_ (fun h=>Kn) _ _ | refine Mag.drew ?_ | refine Mag.alloc ?_ _ | refine Mag.drewN ?_ _ | refine Mag.below ?_ (Below.drew (Below.refl _ _)) | refine Mag.below ?_ ((Below.refl _ _).alloc (Nat.le_refl _) _) | exact hm68)),j7,fun h=>Kn⟩
end Go.Proofs.YtmbkgapknoammaaGreatDoor
namespace Go.Proofs.YtmbkgapknoammaaGreatDoor
open Go.RowKit Sp
def zKk(w:World)(s:Bool)(x:Nat)(E:Int)(more:Bool)(e:Ending)(w':World):Prop:=
 ∃a c,e=.returned (.agg #[.bool s,.bool false,.slice a (nl x) c,.int .i64 E,.bool more])∧Mag w' a (nl x) c x∧Below w.heap.size w w'∧(0<nl x→w.heap.size≤ab a)
theorem zMh(w:World)(bd bd':Bool)(a a':Option Addr)(c c':Nat)(z f z' f' p:Int)(hx:Mag w a (nl z.natAbs) c z.natAbs)(hy:Mag w a' (nl z'.natAbs) c' z'.natAbs)(hb:zA4 z.natAbs≤131072)(hb':zA4 z'.natAbs≤131072)(hz':z'≠0)(hp0:1≤p)(hp1:p≤4096)(hf: -65536≤f)(hf1:f≤65536)(hf': -65536≤f')(hf1':f'≤65536):Calls Tryz.prog 162 #[.agg #[.bool bd,.bool (decide (z<0)),.slice a (nl z.natAbs) c,.int .i64 f],.agg #[.bool bd',.bool (decide (z'<0)),.slice a' (nl z'.natAbs) c',.int .i64 f'],.int .i64 p]
  w (zKk w (decide (z<0) != decide (z'<0)) (z.natAbs*2^qsh z z' p/z'.natAbs) (f-qsh z z' p-f') (decide (z.natAbs*2^qsh z z' p%z'.natAbs≠0))):=by
 have hn:max 0 (p+3+(zA4 z'.natAbs:Int)-(zA4 z.natAbs:Int))=(qsh z z' p:Int):=QH
 have hn2:qsh z z' p≤140000:=QH
 have hyl:nl ((z.natAbs*2^qsh z z' p:Nat):Int).natAbs≤1099511627776:=by
  refine zBa ?_;show zA4 (z.natAbs*2^qsh z z' p)≤_
  by_cases h0:z.natAbs=0
  · rw[h0,Nat.zero_mul];decide
  · rw[zAc (Nat.pos_of_ne_zero h0)];omega
 have h:=zKS w bd bd' a a' c c' z f z' f' p (qsh z z' p) (f-qsh z z' p-f') (z.natAbs:Int) ((z.natAbs*2^qsh z z' p:Nat):Int) _ _ _ _ (z.natAbs*2^qsh z z' p) z'.natAbs hx hy (zBa j0) (zBa j0) rfl rfl hb hb' hp0 hp1 hn rfl jz rfl rfl (Int.natAbs_pos.2 hz') rfl rfl hyl hf hf1 hf' hf1' rfl;have e:(sg ((z.natAbs*2^qsh z z' p%z'.natAbs:Nat):Int) != 0)=decide (z.natAbs*2^qsh z z' p%z'.natAbs≠0):=by
  by_cases h0:z.natAbs*2^qsh z z' p%z'.natAbs=0
  · rw[h0];rfl
  · rw[zFF j0];simp[h0]
 rw[e]at h;refine h.mono ?_;rintro o w' ⟨a1,c1,rfl,h1,h2,h3⟩;refine⟨a1,c1,?_,h1,h2,h3⟩;simp only[show∀k:Nat,decide ((k:Int)<0)=false from fun k=>jz];rfl
end Go.Proofs.YtmbkgapknoammaaGreatDoor
set_option maxRecDepth 100000
set_option maxHeartbeats 20000000
namespace Go.Proofs.YtmbkgapknoammaaGreatDoor
open Go.RowKit Sp
attribute [local irreducible] Calls
theorem zMA{d:Option (Int×Int)}(h:zAj d=true):d=none:=by cases d with | none=>rfl | some p=>cases h
theorem zI5{d:Option (Int×Int)}(h:zAj d=false):d=some (zA1 d,zA7 d):=by cases d with | none=>cases h | some p=>rfl
theorem zIT(w:World)(bd s bd' s':Bool)(a a':Option Addr)(n n' cap cap':Nat)(e e' mode:Int)(d d':Option (Int×Int))(hx:DyIn w bd s a n cap e d)(hy:DyIn w bd' s' a' n' cap' e' d')(hT:Tab w):Calls Tryz.prog 121 #[.agg #[.bool bd,.bool s,.slice a n cap,.int .i64 e],.agg #[.bool bd',.bool s',.slice a' n' cap',.int .i64 e'],.int .i64 mode] w fun o w'=>o=.returned (.int .u64 (zEH d d' mode:Nat))∧Below w.heap.size w w':=by
 have HT:Tb w:=⟨hT⟩;have HX:DI w bd s a n cap e d:=⟨hx⟩;have HY:DI w bd' s' a' n' cap' e' d':=⟨hy⟩;have N1:=hx.isN;have N2:=hy.isN;have HN:=fun W [i:DI W bd s a n cap e d] [Tb W]=>Lib.hid (frF (zIF W i.out tb));have HN2:=fun W [i:DI W bd' s' a' n' cap' e' d'] [Tb W]=>Lib.hid (frF (zIF W i.out tb));have hB:=zAd N1;have hB':=zAd N2;obtain⟨u,hu⟩:∃u:Int,u=((zEH d d' mode:Nat):Int):=⟨_,rfl⟩;rw[←hu];have hU:=Lib.hid hu;clear hx hy hu;go_enter Tryz.func121,Tryz.ntmps121
 go_upto_region 1 with fail
 go_cut [] (fun wx=>∃a1 c1 a2 c2,DB wx w.heap.size (zAj d) (decide (zA1 d<0)) (.slice a1 (nl (zA1 d).natAbs) c1) (zA7 d)∧DB wx (w.heap.size+1) (zAj d') (decide (zA1 d'<0)) (.slice a2 (nl (zA1 d').natAbs) c2) (zA7 d')∧BI wx a1 (nl (zA1 d).natAbs) c1 (zA1 d).natAbs∧BI wx a2 (nl (zA1 d').natAbs) c2 (zA1 d').natAbs∧Beh w wx)
 case first=>
  first
  | go_region_with (first
   | (go_at_call 159;refine(HN _).out.mono ?_;rintro o w1 ⟨a1,c1,rfl,j1,b1,f1⟩;haveI g1:=FA.mk f1)
   | (go_at_call 159;refine(HN2 _).out.mono ?_;rintro o w2 ⟨a2,c2,rfl,j2,b2,f2⟩;haveI g2:=FA.mk f2)
   | fail)
  | fail "region"
  all_goals(
   go_wp2_with fail
   go_meet
   exact⟨a1,c1,a2,c2,inferInstance,inferInstance,inferInstance,inferInstance,inferInstance⟩)
 case rest=>
  obtain⟨a1,c1,a2,c2,V1,V2,j1,j2,b3⟩:=hcut;generalize wc=v1 at *;clear HN HN2;haveI T1:Tb v1:=⟨hT.below b3.out⟩
  cases hb:zAj d with
  | true=>
   obtain rfl:u=9221120237041090560:=(by rw[hU.out,zMA hb];rfl);clear hU;go_wp2_with fail;go_ret;exact⟨rfl,zbh⟩
  | false=>
  cases hb':zAj d' with
  | true=>
   obtain rfl:u=9221120237041090560:=(by rw[hU.out,zMA hb',zI5 hb];rfl);clear hU;go_wp2_with fail;go_ret;exact⟨rfl,zbh⟩
  | false=>
  obtain⟨m,E,hd⟩:∃m E,d=some (m,E):=⟨_,_,zI5 hb⟩;obtain⟨m',E',hd'⟩:∃m E,d'=some (m,E):=⟨_,_,zI5 hb'⟩;subst hd hd';have V1:DB v1 w.heap.size false (decide (m<0)) (.slice a1 (nl m.natAbs) c1) E:=V1;have V2:DB v1 (w.heap.size+1) false (decide (m'<0)) (.slice a2 (nl m'.natAbs) c2) E':=V2;have j1:BI v1 a1 (nl m.natAbs) c1 m.natAbs:=j1;have j2:BI v1 a2 (nl m'.natAbs) c2 m'.natAbs:=j2;have hB:zA4 m.natAbs≤131072∧ -65536≤E∧E≤65536:=hB;have hB':zA4 m'.natAbs≤131072∧ -65536≤E'∧E'≤65536:=hB';have HG:=fun W b c [i:BI W b (nl m.natAbs) c m.natAbs] [Tb W]=>Lib.hid (frm (zCV W false (decide (m<0)) b _ c E (some (m,E)) (zAp (d:=some (m,E)) (N1) i.out) tb));have HG:=fun W b c [i:BI W b (nl m.natAbs) c m.natAbs] [Tb W]=>Lib.hid (show Calls Tryz.prog 119 #[.agg #[.bool false,.bool (decide (m<0)),.slice b (nl m.natAbs) c,.int .i64 E]] W fun o w'=>o=.returned (.int .i64 (zAq m 0))∧From W w' from(HG W b c).out);have HG2:=fun W b c [i:BI W b (nl m'.natAbs) c m'.natAbs] [Tb W]=>Lib.hid (frm (zCV W false (decide (m'<0)) b _ c E' (some (m',E')) (zAp (d:=some (m',E')) (N2) i.out) tb));have HG2:=fun W b c [i:BI W b (nl m'.natAbs) c m'.natAbs] [Tb W]=>Lib.hid (show Calls Tryz.prog 119 #[.agg #[.bool false,.bool (decide (m'<0)),.slice b (nl m'.natAbs) c,.int .i64 E']] W fun o w'=>o=.returned (.int .i64 (zAq m' 0))∧From W w' from(HG2 W b c).out);have hu:u=(((if m'=0 then zK1 else if m=0 then 0 else zCg (decide (m<0) != decide (m'<0)) (m.natAbs*2^qsh m m' 56/m'.natAbs) (E-qsh m m' 56-E') (decide (m.natAbs*2^qsh m m' 56%m'.natAbs≠0)) mode:Nat)):Int):=hU.out;clear N1 N2 hU hb hb' HX HY
  by_cases hz':m'=0
  · obtain rfl:u=9221120237041090560:=(by rw[hu,if_pos hz'];rfl);have hs:zAq m' 0=0:=(by rw[hz'];rfl);rw[hs]at HG2;clear hs hz' hu hB hB';go_wp2_with fail;refine(HG2 _ _ _).out.mono ?_;rintro o w3 ⟨rfl,b3⟩;go_wp2_with fail;go_ret;exact⟨rfl,zbh⟩
  · obtain⟨g',hg'⟩:∃g,g=zAq m' 0:=⟨_,rfl⟩;have hg1:(g'==0)=false:=by rw[hg'];unfold zAq;split <;> (try split) <;> first | decide | (exfalso;omega)
    have hg2:¬g'=0:=(by simpa using hg1);rw[←hg']at HG2;clear hg';rw[if_neg hz']at hu
    by_cases hz:m=0
    · obtain rfl:u=0:=(by rw[hu,if_pos hz];rfl);have hs:zAq m 0=0:=(by rw[hz];rfl);rw[hs]at HG;clear hs hz' hz hu hB hB';go_wp2_with fail;refine(HG2 _ _ _).out.mono ?_;rintro o w3 ⟨rfl,b3⟩;go_wp2_with fail;refine(HG _ _ _).out.mono ?_;rintro o w4 ⟨rfl,b4⟩;go_wp2_with fail;go_ret;exact⟨rfl,zbh⟩
    · obtain⟨g,hg⟩:∃g,g=zAq m 0:=⟨_,rfl⟩;have hk1:(g==0)=false:=by rw[hg];unfold zAq;split <;> (try split) <;> first | decide | (exfalso;omega)
      have hk2:¬g=0:=(by simpa using hk1);rw[←hg]at HG;clear hg;rw[if_neg hz]at hu;have hl:=zQ8 (a:=m) (b:=m') hz' hz;have hq:qsh m m' 56≤131200:=QH;have hQl:zA4 (m.natAbs*2^qsh m m' 56/m'.natAbs)≤500000:=by
       refine Nat.le_trans (zBC (Nat.div_le_self _ _)) ?_;rw[zAc j0];omega
      have HR:=fun W b c b' c' [i:BI W b (nl m.natAbs) c m.natAbs] [j:BI W b' (nl m'.natAbs) c' m'.natAbs]=>Lib.hid (zMh W false false b b' c c' m E m' E' 56 i.out j.out hB.1 hB'.1 hz' j0 j0 hB.2.1 hB.2.2 hB'.2.1 hB'.2.2);have HO:=fun W b c (i:Mag W b (nl (m.natAbs*2^qsh m m' 56/m'.natAbs)) c (m.natAbs*2^qsh m m' 56/m'.natAbs)) [Tb W]=>Lib.hid (frm (zET W (decide (m<0) != decide (m'<0)) (decide (m.natAbs*2^qsh m m' 56%m'.natAbs≠0)) b c (m.natAbs*2^qsh m m' 56/m'.natAbs) (E-qsh m m' 56-E') mode i (by rcases Nat.eq_zero_or_pos (m.natAbs*2^qsh m m' 56/m'.natAbs)with h | h;rw[h]at hl;exact absurd hl ja;exact h) hQl j0 j0 tb));rw[←hu]at HO;generalize decide (m.natAbs*2^qsh m m' 56%m'.natAbs≠0)=mo at *;generalize m.natAbs*2^qsh m m' 56/m'.natAbs=Q at *;generalize (decide (m<0) != decide (m'<0))=sg at *;generalize E-((qsh m m' 56:Nat):Int)-E'=x2 at *;clear hu hq hQl hl hz hz' hB hB';go_wp2_with fail;refine(HG2 _ _ _).out.mono ?_;rintro o w3 ⟨rfl,b3⟩;go_wp2_with fail;refine(HG _ _ _).out.mono ?_;rintro o w4 ⟨rfl,b4⟩;go_wp2_with fail;refine(HR _ _ _ _ _).out.mono ?_;rintro o w5 ⟨a5,c5,rfl,m5,b5,f5⟩;haveI i5:From _ w5:=⟨b5⟩;go_wp2_with fail;refine(HO _ _ _ m5).out.mono ?_;rintro o w6 ⟨rfl,b6⟩;go_wp2_with fail;go_ret;exact⟨rfl,zbh⟩
end Go.Proofs.YtmbkgapknoammaaGreatDoor

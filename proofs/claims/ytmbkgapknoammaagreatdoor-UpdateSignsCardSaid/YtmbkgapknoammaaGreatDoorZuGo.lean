/-
  Walks: package dyad: Neg, Abs, Sign, Scale, Floor.
  Walks: package dyad: aligned.
  Walks: package dyad: Cmp, Add, Mul.
  Walks: package dyad: FromInt, precise, Log2, Sub.
-/
import Derived.Test.YtmbkgapknoammaaGreatDoorZuBe
import Derived.Test.YtmbkgapknoammaaGreatDoorZuBL
import Derived.Test.YtmbkgapknoammaaGreatDoorZuCm
import Derived.Test.YtmbkgapknoammaaGreatDoorZuTj
set_option maxRecDepth 100000
set_option maxHeartbeats 2000000
namespace Go.Proofs.YtmbkgapknoammaaGreatDoor
open Go.RowKit Sp
theorem zP1(w:World)(a:Option Addr)(cap:Nat)(z y:Int)(hy:y= -z)(hm:Mag w a (nl z.natAbs) cap z.natAbs)(hl:nl z.natAbs≤1099511627776):Calls Tryz.prog 149 #[.agg #[.bool (decide (z<0)),.slice a (nl z.natAbs) cap]] w (zAl w y):=by
 have h:=zQW w (decide (z<0)) a _ cap _ hm hl;rwa[zI7,zAk,←hy]at h
theorem zRL(w:World)(a:Option Addr)(cap:Nat)(z y:Int)(hy:y=(z.natAbs:Int))(hm:Mag w a (nl z.natAbs) cap z.natAbs)(hl:nl z.natAbs≤1099511627776):Calls Tryz.prog 183 #[.agg #[.bool (decide (z<0)),.slice a (nl z.natAbs) cap]] w (zAl w y):=by
 have h:=zRM w (decide (z<0)) a _ cap _ hm hl;rwa[show sgn false z.natAbs=y by rw[hy];rfl]at h
theorem zPB(w:World)(bd s:Bool)(a:Option Addr)(n cap:Nat)(e:Int)(hx:DyIn w bd s a n cap e none)(hT:Tab w):Calls Tryz.prog 156 #[.agg #[.bool bd,.bool s,.slice a n cap,.int .i64 e]] w (zAM w none):=by
 have e2:¬w.heap.size+1=w.heap.size:=j0
 have HN:=fun W h ht=>Lib.hid (@zMz W bd s a n cap e none h ht true 0 0 rfl rfl rfl);go_enter Tryz.func156,Tryz.ntmps156;go_wp2_with fail;refine(HN _ (hx.below zbh) (hT.below zbh)).out.mono ?_;rintro e w1 ⟨a1,c1,rfl,hm1,hb,hf1⟩;obtain⟨hc1,hz1⟩:=zA6 (hb.mono (show w.heap.size+2≤_ by simp));have hbw:=zA0 (w:=w) zbh hb;go_wp2_with fail;refine bodyPost_ret (v:=.agg #[.bool true,.bool false,.slice a1 (nl 0) c1,.int .i64 0]) (by simp only[results,Tryz.results156];go_simp) rfl ?_;exact⟨a1,c1,rfl,Mag.empty _ _ _ hm1.lim,(have:=Beh.mk hbw;zbh),nl0⟩
theorem zRp(w:World)(bd s:Bool)(a:Option Addr)(n cap:Nat)(e z f y:Int)(hx:DyIn w bd s a n cap e (some (z,f)))(hT:Tab w)(hy:y= -z):Calls Tryz.prog 156 #[.agg #[.bool bd,.bool s,.slice a n cap,.int .i64 e]] w (zAM w (some (y,f))):=by
 have e2:¬w.heap.size+1=w.heap.size:=j0
 have hl:=zBa (Nat.le_trans (zAd hx.isN).1 j0);have HN:=fun W h ht=>Lib.hid (@zMz W bd s a n cap e (some (z,f)) h ht false z f rfl rfl rfl);have HG:=fun W b c h=>Lib.hid (zP1 W b c z y hy h hl);clear hy;go_enter Tryz.func156,Tryz.ntmps156;go_wp2_with fail;refine(HN _ (hx.below zbh) (hT.below zbh)).out.mono ?_;rintro e w1 ⟨a1,c1,rfl,hm1,hb,hf1⟩;obtain⟨hc1,hz1⟩:=zA6 (hb.mono (show w.heap.size+2≤_ by simp));have hg1:w.heap.size+2≤w1.heap.size:=jK
 have hfr1:0<nl z.natAbs→w.heap.size+2≤ab a1:=fun h=>jB
 have hbw:=zA0 (w:=w) zbh hb;go_wp2_with fail;refine(HG _ a1 c1 jd).out.mono ?_;rintro e w2 ⟨a2,c2,rfl,hm2,hb2,hf2⟩;obtain⟨hc2,hz2⟩:=zA6 (hb2.mono (show w.heap.size+2≤_ by simpa using hg1));have hfr2:0<nl y.natAbs→w.heap.size+2≤ab a2:=fun h=>X8
 have hbw2:=zA0 (w:=w) (have:=Beh.mk hbw;zbh) hb2;clear hbw;have hbw:=hbw2;go_wp2_with fail;refine bodyPost_ret (v:=.agg #[.bool false,.bool (decide (y<0)),.slice a2 (nl y.natAbs) c2,.int .i64 f]) (by simp only[results,Tryz.results156];go_simp) rfl ?_;exact zSf false y f rfl rfl rfl jf j7 (fun h=>K4)
theorem zK4(w:World)(bd s:Bool)(a:Option Addr)(n cap:Nat)(e:Int)(d:Option (Int×Int))(hx:DyIn w bd s a n cap e d)(hT:Tab w):Calls Tryz.prog 156 #[.agg #[.bool bd,.bool s,.slice a n cap,.int .i64 e]] w (zAM w (zEt d)):=by
 rcases d with _ | ⟨z,f⟩
 · exact zPB w bd s a n cap e hx hT
 · exact zRp w bd s a n cap e z f _ hx hT rfl
theorem zCV(w:World)(bd s:Bool)(a:Option Addr)(n cap:Nat)(e:Int)(d:Option (Int×Int))(hx:DyIn w bd s a n cap e d)(hT:Tab w):Calls Tryz.prog 119 #[.agg #[.bool bd,.bool s,.slice a n cap,.int .i64 e]] w fun o w'=>o=.returned (.int .i64 (zAq (zA1 d) 0))∧Below w.heap.size w w':=by
 have HN:=fun W h ht=>Lib.hid (@zMz W bd s a n cap e d h ht _ _ _ rfl rfl rfl);obtain⟨b,hb0⟩:∃b,b=zAj d:=⟨_,rfl⟩;obtain⟨z,hz0⟩:∃z,z=zA1 d:=⟨_,rfl⟩;obtain⟨f,hf0⟩:∃f,f=zA7 d:=⟨_,rfl⟩;rw[←hb0,←hz0,←hf0]at HN;rw[←hz0];clear hb0 hz0 hf0;have HG:=fun W b c h=>Lib.hid (zEh W b c z h);obtain⟨g,hg⟩:∃g,g=sg z:=⟨_,rfl⟩;rw[←hg]at HG;rw[show zAq z 0=g from hg.symm];clear hg;go_enter Tryz.func119,Tryz.ntmps119;go_wp2_with fail;refine(HN _ (hx.below zbh) (hT.below zbh)).out.mono ?_;rintro e w1 ⟨a1,c1,rfl,hm1,hb,hf1⟩;obtain⟨hc1,hz1⟩:=zA6 (hb.mono (show w.heap.size+1≤_ by simp));have hfr1:0<nl z.natAbs→w.heap.size+1≤ab a1:=fun h=>jB
 have hbw:=zA0 (w:=w) zbh hb;go_wp2_with fail;refine(HG _ a1 c1 jd).out.mono ?_;rintro e w2 ⟨rfl,hb2⟩;have hbw2:=zA0 (w:=w) (have:=Beh.mk hbw;zbh) hb2;clear hbw;have hbw:=hbw2;go_wp2_with fail;go_ret;exact⟨rfl,(have:=Beh.mk hbw;zbh)⟩
def zT0(w:World)(x y E:Int)(e:Ending)(w':World):Prop:=
 ∃a c a' c',e=.returned (.tuple #[.agg #[.bool (decide (x<0)),.slice a (nl x.natAbs) c],.agg #[.bool (decide (y<0)),.slice a' (nl y.natAbs) c'],.int .i64 E])∧Mag w' a (nl x.natAbs) c x.natAbs∧Mag w' a' (nl y.natAbs) c' y.natAbs∧Below w.heap.size w w'∧(0<nl x.natAbs→w.heap.size≤ab a)∧(0<nl y.natAbs→w.heap.size≤ab a')
theorem zFN(w:World)(a:Option Addr)(cap:Nat)(z k y:Int)(hy:y=z*2^k.toNat)(hm:Mag w a (nl z.natAbs) cap z.natAbs)(hl:nl z.natAbs≤1099511627776)(h0:0≤k)(h1:k≤1048576):Calls Tryz.prog 171 #[.agg #[.bool (decide (z<0)),.slice a (nl z.natAbs) cap],.int .i64 k] w (zAl w y):=by
 have h:=zJJ w (decide (z<0)) a _ cap _ k hm hl h0 h1;rwa[zAk,show shl z k=y by rw[hy];unfold shl;rw[if_pos h0]]at h
theorem zI0(w:World)(bd bd':Bool)(a a':Option Addr)(c c':Nat)(z z' f f' E k k' x y:Int)(hx:Mag w a (nl z.natAbs) c z.natAbs)(hy:Mag w a' (nl z'.natAbs) c' z'.natAbs)(hl:nl z.natAbs≤1099511627776)(hl':nl z'.natAbs≤1099511627776)
 (hE:min f f'=E) (hk:IntKind.i64.wrap (f-E)=k) (hk':IntKind.i64.wrap (f'-E)=k') (h0:0≤k) (h1:k≤1048576) (h0':0≤k') (h1':k'≤1048576) (hxx:x=z*2^k.toNat) (hyy:y=z'*2^k'.toNat) :
 Calls Tryz.prog 153 #[.agg #[.bool bd,.bool (decide (z<0)),.slice a (nl z.natAbs) c,.int .i64 f],.agg #[.bool bd',.bool (decide (z'<0)),.slice a' (nl z'.natAbs) c',.int .i64 f']] w (zT0 w x y E):=by
 have HX:=fun W h=>Lib.hid (zFN W a c z k x hxx h hl h0 h1);have HY:=fun W h=>Lib.hid (zFN W a' c' z' k' y hyy h hl' h0' h1');have e1:¬w.heap.size+1=w.heap.size:=j0
 have e2:¬w.heap.size+1+1=w.heap.size:=j0
 have e3:¬w.heap.size+1+1+1=w.heap.size:=j0
 clear h0 h1 h0' h1' hxx hyy;go_enter Tryz.func153,Tryz.ntmps153;go_wp2_with fail
 go_region_held3 (fun w'=>w'.cell? ⟨w.heap.size,1,none⟩=some (.bool (decide (z<0)))∧w'.cell? ⟨w.heap.size,2,none⟩=some (.slice a (nl z.natAbs) c)∧w'.cell? ⟨w.heap.size,3,none⟩=some (.int .i64 f)
  ∧ w'.cell? ⟨w.heap.size+1,1,none⟩=some (.bool (decide (z'<0)))∧w'.cell? ⟨w.heap.size+1,2,none⟩=some (.slice a' (nl z'.natAbs) c')∧w'.cell? ⟨w.heap.size+1,3,none⟩=some (.int .i64 f')) (first | (go_keep;done) | (go_simp;done))
  (first
   | (have hbw1x:=hb1;go_at_call 171;refine(HY _ (hy.below (have:=Beh.mk hbw;zbh))).out.mono ?_;rintro e w2 ⟨a2,c2,rfl,hm2,hb2,hf2⟩;obtain⟨hc2,hz2⟩:=zA6 (hb2.mono (show w.heap.size+4≤_ by simpa using hg1)))
   | (go_at_call 171;refine(HX _ (hx.below zbh)).out.mono ?_;rintro e w1 ⟨a1,c1,rfl,hm1,hb1,hf1⟩;obtain⟨hc1,hz1⟩:=zA6 (hb1.mono (show w.heap.size+4≤_ by simp));have hg1:w.heap.size+4≤w1.heap.size:=(by have:=hb1.size;simpa using this);have hbw:=zA0 (w:=w) zbh hb1)
   | fail)
 have hfr1:0<nl x.natAbs→w.heap.size+4≤ab a1:=fun h=>by have:=hf1 h;(try simp at this);omega
 have hfr2:0<nl y.natAbs→w.heap.size+4≤ab a2:=fun h=>by have:=hf2 h;(try simp at this);omega
 have hm1':Mag w2 a1 (nl x.natAbs) c1 x.natAbs:=Mag.below hm1.on hb2;have hbw2:=zA0 (w:=w) (have:=Beh.mk hbw;zbh) hb2;clear hbw;have hbw:=hbw2;go_wp2_with fail;refine zAf (v:=.tuple #[.agg #[.bool (decide (x<0)),.slice a1 (nl x.natAbs) c1],.agg #[.bool (decide (y<0)),.slice a2 (nl y.natAbs) c2],.int .i64 E]) (by simp only[results,Tryz.results153];go_simp) rfl ?_;exact⟨a1,c1,a2,c2,rfl,jC,jf,j7,fun h=>jE,fun h=>K4⟩
theorem zIS(w:World)(bd bd':Bool)(a a':Option Addr)(c c':Nat)(z z' f f':Int)(hx:Mag w a (nl z.natAbs) c z.natAbs)(hy:Mag w a' (nl z'.natAbs) c' z'.natAbs)(hl:nl z.natAbs≤1099511627776)(hl':nl z'.natAbs≤1099511627776)
 (h0: -65536≤f) (h1:f≤65536) (h0': -65536≤f') (h1':f'≤65536) :
 Calls Tryz.prog 153 #[.agg #[.bool bd,.bool (decide (z<0)),.slice a (nl z.natAbs) c,.int .i64 f],.agg #[.bool bd',.bool (decide (z'<0)),.slice a' (nl z'.natAbs) c',.int .i64 f']] w (zT0 w (up z f (min f f')) (up z' f' (min f f')) (min f f')):=
 zI0 w bd bd' a a' c c' z z' f f' (min f f') (f-min f f') (f'-min f f') _ _ hx hy hl hl' rfl jg jg j0 j0 j0 j0 rfl rfl
theorem zTA{a b:Nat}(h:a+3≤b):(¬a=b)∧(¬a+1=b)∧(¬a+1+1=b)∧(¬b=a)∧(¬b=a+1)∧(¬b=a+1+1)∧(a<b)∧(a+1<b)∧(a+1+1<b)∧(a<b+1)∧(a<b+2)∧(a<b+1+1)∧(a+1<b+1+1)∧(a+1<b+1) ∧
 (a+2<b)∧(¬a+2=b)∧(¬b=a+2)∧(¬a=b+1)∧(¬b+1=a)∧(¬a=b+1+1)∧(¬b+1+1=a)∧(¬a=b+2)∧(¬a+1=b+1)∧(¬a+1+1=b+1)∧(¬b+1=a+1)∧(a≤b):=j0
theorem zSU(w:World)(a a':Option Addr)(cap cap':Nat)(x y v:Int)(hv:v=x+y)(hm:Mag w a (nl x.natAbs) cap x.natAbs)(hm':Mag w a' (nl y.natAbs) cap' y.natAbs)(hl:nl x.natAbs≤1099511627776)(hl':nl y.natAbs≤1099511627776):Calls Tryz.prog 154 #[.agg #[.bool (decide (x<0)),.slice a (nl x.natAbs) cap],.agg #[.bool (decide (y<0)),.slice a' (nl y.natAbs) cap']] w (zAl w v):=by
 have h:=zO6 w (decide (x<0)) (decide (y<0)) a a' _ _ cap cap' _ _ hm hm' hl hl';rwa[zAk,zAk,←hv]at h
theorem zSt(w:World)(a a':Option Addr)(cap cap':Nat)(x y v:Int)(hv:v=x*y)(hm:Mag w a (nl x.natAbs) cap x.natAbs)(hm':Mag w a' (nl y.natAbs) cap' y.natAbs)(hl:nl x.natAbs≤1099511627776)(hl':nl y.natAbs≤1099511627776):Calls Tryz.prog 155 #[.agg #[.bool (decide (x<0)),.slice a (nl x.natAbs) cap],.agg #[.bool (decide (y<0)),.slice a' (nl y.natAbs) cap']] w (zAl w v):=by
 have h:=zQX w (decide (x<0)) (decide (y<0)) a a' _ _ cap cap' _ _ hm hm' hl hl';rwa[zAk,zAk,←hv]at h
theorem zSQ(w:World)(a a':Option Addr)(cap cap':Nat)(x y v:Int)(hv:v=zAq x y)(hm:Mag w a (nl x.natAbs) cap x.natAbs)(hm':Mag w a' (nl y.natAbs) cap' y.natAbs):Calls Tryz.prog 188 #[.agg #[.bool (decide (x<0)),.slice a (nl x.natAbs) cap],.agg #[.bool (decide (y<0)),.slice a' (nl y.natAbs) cap']] w fun e w'=>e=.returned (.int .i64 v)∧Below w.heap.size w w':=by
 have h:=zRA w (decide (x<0)) (decide (y<0)) a a' _ _ cap cap' _ _ hm hm';rwa[zAk,zAk,←hv]at h
theorem zMI(w:World)(a:Option Addr)(cap:Nat)(z e:Int)(d:Option (Int×Int))(hd:d=nrm z e)(hm:Mag w a (nl z.natAbs) cap z.natAbs)(hT:Tab w)(hB:zA4 z.natAbs≤1048576)(he0: -9223372036854775808≤e)(he1:e≤9223372036854775807):Calls Tryz.prog 150 #[.agg #[.bool (decide (z<0)),.slice a (nl z.natAbs) cap],.int .i64 e] w (zAM w d):=by
 have h:=zP5 w (decide (z<0)) a _ cap _ e hm (zBa hB) hT hB (zIZ hB) he0 he1;rwa[zAk,←hd]at h
theorem zK8(w:World)(bd s bd' s':Bool)(a a':Option Addr)(n n' cap cap':Nat)(e e':Int)(d d':Option (Int×Int))(hx:DyIn w bd s a n cap e d)(hy:DyIn w bd' s' a' n' cap' e' d')(hT:Tab w)(hk:(!zAj d&&!zAj d')=false):Calls Tryz.prog 116 #[.agg #[.bool bd,.bool s,.slice a n cap,.int .i64 e],.agg #[.bool bd',.bool s',.slice a' n' cap',.int .i64 e']] w (zAM w none):=by
 have HN:=fun W hx hy ht=>Lib.hid (@zOk W bd s bd' s' a a' n n' cap cap' e e' d d' hx hy ht _ _ _ rfl rfl rfl _ _ _ rfl rfl rfl false hk);generalize zAj d=b at HN;generalize zA1 d=z at HN;generalize zA7 d=f at HN;generalize zAj d'=b' at HN;generalize zA1 d'=z' at HN;generalize zA7 d'=f' at HN;clear hk;have e1:¬w.heap.size+1=w.heap.size:=j0
 have e2:¬w.heap.size+1+1=w.heap.size:=j0
 have l2:w.heap.size<w.heap.size+1+1:=j0
 have k2:¬w.heap.size=w.heap.size+1+1:=j0
 have l3:w.heap.size<w.heap.size+1+1+1:=j0
 have k3:¬w.heap.size=w.heap.size+1+1+1:=j0
 go_enter Tryz.func116,Tryz.ntmps116;go_wp2_with fail;refine(HN _ (hx.below zbh) (hy.below zbh) (hT.below zbh)).out.mono ?_;rintro e w1 ⟨a1,c1,a2,c2,rfl,hm1,hm2,hb,hf1,hf2⟩;obtain⟨hc1,hz1⟩:=zA6 (hb.mono (show w.heap.size+3≤_ by simp));have hg1:w.heap.size+3≤w1.heap.size:=jK
 have hbw:=zA0 (w:=w) zbh hb;go_wp2_with fail;refine(zFw _).mono ?_;rintro e w2 ⟨rfl,hb2⟩;obtain⟨hc2,hz2⟩:=zA6 (hb2.mono (show w.heap.size+3≤_ by simpa using hg1));have hbw2:=zA0 (w:=w) (have:=Beh.mk hbw;zbh) hb2;clear hbw;have hbw:=hbw2;go_wp2_with fail;refine bodyPost_ret (v:=.agg #[.bool true,.bool false,.slice none 0 0,.int .i64 0]) (by simp only[results,Tryz.results116];go_simp) rfl ?_;exact zM9 rfl (have:=Beh.mk hbw;zbh)
theorem zK5(w:World)(bd s bd' s':Bool)(a a':Option Addr)(n n' cap cap':Nat)(e e':Int)(d d':Option (Int×Int))(hx:DyIn w bd s a n cap e d)(hy:DyIn w bd' s' a' n' cap' e' d')(hT:Tab w)(hk:(!zAj d&&!zAj d')=false):Calls Tryz.prog 117 #[.agg #[.bool bd,.bool s,.slice a n cap,.int .i64 e],.agg #[.bool bd',.bool s',.slice a' n' cap',.int .i64 e']] w (zAM w none):=by
 have HN:=fun W hx hy ht=>Lib.hid (@zOk W bd s bd' s' a a' n n' cap cap' e e' d d' hx hy ht _ _ _ rfl rfl rfl _ _ _ rfl rfl rfl false hk);generalize zAj d=b at HN;generalize zA1 d=z at HN;generalize zA7 d=f at HN;generalize zAj d'=b' at HN;generalize zA1 d'=z' at HN;generalize zA7 d'=f' at HN;clear hk;have e1:¬w.heap.size+1=w.heap.size:=j0
 have e2:¬w.heap.size+1+1=w.heap.size:=j0
 have l2:w.heap.size<w.heap.size+1+1:=j0
 have k2:¬w.heap.size=w.heap.size+1+1:=j0
 have l3:w.heap.size<w.heap.size+1+1+1:=j0
 have k3:¬w.heap.size=w.heap.size+1+1+1:=j0
 go_enter Tryz.func117,Tryz.ntmps117;go_wp2_with fail;refine(HN _ (hx.below zbh) (hy.below zbh) (hT.below zbh)).out.mono ?_;rintro e w1 ⟨a1,c1,a2,c2,rfl,hm1,hm2,hb,hf1,hf2⟩;obtain⟨hc1,hz1⟩:=zA6 (hb.mono (show w.heap.size+3≤_ by simp));have hg1:w.heap.size+3≤w1.heap.size:=jK
 have hbw:=zA0 (w:=w) zbh hb;go_wp2_with fail;refine(zFw _).mono ?_;rintro e w2 ⟨rfl,hb2⟩;obtain⟨hc2,hz2⟩:=zA6 (hb2.mono (show w.heap.size+3≤_ by simpa using hg1));have hbw2:=zA0 (w:=w) (have:=Beh.mk hbw;zbh) hb2;clear hbw;have hbw:=hbw2;go_wp2_with fail;refine bodyPost_ret (v:=.agg #[.bool true,.bool false,.slice none 0 0,.int .i64 0]) (by simp only[results,Tryz.results117];go_simp) rfl ?_;exact zM9 rfl (have:=Beh.mk hbw;zbh)
theorem zRu(w:World)(bd s bd' s':Bool)(a a':Option Addr)(n n' cap cap':Nat)(e e':Int)(z f z' f':Int)(hx:DyIn w bd s a n cap e (some (z,f)))(hy:DyIn w bd' s' a' n' cap' e' (some (z',f')))(hT:Tab w):Calls Tryz.prog 116 #[.agg #[.bool bd,.bool s,.slice a n cap,.int .i64 e],.agg #[.bool bd',.bool s',.slice a' n' cap',.int .i64 e']] w (zAM w (nrm (up z f (min f f')+up z' f' (min f f')) (min f f'))):=by
 have HN:=fun W hx hy ht=>Lib.hid (@zOk W bd s bd' s' a a' n n' cap cap' e e' (some (z,f)) (some (z',f')) hx hy ht false z f rfl rfl rfl false z' f' rfl rfl rfl true rfl);obtain⟨hb0,hf0,hf1⟩:=zAd hx.isN;obtain⟨hb0',hf0',hf1'⟩:=zAd hy.isN;simp only[zA1,zA7,Option.getD_some]at hb0 hf0 hf1 hb0' hf0' hf1';have hl:=zBa (Nat.le_trans hb0 j0);have hl':=zBa (Nat.le_trans hb0' j0);have HA:=fun W b c b' c' h h'=>Lib.hid (zIS W false false b b' c c' z z' f f' h h' hl hl' j0 j0 j0 j0);have hx0:zA4 (up z f (min f f')).natAbs≤262144:=zCr j0 j0;have hy0:zA4 (up z' f' (min f f')).natAbs≤262144:=zCr j0 j0;have hE0: -65536≤min f f'∧min f f'≤65536:=j0
 generalize up z f (min f f')=x at HA hx0 ⊢;generalize up z' f' (min f f')=y at HA hy0 ⊢;generalize min f f'=E at HA hE0 ⊢;have hlx:=zBa (Nat.le_trans hx0 j0);have hly:=zBa (Nat.le_trans hy0 j0);have hv0:=Nat.le_trans (zQr x y) (show _≤262145 by omega);have HC:=fun W b c b' c' h h'=>Lib.hid (zSU W b b' c c' x y _ rfl h h' hlx hly);generalize x+y=v at HC hv0 ⊢;have HM:=fun W b c h ht=>Lib.hid (zMI W b c v E _ rfl h ht j0 j0 j0);generalize nrm v E=d at HM ⊢;have e1:¬w.heap.size+1=w.heap.size:=j0
 have e2:¬w.heap.size+1+1=w.heap.size:=j0
 have l2:w.heap.size<w.heap.size+1+1:=j0
 have k2:¬w.heap.size=w.heap.size+1+1:=j0
 have l3:w.heap.size<w.heap.size+1+1+1:=j0
 have k3:¬w.heap.size=w.heap.size+1+1+1:=j0
 clear hb0 hf0 hf1 hb0' hf0' hf1';go_enter Tryz.func116,Tryz.ntmps116;go_wp2_with fail;refine(HN _ (hx.below zbh) (hy.below zbh) (hT.below zbh)).out.mono ?_;rintro e w1 ⟨a1,c1,a2,c2,rfl,hm1,hm2,hb,hf1,hf2⟩;obtain⟨hc1,hz1⟩:=zA6 (hb.mono (show w.heap.size+3≤_ by simp));have hg1:w.heap.size+3≤w1.heap.size:=jK
 have hfr1:0<nl z.natAbs→w.heap.size+3≤ab a1:=fun h=>jB
 have hfr2:0<nl z'.natAbs→w.heap.size+3≤ab a2:=fun h=>by have:=hf2 h;simpa using this
 have hbw:=zA0 (w:=w) zbh hb;go_wp2_with fail;refine(HA _ a1 c1 a2 c2 jd jf).out.mono ?_;rintro e w2 ⟨a3,c3,a4,c4,rfl,hm3,hm4,hb2,hf3,hf4⟩;obtain⟨hc2,hz2⟩:=zA6 (hb2.mono (show w.heap.size+3≤_ by simpa using hg1));have hg2:w.heap.size+3≤w2.heap.size:=KS
 have hbw2:=zA0 (w:=w) (have:=Beh.mk hbw;zbh) hb2;clear hbw;have hbw:=hbw2;obtain⟨o01,o02,o03,o04,o05,o06,o07,o08,o09,o10,o11,o12,o13,o14,o15,o16,o17,o18,o19,o20,o21,o22,o23,o24,o25,o26⟩:=zTA hg2;have hm3':=hm3;go_wp2_with fail;refine(HC _ a3 c3 a4 c4 (Mag.below hm3 zbh) (Mag.below hm4 zbh)).out.mono ?_;rintro e w3 ⟨a5,c5,rfl,hm5,hb3,hf5⟩;obtain⟨hc3,hz3⟩:=zA6 (hb3.mono (show w2.heap.size≤_ by simp <;> omega));have hbw3:=zA0 (w:=w) (have:=Beh.mk hbw;zbh) hb3;have hg3:w.heap.size+3≤w3.heap.size:=by have:=hb3.size;simp at this;omega
 clear hbw;have hbw:=hbw3;go_wp2_with fail;refine(HM _ a5 c5 hm5 (hT.below hbw)).out.mono ?_;rintro e w4 ⟨a6,c6,rfl,hm6,hb4,hf6⟩;obtain⟨hc4,hz4⟩:=zA6 (hb4.mono (show w.heap.size+3≤_ from hg3));have hfr6:0<nl (zA1 d).natAbs→w.heap.size+3≤ab a6:=fun h=>Qs
 have hbw4:=zA0 (w:=w) hbw hb4;clear hbw;have hbw:=hbw4;go_wp2_with fail;refine bodyPost_ret (v:=.agg #[.bool (zAj d),.bool (decide (zA1 d<0)),.slice a6 (nl (zA1 d).natAbs) c6,.int .i64 (zA7 d)]) (by simp only[results,Tryz.results116];go_simp) rfl ?_;exact⟨a6,c6,rfl,jp,j7,fun h=>Kn⟩
theorem zRq(w:World)(bd s bd' s':Bool)(a a':Option Addr)(n n' cap cap':Nat)(e e':Int)(z f z' f':Int)(hx:DyIn w bd s a n cap e (some (z,f)))(hy:DyIn w bd' s' a' n' cap' e' (some (z',f')))(hT:Tab w):Calls Tryz.prog 117 #[.agg #[.bool bd,.bool s,.slice a n cap,.int .i64 e],.agg #[.bool bd',.bool s',.slice a' n' cap',.int .i64 e']] w (zAM w (nrm (z*z') (f+f'))):=by
 have HN:=fun W hx hy ht=>Lib.hid (@zOk W bd s bd' s' a a' n n' cap cap' e e' (some (z,f)) (some (z',f')) hx hy ht false z f rfl rfl rfl false z' f' rfl rfl rfl true rfl);obtain⟨hb0,hf0,hf1⟩:=zAd hx.isN;obtain⟨hb0',hf0',hf1'⟩:=zAd hy.isN;simp only[zA1,zA7,Option.getD_some]at hb0 hf0 hf1 hb0' hf0' hf1';have hl:=zBa (Nat.le_trans hb0 j0);have hl':=zBa (Nat.le_trans hb0' j0);have hv0:=Nat.le_trans (zSS z z') (show _≤262144 by omega);have HC:=fun W b c b' c' h h'=>Lib.hid (zSt W b b' c c' z z' _ rfl h h' hl hl');generalize z*z'=v at HC hv0 ⊢;obtain⟨E,hE⟩:∃E,E=f+f':=⟨_,rfl⟩;have hwr:IntKind.i64.wrap (f+f')=E:=jg
 have HM:=fun W b c h ht=>Lib.hid (zMI W b c v E _ rfl h ht j0 j0 j0);rw[←hE];clear hE;generalize nrm v E=d at HM ⊢;have e1:¬w.heap.size+1=w.heap.size:=j0
 have e2:¬w.heap.size+1+1=w.heap.size:=j0
 have l2:w.heap.size<w.heap.size+1+1:=j0
 have k2:¬w.heap.size=w.heap.size+1+1:=j0
 have l3:w.heap.size<w.heap.size+1+1+1:=j0
 have k3:¬w.heap.size=w.heap.size+1+1+1:=j0
 clear hb0 hf0 hf1 hb0' hf0' hf1';go_enter Tryz.func117,Tryz.ntmps117;go_wp2_with fail;refine(HN _ (hx.below zbh) (hy.below zbh) (hT.below zbh)).out.mono ?_;rintro e w1 ⟨a1,c1,a2,c2,rfl,hm1,hm2,hb,hf1,hf2⟩;obtain⟨hc1,hz1⟩:=zA6 (hb.mono (show w.heap.size+3≤_ by simp));have hg1:w.heap.size+3≤w1.heap.size:=jK
 have hfr1:0<nl z.natAbs→w.heap.size+3≤ab a1:=fun h=>jB
 have hfr2:0<nl z'.natAbs→w.heap.size+3≤ab a2:=fun h=>by have:=hf2 h;simpa using this
 have hbw:=zA0 (w:=w) zbh hb;go_wp2_with fail;obtain⟨q0,q1,q2,q3,q4,q5,q6,q7⟩:w1.cell? ⟨w.heap.size,0,none⟩=some (.bool bd)∧w1.cell? ⟨w.heap.size,1,none⟩=some (.bool s)∧w1.cell? ⟨w.heap.size,2,none⟩=some (.slice a n cap)∧w1.cell? ⟨w.heap.size,3,none⟩=some (.int .i64 e)
  ∧ w1.cell? ⟨w.heap.size+1,0,none⟩=some (.bool bd')∧w1.cell? ⟨w.heap.size+1,1,none⟩=some (.bool s')∧w1.cell? ⟨w.heap.size+1,2,none⟩=some (.slice a' n' cap')∧w1.cell? ⟨w.heap.size+1,3,none⟩=some (.int .i64 e'):=by
  refine⟨?_,?_,?_,?_,?_,?_,?_,?_⟩ <;> go_simp
 go_region_held3 (fun w'=>w'.cell? ⟨w.heap.size,1,none⟩=some (.bool (decide (z<0)))∧w'.cell? ⟨w.heap.size,2,none⟩=some (.slice a1 (nl z.natAbs) c1)∧w'.cell? ⟨w.heap.size,3,none⟩=some (.int .i64 f)
  ∧ w'.cell? ⟨w.heap.size+1,1,none⟩=some (.bool (decide (z'<0)))∧w'.cell? ⟨w.heap.size+1,2,none⟩=some (.slice a2 (nl z'.natAbs) c2)∧w'.cell? ⟨w.heap.size+1,3,none⟩=some (.int .i64 f')) (first | (go_keep;done) | (go_simp;done))
  (first
   | (go_at_call 155;refine(HC _ a1 c1 a2 c2 jd jf).out.mono ?_;rintro e w2 ⟨a3,c3,rfl,hm3,hb2,hf3⟩;obtain⟨hc2,hz2⟩:=zA6 (hb2.mono (show w.heap.size+3≤_ by simpa using hg1));have hg2:w.heap.size+3≤w2.heap.size:=KS;have hbw2:=zA0 (w:=w) j7 hb2)
   | (go_at_call 150;refine(HM _ a3 c3 (Mag.below hm3 Kb) (hT.below jF)).out.mono ?_;rintro e w4 ⟨a6,c6,rfl,hm6,hb4,hf6⟩;obtain⟨hc4,hz4⟩:=zA6 (hb4.mono (show w.heap.size+3≤_ by simpa using hg2));have hbw4:=zA0 (w:=w) jF hb4))
 have hfr6:0<nl (zA1 d).natAbs→w.heap.size+3≤ab a6:=fun h=>by have:=hf6 h;(try simp at this);omega
 clear hbw;have hbw:=hbw4;go_wp2_with fail;refine bodyPost_ret (v:=.agg #[.bool (zAj d),.bool (decide (zA1 d<0)),.slice a6 (nl (zA1 d).natAbs) c6,.int .i64 (zA7 d)]) (by simp only[results,Tryz.results117];go_simp) rfl ?_;exact⟨a6,c6,rfl,jp,j7,fun h=>Kn⟩
theorem zGG(w:World)(bd s bd' s':Bool)(a a':Option Addr)(n n' cap cap':Nat)(e e':Int)(d d':Option (Int×Int))(hx:DyIn w bd s a n cap e d)(hy:DyIn w bd' s' a' n' cap' e' d')(hT:Tab w):Calls Tryz.prog 116 #[.agg #[.bool bd,.bool s,.slice a n cap,.int .i64 e],.agg #[.bool bd',.bool s',.slice a' n' cap',.int .i64 e']] w (zAM w (zI2 d d')):=by
 rcases d with _ | ⟨z,f⟩
 · exact zK8 w bd s bd' s' a a' n n' cap cap' e e' _ _ hx hy hT rfl
 · rcases d' with _ | ⟨z',f'⟩
   · exact zK8 w bd s bd' s' a a' n n' cap cap' e e' _ _ hx hy hT rfl
   · exact zRu w bd s bd' s' a a' n n' cap cap' e e' z f z' f' hx hy hT
theorem zDa(w:World)(bd s bd' s':Bool)(a a':Option Addr)(n n' cap cap':Nat)(e e':Int)(d d':Option (Int×Int))(hx:DyIn w bd s a n cap e d)(hy:DyIn w bd' s' a' n' cap' e' d')(hT:Tab w):Calls Tryz.prog 117 #[.agg #[.bool bd,.bool s,.slice a n cap,.int .i64 e],.agg #[.bool bd',.bool s',.slice a' n' cap',.int .i64 e']] w (zAM w (zAO d d')):=by
 rcases d with _ | ⟨z,f⟩
 · exact zK5 w bd s bd' s' a a' n n' cap cap' e e' _ _ hx hy hT rfl
 · rcases d' with _ | ⟨z',f'⟩
   · exact zK5 w bd s bd' s' a a' n n' cap cap' e e' _ _ hx hy hT rfl
   · exact zRq w bd s bd' s' a a' n n' cap cap' e e' z f z' f' hx hy hT
theorem zDe(w:World)(a:Option Addr)(cap:Nat)(z:Int)(hm:Mag w a (nl z.natAbs) cap z.natAbs)(hl:nl z.natAbs≤1099511627776):Calls Tryz.prog 179 #[.agg #[.bool (decide (z<0)),.slice a (nl z.natAbs) cap]] w fun e w'=>e=.returned (.int .i64 (zA4 z.natAbs))∧Below w.heap.size w w':=
 zDf w (decide (z<0)) a _ cap _ hm hl
theorem zPx(w:World)(bd s bd' s':Bool)(a a':Option Addr)(n n' cap cap':Nat)(e e':Int)(d d':Option (Int×Int))(hx:DyIn w bd s a n cap e d)(hy:DyIn w bd' s' a' n' cap' e' d')(hT:Tab w):Calls Tryz.prog 122 #[.agg #[.bool bd,.bool s,.slice a n cap,.int .i64 e],.agg #[.bool bd',.bool s',.slice a' n' cap',.int .i64 e']] w (zAM w (zOf d d')):=by
 have HN:=fun W h ht=>Lib.hid (zK4 W bd' s' a' n' cap' e' d' h ht);have hny:IsN (zEt d'):=zIp hy.isN;unfold zOf;generalize zEt d'=g at HN hny ⊢;have HA:=fun W b c hx hm ht=>Lib.hid (zGG W bd s (zAj g) (decide (zA1 g<0)) a b n _ cap c e (zA7 g) d g hx (zAp hny hm) ht);generalize zI2 d g=v at HA ⊢;have e1:¬w.heap.size+1=w.heap.size:=j0
 have e2:¬w.heap.size+1+1=w.heap.size:=j0
 have l2:w.heap.size<w.heap.size+1+1:=j0
 go_enter Tryz.func122,Tryz.ntmps122;go_wp2_with fail
 go_region_held3 (fun w'=>w'.cell? ⟨w.heap.size,0,none⟩=some (.bool bd)∧w'.cell? ⟨w.heap.size,1,none⟩=some (.bool s)∧w'.cell? ⟨w.heap.size,2,none⟩=some (.slice a n cap)∧w'.cell? ⟨w.heap.size,3,none⟩=some (.int .i64 e)
  ∧ w'.cell? ⟨w.heap.size+1,0,none⟩=some (.bool bd')∧w'.cell? ⟨w.heap.size+1,1,none⟩=some (.bool s')∧w'.cell? ⟨w.heap.size+1,2,none⟩=some (.slice a' n' cap')∧w'.cell? ⟨w.heap.size+1,3,none⟩=some (.int .i64 e')) (first | (go_keep;done) | (go_simp;done))
  (first
   | (go_at_call 156;refine(HN _ (hy.below zbh) (hT.below zbh)).out.mono ?_;rintro e w1 ⟨a1,c1,rfl,hm1,hb1,hf1⟩;obtain⟨hc1,hz1⟩:=zA6 (hb1.mono (show w.heap.size+3≤_ by simp));have hg1:w.heap.size+3≤w1.heap.size:=(by have:=hb1.size;simpa using this);have hbw:=zA0 (w:=w) zbh hb1)
   | (go_at_call 116;refine(HA _ a1 c1 (hx.below (have:=Beh.mk hbw;zbh)) (Mag.below hm1 zbh) (hT.below (have:=Beh.mk hbw;zbh))).out.mono ?_;rintro e w2 ⟨a2,c2,rfl,hm2,hb2,hf2⟩;obtain⟨hc2,hz2⟩:=zA6 (hb2.mono (show w.heap.size+3≤_ by simpa using hg1))))
 have hfr2:0<nl (zA1 v).natAbs→w.heap.size+3≤ab a2:=fun h=>by have:=hf2 h;(try simp at this);omega
 have hbw2:=zA0 (w:=w) (have:=Beh.mk hbw;zbh) hb2;clear hbw;have hbw:=hbw2;go_wp2_with fail;refine bodyPost_ret (v:=.agg #[.bool (zAj v),.bool (decide (zA1 v<0)),.slice a2 (nl (zA1 v).natAbs) c2,.int .i64 (zA7 v)]) (by simp only[results,Tryz.results122];go_simp) rfl ?_;exact⟨a2,c2,rfl,jf,j7,fun h=>K4⟩
end Go.Proofs.YtmbkgapknoammaaGreatDoor
set_option maxRecDepth 100000
set_option maxHeartbeats 20000000
namespace Go.Proofs.YtmbkgapknoammaaGreatDoor
open Go.RowKit Sp
attribute [local irreducible] Calls
theorem zE4(w:World)(f:Nat)(hf:f<18446744073709551616)(hT:Tab w):Calls Tryz.prog 115 #[.int .u64 f] w (zAM w (fof f)):=by
 have HT:Tb w:=⟨hT⟩;have HP:=fun W=>Lib.hid (zE3 W f)
 by_cases h1:fE f=2047
 · rw[zNi KW];rw[h1]at HP;go_enter Tryz.func115,Tryz.ntmps115;go_wp2_with fail;refine(HP _).out.mono ?_;rintro o w1 ⟨rfl,rfl⟩;go_wp2_with fail;refine bodyPost_ret (v:=.agg #[.bool true,.bool false,.slice none 0 0,.int .i64 0]) (by simp only[results,Tryz.results115];go_simp) rfl ?_;exact⟨none,0,rfl,Mag.nil _,zbh,nl0⟩
 · have hd0:fof f=nrm (sgn (fS f) (if fE f=0 then fR f else fR f+4503599627370496)) (if fE f=0 then -1074 else(fE f:Int)-1075):=by
    rw[zCA KW];exact zJV f
   have HS:=fun W=>Lib.hid (zNd W f hf);have hR:=zHK f;have hE:=zHL f;obtain⟨m,e,hmb,he1,he2,hd,hc⟩:∃(m:Nat) (e:Int),m<9007199254740992∧ -1074≤e∧e≤1000∧fof f=nrm (sgn (fS f) m) e∧((((fE f:Nat):Int)==0)=true∧fR f=m∧e= -1074∨(((fE f:Nat):Int)==0)=false∧Go.bits .or .u64 ((fR f:Nat):Int) 4503599627370496=(m:Int)∧IntKind.i64.wrap (((fE f:Nat):Int)-1075)=e):=by
    by_cases h0:fE f=0
    · rw[if_pos h0,if_pos h0]at hd0;exact⟨fR f,-1074,j0,j0,j0,hd0,Or.inl ⟨by rw[h0];rfl,rfl,rfl⟩⟩
    · rw[if_neg h0,if_neg h0]at hd0;exact⟨_,_,j0,j0,j0,hd0,Or.inr ⟨ju,zFu hR,jg⟩⟩
   have hbl:zA4 m≤53:=zAC hmb;have HI:=fun W=>Lib.hid (frb (zFf W (m:Int) j0 j0));have HG:=fun W b c [i:BI W b (nl (m:Int).natAbs) c (m:Int).natAbs]=>Lib.hid (frb (zP1 W b c (m:Int) (-(m:Int)) rfl i.out (zBa (x:=(m:Int).natAbs) (by rw[Int.natAbs_natCast];omega))));have HM0:=Lib.hid fun(z:Int) (hz:sgn (fS f) m=z) W b c [i:BI W b (nl z.natAbs) c z.natAbs] [Tb W]=>Lib.hid (frF (zMI W b c z e (fof f) (by rw[hd,hz]) i.out tb (by rw[←hz,zAg];omega) j0 j0));have hw:IntKind.i64.wrap (m:Int)=m:=jg;have a1:(((fE f:Nat):Int)==2047)=false:=ju;generalize fof f=d at *;have hS0:=Lib.hid (show∀s,fS f=s→sgn (fS f) m=if s=true then -(m:Int)else(m:Int)from fun s hs=>by rw[hs];cases s <;> rfl);clear hd hd0 hR hE hmb hbl he1 he2 h1;rcases hc with⟨a2,a3,rfl⟩ | ⟨a2,a3,a4⟩
   all_goals(
    try rw[a3]at HP
    try generalize ((fR f:Nat):Int)=R at *
    generalize ((fE f:Nat):Int)=E at *
    cases hs:fS f with
    | true=>
     have HM:=fun W b c [BI W b (nl (-(m:Int)).natAbs) c (-(m:Int)).natAbs] [Tb W]=>HM0.out (-(m:Int)) (hS0.out _ hs) W b c;rw[hs]at HS;clear HM0 hS0 hs;generalize hmm:(m:Int)=mm at *;generalize -mm=y at *;go_enter Tryz.func115,Tryz.ntmps115;go_wp2_with fail;refine(HP _).out.mono ?_;rintro o w1 ⟨rfl,rfl⟩;go_wp2_with fail;refine(HI _).out.mono ?_;rintro o w1 ⟨a1,c1,rfl,j1,b1,f1⟩;go_wp2_with fail;refine(HS _).out.mono ?_;rintro o w2 ⟨rfl,rfl⟩;go_wp2_with fail;refine(HG _ _ _).out.mono ?_;rintro o w3 ⟨a3,c3,rfl,j3,b3,f3⟩;haveI g3:=FA.mk f3;haveI T4:Tb ((w3.setCell ⟨w1.heap.size,0,none⟩ (.bool (decide (y<0)))).setCell ⟨w1.heap.size,1,none⟩ (.slice a3 (nl y.natAbs) c3)):=⟨hT.below zbh⟩;go_wp2_with fail;refine(HM _ _ _).out.mono ?_;rintro o w4 ⟨a4,c4,rfl,j4,b4,f4⟩;have e1:=b1.out.size;have e3:=b3.out.size;have e4:=b4.out.size;simp at e1 e3;go_wp2_with fail;refine bodyPost_ret (v:=.agg #[.bool (zAj d),.bool (decide (zA1 d<0)),.slice a4 (nl (zA1 d).natAbs) c4,.int .i64 (zA7 d)]) (by simp only[results,Tryz.results115];go_simp) rfl ?_;exact⟨a4,c4,rfl,Mag.st4 j4.out (fun h=>KZ) _ _ _ _,zbh,fun h=>KZ⟩
    | false=>
     have HM:=fun W b c [BI W b (nl (m:Int).natAbs) c (m:Int).natAbs] [Tb W]=>HM0.out (m:Int) (hS0.out _ hs) W b c;rw[hs]at HS;clear HM0 hS0 hs HG;generalize hmm:(m:Int)=mm at *;go_enter Tryz.func115,Tryz.ntmps115;go_wp2_with fail;refine(HP _).out.mono ?_;rintro o w1 ⟨rfl,rfl⟩;go_wp2_with fail;refine(HI _).out.mono ?_;rintro o w1 ⟨a1,c1,rfl,j1,b1,f1⟩;go_wp2_with fail;refine(HS _).out.mono ?_;rintro o w2 ⟨rfl,rfl⟩;go_wp2_with fail;refine(HM _ _ _).out.mono ?_;rintro o w4 ⟨a4,c4,rfl,j4,b4,f4⟩;have e1:=b1.out.size;have e4:=b4.out.size;simp at e1;go_wp2_with fail;refine bodyPost_ret (v:=.agg #[.bool (zAj d),.bool (decide (zA1 d<0)),.slice a4 (nl (zA1 d).natAbs) c4,.int .i64 (zA7 d)]) (by simp only[results,Tryz.results115];go_simp) rfl ?_;exact⟨a4,c4,rfl,Mag.st4 j4.out (fun h=>KZ) _ _ _ _,zbh,fun h=>KZ⟩
   )
end Go.Proofs.YtmbkgapknoammaaGreatDoor

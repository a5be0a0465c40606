/-
  Walks: the reference's dyads: Neg, Abs, FromInt.
-/
import Derived.Test.YtmbkgapknoammaaGreatDoorZuGi
import Derived.Test.YtmbkgapknoammaaGreatDoorZuTj
import Derived.Test.YtmbkgapknoammaaGreatDoorZuGo
import Derived.Test.YtmbkgapknoammaaGreatDoorZuCm
import Derived.Deep.DeepCutAuto
set_option maxRecDepth 100000
set_option maxHeartbeats 20000000
namespace Go.Proofs.YtmbkgapknoammaaGreatDoor
open Go.RowKit Sp
theorem zSd(w:World)(a:Option Addr)(cap:Nat)(z y:Int)(hy:y= -z)(hm:Mag w a (nl z.natAbs) cap z.natAbs)(hl:nl z.natAbs≤549755813888):Calls Tryz.prog 98 #[.agg #[.bool (decide (z<0)),.slice a (nl z.natAbs) cap]] w (zAl w y):=by
 have h:=zJd w (decide (z<0)) a _ cap _ hm j0;rwa[zAk,←hy]at h
theorem zJj(w:World)(a:Option Addr)(cap:Nat)(z y:Int)(hy:y=(z.natAbs:Int))(hm:Mag w a (nl z.natAbs) cap z.natAbs)(hl:nl z.natAbs≤549755813888):Calls Tryz.prog 60 #[.agg #[.bool (decide (z<0)),.slice a (nl z.natAbs) cap]] w (zAl w y):=by
 have h:=zJk w (decide (z<0)) a _ cap _ hm j0;rwa[show sgn false z.natAbs=y by rw[hy];rfl]at h
theorem zSe(w:World)(a a':Option Addr)(cap cap':Nat)(x y v:Int)(hv:v=x*y)(hx:Mag w a (nl x.natAbs) cap x.natAbs)(hy:Mag w a' (nl y.natAbs) cap' y.natAbs)(hl:nl x.natAbs≤549755813888)(hl':nl y.natAbs≤549755813888):Calls Tryz.prog 56 #[.agg #[.bool (decide (x<0)),.slice a (nl x.natAbs) cap],.agg #[.bool (decide (y<0)),.slice a' (nl y.natAbs) cap']] w (zAl w v):=by
 have h:=zJf w (decide (x<0)) (decide (y<0)) a a' _ _ cap cap' _ _ hx hy hl hl';rwa[zAk,zAk,←hv]at h
theorem zQO(w:World)(a a':Option Addr)(cap cap':Nat)(x y v:Int)(hv:v=x+y)(hx:Mag w a (nl x.natAbs) cap x.natAbs)(hy:Mag w a' (nl y.natAbs) cap' y.natAbs)(hl:nl x.natAbs≤549755813888)(hl':nl y.natAbs≤549755813888):Calls Tryz.prog 55 #[.agg #[.bool (decide (x<0)),.slice a (nl x.natAbs) cap],.agg #[.bool (decide (y<0)),.slice a' (nl y.natAbs) cap']] w (zAl w v):=by
 have h:=zEx w (decide (x<0)) (decide (y<0)) a a' _ _ cap cap' _ _ hx hy hl hl';rwa[zAk,zAk,←hv]at h
theorem zEj(w:World)(a:Option Addr)(cap:Nat)(z g:Int)(hg:g=sg z)(hx:Mag w a (nl z.natAbs) cap z.natAbs)(hl:nl z.natAbs≤549755813888):Calls Tryz.prog 59 #[.agg #[.bool (decide (z<0)),.slice a (nl z.natAbs) cap]] w fun e w'=>e=.returned (.int .i64 g)∧Below w.heap.size w w':=by
 have h:=zCi w (decide (z<0)) a _ cap _ hx j0;rwa[zAk,←hg]at h
theorem zGf(w:World)(a:Option Addr)(cap:Nat)(z e:Int)(d:Option (Int×Int))(hd:d=nrm z e)(hm:Mag w a (nl z.natAbs) cap z.natAbs)(hT:Tab w)(hl:nl z.natAbs≤549755813888)(hB:zA4 z.natAbs≤1048576)(he0: -9223372036854775808≤e):Calls Tryz.prog 54 #[.agg #[.bool (decide (z<0)),.slice a (nl z.natAbs) cap],.int .i64 e] w (zAM w d):=by
 have h:=zCM w (decide (z<0)) a _ cap _ e hm hl hT hB he0;rwa[zAk,←hd]at h
theorem zAZ{x:Nat}(h:zA4 x≤1048576):nl x≤549755813888:=Nat.le_trans (zAh x) j0
theorem zOZ{d:Option (Int×Int)}(h:IsN d)(hb:zAj d=false):zEt d=nrm (-(zA1 d)) (zA7 d):=by
 cases d with
 | none=>exact absurd hb ja
 | some p=>obtain⟨m,e⟩:=p;exact(zEE (zGr (h m e rfl))).symm
theorem zP0{d:Option (Int×Int)}(h:IsN d)(hb:zAj d=false):zHQ d=nrm ((zA1 d).natAbs:Int) (zA7 d):=by
 cases d with
 | none=>exact absurd hb ja
 | some p=>obtain⟨m,e⟩:=p;exact(zEE (zMu (h m e rfl))).symm
theorem zBB{d:Option (Int×Int)}(hb:zAj d=true):d=none:=by cases d with | none=>rfl | some p=>cases hb
attribute [local irreducible] Calls
theorem zMc(w:World)(bd s:Bool)(a:Option Addr)(n cap:Nat)(e:Int)(d:Option (Int×Int))(hx:DyIs w bd s a n cap e d)(hT:Tab w):Calls Tryz.prog 61 #[.agg #[.bool bd,.bool s,.slice a n cap,.int .i64 e]] w (zAM w (zEt d)):=by
 have HT:Tb w:=⟨hT⟩;have HX:DS w bd s a n cap e d:=⟨hx⟩;have hN:=hx.1.isN;have HN:=fun W [i:DS W bd s a n cap e d] [Tb W]=>Lib.hid (frF (zAQ W i.out tb));have hB:=zAd hN;obtain⟨v,hv⟩:∃v,v= -(zA1 d):=⟨_,rfl⟩;have hvn:v.natAbs=(zA1 d).natAbs:=j0
 have hvB:zA4 v.natAbs=zA4 (zA1 d).natAbs:=by rw[hvn]
 have HG:=fun W a c [i:BI W a (nl (zA1 d).natAbs) c (zA1 d).natAbs]=>Lib.hid (frb (zSd W a c (zA1 d) v hv i.out (zAZ j0)));have hR:Hid (zAj d=true→zEt d=d):=Lib.hid fun hb=>by rw[zBB hb];rfl
 have hM:Hid (zAj d=false→∀W a c [BI W a (nl v.natAbs) c v.natAbs] [Tb W],Hid (Calls Tryz.prog 54 #[.agg #[.bool (decide (v<0)),.slice a (nl v.natAbs) c],.int .i64 (zA7 d)] W fun e w'=>∃a c,e=.returned (.agg #[.bool (zAj (zEt d)),.bool (decide (zA1 (zEt d)<0)),.slice a (nl (zA1 (zEt d)).natAbs) c,.int .i64 (zA7 (zEt d))])∧BI w' a (nl (zA1 (zEt d)).natAbs) c (zA1 (zEt d)).natAbs∧From W w'∧(0<nl (zA1 (zEt d)).natAbs→W.heap.size≤ab a))):=Lib.hid fun hb W a c i _=>Lib.hid (frF (zGf W a c v (zA7 d) _ (by rw[hv];exact zOZ hN hb) i.out tb (zAZ j0) j0 j0));generalize zEt d=y at *;clear hB hv hvn hx hN hvB;go_enter Tryz.func61,Tryz.ntmps61;go_wp2_with fail;refine(HN _).out.mono ?_;rintro o w1 ⟨a1,c1,rfl,j1,b1,f1⟩;haveI g1:=FA.mk f1
 cases hb:zAj d with
 | true=>
  obtain rfl:=hR.out hb;go_wp2_with fail;refine bodyPost_ret (v:=.agg #[.bool true,.bool (decide (zA1 y<0)),.slice a1 (nl (zA1 y).natAbs) c1,.int .i64 (zA7 y)]) (by simp only[results,Tryz.results61];go_simp) rfl ?_;rw[←hb];have f1':0<nl (zA1 y).natAbs→w.heap.size+2≤ab a1:=fun h=>Kp
  exact⟨a1,c1,rfl,Mag.st4 (Mag.st4 j1.out (fun h=>Xp) _ _ _ _) (fun h=>Xp) _ _ _ _,zbh,fun h=>Kp⟩
 | false=>
  have HM:=hM.out hb;go_wp2_with fail;have V:DB ((((w1.setCell ⟨w.heap.size,0,none⟩ (.bool false)).setCell ⟨w.heap.size,1,none⟩ (.bool (decide (zA1 d<0)))).setCell ⟨w.heap.size,2,none⟩ (.slice a1 (nl (zA1 d).natAbs) c1)).setCell ⟨w.heap.size,3,none⟩ (.int .i64 (zA7 d))) w.heap.size false (decide (zA1 d<0)) (.slice a1 (nl (zA1 d).natAbs) c1) (zA7 d):=inferInstance;have R:DB ((((w1.setCell ⟨w.heap.size,0,none⟩ (.bool false)).setCell ⟨w.heap.size,1,none⟩ (.bool (decide (zA1 d<0)))).setCell ⟨w.heap.size,2,none⟩ (.slice a1 (nl (zA1 d).natAbs) c1)).setCell ⟨w.heap.size,3,none⟩ (.int .i64 (zA7 d))) (w.heap.size+1) false false (.slice none 0 0) 0:=inferInstance;have J:BI ((((w1.setCell ⟨w.heap.size,0,none⟩ (.bool false)).setCell ⟨w.heap.size,1,none⟩ (.bool (decide (zA1 d<0)))).setCell ⟨w.heap.size,2,none⟩ (.slice a1 (nl (zA1 d).natAbs) c1)).setCell ⟨w.heap.size,3,none⟩ (.int .i64 (zA7 d))) a1 (nl (zA1 d).natAbs) c1 (zA1 d).natAbs:=inferInstance;have L:From w ((((w1.setCell ⟨w.heap.size,0,none⟩ (.bool false)).setCell ⟨w.heap.size,1,none⟩ (.bool (decide (zA1 d<0)))).setCell ⟨w.heap.size,2,none⟩ (.slice a1 (nl (zA1 d).natAbs) c1)).setCell ⟨w.heap.size,3,none⟩ (.int .i64 (zA7 d))):=⟨zbh⟩;have T1:Tb ((((w1.setCell ⟨w.heap.size,0,none⟩ (.bool false)).setCell ⟨w.heap.size,1,none⟩ (.bool (decide (zA1 d<0)))).setCell ⟨w.heap.size,2,none⟩ (.slice a1 (nl (zA1 d).natAbs) c1)).setCell ⟨w.heap.size,3,none⟩ (.int .i64 (zA7 d))):=inferInstance;have e1:w.heap.size+2≤((((w1.setCell ⟨w.heap.size,0,none⟩ (.bool false)).setCell ⟨w.heap.size,1,none⟩ (.bool (decide (zA1 d<0)))).setCell ⟨w.heap.size,2,none⟩ (.slice a1 (nl (zA1 d).natAbs) c1)).setCell ⟨w.heap.size,3,none⟩ (.int .i64 (zA7 d))).heap.size:=by have:=b1.out.size;simp at this ⊢;omega
  generalize (((w1.setCell ⟨w.heap.size,0,none⟩ (.bool false)).setCell ⟨w.heap.size,1,none⟩ (.bool (decide (zA1 d<0)))).setCell ⟨w.heap.size,2,none⟩ (.slice a1 (nl (zA1 d).natAbs) c1)).setCell ⟨w.heap.size,3,none⟩ (.int .i64 (zA7 d))=wv at V R J L T1 e1 ⊢;clear HN j1 b1 f1 g1;refine bgj (fun w'=>Below wv.heap.size wv w') [6] je (zbh) (fun hHeld=>?_);simp only[List.size_toArray,List.length_cons,List.length_nil,Nat.reduceAdd,Array.replicate_succ,Array.replicate_zero,List.push_toArray,List.nil_append,List.cons_append];refine tk 0 8 [1,2,5,6] ?_;refine tk 1 9 [2,5,6] ?_;refine tk 3 11 [4,5,6] ?_;refine tk 4 12 [5,6] ?_;refine stj 2 (h:=fun K hK=>?_);go_simp;refine(HG _ _ _).out.mono ?_;rintro o w3 ⟨a3,c3,rfl,j3,b3,f3⟩;go_simp;refine hK.out _ _ (Or.inr zbh) ?_;clear hK K
  try simp only[List.setIfInBounds_toArray,List.set_cons_zero,List.set_cons_succ]
  refine stj 5 (h:=fun K hK=>?_);go_simp;refine(HM _ _ _).out.mono ?_;rintro o w4 ⟨a4,c4,rfl,j4,b4,f4⟩;have e4:=b3.out.size;simp at e4;go_simp;refine hK.out _ _ (Or.inr zbh) ?_;clear hK K
  try simp only[List.setIfInBounds_toArray,List.set_cons_zero,List.set_cons_succ]
  refine stj 6 (h:=fun K hK=>?_);go_simp;refine hK.out _ _ (Or.inl ja) ?_;clear hK K
  try simp only[List.setIfInBounds_toArray,List.set_cons_zero,List.set_cons_succ]
  refine enj je ?_ _;go_wp2_with fail;refine bodyPost_ret (v:=.agg #[.bool (zAj y),.bool (decide (zA1 y<0)),.slice a4 (nl (zA1 y).natAbs) c4,.int .i64 (zA7 y)]) (by simp only[results,Tryz.results61];go_simp) rfl ?_;exact⟨a4,c4,rfl,Mag.st4 j4.out (fun h=>QO) _ _ _ _,zbh,fun h=>QO⟩
theorem zMf(w:World)(bd s:Bool)(a:Option Addr)(n cap:Nat)(e:Int)(d:Option (Int×Int))(hx:DyIs w bd s a n cap e d)(hT:Tab w):Calls Tryz.prog 27 #[.agg #[.bool bd,.bool s,.slice a n cap,.int .i64 e]] w (zAM w (zHQ d)):=by
 have HT:Tb w:=⟨hT⟩;have HX:DS w bd s a n cap e d:=⟨hx⟩;have hN:=hx.1.isN;have HN:=fun W [i:DS W bd s a n cap e d] [Tb W]=>Lib.hid (frF (zAQ W i.out tb));have hB:=zAd hN;obtain⟨v,hv⟩:∃v,v=((zA1 d).natAbs:Int):=⟨_,rfl⟩;have hvn:v.natAbs=(zA1 d).natAbs:=j0
 have hvB:zA4 v.natAbs=zA4 (zA1 d).natAbs:=by rw[hvn]
 have HG:=fun W a c [i:BI W a (nl (zA1 d).natAbs) c (zA1 d).natAbs]=>Lib.hid (frb (zJj W a c (zA1 d) v hv i.out (zAZ j0)));have hR:Hid (zAj d=true→zHQ d=d):=Lib.hid fun hb=>by rw[zBB hb];rfl
 have hM:Hid (zAj d=false→∀W a c [BI W a (nl v.natAbs) c v.natAbs] [Tb W],Hid (Calls Tryz.prog 54 #[.agg #[.bool (decide (v<0)),.slice a (nl v.natAbs) c],.int .i64 (zA7 d)] W fun e w'=>∃a c,e=.returned (.agg #[.bool (zAj (zHQ d)),.bool (decide (zA1 (zHQ d)<0)),.slice a (nl (zA1 (zHQ d)).natAbs) c,.int .i64 (zA7 (zHQ d))])∧BI w' a (nl (zA1 (zHQ d)).natAbs) c (zA1 (zHQ d)).natAbs∧From W w'∧(0<nl (zA1 (zHQ d)).natAbs→W.heap.size≤ab a))):=Lib.hid fun hb W a c i _=>Lib.hid (frF (zGf W a c v (zA7 d) _ (by rw[hv];exact zP0 hN hb) i.out tb (zAZ j0) j0 j0));generalize zHQ d=y at *;clear hB hv hvn hx hN hvB;go_enter Tryz.func27,Tryz.ntmps27;go_wp2_with fail;refine(HN _).out.mono ?_;rintro o w1 ⟨a1,c1,rfl,j1,b1,f1⟩;haveI g1:=FA.mk f1
 cases hb:zAj d with
 | true=>
  obtain rfl:=hR.out hb;go_wp2_with fail;refine bodyPost_ret (v:=.agg #[.bool true,.bool (decide (zA1 y<0)),.slice a1 (nl (zA1 y).natAbs) c1,.int .i64 (zA7 y)]) (by simp only[results,Tryz.results27];go_simp) rfl ?_;rw[←hb];have f1':0<nl (zA1 y).natAbs→w.heap.size+2≤ab a1:=fun h=>Kp
  exact⟨a1,c1,rfl,Mag.st4 (Mag.st4 j1.out (fun h=>Xp) _ _ _ _) (fun h=>Xp) _ _ _ _,zbh,fun h=>Kp⟩
 | false=>
  have HM:=hM.out hb;go_wp2_with fail;have V:DB ((((w1.setCell ⟨w.heap.size,0,none⟩ (.bool false)).setCell ⟨w.heap.size,1,none⟩ (.bool (decide (zA1 d<0)))).setCell ⟨w.heap.size,2,none⟩ (.slice a1 (nl (zA1 d).natAbs) c1)).setCell ⟨w.heap.size,3,none⟩ (.int .i64 (zA7 d))) w.heap.size false (decide (zA1 d<0)) (.slice a1 (nl (zA1 d).natAbs) c1) (zA7 d):=inferInstance;have R:DB ((((w1.setCell ⟨w.heap.size,0,none⟩ (.bool false)).setCell ⟨w.heap.size,1,none⟩ (.bool (decide (zA1 d<0)))).setCell ⟨w.heap.size,2,none⟩ (.slice a1 (nl (zA1 d).natAbs) c1)).setCell ⟨w.heap.size,3,none⟩ (.int .i64 (zA7 d))) (w.heap.size+1) false false (.slice none 0 0) 0:=inferInstance;have J:BI ((((w1.setCell ⟨w.heap.size,0,none⟩ (.bool false)).setCell ⟨w.heap.size,1,none⟩ (.bool (decide (zA1 d<0)))).setCell ⟨w.heap.size,2,none⟩ (.slice a1 (nl (zA1 d).natAbs) c1)).setCell ⟨w.heap.size,3,none⟩ (.int .i64 (zA7 d))) a1 (nl (zA1 d).natAbs) c1 (zA1 d).natAbs:=inferInstance;have L:From w ((((w1.setCell ⟨w.heap.size,0,none⟩ (.bool false)).setCell ⟨w.heap.size,1,none⟩ (.bool (decide (zA1 d<0)))).setCell ⟨w.heap.size,2,none⟩ (.slice a1 (nl (zA1 d).natAbs) c1)).setCell ⟨w.heap.size,3,none⟩ (.int .i64 (zA7 d))):=⟨zbh⟩;have T1:Tb ((((w1.setCell ⟨w.heap.size,0,none⟩ (.bool false)).setCell ⟨w.heap.size,1,none⟩ (.bool (decide (zA1 d<0)))).setCell ⟨w.heap.size,2,none⟩ (.slice a1 (nl (zA1 d).natAbs) c1)).setCell ⟨w.heap.size,3,none⟩ (.int .i64 (zA7 d))):=inferInstance;have e1:w.heap.size+2≤((((w1.setCell ⟨w.heap.size,0,none⟩ (.bool false)).setCell ⟨w.heap.size,1,none⟩ (.bool (decide (zA1 d<0)))).setCell ⟨w.heap.size,2,none⟩ (.slice a1 (nl (zA1 d).natAbs) c1)).setCell ⟨w.heap.size,3,none⟩ (.int .i64 (zA7 d))).heap.size:=by have:=b1.out.size;simp at this ⊢;omega
  generalize (((w1.setCell ⟨w.heap.size,0,none⟩ (.bool false)).setCell ⟨w.heap.size,1,none⟩ (.bool (decide (zA1 d<0)))).setCell ⟨w.heap.size,2,none⟩ (.slice a1 (nl (zA1 d).natAbs) c1)).setCell ⟨w.heap.size,3,none⟩ (.int .i64 (zA7 d))=wv at V R J L T1 e1 ⊢;clear HN j1 b1 f1 g1;refine bgj (fun w'=>Below wv.heap.size wv w') [6] je (zbh) (fun hHeld=>?_);simp only[List.size_toArray,List.length_cons,List.length_nil,Nat.reduceAdd,Array.replicate_succ,Array.replicate_zero,List.push_toArray,List.nil_append,List.cons_append];refine tk 0 8 [1,2,5,6] ?_;refine tk 1 9 [2,5,6] ?_;refine tk 3 11 [4,5,6] ?_;refine tk 4 12 [5,6] ?_;refine stj 2 (h:=fun K hK=>?_);go_simp;refine(HG _ _ _).out.mono ?_;rintro o w3 ⟨a3,c3,rfl,j3,b3,f3⟩;go_simp;refine hK.out _ _ (Or.inr zbh) ?_;clear hK K
  try simp only[List.setIfInBounds_toArray,List.set_cons_zero,List.set_cons_succ]
  refine stj 5 (h:=fun K hK=>?_);go_simp;refine(HM _ _ _).out.mono ?_;rintro o w4 ⟨a4,c4,rfl,j4,b4,f4⟩;have e4:=b3.out.size;simp at e4;go_simp;refine hK.out _ _ (Or.inr zbh) ?_;clear hK K
  try simp only[List.setIfInBounds_toArray,List.set_cons_zero,List.set_cons_succ]
  refine stj 6 (h:=fun K hK=>?_);go_simp;refine hK.out _ _ (Or.inl ja) ?_;clear hK K
  try simp only[List.setIfInBounds_toArray,List.set_cons_zero,List.set_cons_succ]
  refine enj je ?_ _;go_wp2_with fail;refine bodyPost_ret (v:=.agg #[.bool (zAj y),.bool (decide (zA1 y<0)),.slice a4 (nl (zA1 y).natAbs) c4,.int .i64 (zA7 y)]) (by simp only[results,Tryz.results27];go_simp) rfl ?_;exact⟨a4,c4,rfl,Mag.st4 j4.out (fun h=>QO) _ _ _ _,zbh,fun h=>QO⟩
theorem zDx(w:World)(n:Int)(hT:Tab w)(h0: -9223372036854775808≤n)(h1:n≤9223372036854775807):Calls Tryz.prog 77 #[.int .i64 n] w (zAM w (nrm n 0)):=by
 have HT:Tb w:=⟨hT⟩;have hb:zA4 n.natAbs≤64:=zAC j0;have HI:=fun W=>Lib.hid (frb (zCN W n h0 h1));have HM:=fun W b c [i:BI W b (nl n.natAbs) c n.natAbs] [Tb W]=>Lib.hid (frF (zGf W b c n 0 _ rfl i.out tb (zAZ j0) j0 j0));generalize nrm n 0=y at *;clear hb h0 h1;go_enter Tryz.func77,Tryz.ntmps77;go_wp2_with fail;refine(HI _).out.mono ?_;rintro o w1 ⟨a1,c1,rfl,j1,b1,f1⟩;go_wp2_with fail;refine(HM _ _ _).out.mono ?_;rintro o w2 ⟨a2,c2,rfl,j2,b2,f2⟩;have e1:=b1.out.size;simp at e1;go_wp2_with fail;refine bodyPost_ret (v:=.agg #[.bool (zAj y),.bool (decide (zA1 y<0)),.slice a2 (nl (zA1 y).natAbs) c2,.int .i64 (zA7 y)]) (by simp only[results,Tryz.results77];go_simp) rfl ?_;exact⟨a2,c2,rfl,Mag.st4 j2.out (fun h=>by have:=f2 h;omega) _ _ _ _,zbh,fun h=>by have:=f2 h;omega⟩
end Go.Proofs.YtmbkgapknoammaaGreatDoor
set_option maxRecDepth 100000
set_option maxHeartbeats 20000000
namespace Go.Proofs.YtmbkgapknoammaaGreatDoor
open Go.RowKit Sp
theorem zMv{x:Nat}(h0:x≠0)(ht:tz x=0):x%2=1:=by
 have:=zMw (Nat.pos_of_ne_zero h0);rw[ht,Nat.pow_zero,Nat.div_one]at this;exact this
theorem zOO(x:Nat)(more:Bool):rcm x more 0= -1:=by
 unfold rcm;rw[show x%2^0=0 by omega,show((2^(0-1):Nat):Int)=1 by rfl];rfl
theorem zQN(x:Nat)(more:Bool)(m:Nat):rcm x more (m+1)=if(x/2^m)%2=0 then -1 else if more||decide (x%2^m≠0)then 1 else 0:=by
 unfold rcm;rw[show m+1-1=m by omega];have hp:0<2^m:=Nat.pow_pos ja;have h1:x%2^(m+1)=x%2^m+2^m*((x/2^m)%2):=by rw[Nat.pow_succ,Nat.mod_mul]
 rw[h1];have h2:=Nat.mod_lt x hp;generalize x%2^m=r at h2 ⊢;generalize 2^m=P at hp h2 ⊢;rcases Nat.mod_two_eq_zero_or_one (x/P)with h | h
 · rw[h,Nat.mul_zero,Nat.add_zero];have:zAq (r:Int) (P:Int)= -1:=(by unfold zAq;rw[if_pos j0]);rw[this];simp
 · rw[h,Nat.mul_one]
   by_cases hr:r=0
   · have:zAq ((r+P:Nat):Int) (P:Int)=0:=(by unfold zAq;rw[if_neg j0,if_neg j0]);rw[this]
     cases more <;> simp[hr]
   · have:zAq ((r+P:Nat):Int) (P:Int)=1:=(by unfold zAq;rw[if_neg j0,if_pos j0]);rw[this];simp[hr]
def upB(neg:Bool)(half:Int)(odd:Bool)(mode:Int):Bool:=if mode=1 then neg else if mode=2 then !neg else if mode=3 then false else decide (0<half)||(decide (half=0)&&odd)
theorem zSg(s:Bool)(n:Nat)(c:Int)(mode:Int):raw s n c false mode=upB s c (decide (n%2=1)) mode:=rfl
theorem zQK(w:World)(neg odd:Bool)(half mode:Int):Calls Tryz.prog 164 #[.bool neg,.int .i64 half,.bool odd,.int .i64 mode] w fun e w'=>e=.returned (.bool (upB neg half odd mode))∧Below w.heap.size w w':=by
 by_cases h1:mode=1
 · subst h1;rw[show upB neg half odd 1=neg from rfl];go_enter Tryz.func164,Tryz.ntmps164;go_wp2_with fail;go_ret;exact⟨rfl,Below.refl _ _⟩
 · by_cases h2:mode=2
   · subst h2;rw[show upB neg half odd 2=!neg from rfl];go_enter Tryz.func164,Tryz.ntmps164;go_wp2_with fail;go_ret;exact⟨rfl,Below.refl _ _⟩
   · by_cases h3:mode=3
     · subst h3;rw[show upB neg half odd 3=false from rfl];go_enter Tryz.func164,Tryz.ntmps164;go_wp2_with fail;go_ret;exact⟨rfl,Below.refl _ _⟩
     · have k1:(mode==1)=false:=(by simpa using h1);have k2:(mode==2)=false:=(by simpa using h2);have k3:(mode==3)=false:=(by simpa using h3);rw[show upB neg half odd mode=(decide (0<half)||(decide (half=0)&&odd))by unfold upB;rw[if_neg h1,if_neg h2,if_neg h3]];clear h1 h2 h3;rcases Int.lt_trichotomy half 0 with h | h | h
       · have e1:decide (0<half)=false:=jq;have e2:(half==0)=false:=ju;have e3:decide (half=0)=false:=jq;rw[e1,e3];clear h;go_enter Tryz.func164,Tryz.ntmps164;go_wp2_with fail;go_ret;exact⟨rfl,Below.refl _ _⟩
       · subst h;rw[show(decide ((0:Int)<0)||(decide ((0:Int)=0)&&odd))=odd by simp];go_enter Tryz.func164,Tryz.ntmps164;go_wp2_with fail;go_ret;exact⟨rfl,Below.refl _ _⟩
       · have e1:decide (0<half)=true:=KT;rw[e1,Bool.true_or];clear h;go_enter Tryz.func164,Tryz.ntmps164;go_wp2_with fail;go_ret;exact⟨rfl,Below.refl _ _⟩
def zRX(s:Bool)(x n:Nat)(more:Bool)(mode:Int):Nat:=x/2^n+if raw s (x/2^n) (rcm x more n) (rex x more n) mode then 1 else 0
attribute [local irreducible] Calls
theorem zQc(q:Nat):decide (q%2=1)=(decide (q≠0)&&decide (tz q=0)):=by
 by_cases h:q=0
 · subst h;rfl
 · by_cases t:tz q=0
   · rw[decide_eq_true (zMv h t),decide_eq_true h,decide_eq_true t];rfl
   · rw[decide_eq_false t,Bool.and_false,decide_eq_false];intro k;exact t (zLx k)
theorem zF5{L:World}{b:Nat}{s:Bool}{sl:Value}[h:BB L b s sl]{n:Nat}{a:Option Addr}(f:0<n→L.heap.size≤ab a):0<n→ab a≠b:=
 fun k e=>by have:=f k;have:=h.out.lt;omega
theorem zL3(W:World)(b:Nat){L:World}[f:From L W]{s:Bool}{sl:Value}[h:BB L b s sl]:¬W.heap.size=b∧¬b=W.heap.size:=by
 have:=f.out.size;have:=h.out.lt;omega
theorem zLO(z:Int):(sg z != 0)=decide (z.natAbs≠0):=by
 rw[Bool.eq_iff_iff,bne_iff_ne,decide_eq_true_eq];rcases zBx z with⟨s,q⟩ | ⟨s,q⟩ | ⟨s,q⟩ <;> rw[s] <;> omega
theorem zON(w:World)(hT:Tab w)(neg more:Bool)(a:Option Addr)(cap x n:Nat)(mode:Int)(hx:Mag w a (nl x) cap x)(hl:nl x≤549755813888)(hn:n≤1048576)(v:Int)(hv:v=((zRX neg x n more mode:Nat):Int)):Calls Tryz.prog 124 #[.bool neg,.agg #[.bool false,.slice a (nl x) cap],.int .i64 n,.bool more,.int .i64 mode] w (zAl w v):=by
 have HT:Tb w:=⟨hT⟩;have HM:BI w a (nl x) cap x:=⟨hx⟩;have hd:∀k:Nat,nl (((x/2^k:Nat):Int)).natAbs≤549755813888:=fun k=>Nat.le_trans (zAN (Nat.div_le_self _ _)) hl;have HD:=fun W [i:BI W a (nl x) cap x]=>Lib.hid (frb (zEU W a (nl x) cap x n i.out hl hn));have HL:=fun W [i:BI W a (nl x) cap x]=>Lib.hid (frm (zHg W false a (nl x) cap x n i.out hl hn));obtain⟨Q,hQ⟩:∃Q:Int,Q=((x/2^n:Nat):Int):=⟨_,rfl⟩;have lQ:=hd n;have hQa:Q.natAbs=x/2^n:=by rw[hQ];exact Int.natAbs_natCast _
 rw[←hQ]at HD lQ;obtain⟨lb,hlb⟩:∃lb,lb=decide (x%2^n≠0):=⟨_,rfl⟩;rw[←hlb]at HL
 by_cases hex:(lb||more)=false
 · have e1:lb=false:=(by revert hex;cases lb <;> simp);have e2:more=false:=(by revert hex;cases more <;> simp);have hvQ:v=Q:=by
    rw[hv,hQ];unfold zRX rex raw;rw[e2,show decide (x%2^n=0)=true by rw[e1]at hlb;simpa using hlb.symm];simp
   subst hvQ e1 e2;clear hv hQ hlb hex hQa lQ hd;go_enter Tryz.func124,Tryz.ntmps124;go_wp2_with fail;refine(HD _).out.mono ?_;rintro e w1 ⟨a1,c1,rfl,i1,b1,f1⟩;go_wp2_with fail;refine(HL _).out.mono ?_;rintro e w2 ⟨rfl,b2⟩;go_wp2_with fail;refine bodyPost_ret (v:=.agg #[.bool (decide (v<0)),.slice a1 (nl v.natAbs) c1]) (by simp only[results,Tryz.results124];go_simp) rfl ?_;exact⟨a1,c1,rfl,QU,zbh,zC6 b1 f1⟩
 · have hup:∃H:Int,H=rcm x more n:=⟨_,rfl⟩;obtain⟨H,hH⟩:=hup;have hv2:v=Q+if upB neg H (decide (Q.natAbs≠0)&&decide (tz Q.natAbs=0)) mode then 1 else 0:=by
    rw[hv,hQ,Int.natAbs_natCast,←zQc,←zSg,hH];unfold zRX rex;rw[show(decide (x%2^n=0)&&!more)=false by
     revert hex;rw[hlb];by_cases h0:x%2^n=0 <;> cases more <;> simp[h0]]
    split <;> simp
   have HG:=fun W b c [i:BI W b (nl Q.natAbs) c Q.natAbs]=>Lib.hid (frm (zEj W b c Q _ rfl i.out lQ));have HZ:=fun W b c [i:BI W b (nl Q.natAbs) c Q.natAbs] [Tb W]=>Lib.hid (frm (zCu W tb (decide (Q<0)) b (nl Q.natAbs) c Q.natAbs i.out j0));have HA:=fun W b c b' c' [i:BI W b (nl Q.natAbs) c Q.natAbs] [j:BI W b' (nl (1:Int).natAbs) c' (1:Int).natAbs]=>Lib.hid (frb (zQO W b b' c c' Q 1 _ rfl i.out j.out lQ ja));obtain⟨g,hg⟩:∃g,g=(sg Q:Int):=⟨_,rfl⟩;obtain⟨tq,htq⟩:∃t:Int,t=(tz Q.natAbs:Int):=⟨_,rfl⟩;have hgz:(g != 0)=decide (Q.natAbs≠0):=(by rw[hg];exact zLO Q);have htz:(tq==0)=decide (tz Q.natAbs=0):=(by rw[htq,Bool.eq_iff_iff];simp);rw[←hg]at HG;rw[←htq]at HZ;rw[←hgz,←htz]at hv2;replace hv2:=Lib.hid hv2;obtain⟨o,ho⟩:∃o:Int,o=1:=⟨_,rfl⟩;rw[←ho]at HA;have HO:=fun W=>Lib.hid (show Calls Tryz.prog 114 #[.int .i64 1] W fun e w'=>∃a c,e=.returned (.agg #[.bool (decide (o<0)),.slice a (nl o.natAbs) c])∧BI w' a (nl o.natAbs) c o.natAbs∧From W w'∧(0<nl o.natAbs→W.heap.size≤ab a)from by
    rw[ho];exact frb (zCN W 1 j0 j0))
   obtain⟨mr,hmr⟩:∃mr,mr=more:=⟨_,rfl⟩;have HHv0:n=0∧H= -1∨∃m,n=m+1∧H=if(x/2^m)%2=0 then -1 else if mr||decide (x%2^m≠0)then 1 else 0:=by
    rw[hmr];rcases Nat.eq_zero_or_pos n with h | h
    · left;refine⟨h,?_⟩;rw[hH,h,zOO]
    · right;exact⟨n-1,j0,by rw[hH];rw[show n=n-1+1 by omega];exact zQN _ _ _⟩
   have HHv:=Lib.hid HHv0;have ho2:=Lib.hid ho;clear hv hQ hlb hQa hgz htz hg htq ho hH HHv0;generalize hQn:nl Q.natAbs=nq at *;go_enter Tryz.func124,Tryz.ntmps124;go_wp2_with fail;refine(HD _).out.mono ?_;rintro e w1 ⟨a1,c1,rfl,i1,b1,f1⟩;go_wp2_with fail;refine(HL _).out.mono ?_;rintro e w2 ⟨rfl,b2⟩
   go_upto_region 3 with fail
   go_cut [27] (fun t wx=>t=.bool false∧From w2 wx)
   case first=>
    cases lb
    · cases more
      · exact absurd rfl hex
      · go_wp2_with fail
        go_meet
        exact⟨rfl,⟨zbh⟩⟩
    · go_wp2_with fail
      go_meet
      exact⟨rfl,⟨zbh⟩⟩
   case rest=>
   obtain⟨rfl,b3⟩:=hcut;generalize wc=v1 at *;clear hex HL
   go_upto_if 30 with fail
   go_cut [13] (fun h wx=>h=.int .i64 H∧From v1 wx)
   case first=>
    rcases HHv.out with⟨h0,hH⟩ | ⟨m,h0,hH⟩
    · subst h0 hH;go_wp2_with fail
      go_meet
      exact⟨rfl,⟨zbh⟩⟩
    · subst h0;have HE:=fun W [i:BI W a (nl x) cap x]=>Lib.hid (frb (zEU W a (nl x) cap x m i.out hl j0));have HK:=fun W [i:BI W a (nl x) cap x]=>Lib.hid (frm (zHg W false a (nl x) cap x m i.out hl j0));have lD:=hd m;obtain⟨D,hD⟩:∃D:Int,D=((x/2^m:Nat):Int):=⟨_,rfl⟩;rw[←hD]at HE lD;have HY:=fun W b c [i:BI W b (nl D.natAbs) c D.natAbs] [Tb W]=>Lib.hid (frm (zCu W tb (decide (D<0)) b (nl D.natAbs) c D.natAbs i.out j0));have HF:=fun W b c [i:BI W b (nl D.natAbs) c D.natAbs]=>Lib.hid (frm (zEj W b c D _ rfl i.out lD));obtain⟨tD,htD⟩:∃t:Int,t=(tz D.natAbs:Int):=⟨_,rfl⟩;obtain⟨gD,hgD⟩:∃g,g=(sg D:Int):=⟨_,rfl⟩;obtain⟨lk,hlk⟩:∃l,l=decide (x%2^m≠0):=⟨_,rfl⟩;have ho:decide ((x/2^m)%2=1)=((gD != 0)&&(tD==0)):=by
       rw[zQc,hgD,htD,zLO,hD,Int.natAbs_natCast];congr 1;rw[Bool.eq_iff_iff];simp
      rw[←htD]at HY;rw[←hgD]at HF;rw[←hlk]at HK hH;have hm1:((m+1:Nat):Int)-1=m:=j0;have hm2:IntKind.i64.wrap (((m+1:Nat):Int)-1)=m:=jg;have hm0:(0:Int)<((m+1:Nat):Int):=j0;have hH2:H=if decide ((x/2^m)%2=1)then(if mr||lk then 1 else 0)else -1:=by
       rw[hH];rcases Nat.mod_two_eq_zero_or_one (x/2^m)with q | q <;> simp[q]
      rw[ho,hmr]at hH2;clear ho hH hlk htD hgD hD hd hmr HHv hv2 HA HO HD HG HZ;generalize ((m+1:Nat):Int)=n1 at *;generalize D.natAbs=nD at *;generalize nl nD=nnD at *;have hw:∀_:Unit,(¬tD=0∧(tD==0)=false∧H= -1)∨(tD=0∧gD=0∧H= -1)∨(tD=0∧(gD != 0)=true∧more=true∧H=1)∨(tD=0∧(gD != 0)=true∧more=false∧lk=true∧H=1)∨(tD=0∧(gD != 0)=true∧more=false∧lk=false∧H=0):=fun _=>by
       by_cases q1:tD=0
       · by_cases q2:gD=0
         · right;left;exact⟨q1,q2,by rw[hH2];simp[q2]⟩
         · have q3:(gD != 0)=true:=by simpa using q2
           right;right
           rw[q3,q1]at hH2
           cases more
           · right;cases lk
             · right;exact⟨q1,q3,rfl,rfl,hH2⟩
             · left;exact⟨q1,q3,rfl,rfl,hH2⟩
           · left;exact⟨q1,q3,rfl,by rw[hH2];simp⟩
       · left
         have q2:(tD==0)=false:=(by simpa using q1);exact⟨q1,q2,by rw[hH2];simp[q2]⟩
      clear hH2;rcases hw ()with⟨q1,q2,rfl⟩ | ⟨rfl,rfl,rfl⟩ | ⟨rfl,q2,rfl,rfl⟩ | ⟨rfl,q2,rfl,rfl,rfl⟩ | ⟨rfl,q2,rfl,rfl,rfl⟩
      all_goals(
       clear hw;go_wp2_with fail;refine(HE _).out.mono ?_;rintro e w3 ⟨a3,c3,rfl,i3,b3,f3⟩;go_wp2_with fail;refine(HY _ _ _).out.mono ?_;rintro e w4 ⟨rfl,b4⟩;go_wp2_with fail;(try(refine(HF _ _ _).out.mono ?_;rintro e w5 ⟨rfl,b5⟩;go_wp2_with fail));(try(refine(HK _).out.mono ?_;rintro e w6 ⟨rfl,b6⟩;go_wp2_with fail))
       go_meet
       exact⟨rfl,⟨zbh⟩⟩)
   case rest=>
   obtain⟨rfl,b4⟩:=hcut;generalize wc=v2 at *;clear HD HHv hmr hd;have hod:∀_:Unit,(g=0∧(g != 0&&tq==0)=false)∨((g != 0)=true∧tq=0∧(g != 0&&tq==0)=true)∨((g != 0)=true∧¬tq=0∧(tq==0)=false∧(g != 0&&tq==0)=false):=fun _=>by
    by_cases q2:g=0
    · left;exact⟨q2,by rw[q2];rfl⟩
    · right
      have q3:(g != 0)=true:=by simpa using q2
      by_cases q1:tq=0
      · left;exact⟨q3,q1,by rw[q3,q1];rfl⟩
      · right
        have q4:(tq==0)=false:=(by simpa using q1);exact⟨q3,q1,q4,by rw[q4,Bool.and_false]⟩
   obtain⟨od,hodd⟩:∃od,od=(g != 0&&tq==0):=⟨_,rfl⟩;have hv4:=hv2.out;rw[←hodd]at hv4 hod;have HU:=fun W=>Lib.hid (frm (zQK W neg od H mode));clear hv2 hodd
   go_upto_region 12 with fail
   go_cut [15] (fun t wx=>t=.bool od∧From v2 wx)
   case first=>
    clear hv4 HA HU HO;rcases hod ()with⟨rfl,rfl⟩ | ⟨q1,rfl,rfl⟩ | ⟨q1,q2,q3,rfl⟩
    all_goals(
     clear hod;go_wp2_with fail;refine(HG _ _ _).out.mono ?_;rintro e w4 ⟨rfl,b4⟩;go_wp2_with fail;(try(refine(HZ _ _ _).out.mono ?_;rintro e w5 ⟨rfl,b5⟩;go_wp2_with fail))
     go_meet
     exact⟨rfl,⟨zbh⟩⟩)
   case rest=>
   obtain⟨rfl,b5⟩:=hcut;clear hod HG HZ
   cases q5:upB neg H od mode
   · rw[q5]at HU hv4;have hB:v=Q:=(by rw[hv4,if_neg ja,Int.add_zero]);clear hv4;subst hB;go_wp2_with fail;refine(HU _).out.mono ?_;rintro e w6 ⟨rfl,b6⟩;go_wp2_with fail;refine bodyPost_ret (v:=.agg #[.bool (decide (v<0)),.slice a1 nq c1]) (by simp only[results,Tryz.results124];go_simp) rfl ?_;exact⟨a1,c1,by rw[hQn],by rw[hQn];exact QU,zbh,by rw[hQn];exact zC6 b1 f1⟩
   · rw[q5]at HU hv4;have hA:Q+o=v:=(by rw[hv4,ho2.out,if_pos rfl]);rw[hA]at HA;clear hA hv4;go_wp2_with fail;refine(HU _).out.mono ?_;rintro e w6 ⟨rfl,b6⟩;go_wp2_with fail;obtain⟨n1,n2⟩:=zL3 w1 (w.heap.size+1)
     first
     | go_region_with (first
      | (go_at_call 114;refine(HO _).out.mono ?_;rintro e w7 ⟨a7,c7,rfl,i7,b7,f7⟩)
      | (go_at_call 55;refine(HA _ _ _ _ _).out.mono ?_;rintro e w8 ⟨a8,c8,rfl,i8,b8,f8⟩)
      | fail)
     | fail "region"
     all_goals(
      go_wp2_with fail;refine bodyPost_ret (v:=.agg #[.bool (decide (v<0)),.slice a8 (nl v.natAbs) c8]) (by simp only[results,Tryz.results124];go_simp) rfl ?_;exact⟨a8,c8,rfl,(by repeat(first | exact i8.out | refine Mag.set ?_ (zF5 f8) _ _)),zbh,zC6 b8 f8⟩)
end Go.Proofs.YtmbkgapknoammaaGreatDoor
set_option maxRecDepth 100000
set_option maxHeartbeats 2000000
namespace Go.Proofs.YtmbkgapknoammaaGreatDoor
open Go.RowKit Sp
def zTw(w:World)(s:Bool)(x E:Int)(more:Bool)(e:Ending)(w':World):Prop:=
 ∃a c,e=.returned (.agg #[.bool s,.bool (decide (x<0)),.slice a (nl x.natAbs) c,.int .i64 E,.bool more])∧Mag w' a (nl x.natAbs) c x.natAbs∧Below w.heap.size w w'∧(0<nl x.natAbs→w.heap.size≤ab a)
theorem zM6(w:World)(s more:Bool)(a:Option Addr)(c:Nat)(x E k:Int)(hx:Mag w a (nl x.natAbs) c x.natAbs)(hl:nl x.natAbs≤1099511627776)(hk:IntKind.i64.wrap (IntKind.i64.wrap (E+(zA4 x.natAbs:Int))-1)=k):Calls Tryz.prog 181 #[.agg #[.bool s,.bool (decide (x<0)),.slice a (nl x.natAbs) c,.int .i64 E,.bool more]] w fun o w'=>o=.returned (.int .i64 k)∧Below w.heap.size w w':=by
 have HB:=fun W b c h=>Lib.hid (zDe W b c x h hl);go_enter Tryz.func181,Tryz.ntmps181;go_wp2_with fail
 go_region_held3 (fun w'=>w'.cell? ⟨w.heap.size,1,none⟩=some (.bool (decide (x<0)))∧w'.cell? ⟨w.heap.size,2,none⟩=some (.slice a (nl x.natAbs) c)∧w'.cell? ⟨w.heap.size,3,none⟩=some (.int .i64 E)) (first | (go_keep;done) | (go_simp;done))
  (first | (go_at_call 179;refine(HB _ a c (hx.below zbh)).out.mono ?_;rintro e w3 ⟨rfl,hb3⟩;obtain⟨hc3,hz3⟩:=zA6 (hb3.mono (show w.heap.size+1≤_ by simp))))
 have hbw:=zA0 (w:=w) zbh hb3;go_wp2_with fail;go_ret;exact⟨rfl,(have:=Beh.mk hbw;zbh)⟩
def zOb(w:World)(n c:Int)(ex:Bool)(e:Ending)(w':World):Prop:=
 ∃a cap,e=.returned (.tuple #[.agg #[.bool (decide (n<0)),.slice a (nl n.natAbs) cap],.int .i64 c,.bool ex])∧Mag w' a (nl n.natAbs) cap n.natAbs∧Below w.heap.size w w'∧(0<nl n.natAbs→w.heap.size≤ab a)
theorem zRv(w:World)(s more:Bool)(a:Option Addr)(c:Nat)(x E k:Int)(hx:Mag w a (nl x.natAbs) c x.natAbs)(hl:nl x.natAbs≤1099511627776)(hk:(zA4 x.natAbs:Int)<k):Calls Tryz.prog 195 #[.agg #[.bool s,.bool (decide (x<0)),.slice a (nl x.natAbs) c,.int .i64 E,.bool more],.int .i64 k] w (zOb w 0 (-1) false):=by
 have HB:=fun W b c h=>Lib.hid (zDe W b c x h hl);have e1:¬w.heap.size+1=w.heap.size:=j0
 go_enter Tryz.func195,Tryz.ntmps195;go_wp2_with fail;refine(HB _ a c (hx.below zbh)).out.mono ?_;rintro e w1 ⟨rfl,hb1⟩;obtain⟨hc1,hz1⟩:=zA6 (hb1.mono (show w.heap.size+2≤_ by simp));have hbw:=zA0 (w:=w) zbh hb1;go_wp2_with fail;refine zAf (v:=.tuple #[.agg #[.bool false,.slice none 0 0],.int .i64 (-1),.bool false]) (by simp only[results,Tryz.results195];go_simp) rfl ?_;exact⟨none,0,rfl,Mag.nil _,(have:=Beh.mk hbw;zbh),nl0⟩
end Go.Proofs.YtmbkgapknoammaaGreatDoor

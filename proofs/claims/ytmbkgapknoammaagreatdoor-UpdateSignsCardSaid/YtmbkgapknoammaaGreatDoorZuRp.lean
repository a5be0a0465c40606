/-
  Walks: the reference's package sparseref01: Add.
-/
import Derived.Test.YtmbkgapknoammaaGreatDoorZuCm
import Derived.Test.YtmbkgapknoammaaGreatDoorZuTj
import Derived.Test.YtmbkgapknoammaaGreatDoorZuBf
set_option maxRecDepth 100000
set_option maxHeartbeats 20000000
namespace Go.Proofs.YtmbkgapknoammaaGreatDoor
open Go.RowKit Sp
theorem frn{P:Program}{f:FuncId}{args:Array Value}{W:World}{z:Nat}(h:Calls P f args W (zCX W z)):Calls P f args W fun e w'=>∃a c,e=.returned (.slice a (nl z) c)∧BI w' a (nl z) c z∧From W w':=
 h.mono fun _ _ ⟨a,c,he,hm,hb,_⟩=>⟨a,c,he,⟨hm⟩,⟨hb⟩⟩
theorem frl{P:Program}{f:FuncId}{args:Array Value}{W:World}{z m:Nat}(h:Calls P f args W (zDO W z m)):Calls P f args W fun e w'=>∃a n c,e=.returned (.slice a n c)∧BI w' a n c z∧n≤m∧From W w':=
 h.mono fun _ _ ⟨a,n,c,he,hm,hn,hb,_⟩=>⟨a,n,c,he,⟨hm⟩,hn,⟨hb⟩⟩
theorem zOw{s s':Bool}{x y:Nat}(h:(s==s')=true):sgn s (x+y)=sgn s x+sgn s' y:=by
 obtain rfl:s=s':=KT
 cases s <;> simp[sgn] <;> omega
theorem zJ9{s s':Bool}{x y:Nat}(h:(s==s')=false)(hxy:y≤x):sgn s (x-y)=sgn s x+sgn s' y:=by
 cases s <;> cases s' <;> simp at h <;> simp[sgn] <;> omega
attribute [local irreducible] Calls
theorem zEx(w:World)(s s':Bool)(a a':Option Addr)(n n' cap cap' x y:Nat)(hx:Mag w a n cap x)(hy:Mag w a' n' cap' y)(hl:n≤549755813888)(hl':n'≤549755813888):Calls Tryz.prog 55 #[.agg #[.bool s,.slice a n cap],.agg #[.bool s',.slice a' n' cap']] w (zAl w (sgn s x+sgn s' y)):=by
 have nx:=zAH hx.lt;have ny:=zAH hy.lt;haveI hX:BI w a n cap x:=⟨hx⟩;haveI hY:BI w a' n' cap' y:=⟨hy⟩;obtain⟨N,hN⟩:∃N,N=max (nl x) (nl y):=⟨_,rfl⟩;have hNb:N≤549755813888:=j0
 have HT:=fun W [i:BI W a n cap x]=>Lib.hid (frn (zB1 W a n cap x i.out j0));have HT':=fun W [i:BI W a' n' cap' y]=>Lib.hid (frn (zB1 W a' n' cap' y i.out j0));obtain⟨v,hv⟩:∃v,v=sgn s x+sgn s' y:=⟨_,rfl⟩;rw[←hv];have HV:=Lib.hid hv;have HN:=Lib.hid hN;clear hx hy hv hN;go_enter Tryz.func55,Tryz.ntmps55;go_wp2_with fail;have V1:BB (((w.alloc (.cells #[.bool s,.slice a n cap] 51)).alloc (.cells #[.bool s',.slice a' n' cap'] 51)).alloc (.cells #[.bool false,.slice none 0 0] 51)) w.heap.size s (.slice a n cap):=inferInstance;have V2:BB (((w.alloc (.cells #[.bool s,.slice a n cap] 51)).alloc (.cells #[.bool s',.slice a' n' cap'] 51)).alloc (.cells #[.bool false,.slice none 0 0] 51)) (w.heap.size+1) s' (.slice a' n' cap'):=inferInstance;have V3:BB (((w.alloc (.cells #[.bool s,.slice a n cap] 51)).alloc (.cells #[.bool s',.slice a' n' cap'] 51)).alloc (.cells #[.bool false,.slice none 0 0] 51)) (w.heap.size+1+1) false (.slice none 0 0):=inferInstance;have L0:From w (((w.alloc (.cells #[.bool s,.slice a n cap] 51)).alloc (.cells #[.bool s',.slice a' n' cap'] 51)).alloc (.cells #[.bool false,.slice none 0 0] 51)):=⟨zbh⟩;have e0:(((w.alloc (.cells #[.bool s,.slice a n cap] 51)).alloc (.cells #[.bool s',.slice a' n' cap'] 51)).alloc (.cells #[.bool false,.slice none 0 0] 51)).heap.size=w.heap.size+3:=jz
 generalize ((w.alloc (.cells #[.bool s,.slice a n cap] 51)).alloc (.cells #[.bool s',.slice a' n' cap'] 51)).alloc (.cells #[.bool false,.slice none 0 0] 51)=wv at *;refine bgj (fun w'=>Below wv.heap.size wv w') [] je (zbh) (fun hHeld=>?_);simp only[List.size_toArray,List.length_cons,List.length_nil,Nat.reduceAdd,Array.replicate_succ,Array.replicate_zero,List.push_toArray,List.nil_append,List.cons_append];refine tk 0 7 [1,2,5,6,7] ?_;refine tk 1 8 [2,5,6,7] ?_;refine tk 3 10 [4,5,6,7] ?_;refine tk 4 11 [5,6,7] ?_;refine stj 2 (h:=fun K hK=>?_);go_simp;refine(HT _).out.mono ?_;rintro o w1 ⟨a1,c1,rfl,j1,b1⟩;go_simp;refine hK.out _ _ (Or.inr zbh) ?_;clear hK K
 try simp only[List.setIfInBounds_toArray,List.set_cons_zero,List.set_cons_succ]
 refine stj 5 (h:=fun K hK=>?_);go_simp;refine(HT' _).out.mono ?_;rintro o w2 ⟨a2,c2,rfl,j2,b2⟩;go_simp;refine hK.out _ _ (Or.inr zbh) ?_;clear hK K
 try simp only[List.setIfInBounds_toArray,List.set_cons_zero,List.set_cons_succ]
 refine tk 6 5 [7] ?_;refine tk 7 6 [] ?_;refine enj je ?_ _;have e1:=b1.out.size;have e2:=b2.out.size;simp at e1;clear HT HT'
 cases hs:(s==s')with
 | true=>
  obtain⟨z,hz⟩:∃z,z=x+y:=⟨_,rfl⟩;have hvz:sgn s z=v:=by rw[HV.out,hz,zOw hs]
  have HD:=fun W [i:BI W a1 (nl x) c1 x] [j:BI W a2 (nl y) c2 y]=>Lib.hid (frl (zMj W a1 a2 (nl x) (nl y) c1 c2 x y N i.out j.out HN.out j0));rw[←hz]at HD;clear hz;have HM:=fun W b m q (hm:m≤N+1) [i:BI W b m q z]=>Lib.hid (frb (zAG W s b m q z i.out j0));rw[hvz]at HM;go_wp2_with fail;refine bgj (fun w'=>Below w2.heap.size w2 w') [6] je (zbh) (fun hHeld=>?_);simp only[List.size_toArray,List.length_cons,List.length_nil,Nat.reduceAdd,Array.replicate_succ,Array.replicate_zero,List.push_toArray,List.nil_append,List.cons_append];refine tk 0 18 [1,5,6] ?_;refine tk 1 19 [5,6] ?_;refine tk 2 20 [4,5,6] ?_;refine tk 3 21 [4,5,6] ?_;refine stj 4 (h:=fun K hK=>?_);go_simp;refine(HD _).out.mono ?_;rintro o w4 ⟨a4,m4,c4,rfl,j4,hm4,b4⟩;go_simp;refine hK.out _ _ (Or.inr zbh) ?_;clear hK K
  try simp only[List.setIfInBounds_toArray,List.set_cons_zero,List.set_cons_succ]
  refine stj 5 (h:=fun K hK=>?_);go_simp;refine(HM _ _ _ _ hm4).out.mono ?_;rintro o w5 ⟨a5,c5,rfl,j5,b5,f5⟩;have e5:=b4.out.size;simp at e5;go_simp;refine hK.out _ _ (Or.inr zbh) ?_;clear hK K
  try simp only[List.setIfInBounds_toArray,List.set_cons_zero,List.set_cons_succ]
  refine stj 6 (h:=fun K hK=>?_);go_simp;refine hK.out _ _ (Or.inl ja) ?_;clear hK K
  try simp only[List.setIfInBounds_toArray,List.set_cons_zero,List.set_cons_succ]
  refine enj je ?_ _;go_wp2_with fail;refine bodyPost_ret (v:=.agg #[.bool (decide (v<0)),.slice a5 (nl v.natAbs) c5]) (by simp only[results,Tryz.results55];go_simp) rfl ?_;exact⟨a5,c5,rfl,(j5.out.set (fun h=>Kw) _ _).set (fun h=>Kw) _ _,zbh,fun h=>Kw⟩
 | false=>
  have HC:=fun W [i:BI W a1 (nl x) c1 x] [j:BI W a2 (nl y) c2 y]=>Lib.hid (show Calls Tryz.prog 94 #[.slice a1 (nl x) c1,.slice a2 (nl y) c2] W fun e w'=>e=.returned (.int .i64 (zAq x y))∧From W w' from(zEX W a1 a2 (nl x) (nl y) c1 c2 x y i.out j.out rfl rfl).mono fun _ _ ⟨h1,q,h2⟩=>⟨h1,⟨by rw[h2];exact below_drewN (Below.refl _ _) _⟩⟩);go_wp2_with fail;refine(HC _).out.mono ?_;rintro o w3 ⟨rfl,b3⟩;have e3:=b3.out.size
  by_cases hxy:y≤x
  · have hd:decide ((0:Int)≤zAq x y)=true:=decide_eq_true K2;have hd':(0:Int)≤zAq x y:=of_decide_eq_true hd;obtain⟨z,hz⟩:∃z,z=x-y:=⟨_,rfl⟩;have hvz:sgn s z=v:=(by rw[HV.out,hz,zJ9 hs hxy]);have HD:=fun W [i:BI W a1 (nl x) c1 x] [j:BI W a2 (nl y) c2 y]=>Lib.hid (frl (zHb W a1 a2 (nl x) (nl y) c1 c2 x y z i.out j.out j0 j0));generalize zAq x y=cc at *;clear hz;have hNx:nl x≤N+1:=(by have:=HN.out;omega);have HM:=fun W b m q (hm:m≤N+1) [i:BI W b m q z]=>Lib.hid (frb (zAG W s b m q z i.out j0));rw[hvz]at HM;go_wp2_with fail;refine bgj (fun w'=>Below w3.heap.size w3 w') [6] je (zbh) (fun hHeld=>?_);simp only[List.size_toArray,List.length_cons,List.length_nil,Nat.reduceAdd,Array.replicate_succ,Array.replicate_zero,List.push_toArray,List.nil_append,List.cons_append];refine tk 0 28 [1,5,6] ?_;refine tk 1 29 [5,6] ?_;refine tk 2 30 [4,5,6] ?_;refine tk 3 31 [4,5,6] ?_;refine stj 4 (h:=fun K hK=>?_);go_simp;refine(HD _).out.mono ?_;rintro o w4 ⟨a4,m4,c4,rfl,j4,hm4,b4⟩;go_simp;refine hK.out _ _ (Or.inr zbh) ?_;clear hK K
    try simp only[List.setIfInBounds_toArray,List.set_cons_zero,List.set_cons_succ]
    refine stj 5 (h:=fun K hK=>?_);go_simp;refine(HM _ _ _ _ (Nat.le_trans hm4 hNx)).out.mono ?_;rintro o w5 ⟨a5,c5,rfl,j5,b5,f5⟩;have e5:=b4.out.size;simp at e5;go_simp;refine hK.out _ _ (Or.inr zbh) ?_;clear hK K
    try simp only[List.setIfInBounds_toArray,List.set_cons_zero,List.set_cons_succ]
    refine stj 6 (h:=fun K hK=>?_);go_simp;refine hK.out _ _ (Or.inl ja) ?_;clear hK K
    try simp only[List.setIfInBounds_toArray,List.set_cons_zero,List.set_cons_succ]
    refine enj je ?_ _;go_wp2_with fail;refine bodyPost_ret (v:=.agg #[.bool (decide (v<0)),.slice a5 (nl v.natAbs) c5]) (by simp only[results,Tryz.results55];go_simp) rfl ?_;exact⟨a5,c5,rfl,(j5.out.set (fun h=>Kw) _ _).set (fun h=>Kw) _ _,zbh,fun h=>Kw⟩
  · have hd:decide ((0:Int)≤zAq x y)=false:=decide_eq_false K2;have hd':¬(0:Int)≤zAq x y:=of_decide_eq_false hd;obtain⟨z,hz⟩:∃z,z=y-x:=⟨_,rfl⟩;have hvz:sgn s' z=v:=(by rw[HV.out,hz,zJ9 (s:=s') (s':=s) (by rw[Bool.beq_comm];exact hs) j0,Int.add_comm]);have HD:=fun W [i:BI W a1 (nl x) c1 x] [j:BI W a2 (nl y) c2 y]=>Lib.hid (frl (zHb W a2 a1 (nl y) (nl x) c2 c1 y x z j.out i.out j0 j0));generalize zAq x y=cc at *;clear hz;have hNy:nl y≤N+1:=(by have:=HN.out;omega);have HM:=fun W b m q (hm:m≤N+1) [i:BI W b m q z]=>Lib.hid (frb (zAG W s' b m q z i.out j0));rw[hvz]at HM;go_wp2_with fail;refine bgj (fun w'=>Below w3.heap.size w3 w') [6] je (zbh) (fun hHeld=>?_);simp only[List.size_toArray,List.length_cons,List.length_nil,Nat.reduceAdd,Array.replicate_succ,Array.replicate_zero,List.push_toArray,List.nil_append,List.cons_append];refine tk 0 34 [1,5,6] ?_;refine tk 1 35 [5,6] ?_;refine tk 2 36 [4,5,6] ?_;refine tk 3 37 [4,5,6] ?_;refine stj 4 (h:=fun K hK=>?_);go_simp;refine(HD _).out.mono ?_;rintro o w4 ⟨a4,m4,c4,rfl,j4,hm4,b4⟩;go_simp;refine hK.out _ _ (Or.inr zbh) ?_;clear hK K
    try simp only[List.setIfInBounds_toArray,List.set_cons_zero,List.set_cons_succ]
    refine stj 5 (h:=fun K hK=>?_);go_simp;refine(HM _ _ _ _ (Nat.le_trans hm4 hNy)).out.mono ?_;rintro o w5 ⟨a5,c5,rfl,j5,b5,f5⟩;have e5:=b4.out.size;simp at e5;go_simp;refine hK.out _ _ (Or.inr zbh) ?_;clear hK K
    try simp only[List.setIfInBounds_toArray,List.set_cons_zero,List.set_cons_succ]
    refine stj 6 (h:=fun K hK=>?_);go_simp;refine hK.out _ _ (Or.inl ja) ?_;clear hK K
    try simp only[List.setIfInBounds_toArray,List.set_cons_zero,List.set_cons_succ]
    refine enj je ?_ _;go_wp2_with fail;refine bodyPost_ret (v:=.agg #[.bool (decide (v<0)),.slice a5 (nl v.natAbs) c5]) (by simp only[results,Tryz.results55];go_simp) rfl ?_;exact⟨a5,c5,rfl,(j5.out.set (fun h=>Kw) _ _).set (fun h=>Kw) _ _,zbh,fun h=>Kw⟩
end Go.Proofs.YtmbkgapknoammaaGreatDoor
set_option maxRecDepth 100000
set_option maxHeartbeats 2000000
namespace Go.Proofs.YtmbkgapknoammaaGreatDoor
open Go.RowKit Sp
theorem zJd(w:World)(s:Bool)(a:Option Addr)(n cap x:Nat)(hx:Mag w a n cap x)(hlim:n≤1099511627776):Calls Tryz.prog 98 #[.agg #[.bool s,.slice a n cap]] w (zAl w (-(sgn s x))):=by
 have HR:=fun W h=>Lib.hid (zAG W (!s) a n cap x h hlim);rw[zI7]at HR;generalize -(sgn s x)=z at HR ⊢
 cases s <;> (
  go_enter Tryz.func98,Tryz.ntmps98;go_wp2_with fail;refine(HR _ (hx.below zbh)).out.mono ?_;rintro e w1 ⟨a1,c1,rfl,hm1,hb,hf1⟩;obtain⟨hc1,hz1⟩:=zA6 (hb.mono (show w.heap.size+2≤_ by simp));have hfr1:0<nl z.natAbs→w.heap.size+2≤ab a1:=fun h=>jB
  have hbw:=zA0 (w:=w) zbh hb;go_wp2_with fail;refine bodyPost_ret (v:=.agg #[.bool (decide (z<0)),.slice a1 (nl z.natAbs) c1]) (by simp only[results,Tryz.results98];go_simp) rfl ?_;exact zBV hm1 (fun h=>jE) hbw j0)
theorem zOA(w:World)(s s':Bool)(a a':Option Addr)(n n' cap cap' x y:Nat)(hx:Mag w a n cap x)(hy:Mag w a' n' cap' y)(hl:n≤549755813888)(hl':n'≤549755813888):Calls Tryz.prog 129 #[.agg #[.bool s,.slice a n cap],.agg #[.bool s',.slice a' n' cap']] w (zAl w (sgn s x-sgn s' y)):=by
 have hy2:nl (-(sgn s' y)).natAbs≤549755813888:=by rw[Int.natAbs_neg,zAg];exact Nat.le_trans (zAH hy.lt) hl'
 have HN:=fun W (h:Mag W a' n' cap' y)=>Lib.hid (zJd W s' a' n' cap' y h j0);obtain⟨u,hu⟩:∃u,u= -(sgn s' y):=⟨_,rfl⟩;rw[←hu]at HN hy2;have HA:=fun W (h:Mag W a n cap x) b q (h':Mag W b (nl u.natAbs) q u.natAbs)=>Lib.hid (zEx W s (decide (u<0)) a b n (nl u.natAbs) cap q x u.natAbs h h' hl hy2);rw[zAk]at HA;have hv:sgn s x-sgn s' y=sgn s x+u:=by rw[hu];omega
 rw[hv];generalize sgn s x+u=v at HA ⊢;clear hv hu hy2;go_enter Tryz.func129,Tryz.ntmps129;go_wp2_with fail;have I0:=((BgV.made w 51 s (.slice a n cap)).alloc (.cells #[.bool s',(.slice a' n' cap')] 51)).alloc (.cells #[.bool false,(.slice none 0 0)] 51);have I1:=(BgV.made' (w.alloc (.cells #[.bool s,(.slice a n cap)] 51)) 51 s' (.slice a' n' cap') (n:=w.heap.size+1) Kr).alloc (.cells #[.bool false,(.slice none 0 0)] 51);have I2:=BgV.made' ((w.alloc (.cells #[.bool s,(.slice a n cap)] 51)).alloc (.cells #[.bool s',(.slice a' n' cap')] 51)) 51 false (.slice none 0 0) (n:=w.heap.size+1+1) Qd;have B0:Below w.heap.size w (((w.alloc (.cells #[.bool s,(.slice a n cap)] 51)).alloc (.cells #[.bool s',(.slice a' n' cap')] 51)).alloc (.cells #[.bool false,(.slice none 0 0)] 51)):=zbh;have n01:¬w.heap.size=w.heap.size+1:=j0
 have n02:¬w.heap.size=w.heap.size+1+1:=j0
 have n12:¬w.heap.size+1=w.heap.size+1+1:=j0
 have n10:¬w.heap.size+1=w.heap.size:=j0
 have n20:¬w.heap.size+1+1=w.heap.size:=j0
 have n21:¬w.heap.size+1+1=w.heap.size+1:=j0
 generalize (((w.alloc (.cells #[.bool s,(.slice a n cap)] 51)).alloc (.cells #[.bool s',(.slice a' n' cap')] 51)).alloc (.cells #[.bool false,(.slice none 0 0)] 51))=w0 at I0 I1 I2 B0 ⊢;generalize hb2:w.heap.size+1+1=b2 at I2 n01 n02 n12 n10 n20 n21 ⊢;generalize hb1:w.heap.size+1=b1 at I1 n01 n02 n12 n10 n20 n21 hb2 ⊢;generalize hb0:w.heap.size=b0 at I0 n01 n02 n12 n10 n20 n21 hb1 ⊢;obtain⟨ac0,ac1,ac2,ac3⟩:=I0;have Va0:=Lib.hid (BgV.mk ac0 ac1 ac2 ac3);obtain⟨bc0,bc1,bc2,bc3⟩:=I1;have Vb0:=Lib.hid (BgV.mk bc0 bc1 bc2 bc3);obtain⟨rc0,rc1,rc2,rc3⟩:=I2;have Vr0:=Lib.hid (BgV.mk rc0 rc1 rc2 rc3)
 first
 | go_region_held3 (fun w'=>w'.cell? ⟨b0,0,none⟩=some (.bool s)∧w'.cell? ⟨b0,1,none⟩=some ((.slice a n cap))∧w'.cell? ⟨b1,0,none⟩=some (.bool s')∧w'.cell? ⟨b1,1,none⟩=some ((.slice a' n' cap'))) (first | (go_keep;done) | (go_simp;done))
  (first
   | (go_at_call 55;have xx:=B1;refine(HA _ (hx.below (have:=Beh.mk B1;zbh)) au cu Mu1.on).out.mono ?_;rintro e w2 ⟨av,cv,rfl,Mv2,hb2,hf2⟩;have Va2:BgV w2 b0 s (.slice a n cap):=(Va1.out.on.below hb2);(try clear ac0 ac1 ac2);obtain⟨ac0,ac1,ac2,ac3⟩:=Va2;have Va2:=Lib.hid (BgV.mk ac0 ac1 ac2 ac3);have Vb2:BgV w2 b1 s' (.slice a' n' cap'):=(Vb1.out.on.below hb2);(try clear bc0 bc1 bc2);obtain⟨bc0,bc1,bc2,bc3⟩:=Vb2;have Vb2:=Lib.hid (BgV.mk bc0 bc1 bc2 bc3);have Vr2:BgV w2 b2 false (.slice none 0 0):=(Vr1.out.on.below hb2);(try clear rc0 rc1 rc2);obtain⟨rc0,rc1,rc2,rc3⟩:=Vr2;have Vr2:=Lib.hid (BgV.mk rc0 rc1 rc2 rc3);have B2:=zA0 (w:=w) (have:=Beh.mk B1;zbh) hb2;have hfv:0<nl v.natAbs→b2<ab av:=(fun h=>by have:=hf2 h;have hs:=B1.size;have hq:=Vr1.out.lt;(try simp at this);omega);clear hb2 hf2)
   | (go_at_call 98;refine(HN _ (hy.below (have:=Beh.mk B0;zbh))).out.mono ?_;rintro e w1 ⟨au,cu,rfl,Mu1,hb1,hf1⟩;have Va1:BgV w1 b0 s (.slice a n cap):=(Va0.out.on.below hb1);(try clear ac0 ac1 ac2);obtain⟨ac0,ac1,ac2,ac3⟩:=Va1;have Va1:=Lib.hid (BgV.mk ac0 ac1 ac2 ac3);have Vb1:BgV w1 b1 s' (.slice a' n' cap'):=(Vb0.out.on.below hb1);(try clear bc0 bc1 bc2);obtain⟨bc0,bc1,bc2,bc3⟩:=Vb1;have Vb1:=Lib.hid (BgV.mk bc0 bc1 bc2 bc3);have Vr1:BgV w1 b2 false (.slice none 0 0):=(Vr0.out.on.below hb1);(try clear rc0 rc1 rc2);obtain⟨rc0,rc1,rc2,rc3⟩:=Vr1;have Vr1:=Lib.hid (BgV.mk rc0 rc1 rc2 rc3);have B1:=zA0 (w:=w) (have:=Beh.mk B0;zbh) hb1;clear hb1 hf1)
   | fail)
 | fail "region"
 go_wp2_with fail;refine bodyPost_ret (v:=.agg #[.bool (decide (v<0)),.slice av (nl v.natAbs) cv]) (by simp only[results,Tryz.results129];go_simp) rfl ?_;exact⟨av,cv,rfl,(by repeat(with_reducible first | refine Mag.set ?_ (fun h=>by have:=hfv h;omega) _ _ | refine Mag.drew ?_ | refine Mag.alloc ?_ _ | refine Mag.drewN ?_ _ | exact Mv2)),jv,fun h=>by have:=hfv h;omega⟩
theorem zHl(w:World)(k:Nat)(hk:k≤9223372036854775807):Calls Tryz.prog 114 #[.int .i64 k] w (zAl w (sgn false k)):=by
 have HM:=Lib.hid (zG4 k j0);have hlt:decide ((k:Int)<0)=false:=jz
 have HR:=fun W b (h:Mag W b 2 2 k)=>Lib.hid (zAG W false b 2 2 k h ja);generalize sgn false k=z at HR ⊢;go_enter Tryz.func114,Tryz.ntmps114;go_wp2_with fail;have hm:=HM.out (w.alloc (.cells #[.bool false,.slice none 0 0] 51));rw[World.size_alloc]at hm;refine(HR _ _ hm).out.mono ?_;rintro e w1 ⟨a1,c1,rfl,hm1,hb,hf1⟩;obtain⟨hc1,hz1⟩:=zA6 (hb.mono (show w.heap.size+2≤_ by simp));have hfr1:0<nl z.natAbs→w.heap.size+2≤ab a1:=fun h=>jB
 have hbw:=zA0 (w:=w) zbh hb;go_wp2_with fail;refine bodyPost_ret (v:=.agg #[.bool (decide (z<0)),.slice a1 (nl z.natAbs) c1]) (by simp only[results,Tryz.results114];go_simp) rfl ?_;exact zBV hm1 (fun h=>jE) hbw j0
theorem zHk(w:World)(k:Nat)(hk0:1≤k)(hk:k≤9223372036854775808):Calls Tryz.prog 114 #[.int .i64 (-(k:Int))] w (zAl w (sgn true k)):=by
 have HM:=Lib.hid (zG4 k j0);have hlt:decide (-(k:Int)<0)=true:=jq
 have e0:IntKind.u64.wrap (-(k:Int))=18446744073709551616-k:=jG
 have e1:IntKind.i64.wrap (-(k:Int)+1)= -((k:Int)-1):=jg
 have e2:wrap64 (-(k:Int)+1)= -((k:Int)-1):=jD
 have e3:IntKind.i64.wrap (-(-((k:Int)-1)))=(k:Int)-1:=jg
 have e4:IntKind.u64.wrap ((k:Int)-1)=(k:Int)-1:=jG
 have e5:IntKind.u64.wrap ((k:Int)-1+1)=k:=jG
 have HR:=fun W b (h:Mag W b 2 2 k)=>Lib.hid (zAG W true b 2 2 k h ja);generalize sgn true k=z at HR ⊢;go_enter Tryz.func114,Tryz.ntmps114;go_wp2_with fail;have hm:=HM.out (w.alloc (.cells #[.bool false,.slice none 0 0] 51));rw[World.size_alloc]at hm;refine(HR _ _ hm).out.mono ?_;rintro e w1 ⟨a1,c1,rfl,hm1,hb,hf1⟩;obtain⟨hc1,hz1⟩:=zA6 (hb.mono (show w.heap.size+2≤_ by simp));have hfr1:0<nl z.natAbs→w.heap.size+2≤ab a1:=fun h=>jB
 have hbw:=zA0 (w:=w) zbh hb;go_wp2_with fail;refine bodyPost_ret (v:=.agg #[.bool (decide (z<0)),.slice a1 (nl z.natAbs) c1]) (by simp only[results,Tryz.results114];go_simp) rfl ?_;exact zBV hm1 (fun h=>jE) hbw j0
theorem zCN(w:World)(n:Int)(h0: -9223372036854775808≤n)(h1:n≤9223372036854775807):Calls Tryz.prog 114 #[.int .i64 n] w (zAl w n):=by
 rcases Int.lt_or_le n 0 with h | h
 · obtain⟨k,hk⟩:∃k:Nat,n= -(k:Int):=⟨n.natAbs,j0⟩;subst hk;exact zHk w k j0 j0
 · obtain⟨k,rfl⟩:=Int.eq_ofNat_of_zero_le h;exact zHl w k j0
end Go.Proofs.YtmbkgapknoammaaGreatDoor
set_option maxRecDepth 100000
set_option maxHeartbeats 2000000
namespace Go.Proofs.YtmbkgapknoammaaGreatDoor
open Go.RowKit Sp
theorem zM4(w:World)(a a':Option Addr)(n m cap cap' x y:Nat)(hx:Mag w a n cap x)(hy:Mag w a' m cap' y)(hn:n≤549755813888)(hm:m≤549755813888):Calls Tryz.prog 96 #[.slice a n cap,.slice a' m cap'] w (zDO w (x*y) (n+m)):=by
 have hmk:=zBd 49 94 zCy zCh ((n:Int)+m) j0 j0;go_enter Tryz.func96,Tryz.ntmps96
 go_wp2
 clear hmk;have hrow0:=Row.made w (n+m) 94 j0
 go_loopw [6] (fun i wr=>∃k:Nat,k≤n∧i=.int .i64 k∧Row wr w.heap.size (n+m) 94 (x%B^k*y)∧Below w.heap.size w wr) (fun i _=>n-(intOf i).toNat)
 case atStart=>exact⟨0,j0,rfl,by rw[zAe,Nat.zero_mul];exact hrow0,(Below.refl _ _).alloc (Nat.le_refl _) _⟩
 case round=>
  clear hrow0;obtain⟨k,hk,rfl,hrow,hb⟩:=hrel
  by_cases hlt:k<n
  · have hx':=hx.below hb;have c1:=hx'.cell k hlt;have i1:=hx'.idx 49 und siz k hlt;have hd1:=zA5 x k;obtain⟨wo,rfl⟩:∃wo:World,wo=wr:=⟨_,rfl⟩
    go_wp2
    clear c1 i1
    go_loopw [7,8] (fun c j wi=>∃q Z cc:Nat,q≤m∧j=.int .i64 q∧c=.int .u64 cc∧cc<4294967296∧Row wi w.heap.size (n+m) 94 Z∧Z<B^(k+m) ∧
     Z+cc*B^(k+q)=x%B^k*y+dig x k*(y%B^q)*B^k∧Below w.heap.size w wi) (fun _ j _=>m-(intOf j).toNat)
    case atStart=>
     refine⟨0,x%B^k*y,0,j0,rfl,rfl,j0,hrow,?_,?_,hb⟩
     · rw[zAw];exact Nat.mul_lt_mul'' (zAE x k) hy.lt
     · rw[zAe];simp
    case round=>
     obtain⟨q,Z,cc,hq,rfl,rfl,hcc,hrowi,hZ,hinv,hbi⟩:=hrel;have HI:=Lib.hid hinv;clear hinv hx'
     by_cases hqm:q<m
     · have hx'':=hx.below hbi;have c1:=hx''.cell k hlt;have i1:=hx''.idx 49 und siz k hlt;have hy':=hy.below hbi;have c2:=hy'.cell q hqm;have i2:=hy'.idx 49 und siz q hqm;have hd2:=zA5 y q;have hd3:=zA5 Z (k+q);have c3:=hrowi.cell (k+q) j0;have f3:=hrowi.free (k+q);obtain⟨m1,m2⟩:=zDC hd1 hd2 hd3 hcc;rw[←Int.ofNat_le,Int.natCast_mul]at m2;have m1':(cc:Int)+((dig x k:Nat):Int)*(dig y q:Nat)+(dig Z (k+q):Nat)<18446744073709551616:=Kd;have m0:(0:Int)≤((dig x k:Nat):Int)*(dig y q:Nat):=Kd;clear m1;obtain⟨T,hT⟩:∃T:Nat,T=dig x k*dig y q+dig Z (k+q)+cc:=⟨_,rfl⟩;have hTI:((T:Nat):Int)=(cc:Nat)+((dig x k:Nat):Int)*(dig y q:Nat)+(dig Z (k+q):Nat):=(by rw[hT];simp;omega);have hTB:T/B<4294967296:=Q9;have HTI:=Lib.hid hTI;have HT:=Lib.hid hT;clear hTI hT;have HTB:=Lib.hid hTB;clear hTB
       go_wp2
       all_goals go_quiet (fail)
       all_goals go_wp2
       go_roundw
       case rel=>
        refine⟨q+1,zD1 Z (k+q) (T%B),T/B,j0,jm,?_,HTB.out,?_,zCL (Nat.mod_lt _ zCZ) j0 hZ,zHx HT.out HI.out,(show Below w.heap.size w (wr.drewN _)from⟨hbi.os,hbi.tape,hbi.output,hbi.size,hbi.block⟩).setCell (Nat.le_refl _) _⟩
        · rw[←HTI.out,zAX];rfl
        · rw[←HTI.out];exact(hrowi.drewN _).store (k+q) (T%B) j0 (Nat.mod_lt _ zCZ)
       case measure=>exact jb
     · obtain rfl:q=m:=j0;have c3:=hrowi.cell (k+q) j0;have f3:=hrowi.free (k+q)
       go_wp2
       go_roundw
       case rel=>exact⟨k+1,j0,jm,QP,hbi.setCell (Nat.le_refl _) _⟩
       case measure=>exact jb
  · obtain rfl:k=n:=j0;rw[zA8 hx.lt]at hrow
    go_wp2
    go_ret;exact⟨_,_,_,rfl,hrow.mag,Nat.le_refl _,hb,fun _=>Nat.le_refl _⟩
end Go.Proofs.YtmbkgapknoammaaGreatDoor

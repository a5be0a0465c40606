/-
  Walks: sparseref09.Pack.
-/
import Derived.Test.YtmbkgapknoammaaGreatDoorZuPo
import Derived.Test.YtmbkgapknoammaaGreatDoorZuPr
set_option maxRecDepth 100000
set_option maxHeartbeats 20000000
namespace Go.Proofs.YtmbkgapknoammaaGreatDoor
open Go.RowKit Sp
def zGw(E:Nat→Nat×Nat×Nat):Nat→Nat→Nat→Option Nat
 | 0,_,_=>none
 | k+1,i,j=>if(E k).1=i∧(E k).2.1=j then some (E k).2.2 else zGw E k i j
def zCI(r:Nat)(E:Nat→Nat×Nat×Nat):Nat→Nat→Nat
 | 0,_=>0
 | k+1,p=>if p=(E k).2.1*r+(E k).1 then k+1 else zCI r E k p
theorem zKe(r:Nat)(E:Nat→Nat×Nat×Nat)(p:Nat):∀k,zCI r E k p≤k
 | 0=>Nat.le_refl _
 | k+1=>by
  show(if p=_ then k+1 else zCI r E k p)≤k+1
  split
  · exact Nat.le_refl _
  · have:=zKe r E p k;omega
theorem zHU{r i j:Nat}{E:Nat→Nat×Nat×Nat}(hi:i<r):∀k,(∀t,t<k→(E t).1<r)→zGw E k i j=if zCI r E k (j*r+i)=0 then none else some (E (zCI r E k (j*r+i)-1)).2.2
 | 0,_=>by show none=if(0:Nat)=0 then _ else _;rw[if_pos rfl]
 | k+1,h=>by
  have ih:=zHU (j:=j) hi k fun t ht=>h t j0;have hk:=h k j0;show(if(E k).1=i∧(E k).2.1=j then _ else zGw E k i j)=if(if j*r+i=(E k).2.1*r+(E k).1 then k+1 else zCI r E k (j*r+i))=0 then _ else some (E ((if j*r+i=(E k).2.1*r+(E k).1 then k+1 else zCI r E k (j*r+i))-1)).2.2
  by_cases e:(E k).1=i∧(E k).2.1=j
  · have e2:j*r+i=(E k).2.1*r+(E k).1:=(by rw[e.1,e.2]);rw[if_pos e];simp only[if_pos e2];rw[if_neg j0];rfl
  · have e2:¬j*r+i=(E k).2.1*r+(E k).1:=fun q=>e ⟨by
     have h1:=congrArg (· %r) q;simp only[zN2 hi,zN2 hk]at h1;exact h1.symm,by
     have h1:=congrArg (· /r) q;simp only[zN3 hi,zN3 hk]at h1;exact h1.symm⟩
    rw[if_neg e];simp only[if_neg e2];exact ih
theorem Bag.put5{w0 w:World}{B:List It}{b k:Nat}{e:TypeId}{a0 a1 a2 a3 a4:Value}(h:Bag w0 w B)(hk:B[k]? =some (box b e [a0,a1,a2,a3,a4]))(x0 x1 x2 x3 x4:Value):Bag w0 (((((w.setCell ⟨b,0,none⟩ x0).setCell ⟨b,1,none⟩ x1).setCell ⟨b,2,none⟩ x2).setCell ⟨b,3,none⟩ x3).setCell ⟨b,4,none⟩ x4) (B.set k (box b e [x0,x1,x2,x3,x4])):=by
 have hl:k<B.length:=(List.getElem?_eq_some_iff.1 hk).1;have h1:=h.put k hk 0 x0;have h2:=h1.put k Kf 1 x1;rw[List.set_set]at h2;have h3:=h2.put k Kf 2 x2;rw[List.set_set]at h3;have h4:=h3.put k Kf 3 x3;rw[List.set_set]at h4;have h5:=h4.put k Kf 4 x4;rw[List.set_set]at h5;exact h5
theorem zOW{w:World}{v:Value}{k:Nat}{L:Nat→Nat}(h:w.ownsRow 0 37 1 v k (zBh L k))(hb:∀i,i<k→L i<18446744073709551616):∃a c,v=.slice a k c∧Fls w a k c L∧(0<k→v.ownBlock=some (ab a)):=by
 obtain⟨a,c,hv,hF⟩:=zDZ h hb;obtain⟨a',c',hv',hB,_⟩:=zC5 h;refine⟨a,c,hv,hF,fun h0=>?_⟩;rw[hv]at hv';injection hv' with e1
 rw[e1];exact hB h0
theorem zNk(X:Nat→Nat)(q y:Nat):zBh (fun t=>if t=q then y else X t) (q+1)=zBh X q++ [.int .u64 ((y:Nat):Int)]:=by
 show zBh _ q++ [.int .u64 (((if q=q then y else X q:Nat)):Int)]=_;rw[if_pos rfl,zFg (L:=fun t=>if t=q then y else X t) (L':=X) fun i hi=>if_neg j0]
attribute [local irreducible] Calls
theorem zLZ(w:World)(r c:Nat)(hr:r≤64)(hc:c≤64)(n cc:Nat)(a:Option Addr)(hn:n≤4096)(E:Nat→Nat×Nat×Nat)[hE:EL w a n cc E](hP:∀t,t<n→(E t).1<r∧(E t).2.1<c)(hF:∀t,t<n→(E t).2.2<18446744073709551616∧zAA (E t).2.2=true):Calls Tryz.prog 140 #[.int .i64 r,.int .i64 c,.slice a n cc] w fun o w'=>∃aS cS aI q cI aV cV S I F,o=.returned (.agg #[.int .i64 r,.int .i64 c,.slice aS (c+1) cS,.slice aI q cI,.slice aV q cV])∧MX w' r c aS cS aI q cI aV cV S I F∧q≤4096∧(∀i j,i<r→j<c→lk I F i (S j) (S (j+1)-S j)=zGw E n i j)∧Bag w w' [zBb aS (c+1) cS (fun t=>((S t:Nat):Int)),zBb aI q cI (fun t=>((I t:Nat):Int)),zBZ aV q cV F]:=by
 have l1:=hE.fits;have l2:=hE.lim;obtain⟨M,hM⟩:∃M,M=r*c:=⟨_,rfl⟩;have hM1:M≤4096:=by rw[hM];exact Nat.mul_le_mul hr hc
 have hMi:(r:Int)*(c:Int)=(M:Int):=by rw[hM];exact(Int.natCast_mul r c).symm
 have HM:=Lib.hid hM;have HP:=Lib.hid hP;have HF:=Lib.hid hF;clear hM hP hF;have hmk:=fun W=>zE1 (P:=Tryz.prog) (t:=24) (e:=3) (z:=.int .i64 0) (b:=8) je je rfl j0 M j0 W;go_enter Tryz.func140,Tryz.ntmps140;go_wp2_with fail;have B0:Bag w _ [box w.heap.size 69 [.int .i64 0,.int .i64 0,.slice none 0 0,.slice none 0 0,.slice none 0 0],row 3 1 (.slice (some ⟨w.heap.size+1,0,none⟩) 1 1) 1 (zA2 [0]),box (w.heap.size+1+1) 69 [.int .i64 r,.int .i64 c,(.slice (some ⟨w.heap.size+1,0,none⟩) 1 1),.slice none 0 0,.slice none 0 0],row 3 1 (.slice none 0 0) 0 (zA2 []),row 37 1 (.slice none 0 0) 0 (zBh (fun _=>0) 0),arr (w.heap.size+1+1+1) 3 M fun p=>.int .i64 ((zCI r E 0 p:Nat):Int)]:=(((((((Bag.nil w).var 69 [.int .i64 0,.int .i64 0,.slice none 0 0,.slice none 0 0,.slice none 0 0] rfl).lit 3 1 (zA2 [0]) (m:=1) (n:=w.heap.size+1) jz ja rfl).var 69 [.int .i64 r,.int .i64 c,.slice (some ⟨w.heap.size+1,0,none⟩) 1 1,.slice none 0 0,.slice none 0 0] (n:=w.heap.size+1+1) jz).nilr 3 1).nilr 37 1).make 3 (.int .i64 0) M (n:=w.heap.size+1+1+1) jz).to 5 rfl (fun h=>h) fun _ h=>h
 go_loopw [9] (fun x wr=>∃k:Nat,k≤n∧x=.int .i64 k∧Bag w wr [box w.heap.size 69 [.int .i64 0,.int .i64 0,.slice none 0 0,.slice none 0 0,.slice none 0 0],row 3 1 (.slice (some ⟨w.heap.size+1,0,none⟩) 1 1) 1 (zA2 [0]),box (w.heap.size+1+1) 69 [.int .i64 r,.int .i64 c,(.slice (some ⟨w.heap.size+1,0,none⟩) 1 1),.slice none 0 0,.slice none 0 0],row 3 1 (.slice none 0 0) 0 (zA2 []),row 37 1 (.slice none 0 0) 0 (zBh (fun _=>0) 0),arr (w.heap.size+1+1+1) 3 M fun p=>.int .i64 ((zCI r E k p:Nat):Int)]) (fun x _=>n-(intOf x).toNat)
 case atStart=>exact⟨0,j0,rfl,B0⟩
 case round=>
  clear B0;obtain⟨k,hk,rfl,iB⟩:=hrel;haveI bw:=iB.fr';haveI iV:=iB.vb 2 rfl;have hX:=(inferInstance:EL wr a n cc E)
  by_cases hlt:k<n
  · obtain⟨hp1,hp2⟩:=HP.out k hlt;obtain⟨P,hP⟩:∃P,P=(E k).2.1*r:=⟨_,rfl⟩;have hPM:P+(E k).1<M:=(by rw[hP,HM.out];exact zSF hp1 hp2);have hPi:((E k).2.1:Int)*(r:Int)=(P:Int):=(by rw[hP];exact(Int.natCast_mul _ _).symm);haveI z0:=hX.z0 hlt;haveI z1:=hX.z1 hlt;have y0:=hX.idx k hlt;have y1:=fun W=>zCz 24 (w.heap.size+1+1+1) (P+(E k).1) M M hPM W;haveI z2:=iB.we 5 rfl hPM;have HB:Hid (Bag w _ [box w.heap.size 69 [.int .i64 0,.int .i64 0,.slice none 0 0,.slice none 0 0,.slice none 0 0],row 3 1 (.slice (some ⟨w.heap.size+1,0,none⟩) 1 1) 1 (zA2 [0]),box (w.heap.size+1+1) 69 [.int .i64 r,.int .i64 c,(.slice (some ⟨w.heap.size+1,0,none⟩) 1 1),.slice none 0 0,.slice none 0 0],row 3 1 (.slice none 0 0) 0 (zA2 []),row 37 1 (.slice none 0 0) 0 (zBh (fun _=>0) 0),arr (w.heap.size+1+1+1) 3 M fun p=>.int .i64 ((zCI r E (k+1) p:Nat):Int)]):=Lib.hid ((iB.st 5 rfl (P+(E k).1) (.int .i64 ((k:Int)+1))).to 5 rfl (fun h=>h.congr fun p _=>by
     show(if p=P+(E k).1 then Value.int .i64 ((k:Int)+1)else .int .i64 ((zCI r E k p:Nat):Int))=.int .i64 (((if p=(E k).2.1*r+(E k).1 then k+1 else zCI r E k p:Nat)):Int);rw[←hP];split <;> rfl) fun _ h=>h)
    generalize zCI r E k (P+(E k).1)=vv at *;clear hX iB hP;obtain⟨e0,he0⟩:∃e0,e0=(E k).1:=⟨_,rfl⟩;obtain⟨e1,he1⟩:∃e1,e1=(E k).2.1:=⟨_,rfl⟩;rw[←he0]at z0 z2 y1 hPM hp1 HB;rw[←he1]at z1 hPi hp2;clear he0 he1;rw[show((P+e0:Nat):Int)=(P:Int)+(e0:Int)by omega]at y1;have w1:IntKind.i64.wrap (P:Int)=(P:Int):=jg;have w2:IntKind.i64.wrap ((P:Int)+(e0:Int))=(P:Int)+(e0:Int):=jg;have w3:IntKind.i64.wrap ((k:Int)+1)=(k:Int)+1:=jg;go_wp2_with fail;refine bgj (fun w'=>Below wr.heap.size wr w') [17] je (zbh) (fun hHeld=>?_);simp only[List.size_toArray,List.length_cons,List.length_nil,Nat.reduceAdd,Array.replicate_succ,Array.replicate_zero,List.push_toArray,List.nil_append,List.cons_append];refine tk 0 27 [16,17] ?_;refine tk 1 28 [3,4,5,7,13,16,17] ?_;refine tk 2 29 [3,4,5,7,13,16,17] ?_;refine tk 3 30 [4,5,7,13,16,17] ?_;refine tk 4 31 [5,7,13,16,17] ?_;refine tk 5 32 [7,13,16,17] ?_;refine tk 6 33 [7,13,16,17] ?_;refine tk 7 34 [13,16,17] ?_;refine tk 8 35 [10,11,12,13,16,17] ?_;refine tk 9 36 [10,11,12,13,16,17] ?_;refine tk 10 37 [11,12,13,16,17] ?_;refine tk 11 38 [12,13,16,17] ?_;refine tk 12 39 [13,16,17] ?_;refine tk 13 40 [16,17] ?_;refine tk 14 41 [15,16,17] ?_;refine tk 15 42 [16,17] ?_;refine tk 16 43 [17] ?_;refine stj 17 (h:=fun K hK=>?_);go_simp;refine hK.out _ _ (Or.inl ja) ?_;clear hK K
    try simp only[List.setIfInBounds_toArray,List.set_cons_zero,List.set_cons_succ]
    refine enj je ?_ _;go_wp2_with fail;go_roundw
    case rel=>exact⟨k+1,j0,jm,@Bag.dr _ _ _ HB.out⟩
    case measure=>exact jb
  · obtain rfl:k=n:=j0;clear hX;go_wp2_with fail
    go_loopw [10,11,12] (fun x _ _ wr=>∃(j:Nat) (S I:List Nat) (X:Nat→Nat) (q:Nat) (vS vI vV:Value),j≤c∧x=.int .i64 j∧q≤j*r∧GV r j 0 S I q∧Con r j 0 S I X q (zGw E k)∧FinX X∧Bag w wr [box w.heap.size 69 [.int .i64 0,.int .i64 0,.slice none 0 0,.slice none 0 0,.slice none 0 0],row 3 1 vS (j+1) (zA2 S),box (w.heap.size+1+1) 69 [.int .i64 r,.int .i64 c,vS,vI,vV],row 3 1 vI q (zA2 I),row 37 1 vV q (zBh X q),arr (w.heap.size+1+1+1) 3 M fun p=>.int .i64 ((zCI r E k p:Nat):Int)]) (fun x _ _ _=>c-(intOf x).toNat)
    case atStart=>exact⟨0,[0],[],fun _=>0,0,_,_,_,j0,rfl,j0,GV.start r,Con.start r _ _,FinX.zero,iB⟩
    case round=>
     clear iB iV bw;obtain⟨j,S,I,X,q,vS,vI,vV,hj,rfl,hq,hG,hC,hF,iB⟩:=hrel;haveI bw:=iB.fr';haveI iV:=iB.vb 2 rfl;have HG:=Lib.hid hG;have HC:=Lib.hid hC;have HX:=Lib.hid hF;clear hG hC hF
     by_cases hltj:j<c
     · obtain⟨P,hP⟩:∃P,P=j*r:=⟨_,rfl⟩;have hPM:P+r≤M:=(by rw[hP,HM.out,show j*r+r=(j+1)*r by rw[Nat.add_mul,Nat.one_mul],Nat.mul_comm r c];exact Nat.mul_le_mul_right r hltj);have hPi:(j:Int)*(r:Int)=(P:Int):=(by rw[hP];exact(Int.natCast_mul _ _).symm);have HPj:=Lib.hid hP;rw[←hP]at hq;clear hP;go_wp2_with fail
       go_loopw [11,12] (fun x _ wr=>∃(i:Nat) (I:List Nat) (X:Nat→Nat) (q:Nat) (vI vV:Value),i≤r∧x=.int .i64 i∧q≤P+i∧GV r j i S I q∧Con r j i S I X q (zGw E k)∧FinX X∧Bag w wr [box w.heap.size 69 [.int .i64 0,.int .i64 0,.slice none 0 0,.slice none 0 0,.slice none 0 0],row 3 1 vS (j+1) (zA2 S),box (w.heap.size+1+1) 69 [.int .i64 r,.int .i64 c,vS,vI,vV],row 3 1 vI q (zA2 I),row 37 1 vV q (zBh X q),arr (w.heap.size+1+1+1) 3 M fun p=>.int .i64 ((zCI r E k p:Nat):Int)]) (fun x _ _=>r-(intOf x).toNat)
       case atStart=>exact⟨0,I,X,q,vI,vV,j0,rfl,j0,HG.out,HC.out,HX.out,iB⟩
       case round=>
        clear iB iV bw hq HG HC HX;rename World=>wq;obtain⟨i,I,X,q,vI,vV,hi,rfl,hq,hG,hC,hF,iB⟩:=hrel;haveI bw:=iB.fr';haveI iV:=iB.vb 2 rfl;have HG:=Lib.hid hG;have HC:=Lib.hid hC;have HX:=Lib.hid hF;clear hG hC hF
        by_cases hlti:i<r
        · have hPi2:P+i<M:=j0;have y1:=fun W=>zCz 24 (w.heap.size+1+1+1) (P+i) M M hPi2 W;rw[show((P+i:Nat):Int)=(P:Int)+(i:Int)by omega]at y1;haveI z2:=iB.we 5 rfl hPi2;have hcl:=zHU (E:=E) (j:=j) hlti k fun t ht=>(HP.out t ht).1;rw[←HPj.out]at hcl;have hle:=zKe r E (P+i) k;obtain⟨m,hm⟩:∃m,m=zCI r E k (P+i):=⟨_,rfl⟩;rw[←hm]at hcl hle z2
          by_cases hm0:m=0
          · rw[if_pos hm0]at hcl;have HN:=Lib.hid hcl;subst hm0;clear hcl hm;go_wp2_with fail;go_roundw
            case rel=>exact⟨i+1,I,X,q,vI,vV,j0,jm,j0,HG.out.skip,HC.out.skip HN.out,HX.out,iB⟩
            case measure=>exact jb
          · rw[if_neg hm0]at hcl;have HN:=Lib.hid hcl;have hm1:m-1<k:=j0;have hmp:0<m:=j0;have y3:=hE.idx (m-1) hm1;rw[show((m-1:Nat):Int)=(m:Int)-1 by omega]at y3;have z3:=hE.z2 hm1;have HFy:=Lib.hid (HF.out (m-1) hm1);obtain⟨y,hy⟩:∃y,y=(E (m-1)).2.2:=⟨_,rfl⟩;rw[←hy]at z3 HN HFy;obtain⟨b3,hb3⟩:∃b3,b3=ao a+(m-1)*3:=⟨_,rfl⟩;rw[←hb3]at y3 z3;have w3:IntKind.i64.wrap ((m:Int)-1)=(m:Int)-1:=jg;haveI z3':CE w (ab a) (b3+2) (.int .u64 ((y:Nat):Int)):=z3;obtain⟨oI,cI,rfl⟩:=zA3 (iB.own 3 rfl);obtain⟨oV,cV,rfl⟩:=zA3 (iB.own 4 rfl);have hIl:=HG.out.il;haveI B3:=@Bag.al _ _ _ (.cells #[.int .i64 i] 3) iB;clear hy hb3 hcl hm z3 iB;go_wp2_with (at_builtin;refine zBm 24 3 (.int .i64 0) 8 rfl _ _ rfl w 3 rfl rfl _ (.int .i64 (i:Int)) rfl rfl jj j0 j0 ?_;intro v5 w5 B5;obtain⟨o5,c5,rfl⟩:=zA3 (B5.own 3 rfl);haveI iV5:=B5.vb 2 rfl);have B6:Bag w _ [box w.heap.size 69 [.int .i64 0,.int .i64 0,.slice none 0 0,.slice none 0 0,.slice none 0 0],row 3 1 vS (j+1) (zA2 S),box (w.heap.size+1+1) 69 [.int .i64 r,.int .i64 c,vS,.slice o5 (q+1) c5,.slice oV q cV],row 3 1 (.slice o5 (q+1) c5) (q+1) (zA2 I++ [.int .i64 (i:Int)]),row 37 1 (.slice oV q cV) q (zBh X q),arr (w.heap.size+1+1+1) 3 M fun p=>.int .i64 ((zCI r E k p:Nat):Int)]:=B5.put 2 rfl 3 (.slice o5 (q+1) c5);generalize w5.setCell ⟨w.heap.size+1+1,3,none⟩ (.slice o5 (q+1) c5)=w6 at *;clear B3 B5 iV5 bw z2 iV;haveI b6:=B6.fr';haveI iV6:=B6.vb 2 rfl;haveI B6':=B6;refine bgj (fun w'=>Below w6.heap.size w6 w') [9,10,11] je (zbh) (fun hHeld=>?_);simp only[List.size_toArray,List.length_cons,List.length_nil,Nat.reduceAdd,Array.replicate_succ,Array.replicate_zero,List.push_toArray,List.nil_append,List.cons_append];refine tk 0 70 [1,9,10,11] ?_;refine tk 1 71 [9,10,11] ?_;refine tk 2 72 [5,6,7,8,9,10,11] ?_;refine tk 3 73 [4,5,6,7,8,9,10,11] ?_;refine tk 4 74 [5,6,7,8,9,10,11] ?_;refine tk 5 75 [6,7,8,9,10,11] ?_;refine tk 6 76 [7,8,9,10,11] ?_;refine tk 7 77 [8,9,10,11] ?_;refine stj 8 (h:=fun K hK=>?_);go_simp;refine hK.out _ _ (Or.inr zbh) ?_;clear hK K
            try simp only[List.setIfInBounds_toArray,List.set_cons_zero,List.set_cons_succ]
            refine stj 9 (h:=fun K hK=>?_);refine zEg 25 37 (.int .u64 0) 1 8 jA _ _ jA w 4 jA jA _ [.int .u64 (y:Int)] jA jA (fun j u hu=>by match j,hu with | 0,hu=>(injection hu with hu;rw[←hu];go_simp)) (fun u hu=>by rw[List.mem_singleton.1 hu];rfl) ?_ ja _ jA ?_
            · exact j0
            intro v8 w8 B8 hv8;obtain⟨o8,c8,rfl⟩:=zA3 (B8.own 4 rfl);haveI iM8:=B8.vb 2 rfl;refine hK.out _ _ (Or.inl ja) ?_;clear hK K
            try simp only[Act.put,List.setIfInBounds_toArray,List.set_cons_zero,List.set_cons_succ]
            refine stj 10 (h:=fun K hK=>?_);go_simp;refine hK.out _ _ (Or.inl ja) ?_;clear hK K
            try simp only[List.setIfInBounds_toArray,List.set_cons_zero,List.set_cons_succ]
            refine stj 11 (h:=fun K hK=>?_);go_simp;refine hK.out _ _ (Or.inl ja) ?_;clear hK K
            try simp only[List.setIfInBounds_toArray,List.set_cons_zero,List.set_cons_succ]
            refine enj je ?_ _;have B9:=B8.put 2 rfl 4 (.slice o8 (q+1) c8);rw[←zNk X q y]at B9;have e1:zA2 I++ [Value.int .i64 (i:Int)]=zA2 (I++ [i]):=(by rw[zAn];rfl);rw[e1]at B9;go_wp2_with fail;go_roundw
            case rel=>exact⟨i+1,I++ [i],_,q+1,_,_,j0,jm,j0,HG.out.put,HC.out.put HG.out HN.out,HX.out.up HFy.out,B9⟩
            case measure=>exact jb
        · have hir:i=r:=j0;rw[hir]at HG HC;obtain⟨oS,cS,rfl⟩:=zA3 (iB.own 1 rfl);obtain⟨oI,cI,rfl⟩:=zA3 (iB.own 3 rfl);obtain⟨oV,cV,rfl⟩:=zA3 (iB.own 4 rfl);haveI B3:=@Bag.al _ _ _ (.cells #[.int .i64 q] 3) iB;clear iB;go_wp2_with (at_builtin;refine zBm 24 3 (.int .i64 0) 8 rfl _ _ rfl w 1 rfl rfl _ (.int .i64 (q:Int)) rfl rfl jj j0 j0 ?_;intro v5 w5 B5;obtain⟨o5,c5,rfl⟩:=zA3 (B5.own 1 rfl);haveI iV5:=B5.vb 2 rfl);have B6:Bag w _ [box w.heap.size 69 [.int .i64 0,.int .i64 0,.slice none 0 0,.slice none 0 0,.slice none 0 0],row 3 1 (.slice o5 (j+1+1) c5) (j+1+1) (zA2 S++ [.int .i64 (q:Int)]),box (w.heap.size+1+1) 69 [.int .i64 r,.int .i64 c,.slice o5 (j+1+1) c5,.slice oI q cI,.slice oV q cV],row 3 1 (.slice oI q cI) q (zA2 I),row 37 1 (.slice oV q cV) q (zBh X q),arr (w.heap.size+1+1+1) 3 M fun p=>.int .i64 ((zCI r E k p:Nat):Int)]:=B5.put 2 rfl 2 (.slice o5 (j+1+1) c5);have e1:zA2 S++ [Value.int .i64 (q:Int)]=zA2 (S++ [q]):=(by rw[zAn];rfl);rw[e1]at B6;go_roundw
          case rel=>exact⟨j+1,S++ [q],I,X,q,_,_,_,j0,jm,by rw[Nat.add_mul,Nat.one_mul,←HPj.out];omega,HG.out.close j0,HC.out.close HG.out,HX.out,B6⟩
          case measure=>exact jb
     · obtain rfl:j=c:=j0;have hIq:=HG.out.il;have hSl:=HG.out.sl;obtain⟨aS,cS,rfl,zS⟩:=zBF (v:=vS) (l:=S) (by rw[hSl];exact iB.own 1 rfl) hSl;obtain⟨aI,cI,rfl,zI⟩:=zBF (v:=vI) (l:=I) (by rw[hIq];exact iB.own 3 rfl) hIq;obtain⟨aV,cV,rfl,zV⟩:=zDZ (iB.own 4 rfl) (fun i _=>(HX.out i).1);haveI iV0:=iB.vb 0 rfl;have BZ:=iB.put5 (k:=0) rfl (.int .i64 r) (.int .i64 j) (.slice aS (j+1) cS) (.slice aI q cI) (.slice aV q cV);have bz:=BZ.fr';go_wp2_with fail;refine bodyPost_ret (v:=.agg #[.int .i64 r,.int .i64 j,.slice aS (j+1) cS,.slice aI q cI,.slice aV q cV]) (by simp only[results,Tryz.results140];go_simp) rfl ?_;obtain⟨_,_,e1,zS,bS⟩:=zAP (v:=.slice aS (j+1) cS) (l:=S) (BZ.own 1 rfl);obtain⟨_,_,e2,zI,bI⟩:=zAP (v:=.slice aI q cI) (l:=I) (BZ.own 3 rfl);obtain⟨_,_,e3,zV,bV⟩:=zOW (BZ.own 4 rfl) (fun i _=>(HX.out i).1);injection e1 with e11 _ e13;injection e2 with e21 _ e23;injection e3 with e31 _ e33
       subst e11 e13 e21 e23 e31 e33;refine⟨_,_,_,q,_,_,_,_,_,X,rfl,⟨zS,zI,zV,HG.out.val HX.out⟩,Nat.le_trans hq (Nat.mul_le_mul hc hr),fun i t hi ht=>HC.out.c t i ht hi,?_⟩;exact(((BZ.to 1 rfl (fun _=>zS) fun g hg=>by rw[←hg.2];exact bS hg.1).to 3 rfl (fun _=>zI) fun g hg=>by rw[←hg.2];exact bI hg.1).to 4 rfl (fun _=>zV) fun g hg=>by rw[←hg.2];exact bV hg.1).sub ((((((List.nil_sublist _).cons_cons _).cons_cons _).cons _).cons_cons _).cons _)
end Go.Proofs.YtmbkgapknoammaaGreatDoor

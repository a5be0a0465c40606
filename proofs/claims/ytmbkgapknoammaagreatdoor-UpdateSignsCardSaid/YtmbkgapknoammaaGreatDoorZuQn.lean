/-
  Walks: three lists in a struct; package sparsegen: General.
-/
import Derived.Test.YtmbkgapknoammaaGreatDoorZuPz
import Derived.Test.YtmbkgapknoammaaGreatDoorZuGq
import Derived.Test.YtmbkgapknoammaaGreatDoorZuGi
import Derived.Test.YtmbkgapknoammaaGreatDoorZuBe
import Derived.Test.YtmbkgapknoammaaGreatDoorZuRz
set_option maxRecDepth 100000
set_option maxHeartbeats 20000000
namespace Go.Proofs.YtmbkgapknoammaaGreatDoor
open Go.RowKit Sp
theorem zCw{v u:Value}(h:v.ownBlock=none∨v.ownBlock≠u.ownBlock):u.ownBlock=none∨u.ownBlock≠v.ownBlock:=by
 rcases h with h | h
 · rcases hu:u.ownBlock with _ | g
   · exact Or.inl rfl
   · exact Or.inr (by rw[h];simp)
 · exact Or.inr fun e=>h e.symm
theorem zFL{w:World}{base:Nat}{e:TypeId}{s n:Nat}{xs:List Value}{v u u':Value}(h:w.ownsRow base e s v n xs)(hob:u'.ownBlock=u.ownBlock∨u'.ownBlock=some w.heap.size)(ne:v.ownBlock=none∨v.ownBlock≠u.ownBlock):v.ownBlock=none∨v.ownBlock≠u'.ownBlock:=by
 rcases hob with q | q
 · rw[q];exact ne
 · rcases hv:v.ownBlock with _ | g
   · exact Or.inl rfl
   · refine Or.inr fun e=>?_;have h1:=(h.lt g hv).2;rw[q]at e;injection e with e;omega
theorem zBH{w:World}{base:Nat}{e:TypeId}{s n:Nat}{xs:List Value}{v:Value}(h:w.ownsRow base e s v n xs){b:Nat}(hb:b<base):some b≠v.ownBlock:=fun q=>by have:=(h.lt b q.symm).1;omega
theorem zGo{w:World}{base:Nat}{e:TypeId}{s n:Nat}{xs:List Value}{v:Value}(h:w.ownsRow base e s v n xs){b:Nat}(hb:some b≠v.ownBlock)(i:Nat)(u:Value):(w.setCell ⟨b,i,none⟩ u).ownsRow base e s v n xs:=
 h.kept (zBK (zCP w b) i u) (Or.inr hb.symm)
theorem N5.grown{W W':World}{b:Nat}{x0 x1 x2 x3 x4:Value}(h:N5 W b x0 x1 x2 x3 x4){row:Option Nat}(hg:W.grownBy W' row)(hne:some b≠row):N5 W' b x0 x1 x2 x3 x4:=by
 have hblk:=hg.block b h.lt hne;have hc:∀i,W'.cell? ⟨b,i,none⟩=W.cell? ⟨b,i,none⟩:=fun i=>World.cell?_of_block (a:=⟨b,i,none⟩) hblk;exact⟨(hc 0).trans h.c0,(hc 1).trans h.c1,(hc 2).trans h.c2,(hc 3).trans h.c3,(hc 4).trans h.c4,fun i=>(World.frozen?_of_block (a:=⟨b,i,none⟩) hblk).trans (h.z i),Nat.lt_of_lt_of_le h.lt hg.size⟩
theorem N5.st(W:World)(b g i:Nat)(v x0 x1 x2 x3 x4:Value)(h:N5 W b x0 x1 x2 x3 x4)(k:b≠g):N5 (W.setCell ⟨g,i,none⟩ v) b x0 x1 x2 x3 x4:=by haveI:=NB.mk k;exact N5.sen
section
variable {W:World}{b:Nat}{x0 x1 x2 x3 x4:Value}
theorem N5.se2(h:N5 W b x0 x1 x2 x3 x4)(y:Value):N5 (W.setCell ⟨b,2,none⟩ y) b x0 x1 y x3 x4:=by
 obtain⟨c0,c1,c2,c3,c4,c5,c6⟩:=h;exact⟨jj,jj,jj,jj,jj,fun i=>jj,Xa⟩
theorem N5.se3(h:N5 W b x0 x1 x2 x3 x4)(y:Value):N5 (W.setCell ⟨b,3,none⟩ y) b x0 x1 x2 y x4:=by
 obtain⟨c0,c1,c2,c3,c4,c5,c6⟩:=h;exact⟨jj,jj,jj,jj,jj,fun i=>jj,Xa⟩
theorem N5.se4(h:N5 W b x0 x1 x2 x3 x4)(y:Value):N5 (W.setCell ⟨b,4,none⟩ y) b x0 x1 x2 x3 y:=by
 obtain⟨c0,c1,c2,c3,c4,c5,c6⟩:=h;exact⟨jj,jj,jj,jj,jj,fun i=>jj,Xa⟩
end
class R3(w:World)(base b:Nat)(vS vI vV:Value)(S I:outParam (List Nat))(F:outParam (Nat→Nat))(q:outParam Nat):Prop where
 os:w.ownsRow base 3 1 vS S.length (zA2 S)
 oi:w.ownsRow base 3 1 vI I.length (zA2 I)
 ov:w.ownsRow base 37 1 vV q (zBh F q)
 n1:vS.ownBlock=none∨vS.ownBlock≠vI.ownBlock
 n2:vS.ownBlock=none∨vS.ownBlock≠vV.ownBlock
 n3:vI.ownBlock=none∨vI.ownBlock≠vV.ownBlock
 bS:some b≠vS.ownBlock
 bI:some b≠vI.ownBlock
 bV:some b≠vV.ownBlock
 lt:b<w.heap.size
theorem zMG{w:World}{b:Nat}{v u:Value}(h:some b≠v.ownBlock)(lt:b<w.heap.size)(hob:u.ownBlock=v.ownBlock∨u.ownBlock=some w.heap.size):some b≠u.ownBlock:=by
 rcases hob with q | q
 · rw[q];exact h
 · rw[q];intro e;injection e with e;omega
section
variable {w w':World}{base b:Nat}{vS vI vV u:Value}{S I:List Nat}{F:Nat→Nat}{q:Nat}
theorem R3.below(h:R3 w base b vS vI vV S I F q)(hb:Below w.heap.size w w'):R3 w' base b vS vI vV S I F q:=⟨zB4 h.os hb,zB4 h.oi hb,zB4 h.ov hb,h.n1,h.n2,h.n3,h.bS,h.bI,h.bV,Nat.lt_of_lt_of_le h.lt hb.size⟩
instance R3.dr[h:R3 w base b vS vI vV S I F q]:R3 w.drew base b vS vI vV S I F q:=h.below (Below.refl _ _).drew
instance R3.dn(k:Nat)[h:R3 w base b vS vI vV S I F q]:R3 (w.drewN k) base b vS vI vV S I F q:=h.below (below_drewN (Below.refl _ _) _)
instance R3.al(o:Obj)[h:R3 w base b vS vI vV S I F q]:R3 (w.alloc o) base b vS vI vV S I F q:=h.below ((Below.refl _ _).alloc (Nat.le_refl _) _)
instance R3.fr(L:World)[f:From L w][h:R3 L base b vS vI vV S I F q]:R3 w base b vS vI vV S I F q:=h.below f.out
theorem R3.sen(h:R3 w base b vS vI vV S I F q){g:Nat}(hb:g=b∨g<base)(i:Nat)(y:Value):R3 (w.setCell ⟨g,i,none⟩ y) base b vS vI vV S I F q:=
 ⟨zGo h.os (by rcases hb with rfl | hb;exact h.bS;exact zBH h.os hb) i y,zGo h.oi (by rcases hb with rfl | hb;exact h.bI;exact zBH h.oi hb) i y,zGo h.ov (by rcases hb with rfl | hb;exact h.bV;exact zBH h.ov hb) i y,h.n1,h.n2,h.n3,h.bS,h.bI,h.bV,jW⟩
theorem R3.appI(h:R3 w base b vS vI vV S I F q){i n:Nat}(hn:I.length=n)(ho:w'.ownsRow base 3 1 u (n+1) (zA2 I++ [.int .i64 ((i:Nat):Int)]))(hg:w.grownBy w' vI.ownBlock)(hob:u.ownBlock=vI.ownBlock∨u.ownBlock=some w.heap.size):R3 w' base b vS u vV S (I++ [i]) F q:=
 ⟨h.os.kept hg h.n1,by rw[zAn,List.length_append,hn];exact ho,h.ov.kept hg (zCw h.n3),zFL h.os hob h.n1,h.n2,zCw (zFL h.ov hob (zCw h.n3)),h.bS,zMG h.bI h.lt hob,h.bV,Nat.lt_of_lt_of_le h.lt hg.size⟩
theorem R3.appS(h:R3 w base b vS vI vV S I F q){i n:Nat}(hn:S.length=n)(ho:w'.ownsRow base 3 1 u (n+1) (zA2 S++ [.int .i64 ((i:Nat):Int)]))(hg:w.grownBy w' vS.ownBlock)(hob:u.ownBlock=vS.ownBlock∨u.ownBlock=some w.heap.size):R3 w' base b u vI vV (S++ [i]) I F q:=
 ⟨by rw[zAn,List.length_append,hn];exact ho,h.oi.kept hg (zCw h.n1),h.ov.kept hg (zCw h.n2),zCw (zFL h.oi hob (zCw h.n1)),zCw (zFL h.ov hob (zCw h.n2)),h.n3,zMG h.bS h.lt hob,h.bI,h.bV,Nat.lt_of_lt_of_le h.lt hg.size⟩
theorem R3.appV(h:R3 w base b vS vI vV S I F q){y:Nat}(ho:w'.ownsRow base 37 1 u (q+1) (zBh F q++ [.int .u64 ((y:Nat):Int)]))(hg:w.grownBy w' vV.ownBlock)(hob:u.ownBlock=vV.ownBlock∨u.ownBlock=some w.heap.size):R3 w' base b vS vI u S I (fun t=>if t=q then y else F t) (q+1):=by
 refine⟨h.os.kept hg h.n2,h.oi.kept hg h.n3,?_,h.n1,zFL h.os hob h.n2,zFL h.oi hob h.n3,h.bS,h.bI,zMG h.bV h.lt hob,Nat.lt_of_lt_of_le h.lt hg.size⟩;have e:zBh (fun t=>if t=q then y else F t) (q+1)=zBh F q++ [.int .u64 ((y:Nat):Int)]:=by
  show zBh _ q++ [.int .u64 (((if q=q then y else F q:Nat)):Int)]=_;rw[if_pos rfl,zFg (L:=fun t=>if t=q then y else F t) (L':=F) fun i hi=>if_neg j0]
 rw[e];exact ho
end
theorem R3.start(w:World)(base:Nat)(hb:base≤w.heap.size)(o:Obj)(X:Nat→Nat){n n1:Nat}(hn:n=w.heap.size)(hn1:n1=w.heap.size+1):R3 ((w.alloc (.cells #[.int .i64 0] 3)).alloc o) base n1 (.slice (some ⟨n,0,none⟩) 1 1) (.slice none 0 0) (.slice none 0 0) [0] [] X 0:=by
 subst hn hn1;exact⟨(World.ownsRow_lit w #[.int .i64 0] 1 hb jJ rfl).alloc o,World.ownsRow_nil _ _ _ _,World.ownsRow_nil _ _ _ _,Or.inr Q5,Or.inr Q5,Or.inl rfl,Q5,Q5,Q5,jz⟩
theorem w3{P k:Nat}(hP:P≤4096)(hk:k≤64):0≤wrap64 (wrap64 (100+wrap64 (P:Int))+(k:Int))∧wrap64 (wrap64 (100+wrap64 (P:Int))+(k:Int))≤1000000:=jD
theorem zBF{w:World}{base:Nat}{v:Value}{l:List Nat}{n:Nat}(h:w.ownsRow base 3 1 v l.length (zA2 l))(hl:l.length=n):∃a cap,v=.slice a n cap∧Ils w a n cap (fun t=>((l.getD t 0:Nat):Int)):=by
 subst hl;rcases zOX h with⟨h0,rfl⟩ | ⟨g,cap,rfl,hb,hg,hc,hm,hcell⟩
 · rw[h0];exact⟨none,0,rfl,⟨j0,j0,j0,fun i hi=>j0,j0⟩⟩
 · exact⟨_,cap,rfl,⟨hc,hm,fun _=>rfl,fun i hi=>by
    show w.cell? ⟨g,0+i,none⟩=_;rw[Nat.zero_add];refine(hcell i hi).trans (zD6 ?_);rw[List.getD_eq_getElem?_getD,List.getElem?_eq_getElem hi];rfl,fun _=>hg⟩⟩
def SX(s:Int)(X:Nat→Nat):Prop:=∀i,Sty s (X i)
theorem SX.up{s:Int}{X:Nat→Nat}(h:SX s X){k y:Nat}(h1:Sty s y):SX s (fun i=>if i=k then y else X i):=fun i=>by
 show Sty s (if i=k then y else X i)
 split
 · exact h1
 · exact h i
theorem Sty.zero(s:Int):Sty s 0:=⟨ja,ja,fun _=>ja⟩
theorem SX.zero(s:Int):SX s fun _=>0:=fun _=>Sty.zero s
theorem SX.fin{s:Int}{X:Nat→Nat}(h:SX s X)(i:Nat):X i<18446744073709551616∧zAA (X i)=true:=⟨(h i).1,(h i).2.1⟩
class MX(w:World)(r c:Nat)(aS:Option Addr)(cS:Nat)(aI:Option Addr)(q cI:Nat)(aV:Option Addr)(cV:Nat)(S I F:outParam (Nat→Nat)):Prop where
 s:Ils w aS (c+1) cS (fun t=>((S t:Nat):Int))
 i:Ils w aI q cI (fun t=>((I t:Nat):Int))
 v:Fls w aV q cV F
 ok:Val r c q S I F
section
variable {w w':World}{r c q cS cI cV:Nat}{aS aI aV:Option Addr}{S I F:Nat→Nat}
theorem MX.below(h:MX w r c aS cS aI q cI aV cV S I F)(hb:Below w.heap.size w w'):MX w' r c aS cS aI q cI aV cV S I F:=⟨h.s.below hb,h.i.below hb,h.v.below hb,h.ok⟩
instance MX.dr[h:MX w r c aS cS aI q cI aV cV S I F]:MX w.drew r c aS cS aI q cI aV cV S I F:=h.below (Below.refl _ _).drew
instance MX.dn(k:Nat)[h:MX w r c aS cS aI q cI aV cV S I F]:MX (w.drewN k) r c aS cS aI q cI aV cV S I F:=h.below (below_drewN (Below.refl _ _) _)
instance MX.al(o:Obj)[h:MX w r c aS cS aI q cI aV cV S I F]:MX (w.alloc o) r c aS cS aI q cI aV cV S I F:=h.below ((Below.refl _ _).alloc (Nat.le_refl _) _)
instance MX.fr(L:World)[f:From L w][h:MX L r c aS cS aI q cI aV cV S I F]:MX w r c aS cS aI q cI aV cV S I F:=h.below f.out
end
theorem zCb{ops:Array Oper}{o:Oper}{a:Act}{K:Act→World→Prop}{Q:Exit→Act→World→Prop}{w:World}{E:Prop}(hgd:o.guard=none)(s x:Operand)
 (ho:o.op=.call { callee:=.builtin .append,args:=#[s,x],argTypes:=#[25,25] }) (base:Nat) (v:Value) (n:Nat) (xs:List Value) (hs:a.eval s=v) (g:Nat) (d:Int)
 (hx:a.eval x=.slice (some ⟨g,0,none⟩) 1 1) (hown:w.ownsRow base 37 1 v n xs) (hcell:w.cell? ⟨g,0,none⟩=some (.int .u64 d)) (hn:n≤1048576)
 (hbase:base≤w.heap.size) (h:∀g' cap' w',w'.ownsRow base 37 1 (.slice (some ⟨g',0,none⟩) (n+1) cap') (n+1) (xs++ [.int .u64 d])→w.grownBy w' v.ownBlock→((Value.slice (some ⟨g',0,none⟩) (n+1) cap').ownBlock=v.ownBlock∨(Value.slice (some ⟨g',0,none⟩) (n+1) cap').ownBlock=some w.heap.size)→K (a.put o.dst (.slice (some ⟨g',0,none⟩) (n+1) cap')) w') :
 if Region.wanted o (yielded ops a.tmps)=true then Oper.wp Tryz.prog o a w K Q else E:=by
 obtain⟨i0,hi,hz0,hz1,hz2⟩:=info_parts zT2;refine step_append_lies w hgd s x _ ho base _ i0 _ 1 8 zOj hi hz0 hz1 hz2 rfl ja v n xs hs hown ⟨g,0,none⟩ 1 1 [.int .u64 d] hx rfl ?_ ?_ ja jJ j0 hbase _ rfl (fun g' cap' w' h1 h2 h3 _=>h g' cap' w' h1 h2 ?_)
 · intro j u hu;have:j=0:=by
    rcases Nat.eq_zero_or_pos j with h | h
    · exact h
    · rw[List.getElem?_eq_none jq]at hu;cases hu
   subst this;simp at hu;subst hu;rw[Addr.add_zero'];exact hcell
 · exact Ks
 · have e:(Value.slice (some ⟨g',0,none⟩) (n+1) cap').ownBlock=some g':=rfl;rw[e];rcases h3 with h3 | h3
   · exact Or.inl h3.symm
   · exact Or.inr (by rw[h3])
theorem zHB(w:World)[Tb w](a:Option Addr)(n cap:Nat)(L:Nat→Nat)[hL:FZ w a n cap L](r c:Nat)(hr:r≤64)(hc:c≤64)(s:Int):Calls Tryz.prog 76 #[.slice a n cap,.int .i64 r,.int .i64 c,.int .i64 s] w fun o w'=>∃aS cS aI q cI aV cV S I X,o=.returned (.agg #[.int .i64 r,.int .i64 c,.slice aS (c+1) cS,.slice aI q cI,.slice aV q cV])∧MX w' r c aS cS aI q cI aV cV S I X∧SX s X∧q≤4096∧Below w.heap.size w w':=by
 have HW:=fun W k (h0:0≤k) (hk:k≤1000000) [i:FZ W a n cap L]=>Lib.hid (zTl (zFa W a n cap L i.out k h0 hk));have HN:=fun W x (hx:x<18446744073709551616) [Tb W]=>Lib.hid (zTD (zJT W x hx s tb));go_enter Tryz.func76,Tryz.ntmps76;go_wp2_with fail
 go_loopw [10] (fun i wr=>∃(j:Nat) (vS vI vV:Value) (S I:List Nat) (X:Nat→Nat) (q:Nat),j≤c∧i=.int .i64 j∧q≤j*r∧GV r j 0 S I q∧SX s X∧R3 wr (w.heap.size+1) (w.heap.size+1+1) vS vI vV S I X q∧N5 wr (w.heap.size+1+1) (.int .i64 r) (.int .i64 c) vS vI vV∧N5 wr w.heap.size (.int .i64 0) (.int .i64 0) (.slice none 0 0) (.slice none 0 0) (.slice none 0 0)∧Below w.heap.size w wr∧w.heap.size+3≤wr.heap.size) (fun i _=>c-(intOf i).toNat)
 case atStart=>
  have h0:=R3.start (w.alloc (.cells #[.int .i64 0,.int .i64 0,.slice none 0 0,.slice none 0 0,.slice none 0 0] 69)) (w.heap.size+1) jz (.cells #[.int .i64 r,.int .i64 c,.slice (some ⟨w.heap.size+1,0,none⟩) 1 1,.slice none 0 0,.slice none 0 0] 69) (fun _=>0) (n:=w.heap.size+1) (n1:=w.heap.size+1+1) jz jz;exact⟨0,_,_,_,[0],[],fun _=>0,0,j0,rfl,j0,GV.start r,SX.zero s,h0,inferInstance,inferInstance,zbh,jz⟩
 case round=>
  obtain⟨j,vS,vI,vV,S,I,X,q,hj,rfl,hq,hG,hF,iM,iB,iR,hbr,hsz⟩:=hrel
  by_cases hlt:j<c
  · have HG:=Lib.hid hG;have HF:=Lib.hid hF;clear hG hF;obtain⟨P,hP⟩:∃P,P=j*r:=⟨_,rfl⟩;have hP1:P≤4096:=(by rw[hP];exact Nat.mul_le_mul (show j≤64 by omega) hr);have hP2:P+r≤4096:=(by rw[hP,show j*r+r=(j+1)*r by rw[Nat.add_mul,Nat.one_mul]];exact Nat.mul_le_mul (show j+1≤64 by omega) hr);have HP:=Lib.hid hP;have hN:(j:Int)*(r:Int)=(P:Int):=(by rw[hP];exact(Int.natCast_mul j r).symm);rw[←hP]at hq;clear hP;go_wp2_with fail
    go_loopw [11] (fun i wr=>∃(k:Nat) (vI vV:Value) (I:List Nat) (X:Nat→Nat) (q:Nat),k≤r∧i=.int .i64 k∧q≤P+k∧GV r j k S I q∧SX s X∧R3 wr (w.heap.size+1) (w.heap.size+1+1) vS vI vV S I X q∧N5 wr (w.heap.size+1+1) (.int .i64 r) (.int .i64 c) vS vI vV∧N5 wr w.heap.size (.int .i64 0) (.int .i64 0) (.slice none 0 0) (.slice none 0 0) (.slice none 0 0)∧Below w.heap.size w wr∧w.heap.size+3≤wr.heap.size) (fun i _=>r-(intOf i).toNat)
    case atStart=>exact⟨0,vI,vV,I,X,q,j0,rfl,j0,HG.out,HF.out,iM,iB,iR,hbr,hsz⟩
    case round=>
     clear hq iM iB iR hbr hsz HG HF;obtain⟨k,vI,vV,I,X,q,hk,rfl,hq,hG,hF,iM,iB,iR,hbr,hsz⟩:=hrel;have hIq:=hG.il;have hSl:=hG.sl;have HG:=Lib.hid hG;have HF:=Lib.hid hF;clear hG hF;haveI bw:From w wr:=⟨hbr⟩
     by_cases hkr:k<r
     · go_wp2_with fail;refine(HW _ (100+(P:Int)+(k:Int)) j0 j0).out.mono ?_;rintro o w1 ⟨x,hx,rfl,b1⟩;have e1:=b1.out.size
       by_cases hx3:0<x/1099511627776%3
       · have A1:Hid (R3 (w1.alloc (.cells #[.int .i64 k] 3)) (w.heap.size+1) (w.heap.size+1+1) vS vI vV S I X q):=Lib.hid inferInstance;have A2:Hid (N5 (w1.alloc (.cells #[.int .i64 k] 3)) (w.heap.size+1+1) (.int .i64 r) (.int .i64 c) vS vI vV):=Lib.hid inferInstance;have A3:Hid (N5 (w1.alloc (.cells #[.int .i64 k] 3)) w.heap.size (.int .i64 0) (.int .i64 0) (.slice none 0 0) (.slice none 0 0) (.slice none 0 0)):=Lib.hid inferInstance;have A4:Hid (Below w.heap.size w (w1.alloc (.cells #[.int .i64 k] 3))):=Lib.hid zbh;go_wp2_with (at_builtin;refine zCF rfl _ _ rfl (w.heap.size+1) vI q (zA2 I) rfl _ (k:Int) rfl Qf jj j0 jq ?_;intro v5 w5 hown5 hg5 hob5;obtain⟨o5,c5,rfl⟩:=zA3 hown5;haveI B5:N5 w5 (w.heap.size+1+1) (.int .i64 r) (.int .i64 c) vS vI vV:=N5.grown A2.out hg5 A1.out.bI);have e5:=hg5.size;simp at e5;have M6:R3 (w5.setCell ⟨w.heap.size+1+1,3,none⟩ (.slice o5 (q+1) c5)) (w.heap.size+1) (w.heap.size+1+1) vS (.slice o5 (q+1) c5) vV S (I++ [k]) X q:=(A1.out.appI hIq hown5 hg5 hob5).sen (Or.inl rfl) 3 (.slice o5 (q+1) c5);have B6:N5 (w5.setCell ⟨w.heap.size+1+1,3,none⟩ (.slice o5 (q+1) c5)) (w.heap.size+1+1) (.int .i64 r) (.int .i64 c) vS (.slice o5 (q+1) c5) vV:=B5.se3 (.slice o5 (q+1) c5);have R6:N5 (w5.setCell ⟨w.heap.size+1+1,3,none⟩ (.slice o5 (q+1) c5)) w.heap.size (.int .i64 0) (.int .i64 0) (.slice none 0 0) (.slice none 0 0) (.slice none 0 0):=N5.st _ _ _ _ _ _ _ _ _ _ (N5.grown A3.out hg5 (zBH A1.out.oi j0)) j0;have L6:From w (w5.setCell ⟨w.heap.size+1+1,3,none⟩ (.slice o5 (q+1) c5)):=⟨(A4.out.trans ((zAt A1.out.oi hg5 jq).mono j0)).setCell jq _⟩;have e6:w.heap.size+3≤(w5.setCell ⟨w.heap.size+1+1,3,none⟩ (.slice o5 (q+1) c5)).heap.size:=K8;clear A1 A2 A3 A4 B5 hown5 hg5 hob5 e5 iM iB iR hbr bw b1;generalize (w5.setCell ⟨w.heap.size+1+1,3,none⟩ (.slice o5 (q+1) c5))=w6 at *
         first
         | go_region_law (first
          | (refine zCb jA _ _ jA (w.heap.size+1) vV q (zBh X q) jA _ (y:Int) jA (inferInstance:R3 (w7.alloc (.cells #[.int .u64 y] 37)) (w.heap.size+1) (w.heap.size+1+1) vS (.slice o5 (q+1) c5) vV S (I++ [k]) X q).ov jj j0 (by have e7:=b7.out.size;simp at e7 ⊢;omega) ?_;intro g8 cap8 w8 hown8 hg8 hob8;have A1:Hid (R3 (w7.alloc (.cells #[.int .u64 y] 37)) (w.heap.size+1) (w.heap.size+1+1) vS (.slice o5 (q+1) c5) vV S (I++ [k]) X q):=Lib.hid inferInstance;have A3:Hid (N5 (w7.alloc (.cells #[.int .u64 y] 37)) w.heap.size (.int .i64 0) (.int .i64 0) (.slice none 0 0) (.slice none 0 0) (.slice none 0 0)):=Lib.hid inferInstance;have A4:Hid (Below w.heap.size w (w7.alloc (.cells #[.int .u64 y] 37))):=Lib.hid zbh;haveI B8:N5 w8 (w.heap.size+1+1) (.int .i64 r) (.int .i64 c) vS (.slice o5 (q+1) c5) vV:=N5.grown (inferInstance:N5 (w7.alloc (.cells #[.int .u64 y] 37)) (w.heap.size+1+1) (.int .i64 r) (.int .i64 c) vS (.slice o5 (q+1) c5) vV) hg8 A1.out.bV)
          | (go_simp;go_wp2_with (go_at_call 67;refine(HN _ x hx).out.mono ?_;rintro o w7 ⟨y,hy,rfl,b7⟩))
          | fail)
         | fail "region"
         all_goals(
          have e7:=b7.out.size;have e8:=hg8.size;simp at e7 e8;have M9:=(A1.out.appV hown8 hg8 hob8).sen (g:=w.heap.size+1+1) (Or.inl rfl) 4 (.slice (some ⟨g8,0,none⟩) (q+1) cap8);have B9:=B8.se4 (.slice (some ⟨g8,0,none⟩) (q+1) cap8);have R9:N5 (w8.setCell ⟨w.heap.size+1+1,4,none⟩ (.slice (some ⟨g8,0,none⟩) (q+1) cap8)) w.heap.size (.int .i64 0) (.int .i64 0) (.slice none 0 0) (.slice none 0 0) (.slice none 0 0):=N5.st _ _ _ _ _ _ _ _ _ _ (N5.grown A3.out hg8 (zBH A1.out.ov j0)) j0;have L9:Below w.heap.size w (w8.setCell ⟨w.heap.size+1+1,4,none⟩ (.slice (some ⟨g8,0,none⟩) (q+1) cap8)):=(A4.out.trans ((zAt A1.out.ov hg8 jq).mono j0)).setCell jq _;have e9:w.heap.size+3≤(w8.setCell ⟨w.heap.size+1+1,4,none⟩ (.slice (some ⟨g8,0,none⟩) (q+1) cap8)).heap.size:=K8;have HX9:=HF.out.up (k:=q) hy;generalize (w8.setCell ⟨w.heap.size+1+1,4,none⟩ (.slice (some ⟨g8,0,none⟩) (q+1) cap8))=w9 at *;clear A1 A3 A4 B8 hown8 hg8 hob8;go_wp2_with fail;go_roundw
          case rel=>exact⟨k+1,_,_,_,_,q+1,j0,jm,j0,HG.out.put,HX9,M9,B9,R9,L9,e9⟩
          case measure=>simp[intOf];omega)
       · go_wp2_with fail;go_roundw
         case rel=>exact⟨k+1,vI,vV,I,X,q,j0,jm,j0,HG.out.skip,HF.out,inferInstance,inferInstance,inferInstance,zbh,j0⟩
         case measure=>exact jb
     · have hkr':k=r:=j0;obtain⟨aI,cI,rfl,zI⟩:=zBF iM.oi hIq;clear zI;have A1:Hid (R3 (wr.alloc (.cells #[.int .i64 q] 3)) (w.heap.size+1) (w.heap.size+1+1) vS (.slice aI q cI) vV S I X q):=Lib.hid inferInstance;have A2:Hid (N5 (wr.alloc (.cells #[.int .i64 q] 3)) (w.heap.size+1+1) (.int .i64 r) (.int .i64 c) vS (.slice aI q cI) vV):=Lib.hid inferInstance;have A3:Hid (N5 (wr.alloc (.cells #[.int .i64 q] 3)) w.heap.size (.int .i64 0) (.int .i64 0) (.slice none 0 0) (.slice none 0 0) (.slice none 0 0)):=Lib.hid inferInstance;have A4:Hid (Below w.heap.size w (wr.alloc (.cells #[.int .i64 q] 3))):=Lib.hid zbh;have hS1:=hSl;go_wp2_with (at_builtin;refine zCF rfl _ _ rfl (w.heap.size+1) vS (j+1) (zA2 S) rfl _ (q:Int) rfl (by have h:=A1.out.os;rw[hS1]at h;exact h) jj j0 jq ?_;intro v5 w5 hown5 hg5 hob5;obtain⟨o5,c5,rfl⟩:=zA3 hown5;haveI B5:N5 w5 (w.heap.size+1+1) (.int .i64 r) (.int .i64 c) vS (.slice aI q cI) vV:=N5.grown A2.out hg5 A1.out.bS);have e5:=hg5.size;simp at e5;have M6:R3 (w5.setCell ⟨w.heap.size+1+1,2,none⟩ (.slice o5 (j+1+1) c5)) (w.heap.size+1) (w.heap.size+1+1) (.slice o5 (j+1+1) c5) (.slice aI q cI) vV (S++ [q]) I X q:=(A1.out.appS hS1 hown5 hg5 hob5).sen (Or.inl rfl) 2 (.slice o5 (j+1+1) c5);have B6:N5 (w5.setCell ⟨w.heap.size+1+1,2,none⟩ (.slice o5 (j+1+1) c5)) (w.heap.size+1+1) (.int .i64 r) (.int .i64 c) (.slice o5 (j+1+1) c5) (.slice aI q cI) vV:=B5.se2 (.slice o5 (j+1+1) c5);have R6:N5 (w5.setCell ⟨w.heap.size+1+1,2,none⟩ (.slice o5 (j+1+1) c5)) w.heap.size (.int .i64 0) (.int .i64 0) (.slice none 0 0) (.slice none 0 0) (.slice none 0 0):=N5.st _ _ _ _ _ _ _ _ _ _ (N5.grown A3.out hg5 (zBH A1.out.os j0)) j0;have L6:Below w.heap.size w (w5.setCell ⟨w.heap.size+1+1,2,none⟩ (.slice o5 (j+1+1) c5)):=(A4.out.trans ((zAt A1.out.os hg5 jq).mono j0)).setCell jq _;have e6:w.heap.size+3≤(w5.setCell ⟨w.heap.size+1+1,2,none⟩ (.slice o5 (j+1+1) c5)).heap.size:=K8;generalize (w5.setCell ⟨w.heap.size+1+1,2,none⟩ (.slice o5 (j+1+1) c5))=w6 at *;clear A1 A2 A3 A4 B5 hown5 hg5 hob5 e5 iM iB iR hbr bw;go_roundw
       case rel=>exact⟨j+1,(.slice o5 (j+1+1) c5),.slice aI q cI,vV,S++ [q],I,X,q,j0,jm,by rw[Nat.add_mul,Nat.one_mul,←HP.out];omega,HG.out.close j0,HF.out,M6,B6,R6,L6,e6⟩
       case measure=>exact jb
  · obtain rfl:j=c:=j0;have hIq:=hG.il;have hSl:=hG.sl;have HG:=Lib.hid hG;have HF:=Lib.hid hF;clear hG hF;obtain⟨aS,cS,rfl,zS⟩:=zBF iM.os hSl;obtain⟨aI,cI,rfl,zI⟩:=zBF iM.oi hIq;obtain⟨aV,cV,rfl,zV⟩:=zDZ iM.ov (fun i _=>(HF.out i).1);have hl:w.heap.size=w.heap.size+1+1∨w.heap.size<w.heap.size+1:=j0;have M6:=((((iM.sen hl 0 (.int .i64 r)).sen hl 1 (.int .i64 j)).sen hl 2 (.slice aS (j+1) cS)).sen hl 3 (.slice aI q cI)).sen hl 4 (.slice aV q cV);haveI bw:From w wr:=⟨hbr⟩;clear zS zI zV;go_wp2_with fail;refine bodyPost_ret (v:=.agg #[.int .i64 r,.int .i64 j,.slice aS (j+1) cS,.slice aI q cI,.slice aV q cV]) (by simp only[results,Tryz.results76];go_simp) rfl ?_;obtain⟨_,_,e1,zS⟩:=zBF M6.os hSl;obtain⟨_,_,e2,zI⟩:=zBF M6.oi hIq;obtain⟨_,_,e3,zV⟩:=zDZ M6.ov (fun i _=>(HF.out i).1);injection e1 with e11 _ e13;injection e2 with e21 _ e23;injection e3 with e31 _ e33
    subst e11 e13 e21 e23 e31 e33;exact⟨_,_,_,q,_,_,_,_,_,X,rfl,⟨zS,zI,zV,HG.out.val HF.out.fin⟩,HF.out,Nat.le_trans hq (Nat.mul_le_mul hc hr),zbh⟩
end Go.Proofs.YtmbkgapknoammaaGreatDoor
namespace Go.Proofs.YtmbkgapknoammaaGreatDoor
open Go.RowKit Sp
def zTo(B:Nat→Option (Int×Int))(n:Nat)(V:Nat→Nat)(i j:Nat):Nat→Option (Int×Int)
 | 0=>B (j*n+i)
 | c+1=>zEt (zAO (fof (V (c*n+i))) (fof (V (c*n+j))))
def zPD(B:Nat→Option (Int×Int))(n:Nat)(V:Nat→Nat)(i j m:Nat):Option (Int×Int):=zDS (zTo B n V i j) (m+1)
noncomputable def zTN(B:Nat→Option (Int×Int))(n:Nat)(V:Nat→Nat)(j i:Nat):Nat:=
 if i=j then zBc (zPD B n V j j j) 0 else zEH (zPD B n V i j j) (fof (zBc (zPD B n V j j j) 0)) 0
noncomputable def pan(B:Nat→Option (Int×Int))(n:Nat):Nat→Nat→Nat
 | 0,_=>0
 | j+1,t=>if t/n=j then(if t%n<j then 0 else zTN B n (pan B n j) j (t%n))else pan B n j t
def zAR(f:Nat→Int)(a:Nat):Nat→Int
 | 0=>0
 | q+1=>if f a=0 then zAR f (a+1) q else f a
noncomputable def rest(B:Nat→Option (Int×Int))(n k t:Nat):Option (Int×Int):=
 zPD B n (pan B n k) (k+max (t/(n-k)) (t%(n-k))) (k+min (t/(n-k)) (t%(n-k))) k
theorem zNm{f:Nat→Int}{a q:Nat}(h:f a=0)(hq:0<q):zAR f a q=zAR f (a+1) (q-1):=by
 obtain⟨p,rfl⟩:∃p,q=p+1:=⟨q-1,j0⟩;simp only[zAR,h,if_true,Nat.add_sub_cancel]
theorem zHI{f:Nat→Int}{a q:Nat}(h:f a≠0)(hq:0<q):zAR f a q=f a:=by
 obtain⟨p,rfl⟩:∃p,q=p+1:=⟨q-1,j0⟩;simp only[zAR,if_neg h]
theorem zIA{f:Nat→Int} :∀(q a:Nat),zAR f a q=0→∀i,a≤i→i<a+q→f i=0:=by
 intro q
 induction q with
 | zero=>intro a _ i h1 h2;omega
 | succ q ih=>
  intro a h i h1 h2
  by_cases hf:f a=0
  · simp only[zAR,hf,if_true]at h
    by_cases hi:i=a
    · rw[hi];exact hf
    · exact ih (a+1) h i j0 j0
  · simp only[zAR,if_neg hf]at h;exact absurd h hf
theorem zCo{f:Nat→Int} :∀(q a:Nat),(∀i,a≤i→i<a+q→f i=0)→zAR f a q=0:=by
 intro q
 induction q with
 | zero=>intro a _;rfl
 | succ q ih=>
  intro a h;simp only[zAR,h a (Nat.le_refl _) j0,if_true];exact ih (a+1) fun i h1 h2=>h i j0 j0
theorem zEn{f g:Nat→Int} :∀(q a:Nat),(∀i,a≤i→i<a+q→f i=g i)→zAR f a q=zAR g a q:=by
 intro q
 induction q with
 | zero=>intro a _;rfl
 | succ q ih=>
  intro a h;simp only[zAR,h a (Nat.le_refl _) j0];rw[ih (a+1) fun i h1 h2=>h i j0 j0]
theorem zN3{n j i:Nat}(hi:i<n):(j*n+i)/n=j:=by
 rw[Nat.mul_comm,Nat.mul_add_div j0,Nat.div_eq_of_lt hi,Nat.add_zero]
theorem zN2{n j i:Nat}(hi:i<n):(j*n+i)%n=i:=by
 rw[Nat.mul_comm,Nat.mul_add_mod,Nat.mod_eq_of_lt hi]
theorem zSF{n k j i:Nat}(hi:i<n)(hj:j<k):j*n+i<n*k:=by
 have h1:(j+1)*n≤k*n:=Nat.mul_le_mul_right n hj;rw[Nat.add_mul,Nat.one_mul]at h1;rw[Nat.mul_comm n k];omega
end Go.Proofs.YtmbkgapknoammaaGreatDoor
namespace Go.Proofs.YtmbkgapknoammaaGreatDoor
open Go.RowKit Sp
class St(base:outParam Nat)(W:World)(b:Nat)(n k:outParam Nat)(vE:outParam Value)(gp ge:outParam Nat)(V:outParam (Nat→Nat))(d:outParam (Nat→Option (Int×Int))):Prop where
 c0:W.cell? ⟨b,0,none⟩=some (.int .i64 n)
 c1:W.cell? ⟨b,1,none⟩=some (.int .i64 n)
 c2:W.cell? ⟨b,2,none⟩=some vE
 c3:W.cell? ⟨b,3,none⟩=some (.int .i64 n)
 c4:W.cell? ⟨b,4,none⟩=some (.int .i64 k)
 c5:W.cell? ⟨b,5,none⟩=some (.slice (some ⟨gp,0,none⟩) (n*k) (n*k))
 c6:W.cell? ⟨b,6,none⟩=some (.slice (some ⟨ge,0,none⟩) (n*k) (n*k))
 z:∀i,W.frozen? ⟨b,i,none⟩=false
 lt:b<W.heap.size
 lb:base≤b
 op:W.ownsRow base 37 1 (.slice (some ⟨gp,0,none⟩) (n*k) (n*k)) (n*k) (zBh V (n*k))
 ox:∃A C,Dms W base (.slice (some ⟨ge,0,none⟩) (n*k) (n*k)) (n*k) d A C∧∀i,i<n*k→0<nl (zA1 (d i)).natAbs→ab (A i)≠b∧ab (A i)≠gp
 ne:gp≠ge∧b≠gp∧b≠ge
 N:∀i,IsN (d i)
section
variable {base b n k gp ge:Nat}{W W':World}{vE:Value}{V:Nat→Nat}{d:Nat→Option (Int×Int)}
theorem St.below(h:St base W b n k vE gp ge V d)(hb:Below W.heap.size W W'):St base W' b n k vE gp ge V d:=by
 obtain⟨h1,h2⟩:=zA6 hb;obtain⟨A,C,q1,q2⟩:=h.ox;exact⟨(h1 _ _ h.lt).trans h.c0,(h1 _ _ h.lt).trans h.c1,(h1 _ _ h.lt).trans h.c2,(h1 _ _ h.lt).trans h.c3,(h1 _ _ h.lt).trans h.c4,(h1 _ _ h.lt).trans h.c5,(h1 _ _ h.lt).trans h.c6,fun i=>(h2 _ _ h.lt).trans (h.z i),Nat.lt_of_lt_of_le h.lt hb.size,h.lb,
  zB4 h.op hb,⟨A,C,q1.below hb,q2⟩,h.ne,h.N⟩
instance St.dr[h:St base W b n k vE gp ge V d]:St base W.drew b n k vE gp ge V d:=h.below (Below.refl _ _).drew
instance St.dn(q:Nat)[h:St base W b n k vE gp ge V d]:St base (W.drewN q) b n k vE gp ge V d:=h.below (below_drewN (Below.refl _ _) _)
instance St.al(o:Obj)[h:St base W b n k vE gp ge V d]:St base (W.alloc o) b n k vE gp ge V d:=h.below ((Below.refl _ _).alloc (Nat.le_refl _) _)
instance St.fr(L:World)[f:From L W][h:St base L b n k vE gp ge V d]:St base W b n k vE gp ge V d:=h.below f.out
end
@[go_sem] theorem St.r0 (W:World) (b:Nat) {base n k gp ge:Nat} {vE:Value} {V:Nat→Nat} {d:Nat→Option (Int×Int)} [h:St base W b n k vE gp ge V d]:W.cell? ⟨b,0,none⟩=some (.int .i64 n):=h.c0
@[go_sem] theorem St.r1 (W:World) (b:Nat) {base n k gp ge:Nat} {vE:Value} {V:Nat→Nat} {d:Nat→Option (Int×Int)} [h:St base W b n k vE gp ge V d]:W.cell? ⟨b,1,none⟩=some (.int .i64 n):=h.c1
@[go_sem] theorem St.r2 (W:World) (b:Nat) {base n k gp ge:Nat} {vE:Value} {V:Nat→Nat} {d:Nat→Option (Int×Int)} [h:St base W b n k vE gp ge V d]:W.cell? ⟨b,2,none⟩=some (vE):=h.c2
@[go_sem] theorem St.r3 (W:World) (b:Nat) {base n k gp ge:Nat} {vE:Value} {V:Nat→Nat} {d:Nat→Option (Int×Int)} [h:St base W b n k vE gp ge V d]:W.cell? ⟨b,3,none⟩=some (.int .i64 n):=h.c3
@[go_sem] theorem St.r4 (W:World) (b:Nat) {base n k gp ge:Nat} {vE:Value} {V:Nat→Nat} {d:Nat→Option (Int×Int)} [h:St base W b n k vE gp ge V d]:W.cell? ⟨b,4,none⟩=some (.int .i64 k):=h.c4
@[go_sem] theorem St.r5 (W:World) (b:Nat) {base n k gp ge:Nat} {vE:Value} {V:Nat→Nat} {d:Nat→Option (Int×Int)} [h:St base W b n k vE gp ge V d]:W.cell? ⟨b,5,none⟩=some (.slice (some ⟨gp,0,none⟩) (n*k) (n*k)):=h.c5
@[go_sem] theorem St.r6 (W:World) (b:Nat) {base n k gp ge:Nat} {vE:Value} {V:Nat→Nat} {d:Nat→Option (Int×Int)} [h:St base W b n k vE gp ge V d]:W.cell? ⟨b,6,none⟩=some (.slice (some ⟨ge,0,none⟩) (n*k) (n*k)):=h.c6
class DX(w:World)(base:Nat)(v:Value)(k:Nat)(d:outParam (Nat→Option (Int×Int)))(A:outParam (Nat→Option Addr))(C:outParam (Nat→Nat)):Prop where out:Dms w base v k d A C
section
variable {w:World}{base:Nat}{v:Value}{k:Nat}{d:Nat→Option (Int×Int)}{A:Nat→Option Addr}{C:Nat→Nat}
instance DX.dr[h:DX w base v k d A C]:DX w.drew base v k d A C:=⟨h.out.below (Below.refl _ _).drew⟩
instance DX.dn(q:Nat)[h:DX w base v k d A C]:DX (w.drewN q) base v k d A C:=⟨h.out.below (below_drewN (Below.refl _ _) _)⟩
instance DX.al(o:Obj)[h:DX w base v k d A C]:DX (w.alloc o) base v k d A C:=⟨h.out.below ((Below.refl _ _).alloc (Nat.le_refl _) _)⟩
instance DX.fr'(L:World)[f:From L w][h:DX L base v k d A C]:DX w base v k d A C:=⟨h.out.below f.out⟩
theorem DX.app{w':World}{v':Value}{dk:Option (Int×Int)}{a1:Option Addr}{c1:Nat}(h:DX w base v k d A C)(e:d k=dk)
 (ho:w'.ownsRow base 53 4 v' (k+1) (zAv (zCm d A C) k++ [.bool (zAj dk),.bool (decide (zA1 dk<0)),.slice a1 (nl (zA1 dk).natAbs) c1,.int .i64 (zA7 dk)]))
 (hg:w.grownBy w' v.ownBlock) (hv:v'.ownBlock=v.ownBlock∨v'.ownBlock=some w.heap.size) (hm:Mag w a1 (nl (zA1 dk).natAbs) c1 (zA1 dk).natAbs) (hne:0<nl (zA1 dk).natAbs→some (ab a1)≠v.ownBlock) :
 DX w' base v' (k+1) d (fun i=>if i=k then a1 else A i) (fun i=>if i=k then c1 else C i):=by
 subst e;exact⟨h.out.app ho hg hv hm hne⟩
theorem DX.one{w:World}{base:Nat}{d:Nat→Option (Int×Int)}{a0:Option Addr}{c0:Nat}(hb:base≤w.heap.size){e:Option (Int×Int)}(he:e=d 0)(hm:Mag w a0 (nl (zA1 e).natAbs) c0 (zA1 e).natAbs){n:Nat}(hn:n=w.heap.size):DX (w.alloc (.cells #[.bool (zAj e),.bool (decide (zA1 e<0)),.slice a0 (nl (zA1 e).natAbs) c0,.int .i64 (zA7 e)] 53)) base (.slice (some ⟨n,0,none⟩) 1 1) 1 d (fun _=>a0) (fun _=>c0):=by
 subst he hn;refine⟨⟨?_,fun i hi=>?_,fun i hi hp=>?_⟩⟩
 · exact World.ownsRow_lit w #[.bool (zAj (d 0)),.bool (decide (zA1 (d 0)<0)),.slice a0 (nl (zA1 (d 0)).natAbs) c0,.int .i64 (zA7 (d 0))] 1 hb jJ rfl
 · obtain rfl:i=0:=j0;exact hm.alloc _
 · obtain rfl:i=0:=j0;have:=hm.old hp;simp[Value.ownBlock];omega
end
attribute [local irreducible] Calls
end Go.Proofs.YtmbkgapknoammaaGreatDoor
namespace Go.Proofs.YtmbkgapknoammaaGreatDoor
open Go.RowKit Sp
class IZ(W:World)(a:Option Addr)(n c:Nat)(L:outParam (Nat→Int)):Prop where out:Ils W a n c L
section
variable {W:World}{a:Option Addr}{n c:Nat}{L:Nat→Int}
instance IZ.dr[h:IZ W a n c L]:IZ W.drew a n c L:=⟨h.out.below (Below.refl _ _).drew⟩
instance IZ.dn(q:Nat)[h:IZ W a n c L]:IZ (W.drewN q) a n c L:=⟨h.out.below (below_drewN (Below.refl _ _) _)⟩
instance IZ.al(o:Obj)[h:IZ W a n c L]:IZ (W.alloc o) a n c L:=⟨h.out.below ((Below.refl _ _).alloc (Nat.le_refl _) _)⟩
instance IZ.fr(L':World)[k:From L' W][h:IZ L' a n c L]:IZ W a n c L:=⟨h.out.below k.out⟩
end
attribute [local irreducible] Calls
end Go.Proofs.YtmbkgapknoammaaGreatDoor

/-
  Walks: update's apply.
-/
import Derived.Test.YtmbkgapknoammaaGreatDoorZuRj
import Derived.Test.YtmbkgapknoammaaGreatDoorZuNd
import Derived.Test.YtmbkgapknoammaaGreatDoorZuIP
import Derived.BigQuiet
set_option maxRecDepth 100000
set_option maxHeartbeats 20000000
namespace Go.Proofs.YtmbkgapknoammaaGreatDoor
open Go.RowKit Go.Maps Sp
def dyb(b:Nat)(d:Option (Int×Int))(a:Option Addr)(c:Nat):It where
 blk g:=b=g∨(0<nl (zA1 d).natAbs∧ab a=g)
 P w:=DB w b (zAj d) (decide (zA1 d<0)) (.slice a (nl (zA1 d).natAbs) c) (zA7 d)∧Mag w a (nl (zA1 d).natAbs) c (zA1 d).natAbs
 loc {w w'} h hb:=by
  obtain⟨h1,h2⟩:=h;have e:=hb b (Or.inl rfl);have hc:∀i,w'.cell? ⟨b,i,none⟩=w.cell? ⟨b,i,none⟩:=fun i=>World.cell?_of_block (a:=⟨b,i,none⟩) e;have hm:0<nl (zA1 d).natAbs→∀i,w'.cell? ⟨ab a,i,none⟩=w.cell? ⟨ab a,i,none⟩:=fun h i=>World.cell?_of_block (a:=⟨ab a,i,none⟩) (hb (ab a) (Or.inr ⟨h,rfl⟩));refine⟨⟨⟨(hc 0).trans h1.out.c0,(hc 1).trans h1.out.c1,(hc 2).trans h1.out.c2,(hc 3).trans h1.out.c3,fun i=>(World.frozen?_of_block (a:=⟨b,i,none⟩) e).trans (h1.out.z i),?_⟩⟩,⟨h2.lt,h2.fits,h2.lim,h2.addr,fun i hi=>(hm j0 _).trans (h2.cell i hi),fun hn=>?_⟩⟩
  · exact World.block_lt_of_cell? w' ⟨b,0,none⟩ ((hc 0).trans h1.out.c0)
  · exact World.block_lt_of_cell? w' ⟨ab a,ao a+0,none⟩ ((hm hn _).trans (h2.cell 0 hn))
 lt h g hg:=by
  rcases hg with hg | hg
  · rw[←hg];exact h.1.out.lt
  · rw[←hg.2];exact h.2.old hg.1
def un(s t:It):It where
 blk g:=s.blk g∨t.blk g
 P w:=s.P w∧t.P w
 loc h hb:=⟨s.loc h.1 fun g hg=>hb g (Or.inl hg),t.loc h.2 fun g hg=>hb g (Or.inr hg)⟩
 lt h g hg:=by
  rcases hg with hg | hg
  · exact s.lt h.1 g hg
  · exact t.lt h.2 g hg
def FrX(d:Nat→Option (Int×Int))(m:Nat)(ca:Nat→Bool)(A:Nat→Option Addr):Prop:=∀j,ca j=true→0<nl (zA1 (d j)).natAbs→m≤ab (A j)
theorem FrX.up{d:Nat→Option (Int×Int)}{m:Nat}{ca:Nat→Bool}{A:Nat→Option Addr}(h:FrX d m ca A){j:Nat}{a:Option Addr}(hf:0<nl (zA1 (d j)).natAbs→m≤ab a):FrX d m (up1 ca j true) (up1 A j a):=fun i hi hp=>by
 rcases zBQ hi with rfl | ⟨hij,hi⟩
 · rw[zBR];exact hf hp
 · rw[zAL _ hij];exact h i hi hp
def zE5(b N n:Nat)(y:Nat→Nat):It where
 blk g:=g=b
 P w:=n≤N∧N≤9223372036854775807∧∃f,w.rowIs b 37 N f∧∀i,i<n→f i=.int .u64 ((y i:Nat):Int)
 loc:=fun⟨h0,h1,f,h2,h3⟩ hb=>⟨h0,h1,f,h2.of_block (hb b rfl),h3⟩
 lt:=fun⟨_,_,_,h,_⟩ g hg=>by rw[hg];exact h.lt
theorem Bag.wx{w0 w:World}{B:List It}{b N n i:Nat}{y:Nat→Nat}(h:Bag w0 w B)(k:Nat)(hk:B[k]? =some (zE5 b N n y))(hi:i<n):WE w b i (.int .u64 ((y i:Nat):Int)):=by
 obtain⟨h0,_,f,h2,h3⟩:=(h.at k hk:(zE5 b N n y).P w);rw[←h3 i hi];exact⟨h2.cell j0,h2.frozen i,h2.lt⟩
theorem Bag.sx{w0 w:World}{B:List It}{b N n:Nat}{y:Nat→Nat}(h:Bag w0 w B)(k:Nat)(hk:B[k]? =some (zE5 b N n y))(i x:Nat):Bag w0 (w.setCell ⟨b,i,none⟩ (.int .u64 (x:Int))) (B.set k (zE5 b N n fun j=>if j=i then x else y j)):=by
 obtain⟨h0,h1,f,h2,h3⟩:=(h.at k hk:(zE5 b N n y).P w);refine h.upd k hk rfl rfl rfl jz (fun g hg hn=>zGb w b i _ g hg hn) ⟨h0,h1,_,h2.set i _,fun j hj=>?_⟩ fun g hg=>Or.inl hg
 by_cases e:j=i
 · rw[if_pos e];show _=Value.int .u64 (((if j=i then x else y j:Nat)):Int);rw[if_pos e]
 · rw[if_neg e];show _=Value.int .u64 (((if j=i then x else y j:Nat)):Int);rw[if_neg e];exact h3 j hj
theorem Bag.cons{w0 w:World}{B:List It}{t:It}(h:Bag w0 w (B++ [t])):Bag w0 w (t::B):=h.perm (List.perm_append_singleton _ _)
theorem Bag.front{w0 w w':World}{B C:List It}(h:Bag w0 w B)(k:Bag w w' C):Bag w0 w' (C++B):=(h.join k).perm List.perm_append_comm
theorem Bag.one{w w':World}{t:It}(hb:Below w.heap.size w w')(h:t.P w')(hg:∀g,t.blk g→w.heap.size≤g):Bag w w' [t]:=⟨hb,fun x hx=>by rw[List.mem_singleton.1 hx];exact h,fun x hx=>by rw[List.mem_singleton.1 hx];exact hg,List.pairwise_singleton _ _⟩
section
variable (minus:Bool)(p q:Nat)(m y:Nat→Nat)(inn:Nat→Bool)
noncomputable def aC(i:Nat):Int:=if inn i=true then(if(zAA (uL minus p q (m i) (y i))&&zAA (uY minus p q (m i) (y i)))=true then 0 else 233)else 0
noncomputable def aE(k n:Nat):Int:=if zA1 (uD minus p q)≤0 then 290 else if zB0 (uG minus p q)=true then 290 else if zAA (uG minus p q)=true then zAR (aC minus p q m y inn) (k+1) (n-(k+1))else 233
noncomputable def aY(k j i:Nat):Nat:=if(decide (k<i)&&decide (i<j)&&inn i)=true then uY minus p q (m i) (y i)else y i
def aRw(k j:Nat):List Nat:=nb (fun _ i=>decide (k≤i)&&inn i) 0 j
noncomputable def aVl(k i:Nat):Nat:=if i=k then uG minus p q else uL minus p q (m i) (y i)
end
theorem Bag.nil2{w0 w:World}{B:List It}(h:Bag w0 w B)(L:Nat→Int)(X:Nat→Nat):Bag w0 w (zBb none 0 0 L::zBZ none 0 0 X::B):=
 (((h.new (t:=zBZ none 0 0 X) (Below.refl _ _) (show Fls w none 0 0 X from⟨j0,j0,j0,fun i hi=>j0,fun i hi=>j0,j0⟩) fun g hg=>QL).cons).new (t:=zBb none 0 0 L) (Below.refl _ _) (show Ils w none 0 0 L from⟨j0,j0,j0,fun i hi=>j0,j0⟩) fun g hg=>QL).cons
theorem zRN(inn:Nat→Bool)(k:Nat)(h:inn k=true):aRw inn k (k+1)= [k]:=by
 unfold aRw;rw[zJs (by show(decide (k≤k)&&inn k)=true;rw[h,decide_eq_true (Nat.le_refl k)];rfl)];have:nb (fun _ i=>decide (k≤i)&&inn i) 0 k= []:=by
  cases e:nb (fun _ i=>decide (k≤i)&&inn i) 0 k with
  | nil=>rfl
  | cons a l=>
   have h1:a∈nb (fun _ i=>decide (k≤i)&&inn i) 0 k:=(by rw[e];exact List.mem_cons_self);obtain⟨a1,a2⟩:=nb_mem.1 h1;rw[decide_eq_false (show ¬k≤a by omega)]at a2;cases a2
 rw[this];rfl
theorem zO7(inn:Nat→Bool)(k j:Nat):(aRw inn k j).length≤j:=zF4 _ _ _
theorem zQH(minus:Bool)(d:Option (Int×Int)):(zA1 (sgd minus d)).natAbs=(zA1 d).natAbs:=by
 cases minus
 · exact jA
 · cases d with
   | none=>rfl
   | some p=>obtain⟨m,e⟩:=p;exact Int.natAbs_neg m
theorem zMZ(minus:Bool){d:Option (Int×Int)}(h:IsN d):IsN (sgd minus d):=by
 cases minus
 · exact h
 · exact zIp h
def DTo(b:Bool)(d:Option (Int×Int))(a:Option Addr)(c:Nat)(u:Value):Value:=
 if b then .agg #[.bool (zAj d),.bool (decide (zA1 d<0)),.slice a (nl (zA1 d).natAbs) c,.int .i64 (zA7 d)]else u
theorem zDQ(d:Option (Int×Int))(a:Option Addr)(c:Nat)(u:Value):DTo true d a c u=.agg #[.bool (zAj d),.bool (decide (zA1 d<0)),.slice a (nl (zA1 d).natAbs) c,.int .i64 (zA7 d)]:=rfl
def PTo(b:Bool)(n:Nat)(u:Value):Value:=if b then .pointer (some ⟨n,0,none⟩)else u
theorem zDP(n:Nat)(u:Value):PTo true n u=.pointer (some ⟨n,0,none⟩):=rfl
theorem zCJ{ops:Array Oper}{o:Oper}{a:Act}{K:Act→World→Prop}{Q:Exit→Act→World→Prop}{w:World}{E:Prop}(hgd:o.guard=none)(s x:Operand)
 (ho:o.op=.call { callee:=.builtin .append,args:=#[s,x],argTypes:=#[24,24] }) (w0:World) {B:List It} [hB:Bag w0 w B] (k:Nat) {v:Value} {n:Nat} {l:List Nat} (hk:B[k]? =some (row 3 1 v n (zA2 l))) (hs:a.eval s=v) (g:Nat) (d:Nat)
 (hx:a.eval x=.slice (some ⟨g,0,none⟩) 1 1) (hcell:w.cell? ⟨g,0,none⟩=some (.int .i64 (d:Int))) (_hn:n≤1048576)
 (h:∀g' cap' w',Bag w0 w' (B.set k (row 3 1 (.slice (some ⟨g',0,none⟩) (n+1) cap') (n+1) (zA2 (l++ [d]))))→(∀b x,w.cell? ⟨b,0,none⟩=some x→v.ownBlock≠some b→w'.cell? ⟨b,0,none⟩=some x)→K (a.put o.dst (.slice (some ⟨g',0,none⟩) (n+1) cap')) w') :
 if Region.wanted o (yielded ops a.tmps)=true then Oper.wp Tryz.prog o a w K Q else E:=by
 obtain⟨i0,hi,hz0,hz1,hz2⟩:=info_parts zSE;refine step_append_lies w hgd s x _ ho 0 _ i0 _ 1 8 zKq hi hz0 hz1 hz2 rfl ja v n _ hs (hB.own k hk) ⟨g,0,none⟩ 1 1 [.int .i64 (d:Int)] hx rfl ?_ ?_ ja jJ j0 (Nat.zero_le _) _ rfl (fun g' cap' w' h1 h2 h3 _=>h g' cap' w' (hB.app k hk (by rw[zAn];exact h1) h2 ?_) fun b x hx hb=>(World.cell?_of_block (a:=⟨b,0,none⟩) (h2.block b (World.block_lt_of_cell? w ⟨b,0,none⟩ hx) fun e=>hb e.symm)).trans hx)
 · intro j u hu;have:j=0:=by
    rcases Nat.eq_zero_or_pos j with h | h
    · exact h
    · rw[List.getElem?_eq_none jq]at hu;cases hu
   subst this;simp at hu;subst hu;rw[Addr.add_zero'];exact hcell
 · exact Ks
 · have e:(Value.slice (some ⟨g',0,none⟩) (n+1) cap').ownBlock=some g':=rfl;rw[e];rcases h3 with h3 | h3
   · exact Or.inl h3.symm
   · exact Or.inr (by rw[h3])
theorem zCK{ops:Array Oper}{o:Oper}{a:Act}{K:Act→World→Prop}{Q:Exit→Act→World→Prop}{w:World}{E:Prop}(hgd:o.guard=none)(s x:Operand)
 (ho:o.op=.call { callee:=.builtin .append,args:=#[s,x],argTypes:=#[25,25] }) (w0:World) {B:List It} [hB:Bag w0 w B] (k:Nat) {v:Value} {n:Nat} {l:List Nat} (hk:B[k]? =some (row 37 1 v n (zAI l))) (hs:a.eval s=v) (g:Nat) (d:Nat)
 (hx:a.eval x=.slice (some ⟨g,0,none⟩) 1 1) (hcell:w.cell? ⟨g,0,none⟩=some (.int .u64 (d:Int))) (_hn:n≤1048576)
 (h:∀g' cap' w',Bag w0 w' (B.set k (row 37 1 (.slice (some ⟨g',0,none⟩) (n+1) cap') (n+1) (zAI (l++ [d]))))→(∀b x,w.cell? ⟨b,0,none⟩=some x→v.ownBlock≠some b→w'.cell? ⟨b,0,none⟩=some x)→K (a.put o.dst (.slice (some ⟨g',0,none⟩) (n+1) cap')) w') :
 if Region.wanted o (yielded ops a.tmps)=true then Oper.wp Tryz.prog o a w K Q else E:=by
 obtain⟨i0,hi,hz0,hz1,hz2⟩:=info_parts zT2;refine step_append_lies w hgd s x _ ho 0 _ i0 _ 1 8 zOj hi hz0 hz1 hz2 rfl ja v n _ hs (hB.own k hk) ⟨g,0,none⟩ 1 1 [.int .u64 (d:Int)] hx rfl ?_ ?_ ja jJ j0 (Nat.zero_le _) _ rfl (fun g' cap' w' h1 h2 h3 _=>h g' cap' w' (hB.app k hk (by rw[zCp];exact h1) h2 ?_) fun b x hx hb=>(World.cell?_of_block (a:=⟨b,0,none⟩) (h2.block b (World.block_lt_of_cell? w ⟨b,0,none⟩ hx) fun e=>hb e.symm)).trans hx)
 · intro j u hu;have:j=0:=by
    rcases Nat.eq_zero_or_pos j with h | h
    · exact h
    · rw[List.getElem?_eq_none jq]at hu;cases hu
   subst this;simp at hu;subst hu;rw[Addr.add_zero'];exact hcell
 · exact Ks
 · have e:(Value.slice (some ⟨g',0,none⟩) (n+1) cap').ownBlock=some g':=rfl;rw[e];rcases h3 with h3 | h3
   · exact Or.inl h3.symm
   · exact Or.inr (by rw[h3])
attribute [local irreducible] Calls
theorem zKr(wz w:World)[Tb wz](cb wb N ib mb k n c:Nat)(minus:Bool)(M y:Nat→Nat)(inn:Nat→Bool)(D:List It)(hk:k<n)(_hn:n≤200)(hy:∀i,i<n→y i<18446744073709551616)(hM:∀i,M i<18446744073709551616)(hin:inn k=true)(hB:Bag wz w (box cb 129 [.slice (some ⟨wb,0,none⟩) n N,.bool minus]::zE5 wb N n y::(arr ib 4 n fun i=>.bool (inn i))::mpI mb c M::D)):Calls Tryz.prog 83 #[.pointer (some ⟨cb,0,none⟩),.int .i64 k,.map (some mb),.slice (some ⟨ib,0,none⟩) n n] w fun o w'=>∃(y':Nat→Nat) (aR:Option Addr) (cR:Nat) (aV:Option Addr) (cV:Nat) (RL VL:List Nat),o=.returned (.tuple #[.agg #[.slice aR RL.length cR,.slice aV VL.length cV],.int .i64 (aE minus (M k) (y k) M y inn k n)])∧Bag wz w' (zBb aR RL.length cR (fun t=>((RL.getD t 0:Nat):Int))::zBZ aV VL.length cV (fun t=>VL.getD t 0)::box cb 129 [.slice (some ⟨wb,0,none⟩) n N,.bool minus]::zE5 wb N n y'::(arr ib 4 n fun i=>.bool (inn i))::mpI mb c M::D)∧(∀i,i<n→y' i<18446744073709551616)∧(aE minus (M k) (y k) M y inn k n=0→y'=aY minus (M k) (y k) M y inn k n∧RL=aRw inn k n∧VL=(aRw inn k n).map (aVl minus (M k) (y k) M y k)):=by
 haveI bw:=hB.fr';haveI iC:=hB.vb 0 rfl;haveI iM:MP w mb M:=⟨c,hB.at 3 rfl⟩;have yM:=fun W [MP W mb M]=>MP.rd (W:=W) (b:=mb) (M:=M) (i:=k) j0;have yk:=fun W=>zCz 25 wb k n N hk W;haveI iW:=hB.wx 1 rfl hk;have HP:=fun W [Tb W]=>Lib.hid (zIx (zE4 W (M k) (hM k) tb));have HQ:=fun W [Tb W]=>Lib.hid (zIx (zE4 W (y k) (hy k hk) tb));have Np:=zBv (M k);have Nq:=zBv (y k);have HPP:=fun W a c [i:BI W a (nl (zA1 (fof (M k))).natAbs) c (zA1 (fof (M k))).natAbs] [Tb W]=>Lib.hid (zIx (zDa W _ _ _ _ _ _ _ _ _ _ _ _ (fof (M k)) (fof (M k)) (zAp Np i.out) (zAp Np i.out) tb));have HQQ:=fun W a c [i:BI W a (nl (zA1 (fof (y k))).natAbs) c (zA1 (fof (y k))).natAbs] [Tb W]=>Lib.hid (zIx (zDa W _ _ _ _ _ _ _ _ _ _ _ _ (fof (y k)) (fof (y k)) (zAp Nq i.out) (zAp Nq i.out) tb));have Npp:IsN (zAO (fof (M k)) (fof (M k))):=zCS _ _;have Nqq:IsN (zAO (fof (y k)) (fof (y k))):=zCS _ _;have Nsq:IsN (sgd minus (zAO (fof (y k)) (fof (y k)))):=zMZ _ Nqq;have HSQ:=fun W sl a c [VB W cb [sl,.bool minus]] [i:BI W a (nl (zA1 (zAO (fof (y k)) (fof (y k)))).natAbs) c (zA1 (zAO (fof (y k)) (fof (y k)))).natAbs] [Tb W]=>Lib.hid (zEM W cb sl minus _ Nqq a c);have HAD:=fun W a c a' c' [i:BI W a (nl (zA1 (zAO (fof (M k)) (fof (M k)))).natAbs) c (zA1 (zAO (fof (M k)) (fof (M k)))).natAbs] [j:BI W a' (nl (zA1 (sgd minus (zAO (fof (y k)) (fof (y k))))).natAbs) c' (zA1 (sgd minus (zAO (fof (y k)) (fof (y k))))).natAbs] [Tb W]=>Lib.hid (zIx (zGG W _ _ _ _ _ _ _ _ _ _ _ _ _ _ (zAp Npp i.out) (zAp Nsq j.out) tb));have HU:=Lib.hid (show uD minus (M k) (y k)=zI2 (zAO (fof (M k)) (fof (M k))) (sgd minus (zAO (fof (y k)) (fof (y k))))from rfl);have SQ:=Lib.hid (show 0<nl (zA1 (sgd minus (zAO (fof (y k)) (fof (y k))))).natAbs→0<nl (zA1 (zAO (fof (y k)) (fof (y k)))).natAbs by rw[zQH];exact id);have HS:=fun W a c [i:BI W a (nl (zA1 (uD minus (M k) (y k))).natAbs) c (zA1 (uD minus (M k) (y k))).natAbs] [Tb W]=>Lib.hid (frm (zCV W _ _ _ _ _ _ (uD minus (M k) (y k)) (zAp (zGx _ _) i.out) tb));have HRT:=fun W a c [i:BI W a (nl (zA1 (uD minus (M k) (y k))).natAbs) c (zA1 (uD minus (M k) (y k))).natAbs] [Tb W]=>Lib.hid (frm (zLr W _ _ _ _ _ _ 0 (uD minus (M k) (y k)) (zAp (zGx _ _) i.out) tb));obtain⟨R,hR⟩:∃R,R=aE minus (M k) (y k) M y inn k n:=⟨_,rfl⟩;rw[←hR];have HR:=Lib.hid hR;have HY:=Lib.hid hy;clear hR;have hU:=HU.out;rw[hU]at HS HRT;clear hU;generalize hsu:zI2 (zAO (fof (M k)) (fof (M k))) (sgd minus (zAO (fof (y k)) (fof (y k))))=dsu at *;generalize hsq:sgd minus (zAO (fof (y k)) (fof (y k)))=dsq at *;generalize hqq:zAO (fof (y k)) (fof (y k))=dqq at *;generalize hpp:zAO (fof (M k)) (fof (M k))=dpp at *;clear hsu hsq hqq hpp;generalize M k=p at *;generalize y k=q at *;generalize hdp:fof p=dp at *;generalize hdq:fof q=dq at *;have HDP:=Lib.hid hdp;have HDQ:=Lib.hid hdq;clear hdp hdq;have B0:=(hB.var 126 [.slice none 0 0,.slice none 0 0] rfl).cons;go_enter Tryz.func83,Tryz.ntmps83;go_wp2_with fail;refine zCa je (fun w0 b0=>?_);refine tkz 0 20 (.map (some mb)) (hy:=fun w hSw=>js) (hS:=Below.refl _ _) (h:=?_);refine tkz 1 21 (.int .i64 (k:Int)) (hy:=fun w hSw=>js) (hS:=Below.refl _ _) (h:=?_);refine tkz 2 22 (.int .u64 (p:Int)) (hy:=fun w hSw=>js) (hS:=Below.refl _ _) (h:=?_);refine tkz 4 24 (.pointer (some ⟨cb,0,none⟩)) (hy:=fun w hSw=>js) (hS:=Below.refl _ _) (h:=?_);refine tkz 5 25 (.pointer (some ⟨cb,0,none⟩)) (hy:=fun w hSw=>js) (hS:=Below.refl _ _) (h:=?_);refine tkz 6 26 (.pointer (some ⟨cb,0,none⟩)) (hy:=fun w hSw=>js) (hS:=Below.refl _ _) (h:=?_);refine tkz 7 27 (.slice (some ⟨wb,0,none⟩) n N) (hy:=fun w hSw=>js) (hS:=Below.refl _ _) (h:=?_);refine tkz 8 28 (.int .i64 (k:Int)) (hy:=fun w hSw=>js) (hS:=Below.refl _ _) (h:=?_);refine tkz 9 29 (.pointer (some ⟨wb,k,none⟩)) (hy:=fun w hSw=>js) (hS:=Below.refl _ _) (h:=?_);refine tkz 10 30 (.int .u64 (q:Int)) (hy:=fun w hSw=>js) (hS:=Below.refl _ _) (h:=?_);have hN0:=ND.start w0 (zCO dp dq dp dq) (fun _=>0) (fun _=>none) (fun _=>0);refine zEL w0 (zCO dp dq dp dq) (fun al ca st ex=>#[true,true,true,ca 0,true,true,true,true,true,true,true,ca 1,al 0,al 1,st 0,st 1]) (fun al ca ex bf af cf=> [(23,DT (ca 0) ((zCO dp dq dp dq) 0) (af 0) (cf 0)),(31,DT (ca 1) ((zCO dp dq dp dq) 1) (af 1) (cf 1)),(10,PT (al 0) (bf 0)),(11,PT (al 1) (bf 1))]) (fun al ca st ex af cf=>FrX (zCO dp dq dp dq) w0.heap.size ca af) rfl hN0 (ex:=fun _=>false) (fun j h=>absurd h Bool.false_ne_true) rfl Kh ja je (fun _ _ _ _=>rfl) ?_ ?_
 · intro al ca st ex bf af cf vw hN hX hw0
   repeat' (first | exact AllI.nil | refine AllI.cons ?_ ?_)
   · exact jM
   · exact jM
   · exact jM
   · intro (hl:ca 0=false) _ K hK;simp only[zAV,List.setIfInBounds_toArray,List.set_cons_zero,List.set_cons_succ];go_simp;refine(HP _).out.mono ?_;rintro o w1 ⟨a1,c1,rfl,m1,b1,f1⟩;go_simp;exact zIm hK hN 0 hl (FrX.up hX (fun h=>Nat.le_trans hN.beh.size (f1 h))) b1 m1 f1
   · exact jM
   · exact jM
   · exact jM
   · exact jM
   · exact jM
   · exact jM
   · exact jM
   · intro (hl:ca 1=false) _ K hK;simp only[zAV,List.setIfInBounds_toArray,List.set_cons_zero,List.set_cons_succ];go_simp;refine(HQ _).out.mono ?_;rintro o w1 ⟨a1,c1,rfl,m1,b1,f1⟩;go_simp;exact zIm hK hN 1 hl (FrX.up hX (fun h=>Nat.le_trans hN.beh.size (f1 h))) b1 m1 f1
   · exact KA
   · exact QS
   · intro _ haf K hK;have h1:al 0=true:=haf ⟨12,.data⟩ jz rfl;have h2:ca 0=true:=haf ⟨3,.data⟩ jz rfl;clear haf;haveI hz:=(hN.bx 0 h1).2.spec;simp[zAV,h1,h2,zCY,zBG,go_sem];have hS:=hN.store 0 h1 h2;exact zMD hK 0 hS hX K6
   · intro _ haf K hK;have h1:al 1=true:=haf ⟨13,.data⟩ jz rfl;have h2:ca 1=true:=haf ⟨11,.data⟩ jz rfl;clear haf;haveI hz:=(hN.bx 1 h1).2.spec;simp[zAV,h1,h2,zCY,zBG,go_sem];have hS:=hN.store 1 h1 h2;exact zMD hK 1 hS hX K6
 · intro al ca st ex bf af cf vw hN hX hw0 hall;have q3:ca 0=true:=hall 3 ja;have q11:ca 1=true:=hall 11 ja;have q12:al 0=true:=hall 12 ja;have q13:al 1=true:=hall 13 ja;have q14:st 0=true:=hall 14 ja;have q15:st 1=true:=hall 15 ja;clear hall;simp only[zAV,q3,q11,q12,q13,zCY,zBG,List.setIfInBounds_toArray,List.set_cons_zero,List.set_cons_succ];have n0:=hN.se 0 q14;have n1:=hN.se 1 q15;have g0:=(hN.bx 0 q12).1;have g1:=(hN.bx 1 q13).1;have m0:=hN.nu 0 q3;have m1:=hN.nu 1 q11;have x0:=hX 0 q3;have x1:=hX 1 q11;have e01:bf 0≠bf 1:=hN.ne 0 1 ja q12 q13;have e0:=b0.out.size;have BL:Bag w0 vw [un (dyb (bf 0) dp (af 0) (cf 0)) (dyb (bf 1) dq (af 1) (cf 1))]:=Bag.one hw0.out ⟨⟨n0.2.2,m0⟩,⟨n1.2.2,m1⟩⟩ (by
    intro g hg;rcases hg with(hg | hg) | (hg | hg)
    · rw[←hg];exact g0
    · rw[←hg.2];exact x0 hg.1
    · rw[←hg];exact g1
    · rw[←hg.2];exact x1 hg.1)
   have BB:=Bag.front (inferInstance:Bag wz w0 _) BL;generalize bf 0=lb at *;generalize bf 1=qb at *;generalize af 0=la at *;generalize cf 0=lc at *;generalize af 1=qa at *;generalize cf 1=qc at *;have hBB:=Lib.hid BB;clear hN hX hw0 n0 n1 g0 g1 m0 m1 x0 x1 q3 q11 q12 q13 q14 q15 BL BB e01 b0 e0 hB B0 bw iC iM iW;have BB:=hBB.out;clear hBB;haveI bw:=BB.fr';haveI dl:DB vw lb _ _ _ _:=BB.at 0 rfl |>.1.1
   haveI dw:DB vw qb _ _ _ _:=BB.at 0 rfl |>.2.1
   haveI ml:BI vw la _ _ _:=⟨BB.at 0 rfl |>.1.2⟩;haveI mw:BI vw qa _ _ _:=⟨BB.at 0 rfl |>.2.2⟩;haveI iC:=BB.vb 2 rfl;go_wp2_with fail;refine zCa je (fun w0 b0=>?_);refine tkz 0 32 (.agg #[.bool (zAj dp),.bool (decide (zA1 dp<0)),.slice la (nl (zA1 dp).natAbs) lc,.int .i64 (zA7 dp)]) (hy:=fun w hSw=>js) (hS:=Below.refl _ _) (h:=?_);refine tkz 1 33 (.agg #[.bool (zAj dp),.bool (decide (zA1 dp<0)),.slice la (nl (zA1 dp).natAbs) lc,.int .i64 (zA7 dp)]) (hy:=fun w hSw=>js) (hS:=Below.refl _ _) (h:=?_);refine tkz 3 35 (.pointer (some ⟨cb,0,none⟩)) (hy:=fun w hSw=>js) (hS:=Below.refl _ _) (h:=?_);refine tkz 4 36 (.agg #[.bool (zAj dq),.bool (decide (zA1 dq<0)),.slice qa (nl (zA1 dq).natAbs) qc,.int .i64 (zA7 dq)]) (hy:=fun w hSw=>js) (hS:=Below.refl _ _) (h:=?_);refine tkz 5 37 (.agg #[.bool (zAj dq),.bool (decide (zA1 dq<0)),.slice qa (nl (zA1 dq).natAbs) qc,.int .i64 (zA7 dq)]) (hy:=fun w hSw=>js) (hS:=Below.refl _ _) (h:=?_);have hN0:=ND.start w0 (zCO dsu dpp dqq dsq) (fun _=>0) (fun _=>none) (fun _=>0);refine zEL w0 (zCO dsu dpp dqq dsq) (fun al ca st ex=>#[true,true,ca 1,true,true,true,ca 2,ca 3,ca 0,al 0,st 0]) (fun al ca ex bf af cf=> [(34,DT (ca 1) ((zCO dsu dpp dqq dsq) 1) (af 1) (cf 1)),(38,DT (ca 2) ((zCO dsu dpp dqq dsq) 2) (af 2) (cf 2)),(39,DT (ca 3) ((zCO dsu dpp dqq dsq) 3) (af 3) (cf 3)),(40,DT (ca 0) ((zCO dsu dpp dqq dsq) 0) (af 0) (cf 0)),(12,PT (al 0) (bf 0))]) (fun al ca st ex af cf=>FrX (zCO dsu dpp dqq dsq) w0.heap.size ca af) rfl hN0 (ex:=fun _=>false) (fun j h=>absurd h Bool.false_ne_true) rfl Kh ja je (fun _ _ _ _=>rfl) ?_ ?_
   · intro al ca st ex bf af cf vw hN hX hw0
     repeat' (first | exact AllI.nil | refine AllI.cons ?_ ?_)
     · exact jM
     · exact jM
     · intro (hl:ca 1=false) _ K hK;simp only[zAV,List.setIfInBounds_toArray,List.set_cons_zero,List.set_cons_succ];go_simp;refine(HPP _ _ _).out.mono ?_;rintro o w1 ⟨a1,c1,rfl,m1,b1,f1⟩;go_simp;exact zIm hK hN 1 hl (FrX.up hX (fun h=>Nat.le_trans hN.beh.size (f1 h))) b1 m1 f1
     · exact jM
     · exact jM
     · exact jM
     · intro (hl:ca 2=false) _ K hK;simp only[zAV,List.setIfInBounds_toArray,List.set_cons_zero,List.set_cons_succ];go_simp;refine(HQQ _ _ _).out.mono ?_;rintro o w1 ⟨a1,c1,rfl,m1,b1,f1⟩;go_simp;exact zIm hK hN 2 hl (FrX.up hX (fun h=>Nat.le_trans hN.beh.size (f1 h))) b1 m1 f1
     · intro (hl:ca 3=false) haf K hK;have hd2:ca 2=true:=haf ⟨6,.data⟩ jz rfl;haveI y2:BI vw (af 2) (nl (zA1 dqq).natAbs) (cf 2) (zA1 dqq).natAbs:=⟨hN.nu 2 hd2⟩;clear haf;simp only[zAV,hd2,zBG,List.setIfInBounds_toArray,List.set_cons_zero,List.set_cons_succ];go_simp;refine(HSQ _ _ _ _).out.mono ?_;rintro o w1 ⟨a1,c1,rfl,m1,b1,f1⟩;go_simp;exact hK.out al (up1 ca 3 true) st ex bf (up1 af 3 a1) (up1 cf 3 c1) _ _ rfl (by have hu2:up1 ca 3 true 2=true:=hd2;simp only[zAV,hu2,zBG,List.setIfInBounds_toArray,List.set_cons_zero,List.set_cons_succ] <;> rfl) (FrX.up hX fun h=>by
        rcases f1 h with h1 | h1
        · exact Nat.le_trans hN.beh.size h1
        · rw[h1];exact hX 2 hd2 (SQ.out h)) ((hN.on b1).num 3 hl a1 c1 m1.out (fun i hi hp=>by
        rcases f1 hp with h1 | h1
        · obtain⟨_,_,_,_,_,h2⟩:=hN.bx i hi;have:=h2.lt;omega
        · rw[h1];exact hN.fr i 2 hi hd2 (SQ.out hp)))
     · intro (hl:ca 0=false) haf K hK;have hd1:ca 1=true:=haf ⟨2,.data⟩ jz rfl;haveI y1:BI vw (af 1) (nl (zA1 dpp).natAbs) (cf 1) (zA1 dpp).natAbs:=⟨hN.nu 1 hd1⟩;have hd3:ca 3=true:=haf ⟨7,.data⟩ jz rfl;haveI y3:BI vw (af 3) (nl (zA1 dsq).natAbs) (cf 3) (zA1 dsq).natAbs:=⟨hN.nu 3 hd3⟩;clear haf;simp only[zAV,hd1,hd3,zBG,List.setIfInBounds_toArray,List.set_cons_zero,List.set_cons_succ];go_simp;refine(HAD _ _ _ _ _).out.mono ?_;rintro o w1 ⟨a1,c1,rfl,m1,b1,f1⟩;go_simp;exact zIm hK hN 0 hl (FrX.up hX (fun h=>Nat.le_trans hN.beh.size (f1 h))) b1 m1 f1 (e2:=(by have hu1:up1 ca 0 true 1=true:=hd1;have hu3:up1 ca 0 true 3=true:=hd3;simp only[zAV,hu1,hu3,zBG,List.setIfInBounds_toArray,List.set_cons_zero,List.set_cons_succ] <;> rfl))
     · exact KA
     · intro _ haf K hK;have h1:al 0=true:=haf ⟨9,.data⟩ jz rfl;have h2:ca 0=true:=haf ⟨8,.data⟩ jz rfl;clear haf;haveI hz:=(hN.bx 0 h1).2.spec;simp[zAV,h1,h2,zCY,zBG,go_sem];have hS:=hN.store 0 h1 h2;exact zMD hK 0 hS hX K6
   · intro al ca st ex bf af cf vw hN hX hw0 hall;have q2:ca 1=true:=hall 2 ja;have q6:ca 2=true:=hall 6 ja;have q7:ca 3=true:=hall 7 ja;have q8:ca 0=true:=hall 8 ja;have q9:al 0=true:=hall 9 ja;have q10:st 0=true:=hall 10 ja;clear hall;simp only[zAV,q2,q6,q7,q8,q9,zCY,zBG,List.setIfInBounds_toArray,List.set_cons_zero,List.set_cons_succ];have n2:=(hN.se 0 q10).2.2;have m2:=hN.nu 0 q8;have BX:=(inferInstance:Bag wz vw _);generalize bf 0=sb at *;generalize af 0=sa at *;generalize cf 0=sc at *;haveI n2':DB vw sb (zAj dsu) (decide (zA1 dsu<0)) (.slice sa (nl (zA1 dsu).natAbs) sc) (zA7 dsu):=n2;haveI m2':BI vw sa (nl (zA1 dsu).natAbs) sc (zA1 dsu).natAbs:=⟨m2⟩;haveI dl:DB vw lb _ _ _ _:=BX.at 0 rfl |>.1.1
     haveI dw:DB vw qb _ _ _ _:=BX.at 0 rfl |>.2.1
     haveI ml:BI vw la _ _ _:=⟨BX.at 0 rfl |>.1.2⟩;haveI mw:BI vw qa _ _ _:=⟨BX.at 0 rfl |>.2.2⟩;haveI iR:=BX.vb 1 rfl;haveI iC:=BX.vb 2 rfl;clear hN hX hw0 q2 q6 q7 q8 q9 q10 b0 BB n2 m2;haveI bx:=BX.fr'
     by_cases c1:zA1 dsu≤0
     · have HNO:Hid (R=290):=Lib.hid (by rw[HR.out];unfold aE;rw[if_pos (by rw[HU.out];exact c1)]);have h1:zAq (zA1 dsu) 0≤0:=cmpI_le.2 c1;go_wp2_with fail;refine(HS _ _ _).out.mono ?_;rintro o w1 ⟨rfl,b1⟩;have BX:=(inferInstance:Bag wz w1 _);have BP:=(BX.put 1 rfl 0 (.slice none 0 0)).put 1 rfl 1 (.slice none 0 0);have BQ:=(BP.sub ((List.sublist_cons_self _ _).trans (List.sublist_cons_self _ _))).nil2 (fun t=>((([]:List Nat).getD t 0:Nat):Int)) (fun t=>([]:List Nat).getD t 0);go_wp2_with fail;refine bodyPost_ret (v:=.tuple #[.agg #[.slice none 0 0,.slice none 0 0],.int .i64 290]) (by simp only[results,Tryz.results83];go_simp) rfl ?_;exact⟨y,none,0,none,0,[],[],K9,BQ,HY.out,fun h=>by rw[HNO.out]at h;omega⟩
     · have h1:¬zAq (zA1 dsu) 0≤0:=(by rw[zAW j0];omega);go_wp2_with fail;refine(HS _ _ _).out.mono ?_;rintro o w1 ⟨rfl,b1⟩;go_wp2_with fail;refine(HRT _ _ _).out.mono ?_;rintro o w2 ⟨rfl,b2⟩;go_wp2_with fail;have HG:=Lib.hid (show uG minus p q=zBc dsu 0 by unfold uG;rw[HU.out]);generalize zBc dsu 0=G at *;have HKK:=fun W=>Lib.hid (frw (zHH W G));have hz:=(zFh G).2.2
       cases hzz:zB0 G with
       | true=>
        rw[hzz]at hz;have HNO:Hid (R=290):=Lib.hid (by rw[HR.out];unfold aE;rw[if_neg (by rw[HU.out];omega),if_pos (by rw[HG.out];exact hzz)]);generalize zFi G=kd at *;refine(HKK _).out.mono ?_;rintro o w3 ⟨rfl,b3⟩;have BX:=(inferInstance:Bag wz w3 _);have BP:=(BX.put 1 rfl 0 (.slice none 0 0)).put 1 rfl 1 (.slice none 0 0);have BQ:=(BP.sub ((List.sublist_cons_self _ _).trans (List.sublist_cons_self _ _))).nil2 (fun t=>((([]:List Nat).getD t 0:Nat):Int)) (fun t=>([]:List Nat).getD t 0);go_wp2_with fail;refine bodyPost_ret (v:=.tuple #[.agg #[.slice none 0 0,.slice none 0 0],.int .i64 290]) (by simp only[results,Tryz.results83];go_simp) rfl ?_;exact⟨y,none,0,none,0,[],[],K9,BQ,HY.out,fun h=>by rw[HNO.out]at h;omega⟩
       | false=>
        rw[hzz]at hz;have HR2:Hid (R=if zAA G=true then zAR (aC minus p q M y inn) (k+1) (n-(k+1))else 233):=Lib.hid (by rw[HR.out];unfold aE;rw[if_neg (by rw[HU.out];omega),HG.out,if_neg (by rw[hzz];exact Bool.false_ne_true)]);generalize zFi G=kd at *;refine(HKK _).out.mono ?_;rintro o w3 ⟨rfl,b3⟩;have BX3:=(inferInstance:Bag wz w3 _);have B4:=(((BX3.lit 3 1 [.int .i64 (k:Int)] (m:=1) (n:=w3.heap.size) rfl ja rfl).cons.lit 37 1 [.int .u64 (G:Int)] (m:=1) (n:=w3.heap.size+1) jz ja rfl).cons.var 126 [.slice (some ⟨w3.heap.size,0,none⟩) 1 1,.slice (some ⟨w3.heap.size+1,0,none⟩) 1 1] (n:=w3.heap.size+1+1) jz).cons;have HFG:=fun W=>Lib.hid (frw (zDH W G));clear BX3 HKK HRT HS;generalize hfb:zAA G=fb at *;go_wp2_with fail;refine(HFG _).out.mono ?_;rintro o w4 ⟨rfl,b4⟩;have B5:=(inferInstance:Bag wz w4 _);clear B4 HFG;have hy0:aY minus p q M y inn k (k+1)=y:=by
         funext t;unfold aY
         rw[if_neg (by
          by_cases h1:k<t
          · rw[decide_eq_false (show ¬t<k+1 by omega),Bool.and_false,Bool.false_and];exact Bool.false_ne_true
          · rw[decide_eq_false h1,Bool.false_and,Bool.false_and];exact Bool.false_ne_true)]
        have hl0:=zRN inn k hin;have HV0:=Lib.hid (show aVl minus p q M y k k=G by unfold aVl;rw[if_pos rfl,HG.out]);have HIN:=Lib.hid hin;have HGb:=Lib.hid (show G<18446744073709551616 by rw[←HG.out];exact zNg _ _);generalize w3.heap.size+1+1=xb at *;generalize w.heap.size=rb at *;clear hin b4 b3 b2 b1 hz h1 iR iC dl dw ml mw n2' m2' bx;go_wp2_with fail
        go_loopw [15,16] (fun a15 a16 wr=>∃(i:Nat) (f:Bool) (y':Nat→Nat) (v1 v2:Value) (l lv:List Nat),k+1≤i∧i≤n∧a15=.bool f∧a16=.int .i64 i∧(f=true→fb=true∧(∀t,k+1≤t→t<i→aC minus p q M y inn t=0)∧y'=aY minus p q M y inn k i∧l=aRw inn k i∧lv=(aRw inn k i).map (aVl minus p q M y k))∧(f=false→R=233)∧(∀t,t<n→y' t<18446744073709551616)∧(∀t,t<lv.length→lv.getD t 0<18446744073709551616)∧l.length≤n∧lv.length≤n∧Bag wz wr (box xb 126 [v1,v2]::row 37 1 v2 lv.length (zAI lv)::row 3 1 v1 l.length (zA2 l)::un (dyb lb dp la lc) (dyb qb dq qa qc)::box rb 126 [.slice none 0 0,.slice none 0 0]::box cb 129 [.slice (some ⟨wb,0,none⟩) n N,.bool minus]::zE5 wb N n y'::(arr ib 4 n fun t=>.bool (inn t))::mpI mb c M::D)) (fun _ x _=>n-(intOf x).toNat)
        case atStart=>exact⟨k+1,fb,y,_,_,[k],[G],Nat.le_refl _,j0,rfl,jm,fun h=>⟨h,fun t h1 h2=>j0,hy0.symm,hl0.symm,by rw[hl0,List.map_cons,List.map_nil,HV0.out]⟩,fun h=>by rw[HR2.out,h];rfl,HY.out,fun t ht=>by rcases t with _ | t;exact HGb.out;exact absurd ht jz,jq,jq,B5⟩
        case round=>
         clear B5 hy0 hl0;obtain⟨i,f,y',v1,v2,l,lv,hi0,hi1,rfl,rfl,hT,hF,hyb,hlb,hll,hlv,iB⟩:=hrel;haveI bw:=iB.fr';have HT:=Lib.hid hT;have HF:=Lib.hid hF;have HYB:=Lib.hid hyb;have HLB:=Lib.hid hlb;clear hT hF hyb hlb;obtain⟨t1,s1,rfl⟩:=zA3 (iB.own 2 rfl);obtain⟨t2,s2,rfl⟩:=zA3 (iB.own 1 rfl);haveI iX:=iB.vb 0 rfl;haveI iR:=iB.vb 4 rfl
         cases f with
         | false=>
          have HNO:=Lib.hid (HF.out rfl);have BP:=(iB.put 4 rfl 0 (.slice none 0 0)).put 4 rfl 1 (.slice none 0 0);have BQ:=(BP.sub (((((List.sublist_cons_self _ _).trans (List.sublist_cons_self _ _)).trans (List.sublist_cons_self _ _)).trans (List.sublist_cons_self _ _)).trans (List.sublist_cons_self _ _))).nil2 (fun t=>((([]:List Nat).getD t 0:Nat):Int)) (fun t=>([]:List Nat).getD t 0);go_wp2_with fail
          all_goals(
           refine bodyPost_ret (v:=.tuple #[.agg #[.slice none 0 0,.slice none 0 0],.int .i64 233]) (by simp only[results,Tryz.results83];go_simp) rfl ?_;exact⟨y',none,0,none,0,[],[],K9,BQ,HYB.out,fun h=>by rw[HNO.out]at h;omega⟩)
         | true=>
          obtain⟨hfb1,hA,hY,hl,hv⟩:=HT.out rfl;have HA:=Lib.hid hA;have HYe:=Lib.hid hY;have HLe:=Lib.hid hl;have HVe:=Lib.hid hv;have HFB:=Lib.hid hfb1;clear hA hY hl hv HT HF hfb1
          by_cases hlt:i<n
          · have yi:=fun W=>zCz 23 ib i n n hlt W;haveI z1:=iB.we 7 rfl hlt
            cases hu:inn i with
            | false=>
             rw[hu]at z1;have hA2:=Lib.hid (show∀t,k+1≤t→t<i+1→aC minus p q M y inn t=0 from fun t h1 h2=>by
              rcases Nat.lt_succ_iff_lt_or_eq.1 h2 with h3 | h3
              · exact HA.out t h1 h3
              · rw[h3];unfold aC;rw[hu];rfl)
             have hY2:=Lib.hid (show y'=aY minus p q M y inn k (i+1)by
              rw[HYe.out];funext t;unfold aY
              by_cases e:t=i
              · rw[e,hu,Bool.and_false,Bool.and_false]
              · rw[show decide (t<i+1)=decide (t<i)from decide_eq_decide.2 j0])
             have hR2:=Lib.hid (show aRw inn k (i+1)=aRw inn k i from zP2 (by show(decide (k≤i)&&inn i)=false;rw[hu,Bool.and_false]));clear hu;go_wp2_with fail;go_roundw
             case rel=>exact⟨i+1,true,y',_,_,l,lv,j0,j0,rfl,jm,fun _=>⟨HFB.out,hA2.out,hY2.out,by rw[hR2.out];exact HLe.out,by rw[hR2.out];exact HVe.out⟩,fun h=>absurd h.symm Bool.false_ne_true,HYB.out,HLB.out,hll,hlv,iB⟩
             case measure=>exact jb
            | true=>
             rw[hu]at z1;have HUI:=Lib.hid hu;have yMi:=fun W [MP W mb M]=>MP.rd (W:=W) (b:=mb) (M:=M) (i:=i) j0;have ywi:=fun W=>zCz 25 wb i n N hlt W;haveI z2:=iB.wx 6 rfl hlt;haveI iM:MP wr mb M:=⟨c,iB.at 8 rfl⟩;haveI iC:=iB.vb 5 rfl;have yb:=HYB.out i hlt;have HP2:=fun W [Tb W]=>Lib.hid (zIx (zE4 W (M i) (hM i) tb));have HQ2:=fun W [Tb W]=>Lib.hid (zIx (zE4 W (y' i) yb tb));have Na:=zBv (M i);have Nb:=zBv (y' i);have HYi:=Lib.hid (show y' i=y i by rw[HYe.out];unfold aY;rw[if_neg (by rw[decide_eq_false (Nat.lt_irrefl i),Bool.and_false,Bool.false_and];exact Bool.false_ne_true)]);clear hu;generalize hx1:M i=mi at *;generalize hx2:y' i=yi' at *;have HMi:=Lib.hid hx1;have HYi2:=Lib.hid hx2;clear hx1 hx2;generalize hx3:fof mi=da at *;generalize hx4:fof yi'=db at *;have HDA:=Lib.hid hx3;have HDB:=Lib.hid hx4;clear hx3 hx4;go_wp2_with fail;refine zCa je (fun w0 b0=>?_);refine tkz 0 74 (.map (some mb)) (hy:=fun w hSw=>js) (hS:=Below.refl _ _) (h:=?_);refine tkz 1 75 (.int .i64 (i:Int)) (hy:=fun w hSw=>js) (hS:=Below.refl _ _) (h:=?_);refine tkz 2 76 (.int .u64 (mi:Int)) (hy:=fun w hSw=>js) (hS:=Below.refl _ _) (h:=?_);refine tkz 4 78 (.pointer (some ⟨cb,0,none⟩)) (hy:=fun w hSw=>js) (hS:=Below.refl _ _) (h:=?_);refine tkz 5 79 (.pointer (some ⟨cb,0,none⟩)) (hy:=fun w hSw=>js) (hS:=Below.refl _ _) (h:=?_);refine tkz 6 80 (.pointer (some ⟨cb,0,none⟩)) (hy:=fun w hSw=>js) (hS:=Below.refl _ _) (h:=?_);refine tkz 7 81 (.slice (some ⟨wb,0,none⟩) n N) (hy:=fun w hSw=>js) (hS:=Below.refl _ _) (h:=?_);refine tkz 8 82 (.int .i64 (i:Int)) (hy:=fun w hSw=>js) (hS:=Below.refl _ _) (h:=?_);refine tkz 9 83 (.pointer (some ⟨wb,i,none⟩)) (hy:=fun w hSw=>js) (hS:=Below.refl _ _) (h:=?_);refine tkz 10 84 (.int .u64 (yi':Int)) (hy:=fun w hSw=>js) (hS:=Below.refl _ _) (h:=?_);have hN0:=ND.start w0 (zCO da db da db) (fun _=>0) (fun _=>none) (fun _=>0);refine zEL w0 (zCO da db da db) (fun al ca st ex=>#[true,true,true,ca 0,true,true,true,true,true,true,true,ca 1,al 0,al 1,st 0,st 1]) (fun al ca ex bf af cf=> [(77,DTo (ca 0) ((zCO da db da db) 0) (af 0) (cf 0) u77),(85,DTo (ca 1) ((zCO da db da db) 1) (af 1) (cf 1) u85),(17,PTo (al 0) (bf 0) u17),(18,PTo (al 1) (bf 1) u18)]) (fun al ca st ex af cf=>FrX (zCO da db da db) w0.heap.size ca af) rfl hN0 (ex:=fun _=>false) (fun j h=>absurd h Bool.false_ne_true) rfl Kh ja je (fun _ _ _ _=>rfl) ?_ ?_
             · intro al ca st ex bf af cf vw hN hX hw0
               repeat' (first | exact AllI.nil | refine AllI.cons ?_ ?_)
               · exact jM
               · exact jM
               · exact jM
               · intro (hl:ca 0=false) _ K hK;simp only[zAV,List.setIfInBounds_toArray,List.set_cons_zero,List.set_cons_succ];go_simp;refine(HP2 _).out.mono ?_;rintro o w1 ⟨a1,c1,rfl,m1,b1,f1⟩;go_simp;exact zIm hK hN 0 hl (FrX.up hX (fun h=>Nat.le_trans hN.beh.size (f1 h))) b1 m1 f1
               · exact jM
               · exact jM
               · exact jM
               · exact jM
               · exact jM
               · exact jM
               · exact jM
               · intro (hl:ca 1=false) _ K hK;simp only[zAV,List.setIfInBounds_toArray,List.set_cons_zero,List.set_cons_succ];go_simp;refine(HQ2 _).out.mono ?_;rintro o w1 ⟨a1,c1,rfl,m1,b1,f1⟩;go_simp;exact zIm hK hN 1 hl (FrX.up hX (fun h=>Nat.le_trans hN.beh.size (f1 h))) b1 m1 f1
               · exact KA
               · exact QS
               · intro _ haf K hK;have h1:al 0=true:=haf ⟨12,.data⟩ jz rfl;have h2:ca 0=true:=haf ⟨3,.data⟩ jz rfl;clear haf;haveI hz:=(hN.bx 0 h1).2.spec;simp[zAV,h1,h2,zDP,zDQ,go_sem];have hS:=hN.store 0 h1 h2;exact zMD hK 0 hS hX KQ
               · intro _ haf K hK;have h1:al 1=true:=haf ⟨13,.data⟩ jz rfl;have h2:ca 1=true:=haf ⟨11,.data⟩ jz rfl;clear haf;haveI hz:=(hN.bx 1 h1).2.spec;simp[zAV,h1,h2,zDP,zDQ,go_sem];have hS:=hN.store 1 h1 h2;exact zMD hK 1 hS hX KQ
             · intro al ca st ex bf af cf vw hN hX hw0 hall;have q3:ca 0=true:=hall 3 ja;have q11:ca 1=true:=hall 11 ja;have q12:al 0=true:=hall 12 ja;have q13:al 1=true:=hall 13 ja;have q14:st 0=true:=hall 14 ja;have q15:st 1=true:=hall 15 ja;clear hall;simp only[zAV,q3,q11,q12,q13,zDP,zDQ,List.setIfInBounds_toArray,List.set_cons_zero,List.set_cons_succ];have n0:=hN.se 0 q14;have n1:=hN.se 1 q15;have g0:=(hN.bx 0 q12).1;have g1:=(hN.bx 1 q13).1;have m0:=hN.nu 0 q3;have m1:=hN.nu 1 q11;have x0:=hX 0 q3;have x1:=hX 1 q11;have BL:Bag w0 vw [un (dyb (bf 0) da (af 0) (cf 0)) (dyb (bf 1) db (af 1) (cf 1))]:=Bag.one hw0.out ⟨⟨n0.2.2,m0⟩,⟨n1.2.2,m1⟩⟩ (by
                intro g hg;rcases hg with(hg | hg) | (hg | hg)
                · rw[←hg];exact g0
                · rw[←hg.2];exact x0 hg.1
                · rw[←hg];exact g1
                · rw[←hg.2];exact x1 hg.1)
               have BB:=Bag.front (inferInstance:Bag wz w0 _) BL;generalize bf 0=ab1 at *;generalize bf 1=bb1 at *;generalize af 0=aa1 at *;generalize cf 0=ac1 at *;generalize af 1=ba1 at *;generalize cf 1=bc1 at *;have hBB:=Lib.hid BB;clear hN hX hw0 n0 n1 g0 g1 m0 m1 x0 x1 q3 q11 q12 q13 q14 q15 BL BB b0 iB bw iC iM iX iR z1 z2;have BB:=hBB.out;clear hBB;haveI bw:=BB.fr';haveI dl:DB vw lb (zAj dp) (decide (zA1 dp<0)) (.slice la (nl (zA1 dp).natAbs) lc) (zA7 dp):=BB.at 4 rfl |>.1.1
               haveI dw:DB vw qb (zAj dq) (decide (zA1 dq<0)) (.slice qa (nl (zA1 dq).natAbs) qc) (zA7 dq):=BB.at 4 rfl |>.2.1
               haveI ml:BI vw la (nl (zA1 dp).natAbs) lc (zA1 dp).natAbs:=⟨BB.at 4 rfl |>.1.2⟩;haveI mw:BI vw qa (nl (zA1 dq).natAbs) qc (zA1 dq).natAbs:=⟨BB.at 4 rfl |>.2.2⟩;haveI da0:DB vw ab1 (zAj da) (decide (zA1 da<0)) (.slice aa1 (nl (zA1 da).natAbs) ac1) (zA7 da):=BB.at 0 rfl |>.1.1
               haveI db0:DB vw bb1 (zAj db) (decide (zA1 db<0)) (.slice ba1 (nl (zA1 db).natAbs) bc1) (zA7 db):=BB.at 0 rfl |>.2.1
               haveI ma:BI vw aa1 (nl (zA1 da).natAbs) ac1 (zA1 da).natAbs:=⟨BB.at 0 rfl |>.1.2⟩;haveI mb1:BI vw ba1 (nl (zA1 db).natAbs) bc1 (zA1 db).natAbs:=⟨BB.at 0 rfl |>.2.2⟩;haveI iC:=BB.vb 6 rfl;haveI iX:=BB.vb 1 rfl;go_wp2_with fail;have HM1:=fun W a c a' c' [i:BI W a (nl (zA1 dp).natAbs) c (zA1 dp).natAbs] [j:BI W a' (nl (zA1 da).natAbs) c' (zA1 da).natAbs] [Tb W]=>Lib.hid (zIx (zDa W _ _ _ _ _ _ _ _ _ _ _ _ dp da (zAp Np i.out) (zAp Na j.out) tb));have HM2:=fun W a c a' c' [i:BI W a (nl (zA1 dq).natAbs) c (zA1 dq).natAbs] [j:BI W a' (nl (zA1 db).natAbs) c' (zA1 db).natAbs] [Tb W]=>Lib.hid (zIx (zDa W _ _ _ _ _ _ _ _ _ _ _ _ dq db (zAp Nq i.out) (zAp Nb j.out) tb));have HM3:=fun W a c a' c' [i:BI W a (nl (zA1 dp).natAbs) c (zA1 dp).natAbs] [j:BI W a' (nl (zA1 db).natAbs) c' (zA1 db).natAbs] [Tb W]=>Lib.hid (zIx (zDa W _ _ _ _ _ _ _ _ _ _ _ _ dp db (zAp Np i.out) (zAp Nb j.out) tb));have HM4:=fun W a c a' c' [i:BI W a (nl (zA1 dq).natAbs) c (zA1 dq).natAbs] [j:BI W a' (nl (zA1 da).natAbs) c' (zA1 da).natAbs] [Tb W]=>Lib.hid (zIx (zDa W _ _ _ _ _ _ _ _ _ _ _ _ dq da (zAp Nq i.out) (zAp Na j.out) tb));have N1:IsN (zAO dp da):=zCS _ _;have N2:IsN (zAO dq db):=zCS _ _;have N3:IsN (sgd minus (zAO dq db)):=zMZ _ N2;have N4:IsN (zI2 (zAO dp da) (sgd minus (zAO dq db))):=zGx _ _;have N5:IsN (zAO dp db):=zCS _ _;have N6:IsN (zAO dq da):=zCS _ _;have N7:IsN (zOf (zAO dp db) (zAO dq da)):=zGx _ _;have NG:=zBv G;have HSG2:=fun W sl a c [VB W cb [sl,.bool minus]] [i:BI W a (nl (zA1 (zAO dq db)).natAbs) c (zA1 (zAO dq db)).natAbs] [Tb W]=>Lib.hid (zEM W cb sl minus _ N2 a c);have HA2:=fun W a c a' c' [i:BI W a (nl (zA1 (zAO dp da)).natAbs) c (zA1 (zAO dp da)).natAbs] [j:BI W a' (nl (zA1 (sgd minus (zAO dq db))).natAbs) c' (zA1 (sgd minus (zAO dq db))).natAbs] [Tb W]=>Lib.hid (zIx (zGG W _ _ _ _ _ _ _ _ _ _ _ _ _ _ (zAp N1 i.out) (zAp N3 j.out) tb));have HOG:=fun W [Tb W]=>Lib.hid (zIx (zE4 W G HGb.out tb));have HQ1:=fun W a c a' c' [i:BI W a (nl (zA1 (zI2 (zAO dp da) (sgd minus (zAO dq db)))).natAbs) c (zA1 (zI2 (zAO dp da) (sgd minus (zAO dq db)))).natAbs] [j:BI W a' (nl (zA1 (fof G)).natAbs) c' (zA1 (fof G)).natAbs] [Tb W]=>Lib.hid (frm (zIT W _ _ _ _ _ _ _ _ _ _ _ _ 0 _ _ (zAp N4 i.out) (zAp NG j.out) tb));have HSB:=fun W a c a' c' [i:BI W a (nl (zA1 (zAO dp db)).natAbs) c (zA1 (zAO dp db)).natAbs] [j:BI W a' (nl (zA1 (zAO dq da)).natAbs) c' (zA1 (zAO dq da)).natAbs] [Tb W]=>Lib.hid (zIx (zPx W _ _ _ _ _ _ _ _ _ _ _ _ _ _ (zAp N5 i.out) (zAp N6 j.out) tb));have HQ3:=fun W a c a' c' [i:BI W a (nl (zA1 (zOf (zAO dp db) (zAO dq da))).natAbs) c (zA1 (zOf (zAO dp db) (zAO dq da))).natAbs] [j:BI W a' (nl (zA1 (fof G)).natAbs) c' (zA1 (fof G)).natAbs] [Tb W]=>Lib.hid (frm (zIT W _ _ _ _ _ _ _ _ _ _ _ _ 0 _ _ (zAp N7 i.out) (zAp NG j.out) tb));have HUL:=Lib.hid (show uL minus p q (M i) (y i)=zEH (zI2 (zAO dp da) (sgd minus (zAO dq db))) (fof G) 0 by unfold uL;rw[HG.out,HDP.out,HDQ.out,HMi.out,←HYi.out,HDA.out,HDB.out]);have HUY:=Lib.hid (show uY minus p q (M i) (y i)=zEH (zOf (zAO dp db) (zAO dq da)) (fof G) 0 by unfold uY;rw[HG.out,HDP.out,HDQ.out,HMi.out,←HYi.out,HDA.out,HDB.out]);have HLb:=Lib.hid (zJW (zI2 (zAO dp da) (sgd minus (zAO dq db))) (fof G) 0);have HYb:=Lib.hid (zJW (zOf (zAO dp db) (zAO dq da)) (fof G) 0);generalize zEH (zI2 (zAO dp da) (sgd minus (zAO dq db))) (fof G) 0=vL at *;generalize zEH (zOf (zAO dp db) (zAO dq da)) (fof G) 0=vY at *;generalize zI2 (zAO dp da) (sgd minus (zAO dq db))=d4 at *;generalize zOf (zAO dp db) (zAO dq da)=d7 at *;generalize sgd minus (zAO dq db)=d3 at *;generalize zAO dp da=d1 at *;generalize zAO dq db=d2 at *;generalize zAO dp db=d5 at *;generalize zAO dq da=d6 at *;generalize fof G=dg at *;refine bgj (fun w'=>Below vw.heap.size vw w') [] je (zbh) (fun hHeld=>?_);simp only[List.size_toArray,List.length_cons,List.length_nil,Nat.reduceAdd,Array.replicate_succ,Array.replicate_zero,List.push_toArray,List.nil_append,List.cons_append];refine tk 0 86 [2,6,7,8,10,11,12] ?_;refine tk 1 87 [2,6,7,8,10,11,12] ?_;refine tk 3 89 [7,8,10,11,12] ?_;refine tk 4 90 [6,7,8,10,11,12] ?_;refine tk 5 91 [6,7,8,10,11,12] ?_;refine tk 9 95 [10,11,12] ?_;refine stj 2 (h:=fun K hK=>?_);go_simp;refine(HM1 _ _ _ _ _).out.mono ?_;rintro o w5 ⟨a5,c5,rfl,m5,b5,f5⟩;go_simp;refine hK.out _ _ (Or.inr zbh) ?_;clear hK K
               try simp only[List.setIfInBounds_toArray,List.set_cons_zero,List.set_cons_succ]
               refine stj 6 (h:=fun K hK=>?_);go_simp;refine(HM2 _ _ _ _ _).out.mono ?_;rintro o w6 ⟨a6,c6,rfl,m6,b6,f6⟩;go_simp;refine hK.out _ _ (Or.inr zbh) ?_;clear hK K
               try simp only[List.setIfInBounds_toArray,List.set_cons_zero,List.set_cons_succ]
               refine stj 7 (h:=fun K hK=>?_);go_simp;refine(HSG2 _ _ _ _).out.mono ?_;rintro o w7 ⟨a7,c7,rfl,m7,b7,f7⟩;go_simp;refine hK.out _ _ (Or.inr zbh) ?_;clear hK K
               try simp only[List.setIfInBounds_toArray,List.set_cons_zero,List.set_cons_succ]
               refine stj 8 (h:=fun K hK=>?_);go_simp;refine(HA2 _ _ _ _ _).out.mono ?_;rintro o w8 ⟨a8,c8,rfl,m8,b8,f8⟩;go_simp;refine hK.out _ _ (Or.inr zbh) ?_;clear hK K
               try simp only[List.setIfInBounds_toArray,List.set_cons_zero,List.set_cons_succ]
               refine stj 10 (h:=fun K hK=>?_);go_simp;refine(HOG _).out.mono ?_;rintro o w9 ⟨a9,c9,rfl,m9,b9,f9⟩;go_simp;refine hK.out _ _ (Or.inr zbh) ?_;clear hK K
               try simp only[List.setIfInBounds_toArray,List.set_cons_zero,List.set_cons_succ]
               refine stj 11 (h:=fun K hK=>?_);go_simp;refine(HQ1 _ _ _ _ _).out.mono ?_;rintro o wa ⟨rfl,ba⟩;go_simp;refine hK.out _ _ (Or.inr zbh) ?_;clear hK K
               try simp only[List.setIfInBounds_toArray,List.set_cons_zero,List.set_cons_succ]
               refine stj 12 (h:=fun K hK=>?_);go_simp;refine hK.out _ _ (Or.inr zbh) ?_;clear hK K
               try simp only[List.setIfInBounds_toArray,List.set_cons_zero,List.set_cons_succ]
               refine enj je ?_ _;go_wp2_with fail;have BW:=(inferInstance:Bag wz wa _);clear HM1 HM2 HA2 HQ1 HSG2;refine bgj (fun w'=>Below wa.heap.size wa w') [16] je (zbh) (fun hHeld=>?_);simp only[List.size_toArray,List.length_cons,List.length_nil,Nat.reduceAdd,Array.replicate_succ,Array.replicate_zero,List.push_toArray,List.nil_append,List.cons_append];refine tk 0 98 [1,2,3,15,16] ?_;refine tk 1 99 [2,3,15,16] ?_;refine tk 2 100 [3,15,16] ?_;refine tk 3 101 [15,16] ?_;refine tk 4 102 [15,16] ?_;refine tk 5 103 [7,10,11,13,14,15,16] ?_;refine tk 6 104 [7,10,11,13,14,15,16] ?_;refine tk 8 106 [10,11,13,14,15,16] ?_;refine tk 9 107 [10,11,13,14,15,16] ?_;refine tk 12 110 [13,14,15,16] ?_;refine stj 7 (h:=fun K hK=>?_);go_simp;refine(HM3 _ _ _ _ _).out.mono ?_;rintro o w5 ⟨a5,c5,rfl,m5,b5,f5⟩;go_simp;refine hK.out _ _ (Or.inr zbh) ?_;clear hK K
               try simp only[List.setIfInBounds_toArray,List.set_cons_zero,List.set_cons_succ]
               refine stj 10 (h:=fun K hK=>?_);go_simp;refine(HM4 _ _ _ _ _).out.mono ?_;rintro o w6 ⟨a6,c6,rfl,m6,b6,f6⟩;go_simp;refine hK.out _ _ (Or.inr zbh) ?_;clear hK K
               try simp only[List.setIfInBounds_toArray,List.set_cons_zero,List.set_cons_succ]
               refine stj 11 (h:=fun K hK=>?_);go_simp;refine(HSB _ _ _ _ _).out.mono ?_;rintro o w7 ⟨a7,c7,rfl,m7,b7,f7⟩;go_simp;refine hK.out _ _ (Or.inr zbh) ?_;clear hK K
               try simp only[List.setIfInBounds_toArray,List.set_cons_zero,List.set_cons_succ]
               refine stj 13 (h:=fun K hK=>?_);go_simp;refine(HOG _).out.mono ?_;rintro o w8 ⟨a8,c8,rfl,m8,b8,f8⟩;go_simp;refine hK.out _ _ (Or.inr zbh) ?_;clear hK K
               try simp only[List.setIfInBounds_toArray,List.set_cons_zero,List.set_cons_succ]
               refine stj 14 (h:=fun K hK=>?_);go_simp;refine(HQ3 _ _ _ _ _).out.mono ?_;rintro o w9 ⟨rfl,b9⟩;haveI z9:=(inferInstance:Bag wz w9 _).wx 7 rfl hlt;go_simp;refine hK.out _ _ (Or.inr zbh) ?_;clear hK K
               try simp only[List.setIfInBounds_toArray,List.set_cons_zero,List.set_cons_succ]
               refine tk 15 113 [16] ?_;refine stj 16 (h:=fun K hK=>?_);go_simp;refine hK.out _ _ (Or.inl ja) ?_;clear hK K
               try simp only[List.setIfInBounds_toArray,List.set_cons_zero,List.set_cons_succ]
               refine enj je ?_ _;have B9:=((inferInstance:Bag wz w9 _).sx 7 rfl i vY).sub (List.sublist_cons_self _ _);generalize (w9.setCell ⟨wb,i,none⟩ (.int .u64 (vY:Int)))=ws at *;have HTn:=Lib.hid (show zAA vL=true→zAA vY=true→fb=true∧(∀t,k+1≤t→t<i+1→aC minus p q M y inn t=0)∧(fun t=>if t=i then vY else y' t)=aY minus p q M y inn k (i+1)∧l++ [i]=aRw inn k (i+1)∧lv++ [vL]=(aRw inn k (i+1)).map (aVl minus p q M y k)from fun f1 f2=>by
                have hr:aRw inn k (i+1)=aRw inn k i++ [i]:=zJs (by show(decide (k≤i)&&inn i)=true;rw[HUI.out,decide_eq_true j0];rfl);refine⟨HFB.out,fun t h1 h2=>?_,?_,by rw[hr,HLe.out],by rw[hr,List.map_append,HVe.out,List.map_cons,List.map_nil];congr 2;unfold aVl;rw[if_neg j0];exact HUL.out.symm⟩
                · rcases Nat.lt_succ_iff_lt_or_eq.1 h2 with h3 | h3
                  · exact HA.out t h1 h3
                  · rw[h3];unfold aC;rw[HUI.out,if_pos rfl,HUL.out,HUY.out,f1,f2];rfl
                · funext t
                  show(if t=i then vY else y' t)=aY minus p q M y inn k (i+1) t
                  by_cases e:t=i
                  · rw[if_pos e,e];unfold aY;rw[HUI.out,decide_eq_true (show k<i by omega),decide_eq_true (Nat.lt_succ_self i),if_pos ja,HUY.out]
                  · rw[if_neg e,HYe.out];unfold aY;rw[show decide (t<i+1)=decide (t<i)from decide_eq_decide.2 j0])
               have HFn:=Lib.hid (show(zAA vL&&zAA vY)=false→R=233 from fun h=>by
                have hc:aC minus p q M y inn i=233:=(by unfold aC;rw[HUI.out,if_pos rfl,HUL.out,HUY.out,h];rfl);rw[HR2.out,HFB.out,if_pos rfl,zEm (i-(k+1)) (k+1) (n-(k+1)) j0 (zCo _ _ fun t h1 h2=>HA.out t h1 j0),show k+1+(i-(k+1))=i by omega,zHI (by rw[hc];omega) j0,hc])
               have HYB2:=Lib.hid (show∀t,t<n→(if t=i then vY else y' t)<18446744073709551616 from fun t ht=>by split;exact HYb.out;exact HYB.out t ht);have HLB2:=Lib.hid (show∀t,t<(lv++ [vL]).length→(lv++ [vL]).getD t 0<18446744073709551616 from fun t ht=>zJU (P:=fun z=>z<18446744073709551616) rfl HLB.out HLb.out (by simpa using ht));have hll2:l.length+1≤n:=(by have:=zO7 inn k i;rw[←HLe.out]at this;omega);have hlv2:lv.length+1≤n:=(by have:=zO7 inn k i;rw[HVe.out,List.length_map];omega);clear hHeld HM3 HM4 HSB HOG HQ3 N1 N2 N3 N4 N5 N6 N7 NG Na Nb Np Nq Npp Nqq Nsq SQ HSQ HPP HQQ HAD HP HQ yM yk yMi ywi yi yb;haveI bs:=B9.fr';haveI iX9:=B9.vb 0 rfl;have hO1:∀b,ws.heap.size≤b→(Value.slice t1 l.length s1).ownBlock≠some b:=fun b hb e=>(by have:=(B9.own 2 rfl).lt b e;omega);have hO2:∀b,ws.heap.size≤b→(Value.slice t2 lv.length s2).ownBlock≠some b:=fun b hb e=>(by have:=(B9.own 1 rfl).lt b e;omega);have HFL:=fun W=>Lib.hid (frw (zDH W vL));have HFY:=fun W=>Lib.hid (frw (zDH W vY));go_wp2_with fail;refine bgj (fun w'=>VB w' xb [.slice t1 l.length s1,.slice t2 lv.length s2]) [11,12,13] je (jl) (fun hHeld=>?_);simp only[List.size_toArray,List.length_cons,List.length_nil,Nat.reduceAdd,Array.replicate_succ,Array.replicate_zero,List.push_toArray,List.nil_append,List.cons_append];refine tkj 0 114 ?_ [1,4,9,10,11,12,13] (hy:=?_) (hS:=jl) (h:=?_);rotate_left
               · exact jo
               refine tkj 1 115 ?_ [4,9,10,11,12,13] (hy:=?_) (hS:=jl) (h:=?_);rotate_left
               · exact jo
               refine tkj 2 116 ?_ [3,4,9,10,11,12,13] (hy:=?_) (hS:=jl) (h:=?_);rotate_left
               · exact jo
               refine tkj 5 119 ?_ [6,9,10,11,12,13] (hy:=?_) (hS:=jl) (h:=?_);rotate_left
               · exact jo
               refine tkj 6 120 ?_ [9,10,11,12,13] (hy:=?_) (hS:=jl) (h:=?_);rotate_left
               · exact jo
               refine tkj 7 121 ?_ [8,9,11,12,13] (hy:=?_) (hS:=jl) (h:=?_);rotate_left
               · exact jo
               refine zS7 3 8 (h:=fun K hK=>?_) (h':=fun K hK=>?_)
               · go_simp;refine hK.out _ _ (Or.inr jl) ?_;clear hK K
                 try simp only[List.setIfInBounds_toArray,List.set_cons_zero,List.set_cons_succ]
                 refine zS7 4 8 (h:=fun K hK=>?_) (h':=fun K hK=>?_)
                 · refine zCJ jA _ _ jA wz 2 jA jA _ i jA Kt j0 ?_;intro g4 cap4 w4 B4 hc4;haveI iX4:=B4.vb 0 rfl;refine hK.out _ _ (Or.inr jl) ?_;clear hK K
                   try simp only[Act.put,List.setIfInBounds_toArray,List.set_cons_zero,List.set_cons_succ]
                   refine tkj 10 124 ?_ [11,12,13] (hy:=?_) (hS:=jl) (h:=?_);rotate_left
                   · exact jo
                   refine stj 8 (h:=fun K hK=>?_);go_simp;refine hK.out _ _ (Or.inr jl) ?_;clear hK K
                   try simp only[List.setIfInBounds_toArray,List.set_cons_zero,List.set_cons_succ]
                   refine stj 9 (h:=fun K hK=>?_);refine zCK jA _ _ jA wz 1 jA jA _ vL jA Ku j0 ?_;intro g5 cap5 w5' B5 hc5;haveI iX5:=B5.vb 0 rfl;refine hK.out _ _ (Or.inr jl) ?_;clear hK K
                   try simp only[Act.put,List.setIfInBounds_toArray,List.set_cons_zero,List.set_cons_succ]
                   refine stj 11 (h:=fun K hK=>?_);go_simp;refine hK.out _ _ (Or.inl ja) ?_;clear hK K
                   try simp only[List.setIfInBounds_toArray,List.set_cons_zero,List.set_cons_succ]
                   refine stj 12 (h:=fun K hK=>?_);go_simp;refine hK.out _ _ (Or.inl ja) ?_;clear hK K
                   try simp only[List.setIfInBounds_toArray,List.set_cons_zero,List.set_cons_succ]
                   refine stj 13 (h:=fun K hK=>?_);go_simp;refine hK.out _ _ (Or.inl ja) ?_;clear hK K
                   try simp only[List.setIfInBounds_toArray,List.set_cons_zero,List.set_cons_succ]
                   refine enj je ?_ _;have BF:=(B5.put 0 rfl 0 (.slice (some ⟨g4,0,none⟩) (l.length+1) cap4)).put 0 rfl 1 (.slice (some ⟨g5,0,none⟩) (lv.length+1) cap5);simp only[List.set_cons_zero,List.set_cons_succ]at BF;generalize ((w5'.setCell ⟨xb,0,none⟩ (.slice (some ⟨g4,0,none⟩) (l.length+1) cap4)).setCell ⟨xb,1,none⟩ (.slice (some ⟨g5,0,none⟩) (lv.length+1) cap5))=wf at *;haveI bwf:=BF.fr';haveI iCf:=BF.vb 5 rfl;have zf:WE wf wb i (.int .u64 (vY:Int)):=Qe;haveI zf':=zf;clear hO1 hO2;(try clear hc4);(try clear hc5);have e1:l.length+1=(l++ [i]).length:=Kz;have e2:lv.length+1=(lv++ [vL]).length:=Kz;rw[e1,e2]at BF;have HBF:=Lib.hid BF;have he1:(l++ [i]).length≤n:=(by rw[←e1];exact hll2);have he2:(lv++ [vL]).length≤n:=(by rw[←e2];exact hlv2);rw[←e1]at he1;clear B4 B5 BF zf bs iX9 iX4 iX5 B9 e1 e2 he1;have yi:=fun W=>zCz 25 wb i n N hlt W;generalize hf1:zAA vL=fL at *;generalize hf2:zAA vY=fY at *;clear hf1 hf2;go_wp2_with fail;refine(HFL _).out.mono ?_;rintro o wg ⟨rfl,bg⟩
                   cases fL with
                   | false=>
                    have HRN:=Lib.hid (HFn.out rfl);go_wp2_with fail;go_roundw
                    case rel=>exact⟨i+1,false,_,_,_,l++ [i],lv++ [vL],j0,j0,rfl,jm,fun h=>absurd h Bool.false_ne_true,fun _=>HRN.out,HYB2.out,HLB2.out,Kj,he2,HBF.out.on bg.out⟩
                    case measure=>exact jb
                   | true=>
                    go_wp2_with fail;refine(HFY _).out.mono ?_;rintro o wh ⟨rfl,bh⟩;have HT3:=Lib.hid fun h:fY=true=>HTn.out (by trivial) h;have HF3:=Lib.hid fun h:fY=false=>HFn.out (by rw[h];rfl);have HBH:=Lib.hid ((HBF.out.on bg.out).on bh.out);go_wp2_with fail;go_roundw
                    case rel=>exact⟨i+1,fY,_,_,_,l++ [i],lv++ [vL],j0,j0,rfl,jm,HT3.out,HF3.out,HYB2.out,HLB2.out,Kj,he2,HBH.out⟩
                    case measure=>exact jb
                 · go_simp;refine hK.out _ _ (Or.inr jl) ?_;clear hK K
                   try simp only[List.setIfInBounds_toArray,List.set_cons_zero,List.set_cons_succ]
                   refine stj 4 (h:=fun K hK=>?_);refine zCJ jA _ _ jA wz 2 jA jA _ i jA Kt j0 ?_;intro g4 cap4 w4 B4 hc4;haveI iX4:=B4.vb 0 rfl;refine hK.out _ _ (Or.inr jl) ?_;clear hK K
                   try simp only[Act.put,List.setIfInBounds_toArray,List.set_cons_zero,List.set_cons_succ]
                   refine tkj 10 124 ?_ [11,12,13] (hy:=?_) (hS:=jl) (h:=?_);rotate_left
                   · exact jo
                   refine stj 9 (h:=fun K hK=>?_);refine zCK jA _ _ jA wz 1 jA jA _ vL jA Ku j0 ?_;intro g5 cap5 w5' B5 hc5;haveI iX5:=B5.vb 0 rfl;refine hK.out _ _ (Or.inr jl) ?_;clear hK K
                   try simp only[Act.put,List.setIfInBounds_toArray,List.set_cons_zero,List.set_cons_succ]
                   refine stj 11 (h:=fun K hK=>?_);go_simp;refine hK.out _ _ (Or.inl ja) ?_;clear hK K
                   try simp only[List.setIfInBounds_toArray,List.set_cons_zero,List.set_cons_succ]
                   refine stj 12 (h:=fun K hK=>?_);go_simp;refine hK.out _ _ (Or.inl ja) ?_;clear hK K
                   try simp only[List.setIfInBounds_toArray,List.set_cons_zero,List.set_cons_succ]
                   refine stj 13 (h:=fun K hK=>?_);go_simp;refine hK.out _ _ (Or.inl ja) ?_;clear hK K
                   try simp only[List.setIfInBounds_toArray,List.set_cons_zero,List.set_cons_succ]
                   refine enj je ?_ _;have BF:=(B5.put 0 rfl 0 (.slice (some ⟨g4,0,none⟩) (l.length+1) cap4)).put 0 rfl 1 (.slice (some ⟨g5,0,none⟩) (lv.length+1) cap5);simp only[List.set_cons_zero,List.set_cons_succ]at BF;generalize ((w5'.setCell ⟨xb,0,none⟩ (.slice (some ⟨g4,0,none⟩) (l.length+1) cap4)).setCell ⟨xb,1,none⟩ (.slice (some ⟨g5,0,none⟩) (lv.length+1) cap5))=wf at *;haveI bwf:=BF.fr';haveI iCf:=BF.vb 5 rfl;have zf:WE wf wb i (.int .u64 (vY:Int)):=Qe;haveI zf':=zf;clear hO1 hO2;(try clear hc4);(try clear hc5);have e1:l.length+1=(l++ [i]).length:=Kz;have e2:lv.length+1=(lv++ [vL]).length:=Kz;rw[e1,e2]at BF;have HBF:=Lib.hid BF;have he1:(l++ [i]).length≤n:=(by rw[←e1];exact hll2);have he2:(lv++ [vL]).length≤n:=(by rw[←e2];exact hlv2);rw[←e1]at he1;clear B4 B5 BF zf bs iX9 iX4 iX5 B9 e1 e2 he1;have yi:=fun W=>zCz 25 wb i n N hlt W;generalize hf1:zAA vL=fL at *;generalize hf2:zAA vY=fY at *;clear hf1 hf2;go_wp2_with fail;refine(HFL _).out.mono ?_;rintro o wg ⟨rfl,bg⟩
                   cases fL with
                   | false=>
                    have HRN:=Lib.hid (HFn.out rfl);go_wp2_with fail;go_roundw
                    case rel=>exact⟨i+1,false,_,_,_,l++ [i],lv++ [vL],j0,j0,rfl,jm,fun h=>absurd h Bool.false_ne_true,fun _=>HRN.out,HYB2.out,HLB2.out,Kj,he2,HBF.out.on bg.out⟩
                    case measure=>exact jb
                   | true=>
                    go_wp2_with fail;refine(HFY _).out.mono ?_;rintro o wh ⟨rfl,bh⟩;have HT3:=Lib.hid fun h:fY=true=>HTn.out (by trivial) h;have HF3:=Lib.hid fun h:fY=false=>HFn.out (by rw[h];rfl);have HBH:=Lib.hid ((HBF.out.on bg.out).on bh.out);go_wp2_with fail;go_roundw
                    case rel=>exact⟨i+1,fY,_,_,_,l++ [i],lv++ [vL],j0,j0,rfl,jm,HT3.out,HF3.out,HYB2.out,HLB2.out,Kj,he2,HBH.out⟩
                    case measure=>exact jb
               · go_simp;refine hK.out _ _ (Or.inr jl) ?_;clear hK K
                 try simp only[List.setIfInBounds_toArray,List.set_cons_zero,List.set_cons_succ]
                 refine stj 3 (h:=fun K hK=>?_);go_simp;refine hK.out _ _ (Or.inr jl) ?_;clear hK K
                 try simp only[List.setIfInBounds_toArray,List.set_cons_zero,List.set_cons_succ]
                 refine stj 4 (h:=fun K hK=>?_);refine zCJ jA _ _ jA wz 2 jA jA _ i jA Kt j0 ?_;intro g4 cap4 w4 B4 hc4;haveI iX4:=B4.vb 0 rfl;refine hK.out _ _ (Or.inr jl) ?_;clear hK K
                 try simp only[Act.put,List.setIfInBounds_toArray,List.set_cons_zero,List.set_cons_succ]
                 refine tkj 10 124 ?_ [11,12,13] (hy:=?_) (hS:=jl) (h:=?_);rotate_left
                 · exact jo
                 refine stj 9 (h:=fun K hK=>?_);refine zCK jA _ _ jA wz 1 jA jA _ vL jA Ku j0 ?_;intro g5 cap5 w5' B5 hc5;haveI iX5:=B5.vb 0 rfl;refine hK.out _ _ (Or.inr jl) ?_;clear hK K
                 try simp only[Act.put,List.setIfInBounds_toArray,List.set_cons_zero,List.set_cons_succ]
                 refine stj 11 (h:=fun K hK=>?_);go_simp;refine hK.out _ _ (Or.inl ja) ?_;clear hK K
                 try simp only[List.setIfInBounds_toArray,List.set_cons_zero,List.set_cons_succ]
                 refine stj 12 (h:=fun K hK=>?_);go_simp;refine hK.out _ _ (Or.inl ja) ?_;clear hK K
                 try simp only[List.setIfInBounds_toArray,List.set_cons_zero,List.set_cons_succ]
                 refine stj 13 (h:=fun K hK=>?_);go_simp;refine hK.out _ _ (Or.inl ja) ?_;clear hK K
                 try simp only[List.setIfInBounds_toArray,List.set_cons_zero,List.set_cons_succ]
                 refine enj je ?_ _;have BF:=(B5.put 0 rfl 0 (.slice (some ⟨g4,0,none⟩) (l.length+1) cap4)).put 0 rfl 1 (.slice (some ⟨g5,0,none⟩) (lv.length+1) cap5);simp only[List.set_cons_zero,List.set_cons_succ]at BF;generalize ((w5'.setCell ⟨xb,0,none⟩ (.slice (some ⟨g4,0,none⟩) (l.length+1) cap4)).setCell ⟨xb,1,none⟩ (.slice (some ⟨g5,0,none⟩) (lv.length+1) cap5))=wf at *;haveI bwf:=BF.fr';haveI iCf:=BF.vb 5 rfl;have zf:WE wf wb i (.int .u64 (vY:Int)):=Qe;haveI zf':=zf;clear hO1 hO2;(try clear hc4);(try clear hc5);have e1:l.length+1=(l++ [i]).length:=Kz;have e2:lv.length+1=(lv++ [vL]).length:=Kz;rw[e1,e2]at BF;have HBF:=Lib.hid BF;have he1:(l++ [i]).length≤n:=(by rw[←e1];exact hll2);have he2:(lv++ [vL]).length≤n:=(by rw[←e2];exact hlv2);rw[←e1]at he1;clear B4 B5 BF zf bs iX9 iX4 iX5 B9 e1 e2 he1;have yi:=fun W=>zCz 25 wb i n N hlt W;generalize hf1:zAA vL=fL at *;generalize hf2:zAA vY=fY at *;clear hf1 hf2;go_wp2_with fail;refine(HFL _).out.mono ?_;rintro o wg ⟨rfl,bg⟩
                 cases fL with
                 | false=>
                  have HRN:=Lib.hid (HFn.out rfl);go_wp2_with fail;go_roundw
                  case rel=>exact⟨i+1,false,_,_,_,l++ [i],lv++ [vL],j0,j0,rfl,jm,fun h=>absurd h Bool.false_ne_true,fun _=>HRN.out,HYB2.out,HLB2.out,Kj,he2,HBF.out.on bg.out⟩
                  case measure=>exact jb
                 | true=>
                  go_wp2_with fail;refine(HFY _).out.mono ?_;rintro o wh ⟨rfl,bh⟩;have HT3:=Lib.hid fun h:fY=true=>HTn.out (by trivial) h;have HF3:=Lib.hid fun h:fY=false=>HFn.out (by rw[h];rfl);have HBH:=Lib.hid ((HBF.out.on bg.out).on bh.out);go_wp2_with fail;go_roundw
                  case rel=>exact⟨i+1,fY,_,_,_,l++ [i],lv++ [vL],j0,j0,rfl,jm,HT3.out,HF3.out,HYB2.out,HLB2.out,Kj,he2,HBH.out⟩
                  case measure=>exact jb
          · have hin:i=n:=j0;have HY0:Hid (R=0):=Lib.hid (by rw[HR2.out,HFB.out,if_pos rfl];exact zCo _ _ fun t h1 h2=>HA.out t h1 j0);have BP:=(iB.put 4 rfl 0 (.slice t1 l.length s1)).put 4 rfl 1 (.slice t2 lv.length s2);obtain⟨_,_,e1,hZ1,hb1⟩:=zAP (iB.own 2 rfl);injection e1 with e11 _ e13
            subst e11 e13;obtain⟨_,_,e2,hZ2,hb2⟩:=zD4 (iB.own 1 rfl) HLB.out;injection e2 with e21 _ e23
            subst e21 e23;have BQ:=(BP.to 2 (t':=zBb t1 l.length s1 (fun t=>((l.getD t 0:Nat):Int))) rfl (fun h=>Qr) fun g hg=>by rw[←hg.2];exact hb1 hg.1).to 1 (t':=zBZ t2 lv.length s2 (fun t=>lv.getD t 0)) rfl (fun h=>by obtain⟨_,_,e,h2,_⟩:=zD4 h HLB.out;injection e with e1 _ e3;subst e1 e3;exact h2) fun g hg=>(by rw[←hg.2];exact hb2 hg.1);have BS:=BQ.sub (C:=zBZ t2 lv.length s2 (fun t=>lv.getD t 0)::zBb t1 l.length s1 (fun t=>((l.getD t 0:Nat):Int))::box cb 129 [.slice (some ⟨wb,0,none⟩) n N,.bool minus]::zE5 wb N n y'::(arr ib 4 n fun t=>.bool (inn t))::mpI mb c M::D) (((((List.Sublist.refl _).cons _).cons _).cons_cons _).cons_cons _ |>.cons _);have HSW:=Lib.hid (BS.perm (List.Perm.swap _ _ _));have HFIN:=Lib.hid (show y'=aY minus p q M y inn k n∧l=aRw inn k n∧lv=(aRw inn k n).map (aVl minus p q M y k)from⟨by rw[HYe.out,hin],by rw[HLe.out,hin],by rw[HVe.out,hin]⟩);clear BS BQ BP;go_wp2_with fail;refine bodyPost_ret (v:=.tuple #[.agg #[.slice t1 l.length s1,.slice t2 lv.length s2],.int .i64 0]) (by simp only[results,Tryz.results83];go_simp) rfl ?_;exact⟨y',t1,s1,t2,s2,l,lv,by rw[HY0.out] <;> rfl,HSW.out,HYB.out,fun _=>HFIN.out⟩
end Go.Proofs.YtmbkgapknoammaaGreatDoor

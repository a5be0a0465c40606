/-
  Walks: update.run.
-/
import Derived.Test.YtmbkgapknoammaaGreatDoorZuEz
import Derived.Test.YtmbkgapknoammaaGreatDoorZuRj
import Derived.Test.YtmbkgapknoammaaGreatDoorZuEm
set_option maxRecDepth 100000
set_option maxHeartbeats 20000000
namespace Go.Proofs.YtmbkgapknoammaaGreatDoor
open Go.RowKit Sp
theorem Ils.cutm{w:World}{a:Option Addr}{n c:Nat}{L:Nat→Int}(h:Ils w a n c L){lo hi:Nat}(_h1:lo<hi)(h2:hi≤n):Ils w (Option.map (fun x=>x.add lo) a) (hi-lo) (c-lo) (fun i=>L (lo+i)):=by
 have hf:=h.fits;have:=h.cut (lo:=lo) (hi:=hi) j0 h2;rwa[if_neg j0,Nat.mul_one]at this
theorem Fls.cutm{w:World}{a:Option Addr}{n c:Nat}{L:Nat→Nat}(h:Fls w a n c L){lo hi:Nat}(_h1:lo<hi)(_h2:hi≤n):Fls w (Option.map (fun x=>x.add lo) a) (hi-lo) (c-lo) (fun i=>L (lo+i)):=by
 have hl:=h.lim;have hf:=h.fits;have ha:=h.addr j0;have e:Option.map (fun x=>x.add lo) a=some ⟨ab a,ao a+lo,none⟩:=by
  conv=>lhs;rw[ha]
  simp[Addr.add]
 rw[e];exact⟨j0,j0,fun _=>rfl,fun i hi=>QN,fun i hi=>h.b (lo+i) j0,fun _=>h.old j0⟩
theorem zTj{w:World}{v:Value}{n:Nat}{L:Nat→Nat}(h:w.ownsRow 0 37 1 v n ((List.range n).map fun i=>.int .u64 ((L i:Nat):Int)))(_hn:0<n):∃g N,v=.slice (some ⟨g,0,none⟩) n N∧(zE5 g N n L).P w∧v.ownBlock=some g:=by
 obtain⟨_,⟨_,h0⟩ | ⟨g,N,cur,hv,_,hg,hle,hm,hs,hx⟩⟩:=h
 · exact j0
 · have hm':maxLen=9223372036854775807:=rfl;refine⟨g,N,hv,⟨hle,j0,fun i=>cur[i]?.getD undef,⟨cur,hg,j0,fun i hi=>?_⟩,fun i hi=>?_⟩,by rw[hv];rfl⟩
   · show cur[i]? =some (cur[i]?.getD undef);rw[Array.getElem?_eq_getElem j0];rfl
   · have h1:((List.range n).map fun i=>Value.int .u64 ((L i:Nat):Int))[i]? =some (.int .u64 ((L i:Nat):Int)):=zAy _ hi;rw[←hx,List.getElem?_take_of_lt j0,Array.getElem?_toList]at h1;show cur[i]?.getD undef=_;rw[h1];rfl
attribute [local irreducible] Calls
theorem zLn(w:World)(a:Option Addr)(n c:Nat)(L:Nat→Nat)[hx:FZ w a n c L](h0:0<n)(_hn:n≤100000):Calls Tryz.prog 81 #[.slice a n c] w fun o w'=>∃g N,o=.returned (.slice (some ⟨g,0,none⟩) n N)∧Bag w w' [zE5 g N n L]:=by
 have l1:=hx.out.fits;have l2:=hx.out.lim
 cases a with
 | none=>have:=hx.out.addr h0;cases this
 | some ad=>
  have hnil:=fun w=>Lib.run_eql_slice_nil (P:=Tryz.prog) w 25 37 (some ad) n c 0 0 je;have B0:=(Bag.nil w).lit 37 1 [] (m:=0) (n:=w.heap.size) rfl ja rfl;have h1:=(inferInstance:FZ (w.alloc (.cells #[] 37)) (some ad) n c L).out;go_enter Tryz.func81,Tryz.ntmps81;go_wp2_with (at_builtin;refine zKj rfl _ _ rfl (.slice (some ⟨w.heap.size,0,none⟩) 0 0) 0 [] rfl ad n c L rfl h1 (B0.own 0 rfl) j0 ?_;intro v5 w5 hown5 hg5 hob5);rw[List.nil_append,Nat.zero_add]at hown5;have B5:=B0.app 0 rfl hown5 hg5 hob5;obtain⟨g,N,rfl,hP,hb⟩:=zTj hown5 h0;go_ret;exact⟨g,N,rfl,B5.to 0 rfl (fun _=>hP) fun x hx=>by rw[show x=g from hx];exact hb⟩
theorem zLm(w:World)(a:Option Addr)(n c:Nat)(L:Nat→Nat)[hx:FZ w a n c L](hn:n≤100000):Calls Tryz.prog 81 #[.slice a n c] w fun o w'=>∃(g:Option Addr) (N:Nat) (T:(Nat→Nat)→It),o=.returned (.slice g n N)∧(0<n→∃b,g=some ⟨b,0,none⟩∧T=zE5 b N n)∧Bag w w' [T L]:=by
 rcases Nat.eq_zero_or_pos n with h0 | h0
 · refine(zFW w a n c L hn).mono ?_;rintro o w' ⟨oa,oc,rfl,hB⟩;exact⟨oa,oc,fun _=>zBZ oa n oc L,rfl,fun h=>absurd h j0,hB⟩
 · refine(zLn w a n c L h0 hn).mono ?_;rintro o w' ⟨g,N,rfl,hB⟩;exact⟨some ⟨g,0,none⟩,N,zE5 g N n,rfl,fun _=>⟨g,rfl,rfl⟩,hB⟩
theorem Bag.put4{w0 w:World}{B:List It}{b k:Nat}{e:TypeId}{a0 a1 a2 a3:Value}(h:Bag w0 w B)(hk:B[k]? =some (box b e [a0,a1,a2,a3]))(x0 x1 x2 x3:Value):Bag w0 ((((w.setCell ⟨b,0,none⟩ x0).setCell ⟨b,1,none⟩ x1).setCell ⟨b,2,none⟩ x2).setCell ⟨b,3,none⟩ x3) (B.set k (box b e [x0,x1,x2,x3])):=by
 have hl:k<B.length:=(List.getElem?_eq_some_iff.1 hk).1;have h1:=h.put k hk 0 x0;have h2:=h1.put k Kf 1 x1;rw[List.set_set]at h2;have h3:=h2.put k Kf 2 x2;rw[List.set_set]at h3;have h4:=h3.put k Kf 3 x3;rw[List.set_set]at h4;exact h4
def zFT:Nat→Col:=fun _=>⟨none,0,[],none,0,[]⟩
theorem Bag.cmk{w0 w:World}{B:List It}(h:Bag w0 w B)(n:Nat){b:Nat}(hb:b=w.heap.size):Bag w0 (w.alloc (.cells (madeCells #[.slice none 0 0,.slice none 0 0] (n*2)) 126)) (B++ [zDL b n zFT]):=by
 subst hb;refine h.new ((Below.refl _ _).alloc (Nat.le_refl _) _) ⟨?_,fun k _=>⟨⟨Qu,Qu,Qu,fun i hi=>by simp[zFT]at hi,Qu⟩,⟨Qu,Qu,Qu,fun i hi=>by simp[zFT]at hi,fun i hi=>by simp[zFT]at hi,Qu⟩,fun h=>by have:=h.1;simp[zFT]at this,fun h=>by have:=h.1;simp[zFT]at this⟩⟩ fun g hg=>?_
 · have hs:(madeCells #[.slice none 0 0,.slice none 0 0] (n*2)).size=n*2:=size_madeCells _ _;have:=World.rowIs_alloc w (madeCells #[.slice none 0 0,.slice none 0 0] (n*2)) 126 (zHV zFT) fun i hi=>?_
   · rwa[hs]at this
   · rw[Array.getElem?_eq_getElem hi];rw[hs]at hi;simp only[madeCells,Array.getElem_map,Array.getElem_range];unfold zHV;have:i%2=0∨i%2=1:=j0;rcases this with h | h
     · rw[if_pos h];simp[h,zFT]
     · rw[if_neg j0];simp[h,zFT]
 · rcases hg with hg | ⟨k,_,hg | hg⟩
   · exact j0
   · have:=hg.1;simp[zFT]at this
   · have:=hg.1;simp[zFT]at this
def ColB(S J V:Nat→Nat)(k:Nat)(F:Nat→Col):Prop:=∀j,j<k→(F j).rl=zCH S J j∧(F j).vl=zCH S V j
theorem ColB.put{k:Nat}{S J V:Nat→Nat}{F:Nat→Col}{C:Col}(h:ColB S J V k F)(h1:C.rl=zCH S J k)(h2:C.vl=zCH S V k):ColB S J V (k+1) (zNK F k C):=fun j hj=>by
 by_cases e:j=k
 · rw[e,zEd];exact⟨h1,h2⟩
 · rw[zFn F C e];exact h j j0
theorem ColB.all{n:Nat}{S J V:Nat→Nat}{F:Nat→Col}(h:ColB S J V n F)(minus:Bool)(x0:Nat→Nat):ColQ n S J V minus x0 0 F:=fun j hj=>by
 rw[if_neg (Nat.not_lt_zero j),if_neg (Nat.not_lt_zero j)];exact h j hj
theorem zPj{w:World}{S J:Nat→Nat}{k oc vc:Nat}{oa va:Option Addr}{vl:List Nat}(h:(zBb oa (S (k+1)-S k) oc fun i=>((J (S k+i):Nat):Int)).P w):(Col.R ⟨oa,oc,zCH S J k,va,vc,vl⟩).P w:=by
 have h:Ils w oa (S (k+1)-S k) oc fun i=>((J (S k+i):Nat):Int):=h;show Ils w oa (zCH S J k).length oc _;rw[zBe];exact⟨h.fits,h.lim,h.addr,fun i hi=>by show _=some (Value.int .i64 (((zCH S J k).getD i 0:Nat):Int));rw[zCD hi];exact h.cell i hi,h.old⟩
theorem zPk{S J:Nat→Nat}{k oc vc g:Nat}{oa va:Option Addr}{vl:List Nat}{L:Nat→Int}(h:(Col.R ⟨oa,oc,zCH S J k,va,vc,vl⟩).blk g):(zBb oa (S (k+1)-S k) oc L).blk g:=by
 have h:0<(zCH S J k).length∧ab oa=g:=h;rw[zBe]at h;exact h
theorem zPr{w:World}{S V:Nat→Nat}{k oc vc:Nat}{oa va:Option Addr}{rl:List Nat}(h:(zBZ va (S (k+1)-S k) vc fun i=>V (S k+i)).P w):(Col.V ⟨oa,oc,rl,va,vc,zCH S V k⟩).P w:=by
 have h:Fls w va (S (k+1)-S k) vc fun i=>V (S k+i):=h;show Fls w va (zCH S V k).length vc _;rw[zBe];exact⟨h.fits,h.lim,h.addr,fun i hi=>by show _=some (Value.int .u64 (((zCH S V k).getD i 0:Nat):Int));rw[zCD hi];exact h.cell i hi,fun i hi=>by show(zCH S V k).getD i 0<_;rw[zCD hi];exact h.b i hi,h.old⟩
theorem zPs{S V:Nat→Nat}{k oc vc g:Nat}{oa va:Option Addr}{rl:List Nat}{X:Nat→Nat}(h:(Col.V ⟨oa,oc,rl,va,vc,zCH S V k⟩).blk g):(zBZ va (S (k+1)-S k) vc X).blk g:=by
 have h:0<(zCH S V k).length∧ab va=g:=h;rw[zBe]at h;exact h
theorem zG7{ops:Array Oper}{o:Oper}{a:Act}{K:Act→World→Prop}{Q:Exit→Act→World→Prop}{w:World}{E:Prop}(hgd:o.guard=none)(s x:Operand)
 (ho:o.op=.call { callee:=.builtin .append,args:=#[s,x],argTypes:=#[24,24] }) (w0:World) {B:List It} [hB:Bag w0 w B] (k:Nat) {v:Value} {n:Nat} {l:List Nat} (hk:B[k]? =some (row 3 1 v n (zA2 l))) (hs:a.eval s=v) {b nn:Nat} {F:Nat→Col} (j kk:Nat) (hj:B[j]? =some (zDL b nn F)) (hkk:kk<nn) (h0:0<(F kk).rl.length)
 (hx:a.eval x=.slice (F kk).ra (F kk).rl.length (F kk).rc) (_hn:n+(F kk).rl.length≤1048576)
 (h:∀g cap w',Bag w0 w' (B.set k (row 3 1 (.slice (some ⟨g,0,none⟩) (n+(F kk).rl.length) cap) (n+(F kk).rl.length) (zA2 (l++(F kk).rl))))→K (a.put o.dst (.slice (some ⟨g,0,none⟩) (n+(F kk).rl.length) cap)) w') :
 if Region.wanted o (yielded ops a.tmps)=true then Oper.wp Tryz.prog o a w K Q else E:=by
 obtain⟨i0,hi,hz0,hz1,hz2⟩:=info_parts zSE;have hL:=(hB.cz j hj hkk).1;have ha:=hL.addr h0;refine step_append_lies w hgd s x _ ho 0 _ i0 _ 1 8 zKq hi hz0 hz1 hz2 rfl ja v n _ hs (hB.own k hk) ⟨ab (F kk).ra,ao (F kk).ra,none⟩ (F kk).rl.length (F kk).rc (zA2 (F kk).rl) (by rw[hx];conv=>lhs;rw[ha]) (by rw[zD5,Nat.mul_one]) ?_ ?_ h0 jJ j0 (Nat.zero_le _) _ rfl (fun g' cap' w' h1 h2 h3 _=>h g' cap' w' (hB.app k hk (by rw[zAn];exact h1) h2 ?_))
 · intro t u hu;have ht:t<(F kk).rl.length:=by
    have:=(List.getElem?_eq_some_iff.1 hu).1;rwa[zD5]at this
   rw[zD6 (x:=(F kk).rl.getD t 0) X2]at hu;injection hu with hu
   rw[←hu,Addr.add_lit];exact hL.cell t ht
 · intro u hu;obtain⟨t,_,rfl⟩:=List.mem_map.1 hu;rfl
 · have e:(Value.slice (some ⟨g',0,none⟩) (n+(F kk).rl.length) cap').ownBlock=some g':=rfl;rw[e];rcases h3 with h3 | h3
   · exact Or.inl h3.symm
   · exact Or.inr (by rw[h3])
theorem zG8{ops:Array Oper}{o:Oper}{a:Act}{K:Act→World→Prop}{Q:Exit→Act→World→Prop}{w:World}{E:Prop}(hgd:o.guard=none)(s x:Operand)
 (ho:o.op=.call { callee:=.builtin .append,args:=#[s,x],argTypes:=#[25,25] }) (w0:World) {B:List It} [hB:Bag w0 w B] (k:Nat) {v:Value} {n:Nat} {l:List Nat} (hk:B[k]? =some (row 37 1 v n (zAI l))) (hs:a.eval s=v) {b nn:Nat} {F:Nat→Col} (j kk:Nat) (hj:B[j]? =some (zDL b nn F)) (hkk:kk<nn) (h0:0<(F kk).vl.length)
 (hx:a.eval x=.slice (F kk).va (F kk).vl.length (F kk).vc) (_hn:n+(F kk).vl.length≤1048576)
 (h:∀g cap w',Bag w0 w' (B.set k (row 37 1 (.slice (some ⟨g,0,none⟩) (n+(F kk).vl.length) cap) (n+(F kk).vl.length) (zAI (l++(F kk).vl))))→K (a.put o.dst (.slice (some ⟨g,0,none⟩) (n+(F kk).vl.length) cap)) w') :
 if Region.wanted o (yielded ops a.tmps)=true then Oper.wp Tryz.prog o a w K Q else E:=by
 obtain⟨i0,hi,hz0,hz1,hz2⟩:=info_parts zT2;have hL:=(hB.cz j hj hkk).2;have ha:=hL.addr h0;refine step_append_lies w hgd s x _ ho 0 _ i0 _ 1 8 zOj hi hz0 hz1 hz2 rfl ja v n _ hs (hB.own k hk) ⟨ab (F kk).va,ao (F kk).va,none⟩ (F kk).vl.length (F kk).vc (zAI (F kk).vl) (by rw[hx];conv=>lhs;rw[ha]) (by rw[zD8,Nat.mul_one]) ?_ ?_ h0 jJ j0 (Nat.zero_le _) _ rfl (fun g' cap' w' h1 h2 h3 _=>h g' cap' w' (hB.app k hk (by rw[zCp];exact h1) h2 ?_))
 · intro t u hu;have ht:t<(F kk).vl.length:=by
    have:=(List.getElem?_eq_some_iff.1 hu).1;rwa[zD8]at this
   rw[zE7 (x:=(F kk).vl.getD t 0) X2]at hu;injection hu with hu
   rw[←hu,Addr.add_lit];exact hL.cell t ht
 · intro u hu;obtain⟨t,_,rfl⟩:=List.mem_map.1 hu;rfl
 · have e:(Value.slice (some ⟨g',0,none⟩) (n+(F kk).vl.length) cap').ownBlock=some g':=rfl;rw[e];rcases h3 with h3 | h3
   · exact Or.inl h3.symm
   · exact Or.inr (by rw[h3])
def stL(n:Nat)(S J V x0:Nat→Nat)(k:Nat):List Nat:=(List.range (k+1)).map fun t=>(zB7 n S J V x0 t).length
theorem zOq(n:Nat)(S J V x0:Nat→Nat)(k:Nat):stL n S J V x0 (k+1)=stL n S J V x0 k++ [(zB7 n S J V x0 (k+1)).length]:=by unfold stL;rw[List.range_succ,List.map_append];rfl
theorem zQC(n:Nat)(S J V x0:Nat→Nat)(k:Nat){t:Nat}(h:t<k+1):(stL n S J V x0 k).getD t 0=(zB7 n S J V x0 t).length:=by
 unfold stL;rw[List.getD_eq_getElem?_getD,List.getElem?_map,List.getElem?_range h];rfl
theorem zPL(n:Nat)(S J V x0:Nat→Nat){k:Nat}(h:S (k+1)-S k≤n):(zI3 n S J V x0 k).length≤n:=by
 unfold zI3;split
 · exact zF4 _ _ _
 · rw[List.length_map,List.length_range];exact h
theorem zJq(n:Nat)(S J V x0:Nat→Nat)(h:∀k,k<n→S (k+1)-S k≤n):∀k,k≤n→(zB7 n S J V x0 k).length≤k*n
 | 0,_=>by show 0≤0*n;omega
 | k+1,hk=>by
  have h1:=zJq n S J V x0 h k j0;have h2:=zPL n S J V x0 (h k j0);show(zB7 n S J V x0 k++zI3 n S J V x0 k).length≤_;rw[List.length_append,Nat.succ_mul];omega
theorem zKa{n k:Nat}{S J V x0:Nat→Nat}(hk:k<n)(h:S k<S (k+1)):0<(zI3 n S J V x0 k).length:=by
 unfold zI3;split
 · rename_i hu;have:k∈zT1 S J V x0 k n:=nb_mem.2 ⟨hk,by
    show(decide (k≤k)&&uIn S J V x0 (k+1) k)=true;rw[decide_eq_true (Nat.le_refl k),Bool.true_and];show(uIn S J V x0 k k||_)=true;rw[hu];rfl⟩
   exact List.length_pos_of_mem this
 · rw[List.length_map,List.length_range];omega
noncomputable def zI1(n m:Nat)(S J V X:Nat→Nat)(O:Nat→Int)(minus:Bool):Int:=if vE n m X (ckE n S fun t=>((J t:Nat):Int))=0 then zS3 n S J V minus (byO X O)else vE n m X (ckE n S fun t=>((J t:Nat):Int))
theorem zIW(w:World)[Tb w](n q:Nat)(aO aS aI aV:Option Addr)(cO cS cI cV:Nat)(O:Nat→Int)(S J V:Nat→Nat)(hn:n≤200)(hq:q≤10000)[hf:FM w n q aO cO aS cS aI cI aV cV O S (fun t=>((J t:Nat):Int)) V](aw:Option Addr)(m cw:Nat)(X:Nat→Nat)[hX:FZ w aw m cw X](minus:Bool):Calls Tryz.prog 37 #[.agg #[.slice aO n cO,.slice aS (n+1) cS,.slice aI q cI,.slice aV q cV],.slice aw m cw,.bool minus] w fun o w'=>
  (zI1 n m S J V X O minus≠0∧o=.returned (.tuple #[.agg #[.slice none 0 0,.slice none 0 0,.slice none 0 0,.slice none 0 0],.int .i64 (zI1 n m S J V X O minus)])∧From w w') ∨
  (zI1 n m S J V X O minus=0∧∃(oO oS oI oV:Option Addr) (dO dS dI dV:Nat),o=.returned (.tuple #[.agg #[.slice oO n dO,.slice oS (n+1) dS,.slice oI (zB7 n S J V (byO X O) n).length dI,.slice oV (zB7 n S J V (byO X O) n).length dV],.int .i64 0])∧Bag w w' [zBb oO n dO O,zBb oS (n+1) dS (fun t=>(((zB7 n S J V (byO X O) t).length:Nat):Int)),zBb oI (zB7 n S J V (byO X O) n).length dI (fun t=>(((zB7 n S J V (byO X O) n).getD t 0:Nat):Int)),zBZ oV (zB7 n S J V (byO X O) n).length dV (fun t=>(zJp n S J V minus (byO X O) n).getD t 0)]):=by
 have l1:=hf.o.fits;have l2:=hf.o.lim;have l3:=hf.s.fits;have l4:=hf.s.lim;have l5:=hf.i.fits;have l6:=hf.i.lim;have l7:=hf.v.fits;have l8:=hf.v.lim;have l9:=hX.out.fits;have l10:=hX.out.lim;have HRD:=fun W [Tb W] [FM W n q aO cO aS cS aI cI aV cV O S (fun t=>((J t:Nat):Int)) V] [FZ W aw m cw X]=>Lib.hid (zFB W n q aO aS aI aV cO cS cI cV O (fun t=>((J t:Nat):Int)) S V hn hq aw m cw X);have HI:=Lib.hid (show vE n m X (ckE n S fun t=>((J t:Nat):Int))=0→Iok n S fun t=>((J t:Nat):Int)from fun h=>zRC (zG1 h).1);have hmf:∀(fn:Fn) (first cap:Array Value) (w:World),(Instr.makeFunc fn first cap).run Tryz.prog w=.ok (.func fn first cap) w:=fun _ _ _ _=>rfl;have hmk:=fun W=>zJx (P:=Tryz.prog) (t:=122) (e:=126) (z:=.agg #[.slice none 0 0,.slice none 0 0]) (cs:=#[.slice none 0 0,.slice none 0 0]) (s:=2) (b:=48) je je rfl j0 n j0 W;have HOK:=Lib.hid hf.ok;obtain⟨R,hR⟩:∃R,R=zI1 n m S J V X O minus:=⟨_,rfl⟩;rw[←hR];have HR:=Lib.hid (show R=if vE n m X (ckE n S fun t=>((J t:Nat):Int))=0 then zS3 n S J V minus (byO X O)else vE n m X (ckE n S fun t=>((J t:Nat):Int))from hR);clear hR;generalize vE n m X (ckE n S fun t=>((J t:Nat):Int))=e at *;generalize hx0:byO X O=x0 at *;clear hx0;have B0:Bag w ((w.alloc (.cells #[.slice aO n cO,.slice aS (n+1) cS,.slice aI q cI,.slice aV q cV] 27)).alloc (.cells #[.slice none 0 0,.slice none 0 0,.slice none 0 0,.slice none 0 0] 27)) [box w.heap.size 27 [.slice aO n cO,.slice aS (n+1) cS,.slice aI q cI,.slice aV q cV],box (w.heap.size+1) 27 [.slice none 0 0,.slice none 0 0,.slice none 0 0,.slice none 0 0]]:=((Bag.nil w).var 27 [.slice aO n cO,.slice aS (n+1) cS,.slice aI q cI,.slice aV q cV] rfl).var 27 [.slice none 0 0,.slice none 0 0,.slice none 0 0,.slice none 0 0] (n:=w.heap.size+1) jz;go_enter Tryz.func37,Tryz.ntmps37;go_wp2_with fail;refine(HRD _).out.mono ?_;rintro o w1 ⟨ax,cx,rfl,hB1⟩;haveI b1:=hB1.fr';have HB0:=Lib.hid B0;haveI iFB:=B0.vb 0 rfl;haveI iRB:=B0.vb 1 rfl;clear HRD B0
 by_cases he:e=0
 · subst he;have hI:=HI.out rfl;have B1:Bag _ w1 (zBZ ax n cx x0:: []):=hB1;have B2:=((B1.cmk n (b:=w1.heap.size) rfl).var 122 [.slice (some ⟨w1.heap.size,0,none⟩) n n] (n:=w1.heap.size+1) jz);have B3:=B2.perm (List.perm_append_comm (l₁:= [_]) (l₂:= [_,_]));generalize hcb:w1.heap.size=b at *;have hfl:fl 0 n=n:=if_pos rfl;rw[hfl];go_wp2_with fail
   go_loopw [11,12,13,33] (fun _ _ _ x wr=>∃(k:Nat) (F:Nat→Col),k≤n∧x=.int .i64 k∧ColB S J V k F∧Bag ((w.alloc (.cells #[.slice aO n cO,.slice aS (n+1) cS,.slice aI q cI,.slice aV q cV] 27)).alloc (.cells #[.slice none 0 0,.slice none 0 0,.slice none 0 0,.slice none 0 0] 27)) wr (zDL b n F::box (b+1) 122 [.slice (some ⟨b,0,none⟩) n n]::zBZ ax n cx x0:: [])) (fun _ _ _ x _=>n-(intOf x).toNat)
   case atStart=>exact⟨0,zFT,j0,rfl,fun j h=>j0,B3⟩
   case round=>
    clear B3 B2 B1 hB1 b1;obtain⟨k,F,hk,rfl,hC,iB⟩:=hrel;haveI bw:=iB.fr';haveI iT:=iB.vb 1 rfl;have HC:=Lib.hid hC;clear hC
    by_cases hlt:k<n
    · have hX:FM wr n q aO cO aS cS aI cI aV cV O S (fun t=>((J t:Nat):Int)) V:=inferInstance;haveI z2:=hX.ceS (t:=k) j0;haveI z3:=hX.ceS (t:=k+1) j0;have y2:=hX.ixS k j0;have y3:=hX.ix1 k hlt;have hm:=HOK.out.m k hlt;have hle:=(HOK.out.lt (t:=k+1) j0).2;have yk:=fun W=>zT3 122 2 b k n n hlt W;have d1:decide (S (k+1)<S k)=false:=decide_eq_false j0;have d2:decide (q<S (k+1))=false:=decide_eq_false j0;have d3:((S (k+1):Int)-(S k:Int))=((S (k+1)-S k:Nat):Int):=j0;have e1:S (k+1)≤cI:=j0;have e2:S k≤S (k+1):=j0;have e3:¬cI=S k:=j0;have e4:S (k+1)≤cV:=j0;have e5:¬cV=S k:=j0;haveI zI:IZ wr (Option.map (fun x=>x.add (S k)) aI) (S (k+1)-S k) (cI-S k) (fun i=>((J (S k+i):Nat):Int)):=⟨hX.i.cutm hm hle⟩;haveI zV:FZ wr (Option.map (fun x=>x.add (S k)) aV) (S (k+1)-S k) (cV-S k) (fun i=>V (S k+i)):=⟨hX.v.cutm hm hle⟩;have HCI:=fun W [IZ W (Option.map (fun x=>x.add (S k)) aI) (S (k+1)-S k) (cI-S k) (fun i=>((J (S k+i):Nat):Int))]=>Lib.hid (zFV W (Option.map (fun x=>x.add (S k)) aI) (S (k+1)-S k) (cI-S k) (fun i=>((J (S k+i):Nat):Int)) j0);have HCF:=fun W [FZ W (Option.map (fun x=>x.add (S k)) aV) (S (k+1)-S k) (cV-S k) (fun i=>V (S k+i))]=>Lib.hid (zFW W (Option.map (fun x=>x.add (S k)) aV) (S (k+1)-S k) (cV-S k) (fun i=>V (S k+i)) j0);have hc:=iB.cw 0 rfl hlt;haveI c0:=hc.1;haveI c1:=hc.2;have iP:=iB.at 0 rfl;clear hX;go_wp2_with fail
      go_quiet (fail)
      all_goals(go_wp2_with fail)
      refine bgj (fun w'=>Below wr.heap.size wr w') [16] je (zbh) (fun hHeld=>?_);simp only[List.size_toArray,List.length_cons,List.length_nil,Nat.reduceAdd,Array.replicate_succ,Array.replicate_zero,List.push_toArray,List.nil_append,List.cons_append];refine tk 0 47 [15,16] ?_;refine tk 1 48 [15,16] ?_;refine tk 2 49 [3,6,7,13,14,15,16] ?_;refine tk 3 50 [6,7,13,14,15,16] ?_;refine tk 4 51 [6,7,13,14,15,16] ?_;refine tk 5 52 [6,7,13,14,15,16] ?_;refine tk 6 53 [7,13,14,15,16] ?_;refine tk 8 55 [9,12,13,14,15,16] ?_;refine tk 9 56 [12,13,14,15,16] ?_;refine tk 10 57 [12,13,14,15,16] ?_;refine tk 11 58 [12,13,14,15,16] ?_;refine tk 12 59 [13,14,15,16] ?_;refine stj 7 (h:=fun K hK=>?_);go_simp;refine(HCI _).out.mono ?_;rintro o w5 ⟨oa,oc,rfl,hb5⟩;haveI b5:=hb5.fr';go_simp;refine hK.out _ _ (Or.inr zbh) ?_;clear hK K
      try simp only[List.setIfInBounds_toArray,List.set_cons_zero,List.set_cons_succ]
      refine stj 13 (h:=fun K hK=>?_);go_simp;refine(HCF _).out.mono ?_;rintro o w6 ⟨va,vc,rfl,hb6⟩;haveI b6:=hb6.fr';have B6:=((((iB.on (below_drewN (Below.refl _ _) _)).join hb5).join hb6).perm ((List.perm_append_comm (l₁:= [_,_]) (l₂:= [_,_])).cons _));have HB7:=Lib.hid ((B6.to 1 (t':=Col.R ⟨oa,oc,zCH S J k,va,vc,zCH S V k⟩) rfl (fun h=>zPj h) fun g hg=>zPk hg).to 2 (t':=Col.V ⟨oa,oc,zCH S J k,va,vc,zCH S V k⟩) rfl (fun h=>zPr h) fun g hg=>zPs hg);have p6:(zDL b n F).P w6:=B6.at 0 rfl;have p10:=p6.1.set (k*2) (.slice oa (S (k+1)-S k) oc);haveI c10:WE (w6.setCell ⟨b,k*2,none⟩ (.slice oa (S (k+1)-S k) oc)) b (k*2+1) _:=⟨p10.cell j0,p10.frozen _,p10.lt⟩;clear B6 p6 p10 hb5 hb6;go_simp;refine hK.out _ _ (Or.inr zbh) ?_;clear hK K
      try simp only[List.setIfInBounds_toArray,List.set_cons_zero,List.set_cons_succ]
      refine tk 14 61 [15,16] ?_;refine tk 15 62 [16] ?_;refine stj 16 (h:=fun K hK=>?_);go_simp;refine hK.out _ _ (Or.inl ja) ?_;clear hK K
      try simp only[List.setIfInBounds_toArray,List.set_cons_zero,List.set_cons_succ]
      refine enj je ?_ _;have BF:=HB7.out.cput k;dsimp only at BF;rw[zBe,zBe]at BF;go_wp2_with fail;go_roundw
      case rel=>exact⟨k+1,zNK F k ⟨oa,oc,zCH S J k,va,vc,zCH S V k⟩,j0,jm,HC.out.put rfl rfl,BF⟩
      case measure=>exact jb
    · have hkn:k=n:=j0;have HB:=Lib.hid (show ColB S J V n F by rw[←hkn];exact HC.out);haveI zX:FZ wr ax n cx x0:=⟨iB.at 2 rfl⟩;have HCW:=fun W [FZ W ax n cx x0]=>Lib.hid (zLm W ax n cx x0 j0);have hxb:=(iB.at 2 rfl:Fls wr ax n cx x0).b;have HXB:=Lib.hid hxb;have HX:=Lib.hid (inferInstance:FM w n q aO cO aS cS aI cI aV cV O S (fun t=>((J t:Nat):Int)) V);clear HC hkn hxb hmk;go_wp2_with fail;refine(HCW _).out.mono ?_;rintro o w2 ⟨wa,N,T,rfl,hT,hb2⟩;haveI b2:=hb2.fr';have B2:=((iB.join hb2).var 129 [.slice wa n N,.bool minus] rfl).var 127 [.pointer (some ⟨w2.heap.size,0,none⟩)] (n:=w2.heap.size+1) jz;have B3:=B2.perm (show List.Perm _ (zBZ ax n cx x0:: [zDL b n F,box (b+1) 122 [.slice (some ⟨b,0,none⟩) n n],box (w2.heap.size+1) 127 [.pointer (some ⟨w2.heap.size,0,none⟩)],box w2.heap.size 129 [.slice wa n N,.bool minus],T x0])from List.Perm.map (fun i=> [zDL b n F,box (b+1) 122 [.slice (some ⟨b,0,none⟩) n n],box (w2.heap.size+1) 127 [.pointer (some ⟨w2.heap.size,0,none⟩)],box w2.heap.size 129 [.slice wa n N,.bool minus],T x0,zBZ ax n cx x0].getD i (zBZ ax n cx x0)) (by decide:List.Perm [0,1,5,4,3,2] [5,0,1,2,3,4]));have HW:=fun W (hB:Bag ((w.alloc (.cells #[.slice aO n cO,.slice aS (n+1) cS,.slice aI q cI,.slice aV q cV] 27)).alloc (.cells #[.slice none 0 0,.slice none 0 0,.slice none 0 0,.slice none 0 0] 27)) W _)=>zGV ((w.alloc (.cells #[.slice aO n cO,.slice aS (n+1) cS,.slice aI q cI,.slice aV q cV] 27)).alloc (.cells #[.slice none 0 0,.slice none 0 0,.slice none 0 0,.slice none 0 0] 27)) W n q aO aS aI aV cO cS cI cV O S J V hn hq hI ax cx x0 82 #[.pointer (some ⟨b+1,0,none⟩),.pointer (some ⟨w2.heap.size+1,0,none⟩)] (fun _ _=>rfl) (fun k=>uE n S J V minus x0 k)
       (fun k B=>∃F:Nat→Col,B= [zDL b n F,box (b+1) 122 [.slice (some ⟨b,0,none⟩) n n],box (w2.heap.size+1) 127 [.pointer (some ⟨w2.heap.size,0,none⟩)],box w2.heap.size 129 [.slice wa n N,.bool minus],T (uX S J V minus x0 k)]∧ColQ n S J V minus x0 k F∧∀i,i<n→uX S J V minus x0 k i<18446744073709551616)
       (fun k B _ hu ⟨F,hv,hq,hy⟩=>⟨F,by rw[hv,show uX S J V minus x0 (k+1)=uX S J V minus x0 k from funext fun i=>zS2 hu i],hq.no hu,fun i hi=>by rw[zS2 hu];exact hy i hi⟩)
       (fun W k b' B D hk hu ⟨F,hv,hq,hy⟩ hB=>by
        obtain⟨wb,rfl,rfl⟩:=hT j0;subst hv;have hB':Bag ((w.alloc (.cells #[.slice aO n cO,.slice aS (n+1) cS,.slice aI q cI,.slice aV q cV] 27)).alloc (.cells #[.slice none 0 0,.slice none 0 0,.slice none 0 0,.slice none 0 0] 27)) W (zDL b n F::box (b+1) 122 [.slice (some ⟨b,0,none⟩) n n]::box (w2.heap.size+1) 127 [.pointer (some ⟨w2.heap.size,0,none⟩)]::box w2.heap.size 129 [.slice (some ⟨wb,0,none⟩) n N,.bool minus]::zE5 wb N n (uX S J V minus x0 k)::(arr b' 4 n fun i=>.bool (uIn S J V x0 (k+1) i))::D):=hB;clear hB;obtain⟨q1,q2⟩:=hq k hk;rw[if_neg (Nat.lt_irrefl k)]at q1 q2;have hin:uIn S J V x0 (k+1) k=true:=(by show(uIn S J V x0 k k||_)=true;rw[hu];rfl);have hm:=HOK.out.m k hk;have hle:=(HOK.out.lt (t:=k+1) j0).2;have hJ:∀t,t<S (k+1)-S k→J (S k+t)<n:=fun t ht=>(by have:=(hI.nat HOK.out (show S k+t<q by omega)).2;omega);have hlen:S (k+1)-S k≤n:=by
         have h1:=(hI k hk).ge (S (k+1)-S k-1) j0;have h2:=hJ (S (k+1)-S k-1) j0;have h3:(k:Int)+((S (k+1)-S k-1:Nat):Int)≤((J (S k+(S (k+1)-S k-1)):Nat):Int):=h1;omega
        have hVb:∀t,(zCH S V k).getD t 0<18446744073709551616:=fun t=>by
         by_cases ht:t<S (k+1)-S k
         · rw[zCD ht];exact HX.out.v.b _ j0
         · rw[List.getD_eq_getElem?_getD,List.getElem?_eq_none (by rw[zBe];omega)];decide
        rcases hF:F k with⟨ra,rc,rl,va,vc,vl⟩;rw[hF]at q1 q2;have q1:rl=zCH S J k:=q1;have q2:vl=zCH S V k:=q2;subst q1 q2;refine(zLs ((w.alloc (.cells #[.slice aO n cO,.slice aS (n+1) cS,.slice aI q cI,.slice aV q cV] 27)).alloc (.cells #[.slice none 0 0,.slice none 0 0,.slice none 0 0,.slice none 0 0] 27)) W b wb N b' (b+1) (w2.heap.size+1) w2.heap.size k n minus F (uX S J V minus x0 k) (fun i=>uIn S J V x0 (k+1) i) D ra rc (zCH S J k) va vc (zCH S V k) hF hk hn hy (by rw[zBe,zBe]) (by rw[zBe];omega) (fun t ht=>by rw[zBe]at ht;rw[zCD ht];have:=hJ t ht;omega) hVb (fun i=>atv S J V i k) (zSx hI hk).symm hin hB').mono ?_;rintro o W' ⟨y',C,rfl,hB2,hy2,hz2⟩;have e0:=zTv (n:=n) (S:=S) (J:=J) (V:=V) (x0:=x0) (minus:=minus) hk hu;rw[e0]at hz2 ⊢
        by_cases hE:uE n S J V minus x0 k=0
        · obtain⟨e1,e2,e3⟩:=hz2 hE;exact⟨[zDL b n (zNK F k C),box (b+1) 122 [.slice (some ⟨b,0,none⟩) n n],box (w2.heap.size+1) 127 [.pointer (some ⟨w2.heap.size,0,none⟩)],box w2.heap.size 129 [.slice (some ⟨wb,0,none⟩) n N,.bool minus],zE5 wb N n (uX S J V minus x0 (k+1))],rfl,hB2.to 4 (t':=zE5 wb N n (uX S J V minus x0 (k+1))) rfl (fun⟨h0,h1,f,h2,h3⟩=>⟨h0,h1,f,h2,fun i hi=>by rw[h3 i hi,e1,zSW hu hi]⟩) (fun _ h=>h),fun _=>⟨zNK F k C,rfl,hq.yes (e2.trans (zPK hu).symm) (e3.trans (zPI hu).symm),fun i hi=>by rw[←zSW hu hi,←e1];exact hy2 i hi⟩⟩
        · exact⟨[zDL b n (zNK F k C),box (b+1) 122 [.slice (some ⟨b,0,none⟩) n n],box (w2.heap.size+1) 127 [.pointer (some ⟨w2.heap.size,0,none⟩)],box w2.heap.size 129 [.slice (some ⟨wb,0,none⟩) n N,.bool minus],zE5 wb N n y'],rfl,hB2,fun h=>absurd h hE⟩)
       _ hB ⟨F,rfl,HB.out.all minus x0,fun i hi=>HXB.out i hi⟩
      have HW:=Lib.hid (HW _ B3);clear B3 B2 hb2 iB HB HXB HCW;go_wp2_with fail;refine HW.out.mono ?_;rintro o w3 ⟨B',rfl,hB',hP⟩;haveI b3:=hB'.fr';have HU:zAR (fun k=>if uIn S J V x0 k k then uE n S J V minus x0 k else 0) 0 n=R:=by
       rw[HR.out,if_pos trivial];unfold zS3;refine zEn _ _ fun i _ _=>?_;unfold uE
       cases uIn S J V x0 i i <;> rfl
      rw[HU]at hP ⊢
      by_cases hz:R=0
      · obtain⟨F,rfl,hQ,_⟩:=hP hz;have HQ:=Lib.hid hQ;have hcol:∀k,k<n→S k<S (k+1)∧S (k+1)-S k≤n:=fun k hk=>by
         have hm:=HOK.out.m k hk;have hle:=(HOK.out.lt (t:=k+1) j0).2;have h1:=(hI k hk).ge (S (k+1)-S k-1) j0;have h2:J (S k+(S (k+1)-S k-1))<n:=(by have:=(hI.nat HOK.out (show S k+(S (k+1)-S k-1)<q by omega)).2;omega);have h3:(k:Int)+((S (k+1)-S k-1:Nat):Int)≤((J (S k+(S (k+1)-S k-1)):Nat):Int):=h1;exact⟨hm,j0⟩
        have HCOL:=Lib.hid hcol;have B4:=HB0.out.join (hB'.sub (show [zDL b n F,box (b+1) 122 [.slice (some ⟨b,0,none⟩) n n]].Sublist _ from((List.nil_sublist _).cons_cons _).cons_cons _));haveI b4:=B4.fr';haveI zO:IZ w aO n cO O:=⟨hf.o⟩;haveI iT:=B4.vb 3 rfl;have HCO:=fun W [IZ W aO n cO O]=>Lib.hid (zFV W aO n cO O j0);clear hP hB' hQ hcol HW HR hI HX HI HU hmf HB0;go_wp2_with fail;refine(HCO _).out.mono ?_;rintro o w4 ⟨oO,dO,rfl,hb4⟩;haveI b5:=hb4.fr';have B5:=((((B4.join hb4).lit 3 1 [.int .i64 0] (m:=1) (n:=w4.heap.size) rfl ja rfl).var 27 [.slice oO n dO,.slice (some ⟨w4.heap.size,0,none⟩) 1 1,.slice none 0 0,.slice none 0 0] (n:=w4.heap.size+1) jz).nilr 3 1).nilr 37 1;have B6:=B5.perm (show List.Perm _ [box (w4.heap.size+1) 27 [.slice oO n dO,.slice (some ⟨w4.heap.size,0,none⟩) 1 1,.slice none 0 0,.slice none 0 0],row 3 1 (.slice (some ⟨w4.heap.size,0,none⟩) 1 1) 1 [.int .i64 0],row 3 1 (.slice none 0 0) 0 [],row 37 1 (.slice none 0 0) 0 [],zBb oO n dO O,zDL b n F,box (b+1) 122 [.slice (some ⟨b,0,none⟩) n n],box (w.heap.size+1) 27 [.slice none 0 0,.slice none 0 0,.slice none 0 0,.slice none 0 0],box w.heap.size 27 [.slice aO n cO,.slice aS (n+1) cS,.slice aI q cI,.slice aV q cV]]from List.Perm.map (fun i=> [box w.heap.size 27 [.slice aO n cO,.slice aS (n+1) cS,.slice aI q cI,.slice aV q cV],box (w.heap.size+1) 27 [.slice none 0 0,.slice none 0 0,.slice none 0 0,.slice none 0 0],zDL b n F,box (b+1) 122 [.slice (some ⟨b,0,none⟩) n n],zBb oO n dO O,row 3 1 (.slice (some ⟨w4.heap.size,0,none⟩) 1 1) 1 [.int .i64 0],box (w4.heap.size+1) 27 [.slice oO n dO,.slice (some ⟨w4.heap.size,0,none⟩) 1 1,.slice none 0 0,.slice none 0 0],row 3 1 (.slice none 0 0) 0 [],row 37 1 (.slice none 0 0) 0 []].getD i (box (w.heap.size+1) 27 [.slice none 0 0,.slice none 0 0,.slice none 0 0,.slice none 0 0])) (by decide:List.Perm [0,1,2,3,4,5,6,7,8] [6,5,7,8,4,2,3,1,0]));clear B5 B4 HCO;go_wp2_with fail;generalize w4.heap.size+1=ob at *
        go_loopw [17,84] (fun _ x wr=>∃(k:Nat) (vS vI vV:Value),k≤n∧x=.int .i64 k∧(∀u∈zJp n S J V minus x0 k,u<18446744073709551616)∧Bag w wr (box ob 27 [.slice oO n dO,vS,vI,vV]::row 3 1 vS (k+1) (zA2 (stL n S J V x0 k))::row 3 1 vI (zB7 n S J V x0 k).length (zA2 (zB7 n S J V x0 k))::row 37 1 vV (zB7 n S J V x0 k).length (zAI (zJp n S J V minus x0 k))::zBb oO n dO O::zDL b n F::box (b+1) 122 [.slice (some ⟨b,0,none⟩) n n]::box (w.heap.size+1) 27 [.slice none 0 0,.slice none 0 0,.slice none 0 0,.slice none 0 0]::box w.heap.size 27 [.slice aO n cO,.slice aS (n+1) cS,.slice aI q cI,.slice aV q cV]:: [])) (fun _ x _=>n-(intOf x).toNat)
        case atStart=>exact⟨0,_,_,_,j0,rfl,fun u hu=>(by cases hu),B6⟩
        case round=>
         clear B6 b3 b4 b5 iT hb4;rename World=>wq;obtain⟨k,vS,vI,vV,hk,rfl,hV,iB⟩:=hrel;haveI bw:=iB.fr';haveI iO:=iB.vb 0 rfl;haveI iT:=iB.vb 6 rfl;have HV:=Lib.hid hV;clear hV
         by_cases hlt:k<n
         · have yk:=fun W=>zT3 122 2 b k n n hlt W;have hc:=iB.cw 5 rfl hlt;haveI c0:=hc.1;haveI c1:=hc.2;have hq1:=(HQ.out k hlt).1;have hq2:=(HQ.out k hlt).2;rw[if_pos hlt]at hq1 hq2;have hp1:0<(F k).rl.length:=(by rw[hq1];exact zKa hlt (HCOL.out k hlt).1);have hp2:0<(F k).vl.length:=(by rw[hq2,zGH];exact zKa hlt (HCOL.out k hlt).1);have hlen:=zJq n S J V x0 (fun k hk=>(HCOL.out k hk).2) (k+1) j0;have hlen2:(k+1)*n≤200*200:=Nat.mul_le_mul j0 hn;have hlen3:(zB7 n S J V x0 (k+1)).length=(zB7 n S J V x0 k).length+(F k).rl.length:=(by rw[hq1];exact List.length_append);have hlen4:(F k).vl.length=(F k).rl.length:=(by rw[hq1,hq2];exact zGH k);have HQ1:=Lib.hid hq1;have HQ2:=Lib.hid hq2;have HL3:=Lib.hid hlen3;have HL4:=Lib.hid hlen4;have BK:=(iB.var 126 [.slice (F k).ra (F k).rl.length (F k).rc,.slice (F k).va (F k).vl.length (F k).vc] (n:=wq.heap.size) rfl).cons;have HBV:=Lib.hid (iB.cz 5 rfl hlt).2.b;have HNI:=Lib.hid (show(zB7 n S J V x0 k).length+(F k).rl.length≤1048576 by omega);have HNV:=Lib.hid (show(zB7 n S J V x0 k).length+(F k).vl.length≤1048576 by omega);have HLE:=Lib.hid (show(zB7 n S J V x0 (k+1)).length≤40000 by omega);clear hq1 hq2 iB hlen3 hlen4 hlen hlen2;go_wp2_with fail;generalize wq.heap.size=kb at *;haveI iO1:=BK.vb 1 rfl;haveI iK1:=BK.vb 0 rfl;refine bgj (fun w'=>VB w' ob [.slice oO n dO,vS,vI,vV]∧VB w' kb [.slice (F k).ra (F k).rl.length (F k).rc,.slice (F k).va (F k).vl.length (F k).vc]) [11,12,13] je (⟨jl,jl⟩) (fun hHeld=>?_);simp only[List.size_toArray,List.length_cons,List.length_nil,Nat.reduceAdd,Array.replicate_succ,Array.replicate_zero,List.push_toArray,List.nil_append,List.cons_append];refine tkj 0 88 ?_ [1,4,9,10,11,12,13] (hy:=?_) (hS:=⟨jl,jl⟩) (h:=?_);rotate_left
           · exact ji
           refine tkj 1 89 ?_ [4,9,10,11,12,13] (hy:=?_) (hS:=⟨jl,jl⟩) (h:=?_);rotate_left
           · exact ji
           refine tkj 2 90 ?_ [3,4,9,10,11,12,13] (hy:=?_) (hS:=⟨jl,jl⟩) (h:=?_);rotate_left
           · exact ji
           refine tkj 3 91 ?_ [4,9,10,11,12,13] (hy:=?_) (hS:=⟨jl,jl⟩) (h:=?_);rotate_left
           · exact ji
           refine tkj 5 93 ?_ [6,9,10,11,12,13] (hy:=?_) (hS:=⟨jl,jl⟩) (h:=?_);rotate_left
           · exact ji
           refine tkj 6 94 ?_ [9,10,11,12,13] (hy:=?_) (hS:=⟨jl,jl⟩) (h:=?_);rotate_left
           · exact ji
           refine tkj 7 95 ?_ [8,9,11,12,13] (hy:=?_) (hS:=⟨jl,jl⟩) (h:=?_);rotate_left
           · exact ji
           refine tkj 8 96 ?_ [9,11,12,13] (hy:=?_) (hS:=⟨jl,jl⟩) (h:=?_);rotate_left
           · exact ji
           refine stj 4 (h:=fun K hK=>?_);refine zG7 jA _ _ jA w 3 jA jA 6 k jA hlt hp1 jA HNI.out ?_;intro gA capA wA BA;haveI iOA:=BA.vb 1 rfl;haveI iKA:=BA.vb 0 rfl;refine hK.out _ _ (Or.inr ⟨jl,jl⟩) ?_;clear hK K
           try simp only[Act.put,List.setIfInBounds_toArray,List.set_cons_zero,List.set_cons_succ]
           refine tkj 10 98 ?_ [11,12,13] (hy:=?_) (hS:=⟨jl,jl⟩) (h:=?_);rotate_left
           · exact ji
           refine stj 9 (h:=fun K hK=>?_);refine zG8 jA _ _ jA w 4 jA jA 6 k jA hlt hp2 jA HNV.out ?_;intro gB capB wB BB;haveI iOB:=BB.vb 1 rfl;haveI iKB:=BB.vb 0 rfl;refine hK.out _ _ (Or.inr ⟨jl,jl⟩) ?_;clear hK K
           try simp only[Act.put,List.setIfInBounds_toArray,List.set_cons_zero,List.set_cons_succ]
           refine stj 11 (h:=fun K hK=>?_);go_simp;refine hK.out _ _ (Or.inl ja) ?_;clear hK K
           try simp only[List.setIfInBounds_toArray,List.set_cons_zero,List.set_cons_succ]
           refine stj 12 (h:=fun K hK=>?_);go_simp;refine hK.out _ _ (Or.inl ja) ?_;clear hK K
           try simp only[List.setIfInBounds_toArray,List.set_cons_zero,List.set_cons_succ]
           refine stj 13 (h:=fun K hK=>?_);go_simp;refine hK.out _ _ (Or.inl ja) ?_;clear hK K
           try simp only[List.setIfInBounds_toArray,List.set_cons_zero,List.set_cons_succ]
           refine enj je ?_ _;have BF:=(BB.put 1 rfl 2 (.slice (some ⟨gA,0,none⟩) ((zB7 n S J V x0 k).length+(F k).rl.length) capA)).put 1 rfl 3 (.slice (some ⟨gB,0,none⟩) ((zB7 n S J V x0 k).length+(F k).vl.length) capB);simp only[List.set_cons_zero,List.set_cons_succ]at BF;generalize ((wB.setCell ⟨ob,2,none⟩ (.slice (some ⟨gA,0,none⟩) ((zB7 n S J V x0 k).length+(F k).rl.length) capA)).setCell ⟨ob,3,none⟩ (.slice (some ⟨gB,0,none⟩) ((zB7 n S J V x0 k).length+(F k).vl.length) capB))=wf at *;have HN1:(zB7 n S J V x0 k).length+(F k).rl.length=(zB7 n S J V x0 (k+1)).length:=HL3.out.symm;have HN2:(zB7 n S J V x0 k).length+(F k).vl.length=(zB7 n S J V x0 (k+1)).length:=(by rw[HL4.out];exact HN1);have HC1:zB7 n S J V x0 k++(F k).rl=zB7 n S J V x0 (k+1):=(by rw[HQ1.out];rfl);have HC2:zJp n S J V minus x0 k++(F k).vl=zJp n S J V minus x0 (k+1):=(by rw[HQ2.out];rfl);rw[HN1,HN2,HC1,HC2]at BF;have HVN:=Lib.hid (show∀u∈zJp n S J V minus x0 (k+1),u<18446744073709551616 from fun u hu=>by
            rw[←HC2]at hu;rcases List.mem_append.1 hu with h | h
            · exact HV.out u h
            · obtain⟨i,hi,rfl⟩:=List.mem_iff_getElem.1 h;have:=HBV.out i hi;rwa[List.getD_eq_getElem?_getD,List.getElem?_eq_getElem hi]at this)
           have hle:=HLE.out;haveI bwf:=BF.fr';haveI iOf:=BF.vb 1 rfl;clear BA BB iOA iKA iOB iKB iO1 iK1 BK HBV HV HC1 HC2 HN1 HN2 HNI HNV HLE HQ1 HQ2 HL3 HL4 hp1 hp2 c0 c1 hc bw iO iT hHeld;go_wp2_with (at_builtin;refine zBm 24 3 (.int .i64 0) 8 rfl _ _ rfl w 2 rfl rfl _ (.int .i64 (((zB7 n S J V x0 (k+1)).length:Nat):Int)) rfl rfl jj j0 j0 ?_;intro v5 w5 B5;obtain⟨t5,s5,rfl⟩:=zA3 (B5.own 2 rfl);haveI iO5:=B5.vb 1 rfl);have BE:=Lib.hid ((B5.put 1 rfl 1 (.slice t5 (k+1+1) s5)).sub (List.sublist_cons_self _ _));go_roundw
           case rel=>exact⟨k+1,_,_,_,j0,jm,HVN.out,by rw[zOq,zAn];exact BE.out⟩
           case measure=>exact jb
         · have hkn:k=n:=j0;rw[hkn]at iB HV;obtain⟨tS,sS,rfl,zS,bS⟩:=zAP (iB.own 1 rfl);obtain⟨tI,sI,rfl,zI,bI⟩:=zAP (iB.own 2 rfl);obtain⟨tV,sV,rfl,zV,bV⟩:=zD4 (iB.own 3 rfl) (fun i hi=>by
            rw[List.getD_eq_getElem?_getD,List.getElem?_eq_getElem (by rw[zGp];exact hi)];exact HV.out _ (List.getElem_mem _))
           haveI iO:=iB.vb 0 rfl;haveI iR:=iB.vb 7 rfl;have BF:=iB.put4 (k:=7) rfl (.slice oO n dO) (.slice tS (n+1) sS) (.slice tI (zB7 n S J V x0 n).length sI) (.slice tV (zB7 n S J V x0 n).length sV);have BG:=((BF.to 1 (t':=zBb tS (n+1) sS fun t=>(((zB7 n S J V x0 t).length:Nat):Int)) rfl (fun h=>by
            obtain⟨_,_,e,h2,_⟩:=zAP h;injection e with e1 _ e3
            subst e1 e3;exact⟨h2.fits,h2.lim,h2.addr,fun i hi=>by show _=some (Value.int .i64 (((zB7 n S J V x0 i).length:Nat):Int));rw[←zQC n S J V x0 n hi];exact h2.cell i hi,h2.old⟩) fun g hg=>by rw[←hg.2];exact bS hg.1).to 2 (t':=zBb tI (zB7 n S J V x0 n).length sI fun t=>(((zB7 n S J V x0 n).getD t 0:Nat):Int)) rfl (fun h=>Qr) fun g hg=>by rw[←hg.2];exact bI hg.1).to 3 (t':=zBZ tV (zB7 n S J V x0 n).length sV fun t=>(zJp n S J V minus x0 n).getD t 0) rfl (fun h=>by
            obtain⟨_,_,e,h2,_⟩:=zD4 h (fun i hi=>by
             rw[List.getD_eq_getElem?_getD,List.getElem?_eq_getElem (by rw[zGp];exact hi)];exact HV.out _ (List.getElem_mem _))
            injection e with e1 _ e3;subst e1 e3;exact h2) fun g hg=>by rw[←hg.2];exact bV hg.1
           have BH:=Lib.hid ((BG.sub (C:= [zBb tS (n+1) sS fun t=>(((zB7 n S J V x0 t).length:Nat):Int),zBb tI (zB7 n S J V x0 n).length sI fun t=>(((zB7 n S J V x0 n).getD t 0:Nat):Int),zBZ tV (zB7 n S J V x0 n).length sV fun t=>(zJp n S J V minus x0 n).getD t 0,zBb oO n dO O]) (((((List.nil_sublist _).cons_cons _).cons_cons _).cons_cons _).cons_cons _ |>.cons _)).perm (List.perm_append_comm (l₁:= [_,_,_]) (l₂:= [_])));clear BF BG zS zI zV bS bI bV HQ HCOL HV hkn;go_wp2_with fail;refine bodyPost_ret (v:=.tuple #[.agg #[.slice oO n dO,.slice tS (n+1) sS,.slice tI (zB7 n S J V x0 n).length sI,.slice tV (zB7 n S J V x0 n).length sV],.int .i64 0]) (by simp only[results,Tryz.results37];go_simp) rfl ?_;exact Or.inr ⟨hz,oO,tS,tI,tV,dO,sS,sI,sV,rfl,BH.out⟩
      · have HBW:=Lib.hid ((HB0.out.join hB').put4 (k:=1) rfl (.slice none 0 0) (.slice none 0 0) (.slice none 0 0) (.slice none 0 0)).fr';clear hP HW hB';go_wp2_with fail;refine bodyPost_ret (v:=.tuple #[.agg #[.slice none 0 0,.slice none 0 0,.slice none 0 0,.slice none 0 0],.int .i64 R]) (by simp only[results,Tryz.results37];go_simp) rfl ?_;exact Or.inl ⟨hz,rfl,HBW.out⟩
 · have hRe:R=e:=(by rw[HR.out,if_neg he]);have hfl:fl e n=0:=if_neg he;have HBW:=Lib.hid ((HB0.out.join hB1).put4 (k:=1) rfl (.slice none 0 0) (.slice none 0 0) (.slice none 0 0) (.slice none 0 0)).fr';clear HR HI hB1;go_wp2_with fail;refine bodyPost_ret (v:=.tuple #[.agg #[.slice none 0 0,.slice none 0 0,.slice none 0 0,.slice none 0 0],.int .i64 e]) (by simp only[results,Tryz.results37];go_simp) rfl ?_;exact Or.inl ⟨by rw[hRe];exact he,by rw[hRe],HBW.out⟩
end Go.Proofs.YtmbkgapknoammaaGreatDoor

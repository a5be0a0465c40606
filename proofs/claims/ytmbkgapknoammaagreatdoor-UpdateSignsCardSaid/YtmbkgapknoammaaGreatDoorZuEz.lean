/-
  Walks: update's columns; update.run$1.
-/
import Derived.Test.YtmbkgapknoammaaGreatDoorZuEk
set_option maxRecDepth 100000
set_option maxHeartbeats 20000000
namespace Go.Proofs.YtmbkgapknoammaaGreatDoor
open Go.RowKit Sp
structure Col where
 ra:Option Addr
 rc:Nat
 rl:List Nat
 va:Option Addr
 vc:Nat
 vl:List Nat
def zHV(F:Nat→Col)(i:Nat):Value:=if i%2=0 then .slice (F (i/2)).ra (F (i/2)).rl.length (F (i/2)).rc else .slice (F (i/2)).va (F (i/2)).vl.length (F (i/2)).vc
theorem zQq(F:Nat→Col)(k:Nat):zHV F (k*2)=.slice (F k).ra (F k).rl.length (F k).rc:=by unfold zHV;rw[if_pos j0,show k*2/2=k by omega]
theorem zQp(F:Nat→Col)(k:Nat):zHV F (k*2+1)=.slice (F k).va (F k).vl.length (F k).vc:=by unfold zHV;rw[if_neg j0,show(k*2+1)/2=k by omega]
def zNK(F:Nat→Col)(k:Nat)(C:Col):Nat→Col:=fun j=>if j=k then C else F j
theorem zEd(F:Nat→Col)(k:Nat)(C:Col):zNK F k C k=C:=if_pos rfl
theorem zFn(F:Nat→Col)(C:Col){k j:Nat}(h:¬j=k):zNK F k C j=F j:=if_neg h
def Col.R(c:Col):It:=zBb c.ra c.rl.length c.rc fun t=>((c.rl.getD t 0:Nat):Int)
def Col.V(c:Col):It:=zBZ c.va c.vl.length c.vc fun t=>c.vl.getD t 0
def zDL(b n:Nat)(F:Nat→Col):It where
 blk g:=g=b∨∃k,k<n∧((F k).R.blk g∨(F k).V.blk g)
 P w:=w.rowIs b 126 (n*2) (zHV F)∧∀k,k<n→(F k).R.P w∧(F k).V.P w∧¬(F k).R.blk b∧¬(F k).V.blk b
 loc h hb:=⟨h.1.of_block (hb b (Or.inl rfl)),fun k hk=>⟨(F k).R.loc (h.2 k hk).1 fun g hg=>hb g (Or.inr ⟨k,hk,Or.inl hg⟩),(F k).V.loc (h.2 k hk).2.1 fun g hg=>hb g (Or.inr ⟨k,hk,Or.inr hg⟩),(h.2 k hk).2.2⟩⟩
 lt h g hg:=by
  rcases hg with hg | ⟨k,hk,hg | hg⟩
  · rw[hg];exact h.1.lt
  · exact(F k).R.lt (h.2 k hk).1 g hg
  · exact(F k).V.lt (h.2 k hk).2.1 g hg
theorem Bag.merge{w0 w:World}{s t:It}{B:List It}(h:Bag w0 w (s::t::B)):Bag w0 w (un s t::B):=by
 obtain⟨h1,h2,h3,h4⟩:=h;rw[List.pairwise_cons,List.pairwise_cons]at h4;refine⟨h1,fun x hx=>?_,fun x hx g hg=>?_,List.pairwise_cons.2 ⟨fun x hx g hg=>?_,h4.2.2⟩⟩
 · rcases List.mem_cons.1 hx with e | e
   · rw[e];exact⟨h2 s jz,h2 t jz⟩
   · exact h2 x (by simp[e])
 · rcases List.mem_cons.1 hx with e | e
   · rw[e]at hg;rcases hg with hg | hg
     · exact h3 s jz g hg
     · exact h3 t jz g hg
   · exact h3 x (by simp[e]) g hg
 · rcases hg with hg | hg
   · exact h4.1 x (by simp[hx]) g hg
   · exact h4.2.1 x hx g hg
theorem Bag.cput{w0 w:World}{b n:Nat}{F:Nat→Col}{C:Col}{D:List It}(h:Bag w0 w (zDL b n F::C.R::C.V::D))(k:Nat):Bag w0 ((w.setCell ⟨b,k*2,none⟩ (.slice C.ra C.rl.length C.rc)).setCell ⟨b,k*2+1,none⟩ (.slice C.va C.vl.length C.vc)) (zDL b n (zNK F k C)::D):=by
 have ap:=h.apart;rw[List.pairwise_cons,List.pairwise_cons]at ap;have a1:¬C.R.blk b:=ap.1 C.R jz b (Or.inl rfl);have a2:¬C.V.blk b:=ap.1 C.V jz b (Or.inl rfl);have p0:(zDL b n F).P w:=h.at 0 rfl;have p1:C.R.P w:=h.at 1 rfl;have p2:C.V.P w:=h.at 2 rfl;have hm:Bag w0 w (un (zDL b n F) (un C.R C.V)::D):=((h.perm (((List.Perm.swap _ _ _).trans ((List.Perm.swap _ _ _).cons _)))).merge.perm (List.Perm.swap _ _ _)).merge;have hbk:∀g,¬g=b→((w.setCell ⟨b,k*2,none⟩ (.slice C.ra C.rl.length C.rc)).setCell ⟨b,k*2+1,none⟩ (.slice C.va C.vl.length C.vc)).heap[g]? =w.heap[g]? :=fun g hg=>(Go.Deep.blk_setCell_other _ _ _ _ hg).trans (Go.Deep.blk_setCell_other _ _ _ _ hg);refine hm.upd (t':=zDL b n (zNK F k C)) 0 rfl rfl rfl rfl jz (fun g hg hn=>hbk g fun e=>hn (Or.inl (Or.inl e))) ⟨((p0.1.set (k*2) _).set (k*2+1) _).congr fun i _=>?_,fun j hj=>?_⟩ fun g hg=>?_
 · by_cases e1:i=k*2+1
   · rw[if_pos e1,e1,zQp,zEd]
   · rw[if_neg e1]
     by_cases e0:i=k*2
     · rw[if_pos e0,e0,zQq,zEd]
     · rw[if_neg e0];unfold zHV;rw[zFn F C (show ¬i/2=k by omega)]
 · by_cases e:j=k
   · rw[e,zEd];exact⟨C.R.loc p1 fun g hg=>hbk g fun e=>a1 (e ▸ hg),C.V.loc p2 fun g hg=>hbk g fun e=>a2 (e ▸ hg),a1,a2⟩
   · rw[zFn F C e];obtain⟨q1,q2,q3,q4⟩:=p0.2 j hj;exact⟨(F j).R.loc q1 fun g hg=>hbk g fun e=>q3 (e ▸ hg),(F j).V.loc q2 fun g hg=>hbk g fun e=>q4 (e ▸ hg),q3,q4⟩
 · rcases hg with hg | ⟨j,hj,hg⟩
   · exact Or.inl (Or.inl (Or.inl hg))
   · by_cases e:j=k
     · rw[e,zEd]at hg;exact Or.inl (Or.inr hg)
     · rw[zFn F C e]at hg;exact Or.inl (Or.inl (Or.inr ⟨j,hj,hg⟩))
section
variable {w0 w:World}{B:List It}{b n j k:Nat}{F:Nat→Col}
theorem Bag.cw(h:Bag w0 w B)(j:Nat)(hj:B[j]? =some (zDL b n F))(_hk:k<n):WE w b (k*2) (.slice (F k).ra (F k).rl.length (F k).rc)∧WE w b (k*2+1) (.slice (F k).va (F k).vl.length (F k).vc):=by
 have p:(zDL b n F).P w:=h.at j hj;exact⟨⟨by rw[←zQq];exact p.1.cell j0,p.1.frozen _,p.1.lt⟩,⟨by rw[←zQp];exact p.1.cell j0,p.1.frozen _,p.1.lt⟩⟩
theorem Bag.cz(h:Bag w0 w B)(j:Nat)(hj:B[j]? =some (zDL b n F))(hk:k<n):Ils w (F k).ra (F k).rl.length (F k).rc (fun t=>(((F k).rl.getD t 0:Nat):Int))∧Fls w (F k).va (F k).vl.length (F k).vc (fun t=>(F k).vl.getD t 0):=by
 have p:(zDL b n F).P w:=h.at j hj;exact⟨(p.2 k hk).1,(p.2 k hk).2.1⟩
end
def mk(R V:Nat→Nat):Nat→Nat→Nat
 | 0,_=>0
 | t+1,i=>if i=R t then V t else mk R V t i
theorem zSv{R V:Nat→Nat}(h:∀t,V t<18446744073709551616):∀t i,mk R V t i<18446744073709551616
 | 0,_=>QJ
 | t+1,i=>by
  show(if i=R t then V t else mk R V t i)<_
  split
  · exact h t
  · exact zSv h t i
attribute [local irreducible] Calls
theorem zLs(wz w:World)[Tb wz](b wb N ib tb pb cb k n:Nat)(minus:Bool)(F:Nat→Col)(y:Nat→Nat)(inn:Nat→Bool)(D:List It)(ra:Option Addr)(rc:Nat)(rl:List Nat)(va:Option Addr)(vc:Nat)(vl:List Nat)(hF:F k=⟨ra,rc,rl,va,vc,vl⟩)(hk:k<n)(hn:n≤200)(hy:∀i,i<n→y i<18446744073709551616)(hl:vl.length=rl.length)(_hl2:rl.length≤200)(hR:∀t,t<rl.length→rl.getD t 0≤1000)(hV:∀t,vl.getD t 0<18446744073709551616)(M0:Nat→Nat)(hM0:M0=(mk (fun t=>rl.getD t 0) (fun t=>vl.getD t 0) rl.length))(hin:inn k=true)
 (hB:Bag wz w (zDL b n F::box tb 122 [.slice (some ⟨b,0,none⟩) n n]::box pb 127 [.pointer (some ⟨cb,0,none⟩)]::box cb 129 [.slice (some ⟨wb,0,none⟩) n N,.bool minus]::zE5 wb N n y::(arr ib 4 n fun i=>.bool (inn i))::D)) :
 Calls Tryz.prog 82 #[.int .i64 k,.slice (some ⟨ib,0,none⟩) n n,.pointer (some ⟨tb,0,none⟩),.pointer (some ⟨pb,0,none⟩)] w fun o w'=>∃(y':Nat→Nat) (C:Col),o=.returned (.int .i64 (aE minus (M0 k) (y k) M0 y inn k n))∧Bag wz w' (zDL b n (zNK F k C)::box tb 122 [.slice (some ⟨b,0,none⟩) n n]::box pb 127 [.pointer (some ⟨cb,0,none⟩)]::box cb 129 [.slice (some ⟨wb,0,none⟩) n N,.bool minus]::zE5 wb N n y'::(arr ib 4 n fun i=>.bool (inn i))::D)∧(∀i,i<n→y' i<18446744073709551616)∧((aE minus (M0 k) (y k) M0 y inn k n)=0→y'=aY minus (M0 k) (y k) M0 y inn k n∧C.rl=aRw inn k n∧C.vl=(aRw inn k n).map (aVl minus (M0 k) (y k) M0 y k)):=by
 haveI bw:=hB.fr';haveI iT:=hB.vb 1 rfl;have hc:=hB.cw 0 rfl hk;have hz:=hB.cz 0 rfl hk;rw[hF]at hc hz;dsimp only at hc hz;haveI c0:=hc.1;haveI c1:=hc.2;have z0:=hz.1;have z1:=hz.2;have hMlt:∀i,M0 i<18446744073709551616:=fun i=>by rw[hM0];exact zSv hV _ _
 have HM:=Lib.hid hMlt;have HY:=Lib.hid hy;have HM0:=Lib.hid hM0;have HAP:=fun W mb c (B6:Bag wz W (box cb 129 [.slice (some ⟨wb,0,none⟩) n N,.bool minus]::zE5 wb N n y::(arr ib 4 n fun i=>.bool (inn i))::mpI mb c M0::zDL b n F::box tb 122 [.slice (some ⟨b,0,none⟩) n n]::box pb 127 [.pointer (some ⟨cb,0,none⟩)]::D)) [VB W cb [.slice (some ⟨wb,0,none⟩) n N,.bool minus]]=>Lib.hid (zKr wz W cb wb N ib mb k n c minus M0 y inn _ hk hn HY.out HM.out hin B6);have HL:=Lib.hid hl;clear hc hz hy hMlt hl hM0;have hmm:=@run_makeMap Tryz.prog;have yk:=fun W=>zT3 122 2 b k n n hk W;go_enter Tryz.func82,Tryz.ntmps82;go_wp2_with fail;have B0:=(hB.map (n:=w.heap.size) rfl).cons;clear hB c0 c1 iT;generalize w.heap.size=mb at *;go_wp2_with fail
 go_loopw [8,9,18] (fun _ _ x wr=>∃t:Nat,t≤rl.length∧x=.int .i64 t∧Bag wz wr (mpI mb t (mk (fun t=>rl.getD t 0) (fun t=>vl.getD t 0) t)::zDL b n F::box tb 122 [.slice (some ⟨b,0,none⟩) n n]::box pb 127 [.pointer (some ⟨cb,0,none⟩)]::box cb 129 [.slice (some ⟨wb,0,none⟩) n N,.bool minus]::zE5 wb N n y::(arr ib 4 n fun i=>.bool (inn i))::D)) (fun _ _ x _=>rl.length-(intOf x).toNat)
 case atStart=>exact⟨0,j0,rfl,B0⟩
 case round=>
  clear B0 z0 z1 bw;obtain⟨t,ht,rfl,iB⟩:=hrel;haveI bw:=iB.fr';haveI iT:=iB.vb 2 rfl;have hc:=iB.cw 1 rfl hk;have hz:=iB.cz 1 rfl hk;rw[hF]at hc hz;dsimp only at hc hz;haveI c0:=hc.1;haveI c1:=hc.2;have z0:=hz.1;have z1:=hz.2;clear hc hz
  by_cases hlt:t<rl.length
  · have hlv:t<vl.length:=(by rw[HL.out];exact hlt);have y1:=z0.idx t hlt;have y2:=z1.idx t hlv;haveI z3:CE wr (ab ra) (ao ra+t) (.int .i64 ((rl.getD t 0:Nat):Int)):=⟨z0.cell t hlt,z0.old j0⟩;haveI z4:CE wr (ab va) (ao va+t) (.int .u64 ((vl.getD t 0:Nat):Int)):=⟨z1.cell t hlv,z1.old j0⟩;have hr:=hR t hlt;have hv:=hV t;generalize hrt:rl.getD t 0=r0 at *;generalize hvt:vl.getD t 0=v0 at *;have HRT:=Lib.hid hrt;have HVT:=Lib.hid hvt;clear hF HM HY HM0 HAP hrt hvt hR hV;go_wp2_with (at_mapUpdate;refine zRY rfl _ _ _ rfl iB 0 rfl r0 v0 hr j0 hv rfl rfl rfl ?_;intro w5 B5);go_roundw
    case rel=>exact⟨t+1,j0,jm,by rw[←HRT.out,←HVT.out]at B5;exact B5⟩
    case measure=>exact jb
  · have hte:t=rl.length:=j0;subst hte;rw[←HM0.out]at iB;have B6:=iB.perm (List.Perm.append_right D (List.perm_append_comm (l₁:= [_,_,_,_]) (l₂:= [_,_,_])));haveI iC:=iB.vb 4 rfl;haveI iP:=iB.vb 3 rfl;have hB6:=Lib.hid (B6.on (Below.refl _ _).drew);clear iB z0 z1 c0 c1 hR hV B6;go_wp2_with fail;refine bgj (fun w'=>VB w' tb [.slice (some ⟨b,0,none⟩) n n]∧VB w' pb [.pointer (some ⟨cb,0,none⟩)]) ([]:List Nat) je (⟨jl,jl⟩) (fun hHeld=>?_);simp only[List.size_toArray,List.length_cons,List.length_nil,Nat.reduceAdd,Array.replicate_succ,Array.replicate_zero,List.push_toArray,List.nil_append,List.cons_append];refine tkj 0 35 ?_ [10,11,12] (hy:=?_) (hS:=⟨jl,jl⟩) (h:=?_);rotate_left
    · exact ji
    refine tkj 1 36 ?_ [10,11,12] (hy:=?_) (hS:=⟨jl,jl⟩) (h:=?_);rotate_left
    · exact ji
    refine tkj 2 37 ?_ [6,7,8,9,10,11,12] (hy:=?_) (hS:=⟨jl,jl⟩) (h:=?_);rotate_left
    · exact ji
    refine tkj 3 38 ?_ [6,7,8,9,10,11,12] (hy:=?_) (hS:=⟨jl,jl⟩) (h:=?_);rotate_left
    · exact ji
    refine tkj 4 39 ?_ [6,7,8,9,10,11,12] (hy:=?_) (hS:=⟨jl,jl⟩) (h:=?_);rotate_left
    · exact ji
    refine tkj 5 40 ?_ [6,7,8,9,10,11,12] (hy:=?_) (hS:=⟨jl,jl⟩) (h:=?_);rotate_left
    · exact ji
    refine stj 6 (h:=fun K hK=>?_);go_simp;refine(HAP _ _ _ hB6.out).out.mono ?_;rintro o w9 ⟨y',aR,cR,aV,cV,RL,VL,rfl,B9,hy9,hz9⟩;haveI bw9:=B9.fr';haveI iT9:=B9.vb 7 rfl;haveI iP9:=B9.vb 8 rfl;have p9:(zDL b n F).P w9:=B9.at 6 rfl;have ne1:tb≠b:=fun e=>(zGj (fun _ _ h g h1 h2=>h g h2 h1) B9.apart (i:=6) (j:=7) ja rfl rfl) b (Or.inl rfl) e.symm;have ne2:pb≠b:=fun e=>(zGj (fun _ _ h g h1 h2=>h g h2 h1) B9.apart (i:=6) (j:=8) ja rfl rfl) b (Or.inl rfl) e.symm;haveI c9:=(B9.cw 6 rfl hk).1;haveI c9b:=(B9.cw 6 rfl hk).2;have p10:=p9.1.set (k*2) (.slice aR RL.length cR);haveI c10:WE (w9.setCell ⟨b,k*2,none⟩ (.slice aR RL.length cR)) b (k*2+1) _:=⟨p10.cell j0,p10.frozen _,p10.lt⟩;go_simp;refine hK.out _ _ (Or.inr ⟨jl,jl⟩) ?_;clear hK K
    try simp only[List.setIfInBounds_toArray,List.set_cons_zero,List.set_cons_succ]
    refine tkj 7 34 ?_ [8,9,10,11,12] (hy:=?_) (hS:=⟨jl,jl⟩) (h:=?_);rotate_left
    · exact ji
    refine tkj 8 42 ?_ [10,11,12] (hy:=?_) (hS:=⟨jl,jl⟩) (h:=?_);rotate_left
    · exact ji
    refine tkj 9 43 ?_ [12] (hy:=?_) (hS:=⟨jl,jl⟩) (h:=?_);rotate_left
    · exact ji
    refine tkj 10 44 ?_ [11,12] (hy:=?_) (hS:=⟨jl,jl⟩) (h:=?_);rotate_left
    · exact ji
    refine stj 11 (h:=fun K hK=>?_);go_simp;refine hK.out _ _ (Or.inr ⟨(iT9.se ne1 _ _).se ne1 _ _,(iP9.se ne2 _ _).se ne2 _ _⟩) ?_;clear hK K
    try simp only[List.setIfInBounds_toArray,List.set_cons_zero,List.set_cons_succ]
    refine stj 12 (h:=fun K hK=>?_);go_simp;refine hK.out _ _ (Or.inr ⟨(iT9.se ne1 _ _).se ne1 _ _,(iP9.se ne2 _ _).se ne2 _ _⟩) ?_;clear hK K
    try simp only[List.setIfInBounds_toArray,List.set_cons_zero,List.set_cons_succ]
    refine enj je ?_ _;have BF:=Bag.cput (C:=⟨aR,cR,RL,aV,cV,VL⟩) (((B9.perm (List.Perm.append_right D (List.perm_append_comm (l₁:= [_,_,_,_,_,_]) (l₂:= [_,_,_])))).sub ((List.sublist_cons_self _ D).append_left [_,_,_,_,_,_,_,_])).perm ((List.Perm.append_right _ (List.perm_append_comm (l₁:= [_,_]) (l₂:= [_,_]))).cons _)) k;go_wp2_with fail;go_ret;exact⟨rfl,y',⟨aR,cR,RL,aV,cV,VL⟩,BF,hy9,hz9⟩
end Go.Proofs.YtmbkgapknoammaaGreatDoor
namespace Go.Proofs.YtmbkgapknoammaaGreatDoor
open Go.RowKit Sp
section
variable {n q:Nat}{S J V:Nat→Nat}{O:Nat→Int}{x0:Nat→Nat}{minus:Bool}
theorem zSw{I F:Nat→Nat}{a i:Nat} :∀m,(∀s t,s<t→t<m→I (a+s)≠I (a+t))→mk (fun t=>I (a+t)) (fun t=>F (a+t)) m i=(lk I F i a m).getD 0
 | 0,_=>rfl
 | m+1,h=>by
  have ih:=zSw (i:=i) (F:=F) m fun s t h1 h2=>h s t h1 j0;show(if i=I (a+m)then F (a+m)else mk (fun t=>I (a+t)) (fun t=>F (a+t)) m i)=_
  by_cases e:I (a+m)=i
  · have hn:lk I F i a m=none:=zGu m fun x h1 h2 h3=>h (x-a) m j0 j0 (by rw[show a+(x-a)=x by omega,h3,e]);rw[if_pos e.symm];simp only[lk,hn];rw[if_pos e];rfl
  · rw[if_neg fun h=>e h.symm,ih];simp only[lk]
    cases lk I F i a m with
    | some y=>rfl
    | none=>simp only[if_neg e]
theorem zJw{R V R' V':Nat→Nat} :∀m,(∀t,t<m→R t=R' t∧V t=V' t)→mk R V m=mk R' V' m
 | 0,_=>rfl
 | m+1,h=>by
  funext i
  show(if i=R m then V m else mk R V m i)=(if i=R' m then V' m else mk R' V' m i);rw[zJw m fun t ht=>h t j0,(h m j0).1,(h m j0).2]
theorem Iok.inj(h:Iok n S fun t=>((J t:Nat):Int)){k:Nat}(hk:k<n){x y:Nat}(_h1:S k≤x)(_h2:x<y)(_h3:y<S (k+1)):J x<J y:=by
 have hc:=h k hk;have step:∀d,x+d+1≤y→J x<J (x+d+1):=by
  intro d
  induction d with
  | zero=>
   intro hd;have h4:=(hc.a (x+1) j0 j0).2 j0;have h5:((J (x+1-1):Nat):Int)<((J (x+1):Nat):Int):=h4;rw[show x+1-1=x by omega]at h5;show J x<J (x+1);omega
  | succ d ih=>
   intro hd;have h4:=ih j0;have h5:=(hc.a (x+(d+1)+1) j0 j0).2 j0;have h6:((J (x+(d+1)+1-1):Nat):Int)<((J (x+(d+1)+1):Nat):Int):=h5;rw[show x+(d+1)+1-1=x+d+1 by omega]at h6;omega
 have:=step (y-x-1) j0;rwa[show x+(y-x-1)+1=y by omega]at this
def zCH(S J:Nat→Nat)(j:Nat):List Nat:=(List.range (S (j+1)-S j)).map fun t=>J (S j+t)
theorem zBe(S J:Nat→Nat)(j:Nat):(zCH S J j).length=S (j+1)-S j:=by unfold zCH;rw[List.length_map,List.length_range]
theorem zCD{S J:Nat→Nat}{j t:Nat}(h:t<S (j+1)-S j):(zCH S J j).getD t 0=J (S j+t):=by
 unfold zCH;rw[List.getD_eq_getElem?_getD,List.getElem?_map,List.getElem?_range h];rfl
theorem zSx(h:Iok n S fun t=>((J t:Nat):Int)){k:Nat}(hk:k<n):mk (fun t=>(zCH S J k).getD t 0) (fun t=>(zCH S V k).getD t 0) (zCH S J k).length=fun i=>atv S J V i k:=by
 funext i
 rw[zBe,zJw (R':=fun t=>J (S k+t)) (V':=fun t=>V (S k+t)) _ fun t ht=>⟨zCD ht,zCD ht⟩];exact zSw _ fun s t h1 h2 e=>by have:=h.inj hk (x:=S k+s) (y:=S k+t) j0 j0 j0;omega
theorem zTv{k:Nat}(_hk:k<n)(hu:uIn S J V x0 k k=true):aE minus (atv S J V k k) (uX S J V minus x0 k k) (fun i=>atv S J V i k) (uX S J V minus x0 k) (fun i=>uIn S J V x0 (k+1) i) k n=uE n S J V minus x0 k:=by
 unfold uE aE;rw[if_pos hu,show n-k=n-(k+1)+1 by omega];show _=(if uC S J V minus x0 k k=0 then zAR (uC S J V minus x0 k) (k+1) (n-(k+1))else uC S J V minus x0 k k);have hkk:uC S J V minus x0 k k=if zA1 (uD minus (atv S J V k k) (uX S J V minus x0 k k))≤0∨zB0 (uG minus (atv S J V k k) (uX S J V minus x0 k k))=true then 290 else if zAA (uG minus (atv S J V k k) (uX S J V minus x0 k k))then 0 else 233:=by
  unfold uC uV;rw[if_pos rfl,if_pos rfl]
 rw[hkk]
 by_cases h1:zA1 (uD minus (atv S J V k k) (uX S J V minus x0 k k))≤0
 · rw[if_pos h1,if_pos (Or.inl h1),if_neg ja]
 · rw[if_neg h1]
   by_cases h2:zB0 (uG minus (atv S J V k k) (uX S J V minus x0 k k))=true
   · rw[if_pos h2,if_pos (Or.inr h2),if_neg ja]
   · rw[if_neg h2,if_neg (not_or.2 ⟨h1,h2⟩)]
     by_cases h3:zAA (uG minus (atv S J V k k) (uX S J V minus x0 k k))=true
     · rw[if_pos h3,if_pos h3,if_pos rfl];refine zEn _ _ fun i hi _=>?_;unfold aC uC;rw[if_neg (show ¬i=k by omega)]
       by_cases h4:uIn S J V x0 (k+1) i=true
       · rw[if_pos h4,if_pos h4];have e1:uV S J V minus x0 k i=uL minus (atv S J V k k) (uX S J V minus x0 k k) (atv S J V i k) (uX S J V minus x0 k i):=(by unfold uV;rw[if_neg (show ¬i=k by omega)]);have e2:uX S J V minus x0 (k+1) i=uY minus (atv S J V k k) (uX S J V minus x0 k k) (atv S J V i k) (uX S J V minus x0 k i):=by
          show(if(uIn S J V x0 k k&&(decide (k<i)&&uIn S J V x0 (k+1) i))=true then _ else _)=_;rw[hu,h4,decide_eq_true (show k<i by omega),if_pos ja]
         rw[e1,e2]
       · rw[if_neg h4,if_neg h4]
     · rw[if_neg h3,if_neg h3,if_neg ja]
theorem zSW{k:Nat}(hu:uIn S J V x0 k k=true){i:Nat}(hi:i<n):aY minus (atv S J V k k) (uX S J V minus x0 k k) (fun i=>atv S J V i k) (uX S J V minus x0 k) (fun i=>uIn S J V x0 (k+1) i) k n i=uX S J V minus x0 (k+1) i:=by
 show(if(decide (k<i)&&decide (i<n)&&uIn S J V x0 (k+1) i)=true then _ else _)=(if(uIn S J V x0 k k&&(decide (k<i)&&uIn S J V x0 (k+1) i))=true then _ else _);rw[hu,decide_eq_true hi,Bool.and_true,Bool.true_and]
theorem zS2{k:Nat}(hu:uIn S J V x0 k k=false)(i:Nat):uX S J V minus x0 (k+1) i=uX S J V minus x0 k i:=by
 show(if(uIn S J V x0 k k&&(decide (k<i)&&uIn S J V x0 (k+1) i))=true then _ else _)=_;rw[hu,Bool.false_and,if_neg Bool.false_ne_true]
theorem zPK{k:Nat}(hu:uIn S J V x0 k k=true):zI3 n S J V x0 k=aRw (fun i=>uIn S J V x0 (k+1) i) k n:=by unfold zI3;rw[if_pos hu];rfl
theorem zPI{k:Nat}(hu:uIn S J V x0 k k=true):zNN n S J V minus x0 k=(aRw (fun i=>uIn S J V x0 (k+1) i) k n).map (aVl minus (atv S J V k k) (uX S J V minus x0 k k) (fun i=>atv S J V i k) (uX S J V minus x0 k) k):=by unfold zNN;rw[if_pos hu];rfl
theorem zRy{k:Nat}(hu:uIn S J V x0 k k=false):zI3 n S J V x0 k=zCH S J k:=by unfold zI3;rw[hu];rfl
theorem zRx{k:Nat}(hu:uIn S J V x0 k k=false):zNN n S J V minus x0 k=zCH S V k:=by unfold zNN;rw[hu];rfl
def ColQ(n:Nat)(S J V:Nat→Nat)(minus:Bool)(x0:Nat→Nat)(k:Nat)(F:Nat→Col):Prop:=
 ∀j,j<n→(F j).rl=(if j<k then zI3 n S J V x0 j else zCH S J j)∧(F j).vl=(if j<k then zNN n S J V minus x0 j else zCH S V j)
theorem ColQ.no{k:Nat}{F:Nat→Col}(h:ColQ n S J V minus x0 k F)(hu:uIn S J V x0 k k=false):ColQ n S J V minus x0 (k+1) F:=fun j hj=>by
 obtain⟨h1,h2⟩:=h j hj
 by_cases e:j=k
 · rw[e]at h1 h2 ⊢;rw[if_neg (Nat.lt_irrefl k)]at h1 h2;rw[if_pos (Nat.lt_succ_self k),if_pos (Nat.lt_succ_self k),zRy hu,zRx hu];exact⟨h1,h2⟩
 · rw[h1,h2]
   by_cases e2:j<k
   · rw[if_pos e2,if_pos e2,if_pos j0,if_pos j0];exact⟨rfl,rfl⟩
   · rw[if_neg e2,if_neg e2,if_neg j0,if_neg j0];exact⟨rfl,rfl⟩
theorem ColQ.yes{k:Nat}{F:Nat→Col}{C:Col}(h:ColQ n S J V minus x0 k F)(h1:C.rl=zI3 n S J V x0 k)(h2:C.vl=zNN n S J V minus x0 k):ColQ n S J V minus x0 (k+1) (zNK F k C):=fun j hj=>by
 obtain⟨h3,h4⟩:=h j hj
 by_cases e:j=k
 · rw[e,zEd,if_pos (Nat.lt_succ_self k),if_pos (Nat.lt_succ_self k)];exact⟨h1,h2⟩
 · rw[zFn F C e,h3,h4]
   by_cases e2:j<k
   · rw[if_pos e2,if_pos e2,if_pos j0,if_pos j0];exact⟨rfl,rfl⟩
   · rw[if_neg e2,if_neg e2,if_neg j0,if_neg j0];exact⟨rfl,rfl⟩
end
end Go.Proofs.YtmbkgapknoammaaGreatDoor

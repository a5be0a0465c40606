/-
  Walks: sparseref09.Lower, sparseref12.FromMatrix.
-/
import Derived.Test.YtmbkgapknoammaaGreatDoorZuYe
set_option maxRecDepth 100000
set_option maxHeartbeats 20000000
namespace Go.Proofs.YtmbkgapknoammaaGreatDoor
open Go.RowKit Sp
theorem zFO{E:Nat→Nat×Nat×Nat}{i j:Nat} :∀n,(zGw E n i j).isSome=true↔∃t,t<n∧(E t).1=i∧(E t).2.1=j
 | 0=>⟨fun h=>KM,fun⟨t,h,_⟩=>j0⟩
 | n+1=>by
  show(if(E n).1=i∧(E n).2.1=j then some (E n).2.2 else zGw E n i j).isSome=true↔_
  by_cases e:(E n).1=i∧(E n).2.1=j
  · rw[if_pos e];exact⟨fun _=>⟨n,j0,e⟩,fun _=>rfl⟩
  · rw[if_neg e,zFO n];constructor
    · rintro⟨t,h1,h2⟩;exact⟨t,j0,h2⟩
    · rintro⟨t,h1,h2⟩;rcases Nat.lt_succ_iff_lt_or_eq.1 h1 with c | c
      · exact⟨t,c,h2⟩
      · rw[c]at h2;exact absurd h2 e
theorem zJE{I F:Nat→Nat}{i a:Nat} :∀n,(lk I F i a n).isSome=true↔∃x,a≤x∧x<a+n∧I x=i
 | 0=>⟨fun h=>KM,fun⟨t,h1,h2,_⟩=>j0⟩
 | n+1=>by
  have ih:=zJE (I:=I) (F:=F) (i:=i) (a:=a) n
  cases h:lk I F i a n with
  | some y=>
   rw[h]at ih;obtain⟨x,h1,h2,h3⟩:=ih.1 rfl;have e:lk I F i a (n+1)=some y:=(by simp only[lk,h]);rw[e];exact⟨fun _=>⟨x,h1,j0,h3⟩,fun _=>rfl⟩
  | none=>
   rw[h]at ih;have e:lk I F i a (n+1)=if I (a+n)=i then some (F (a+n))else none:=(by simp only[lk,h]);rw[e]
   by_cases hc:I (a+n)=i
   · rw[if_pos hc];exact⟨fun _=>⟨a+n,j0,j0,hc⟩,fun _=>rfl⟩
   · rw[if_neg hc];refine⟨fun h=>KM,fun⟨x,h1,h2,h3⟩=>?_⟩
     by_cases hx:x=a+n
     · rw[hx]at h3;exact absurd h3 hc
     · have:=ih.2 ⟨x,h1,j0,h3⟩;cases this
def enT(I S:Nat→Nat)(c k i j:Nat):Bool:=decide (∃t,t<k∧I t=i∧cO S c t=j)
theorem zPv(I S:Nat→Nat)(c i j:Nat):enT I S c 0 i j=false:=decide_eq_false fun⟨t,h,_⟩=>j0
theorem zPw(I S:Nat→Nat)(c k i j:Nat):enT I S c (k+1) i j=if i=I k∧j=cO S c k then true else enT I S c k i j:=by
 unfold enT
 by_cases e:i=I k∧j=cO S c k
 · rw[if_pos e];exact decide_eq_true ⟨k,j0,e.1.symm,e.2.symm⟩
 · rw[if_neg e];refine decide_eq_decide.2 ⟨fun⟨t,h1,h2⟩=>?_,fun⟨t,h1,h2⟩=>⟨t,j0,h2⟩⟩;rcases Nat.lt_succ_iff_lt_or_eq.1 h1 with c | c
   · exact⟨t,c,h2⟩
   · rw[c]at h2;exact absurd ⟨h2.1.symm,h2.2.symm⟩ e
theorem zQm{r c q:Nat}{S I F:Nat→Nat}(h:Val r c q S I F){i j:Nat}(hj:j<c):(∃t,t<q∧I t=i∧cO S c t=j)↔stv S I F i j=true:=by
 unfold stv;rw[zJE];have hm:=h.m j hj;have hl:=h.le (t:=j+1) j0;constructor
 · rintro⟨t,h1,h2,h3⟩;obtain⟨a,b,d⟩:=zRF h h1;rw[h3]at b d;exact⟨t,b,j0,h2⟩
 · rintro⟨x,h1,h2,h3⟩;exact⟨x,j0,h3,zRG h hj h1 j0⟩
theorem zRk{r c q:Nat}{S I F:Nat→Nat}(h:Val r c q S I F){i j:Nat}(hj:j<c):enT I S c q i j=stv S I F i j:=by
 unfold enT;rw[Bool.eq_iff_iff,decide_eq_true_iff,zQm h hj]
def zDR(l:List (Nat×Nat×Nat)):List (Nat×Nat×Nat):=l.filter fun e=>decide (e.2.1≤e.1)
theorem zP8{l:List (Nat×Nat×Nat)}{e:Nat×Nat×Nat}(h:e.2.1≤e.1):zDR (l++ [e])=zDR l++ [e]:=by
 unfold zDR;rw[List.filter_append,List.filter_cons_of_pos (by exact decide_eq_true h)];rfl
theorem zR2{l:List (Nat×Nat×Nat)}{e:Nat×Nat×Nat}(h:¬e.2.1≤e.1):zDR (l++ [e])=zDR l:=by
 unfold zDR;rw[List.filter_append,List.filter_cons_of_neg (by rw[decide_eq_false h];exact Bool.false_ne_true)];exact List.append_nil _
theorem zJC(l:List (Nat×Nat×Nat)):(zDR l).length≤l.length:=List.length_filter_le _ _
theorem zNs(S I F:Nat→Nat)(c k:Nat):(enL S I F c k).length=k:=by unfold enL;rw[List.length_map,List.length_range]
theorem zN6{l:List (Nat×Nat×Nat)}{t:Nat}(h:t<l.length):l.getD t (0,0,0)∈l:=by
 rw[List.getD_eq_getElem?_getD,List.getElem?_eq_getElem h];exact List.getElem_mem h
theorem zIo{S I F:Nat→Nat}{c q t:Nat}(ht:t<(zDR (enL S I F c q)).length):∃x,x<q∧cO S c x≤I x∧(zDR (enL S I F c q)).getD t (0,0,0)=(I x,cO S c x,F x):=by
 have h:=zN6 ht;obtain⟨h1,h2⟩:=List.mem_filter.1 h;obtain⟨x,hx,e⟩:=List.mem_map.1 h1;have h3:=of_decide_eq_true h2;rw[←e]at h3;exact⟨x,List.mem_range.1 hx,h3,e.symm⟩
theorem zR1{r c q:Nat}{S I F:Nat→Nat}(h:Val r c q S I F){i j:Nat}(hj:j<c):(zGw (fun t=>(zDR (enL S I F c q)).getD t (0,0,0)) (zDR (enL S I F c q)).length i j).isSome=(decide (j≤i)&&stv S I F i j):=by
 rw[Bool.eq_iff_iff,zFO,Bool.and_eq_true,decide_eq_true_iff,←zQm h hj];constructor
 · rintro⟨t,h1,h2,h3⟩;obtain⟨x,hx,h4,e⟩:=zIo h1;rw[e]at h2 h3;have h2:I x=i:=h2;have h3:cO S c x=j:=h3;exact⟨j0,x,hx,h2,h3⟩
 · rintro⟨h0,x,hx,h1,h2⟩;have hm:(I x,cO S c x,F x)∈zDR (enL S I F c q):=List.mem_filter.2 ⟨List.mem_map.2 ⟨x,List.mem_range.2 hx,rfl⟩,decide_eq_true (by show cO S c x≤I x;omega)⟩;obtain⟨t,ht,e⟩:=List.getElem_of_mem hm;refine⟨t,ht,?_⟩;have:(zDR (enL S I F c q)).getD t (0,0,0)=(I x,cO S c x,F x):=QQ;rw[this];exact⟨h1,h2⟩
theorem Bag.tbxS{w0 w:World}{B:List It}{a:Option Addr}{n c m:Nat}{g:Nat→Nat}{T:Nat→Nat→Bool}(h:Bag w0 w B)(i j:Nat)(hi:B[i]? =some (row 23 1 (.slice a n c) n (tbl g n m)))(hj:B[j]? =some (fam n fun i=>arr (g i) 4 m fun k=>.bool (T i k))):TBX w a n c m g T:=by
 obtain⟨a',c',hv,h1⟩:=h.tbx i j hi hj;injection hv with e1 _ e3
 subst e1 e3;exact h1
theorem zFd{n:Nat}{T T':Nat→Nat→Bool}(h:∀i j,i<n→j<n→T i j=T' i j):gOf n T=gOf n T':=by
 funext v w
 unfold gOf
 by_cases c:v<n∧w<n∧v≠w
 · rw[h v w c.1 c.2.1,h w v c.2.1 c.1]
 · rw[decide_eq_false c];rfl
attribute [local irreducible] Calls
theorem zKM(w:World)[Tb w](n q:Nat)(hn:n≤64)(hq:q≤4096)(aS aI aV:Option Addr)(cS cI cV:Nat)(S I F:Nat→Nat)[hM:MX w n n aS cS aI q cI aV cV S I F]:Calls Tryz.prog 109 #[.agg #[.int .i64 n,.int .i64 n,.slice aS (n+1) cS,.slice aI q cI,.slice aV q cV]] w fun o w'=>∃(oS:Option Addr) (dS:Nat) (oI:Option Addr) (p dI:Nat) (oV:Option Addr) (dV:Nat) (S' I' F':Nat→Nat),o=.returned (.tuple #[.agg #[.int .i64 n,.int .i64 n,.slice oS (n+1) dS,.slice oI p dI,.slice oV p dV],.int .i64 0])∧MX w' n n oS dS oI p dI oV dV S' I' F'∧p≤4096∧(∀i j,i<n→j<n→stv S' I' F' i j=(decide (j≤i)&&stv S I F i j))∧From w w':=by
 have l1:=hM.s.lim;have l2:=hM.s.fits;have l3:=hM.i.lim;have l4:=hM.i.fits;have l5:=hM.v.lim;have l6:=hM.v.fits;have HOK:=Lib.hid hM.ok;have HC:=fun W [Tb W] [k:MX W n n aS cS aI q cI aV cV S I F]=>Lib.hid (frm (zBT W n n q hn hn hq aS aI aV cS cI cV S I F));have HE:=fun W [Tb W] [k:MX W n n aS cS aI q cI aV cV S I F]=>Lib.hid (zEk W n n q hn hn hq aS aI aV cS cI cV S I F);go_enter Tryz.func109,Tryz.ntmps109;go_wp2_with fail;refine(HC _).out.mono ?_;rintro o w1 ⟨rfl,b1⟩;haveI B1:Bag w w1 [box w.heap.size 69 [.int .i64 n,.int .i64 n,.slice aS (n+1) cS,.slice aI q cI,.slice aV q cV],box (w.heap.size+1) 69 [.int .i64 0,.int .i64 0,.slice none 0 0,.slice none 0 0,.slice none 0 0]]:=by
  haveI:=((Bag.nil w).var 69 [.int .i64 n,.int .i64 n,.slice aS (n+1) cS,.slice aI q cI,.slice aV q cV] rfl).var 69 [.int .i64 0,.int .i64 0,.slice none 0 0,.slice none 0 0,.slice none 0 0] (n:=w.heap.size+1) jz;exact inferInstance
 haveI iV:=B1.vb 0 rfl;go_wp2_with fail;refine(HE _).out.mono ?_;rintro o w2 ⟨ea,ec,rfl,hE2⟩;have B2:Bag w w2 [box w.heap.size 69 [.int .i64 n,.int .i64 n,.slice aS (n+1) cS,.slice aI q cI,.slice aV q cV],box (w.heap.size+1) 69 [.int .i64 0,.int .i64 0,.slice none 0 0,.slice none 0 0,.slice none 0 0],ent ea q ec fun t=>(I t,cO S n t,F t),row 175 3 (.slice none 0 0) 0 []]:=(B1.join hE2).nilr 175 3;have hX2:EL w2 ea q ec fun t=>(I t,cO S n t,F t):=B2.at 2 rfl;have lE1:=hX2.fits;have lE2:=hX2.lim;haveI b2:=B2.fr';go_wp2_with fail
 go_loopw [5,7] (fun v x wr=>∃k:Nat,k≤q∧x=.int .i64 k∧Bag w wr [box w.heap.size 69 [.int .i64 n,.int .i64 n,.slice aS (n+1) cS,.slice aI q cI,.slice aV q cV],box (w.heap.size+1) 69 [.int .i64 0,.int .i64 0,.slice none 0 0,.slice none 0 0,.slice none 0 0],ent ea q ec fun t=>(I t,cO S n t,F t),row 175 3 v (zDR (enL S I F n k)).length (zBk (zDR (enL S I F n k)))]) (fun _ x _=>q-(intOf x).toNat)
 case atStart=>exact⟨0,j0,rfl,B2⟩
 case round=>
  clear B1 B2 iV b1 b2 hE2 hX2;rename Value=>tv;obtain⟨k,hk,rfl,iB⟩:=hrel;haveI bw:=iB.fr';have hX:EL wr ea q ec fun t=>(I t,cO S n t,F t):=iB.at 2 rfl
  by_cases hlt:k<q
  · have z0:=hX.z0 hlt;have z1:=hX.z1 hlt;have z2:=hX.z2 hlt;have y0:=hX.idx k hlt;have hlen:=zJC (enL S I F n k);rw[zNs]at hlen
    by_cases hle:cO S n k≤I k
    · have HL:=Lib.hid (show(zDR (enL S I F n (k+1)))=(zDR (enL S I F n k))++ [(I k,cO S n k,F k)]by rw[zGC];exact zP8 hle);obtain⟨x,hx⟩:∃x,x=I k:=⟨_,rfl⟩;obtain⟨y,hy⟩:∃y,y=cO S n k:=⟨_,rfl⟩;obtain⟨z,hz⟩:∃z,z=F k:=⟨_,rfl⟩;rw[←hx,←hy,←hz]at HL;rw[←hx,←hy]at hle;haveI z0':CE wr (ab ea) (ao ea+k*3) (.int .i64 ((x:Nat):Int)):=(by rw[hx];exact z0);haveI z1':CE wr (ab ea) (ao ea+k*3+1) (.int .i64 ((y:Nat):Int)):=(by rw[hy];exact z1);haveI z2':CE wr (ab ea) (ao ea+k*3+2) (.int .u64 ((z:Nat):Int)):=(by rw[hz];exact z2);have hle':decide ((y:Int)≤(x:Int))=true:=decide_eq_true j0;clear z0 z1 z2 hx hy hz;obtain⟨b3,hb3⟩:∃b3,b3=ao ea+k*3:=⟨_,rfl⟩;rw[←hb3]at z0' z1' z2' y0;clear hb3;haveI B3:=@Bag.al _ _ _ (.cells #[.int .i64 x,.int .i64 y,.int .u64 z] 175) iB;clear iB;go_wp2_with fail;refine bgj (fun w'=>Below wr.heap.size wr w') [] je (zbh) (fun hHeld=>?_);simp only[List.size_toArray,List.length_cons,List.length_nil,Nat.reduceAdd,Array.replicate_succ,Array.replicate_zero,List.push_toArray,List.nil_append,List.cons_append];refine tk 0 22 [2,3,4,10] ?_;refine tk 1 23 [2,3,4,10] ?_;refine tk 2 24 [3,4,10] ?_;refine tk 3 25 [4,10] ?_;refine tk 4 26 [10] ?_;refine tk 5 27 [7,8,9,10] ?_;refine tk 6 28 [7,8,9,10] ?_;refine tk 7 29 [8,9,10] ?_;refine tk 8 30 [9,10] ?_;refine tk 9 31 [10] ?_;refine tk 10 32 [] ?_;refine enj je ?_ _;go_wp2_with (at_builtin;refine zFz 172 175 (.agg #[.int .i64 0,.int .i64 0,.int .u64 0]) 3 24 rfl _ _ rfl w 3 rfl rfl _ [.int .i64 (x:Int),.int .i64 (y:Int),.int .u64 (z:Int)] rfl rfl (zNS jj jj jj) (zSn rfl rfl rfl) j0 ja ?_;intro v5 w5 B5 hv5);have e1:(zDR (enL S I F n (k+1))).length=(zDR (enL S I F n k)).length+1:=(by rw[HL.out,List.length_append];rfl);have e2:zBk (zDR (enL S I F n (k+1)))=zBk (zDR (enL S I F n k))++ [.int .i64 (x:Int),.int .i64 (y:Int),.int .u64 (z:Int)]:=(by rw[HL.out,zEb];rfl);rw[←e1,←e2]at B5;go_roundw
      case rel=>exact⟨k+1,j0,jm,B5⟩
      case measure=>exact jb
    · have HL:=Lib.hid (show(zDR (enL S I F n (k+1)))=(zDR (enL S I F n k))by rw[zGC];exact zR2 hle);obtain⟨x,hx⟩:∃x,x=I k:=⟨_,rfl⟩;obtain⟨y,hy⟩:∃y,y=cO S n k:=⟨_,rfl⟩;rw[←hx,←hy]at hle;haveI z0':CE wr (ab ea) (ao ea+k*3) (.int .i64 ((x:Nat):Int)):=(by rw[hx];exact z0);haveI z1':CE wr (ab ea) (ao ea+k*3+1) (.int .i64 ((y:Nat):Int)):=(by rw[hy];exact z1);have hle':decide ((y:Int)≤(x:Int))=false:=decide_eq_false j0;clear z0 z1 z2 hx hy;obtain⟨b3,hb3⟩:∃b3,b3=ao ea+k*3:=⟨_,rfl⟩;rw[←hb3]at z0' z1' y0;clear hb3;go_wp2_with fail;refine bgj (fun w'=>Below wr.heap.size wr w') [] je (zbh) (fun hHeld=>?_);simp only[List.size_toArray,List.length_cons,List.length_nil,Nat.reduceAdd,Array.replicate_succ,Array.replicate_zero,List.push_toArray,List.nil_append,List.cons_append];refine tk 0 22 [2,3,4,10] ?_;refine tk 1 23 [2,3,4,10] ?_;refine tk 2 24 [3,4,10] ?_;refine tk 3 25 [4,10] ?_;refine tk 4 26 [10] ?_;refine tk 5 27 [7,8,9,10] ?_;refine tk 6 28 [7,8,9,10] ?_;refine tk 7 29 [8,9,10] ?_;refine tk 8 30 [9,10] ?_;refine tk 9 31 [10] ?_;refine tk 10 32 [] ?_;refine enj je ?_ _;go_wp2_with fail;go_roundw
      case rel=>exact⟨k+1,j0,jm,by rw[HL.out];exact @Bag.dr _ _ _ iB⟩
      case measure=>exact jb
  · have hkq:k=q:=j0;rw[hkq]at iB;obtain⟨la,lc,rfl,hE,hb⟩:=zQa (iB.own 3 rfl);haveI iV:=iB.vb 0 rfl;haveI iR:=iB.vb 1 rfl;have hlen:=zJC (enL S I F n q);rw[zNs]at hlen;haveI hE':=hE;have HP:=fun W [EL W la (zDR (enL S I F n q)).length lc fun t=>(zDR (enL S I F n q)).getD t (0,0,0)]=>Lib.hid (zLZ W n n hn hn (zDR (enL S I F n q)).length lc la j0 (fun t=>(zDR (enL S I F n q)).getD t (0,0,0)) (fun t ht=>by
     obtain⟨x,h1,h2,h3⟩:=zIo ht;obtain⟨h4,h5,h6⟩:=zRF HOK.out h1;rw[h3];exact⟨(HOK.out.a _ _ h4 h5 h6).1,h4⟩) fun t ht=>by
     obtain⟨x,h1,h2,h3⟩:=zIo ht;rw[h3];exact HOK.out.f x)
    have B6:=Lib.hid iB;have HST:=Lib.hid fun i j (hj:j<n)=>zR1 HOK.out (i:=i) hj;clear hX hb hE;generalize (zDR (enL S I F n q))=low at *;go_wp2_with fail;refine(HP _).out.mono ?_;rintro o w3 ⟨oS,dS,oI,p,dI,oV,dV,S',I',F',rfl,hM',hp,hlk,hB3⟩;have B7:=B6.out.join hB3;have hok:=hM'.ok;haveI b3:=hB3.fr';haveI iR3:=B7.vb 1 rfl;have BZ:=B7.put5 (k:=1) rfl (.int .i64 n) (.int .i64 n) (.slice oS (n+1) dS) (.slice oI p dI) (.slice oV p dV);have bz:=BZ.fr';clear B7 hB3 hM' HP HE HC;go_wp2_with fail;refine bodyPost_ret (v:=.tuple #[.agg #[.int .i64 n,.int .i64 n,.slice oS (n+1) dS,.slice oI p dI,.slice oV p dV],.int .i64 0]) (by simp only[results,Tryz.results109];go_simp) rfl ?_;exact⟨oS,dS,oI,p,dI,oV,dV,S',I',F',rfl,⟨BZ.at 4 rfl,BZ.at 5 rfl,BZ.at 6 rfl,hok⟩,hp,fun i j hi hj=>by
     have h1:=hlk i j hi hj;show(lk I' F' i (S' j) (S' (j+1)-S' j)).isSome=_;rw[h1];exact HST.out i j hj,bz⟩
theorem zHj(w:World)[Tb w](n q:Nat)(hn:n≤64)(hq:q≤4096)(aS aI aV:Option Addr)(cS cI cV:Nat)(S I F:Nat→Nat)[hM:MX w n n aS cS aI q cI aV cV S I F]:Calls Tryz.prog 110 #[.agg #[.int .i64 n,.int .i64 n,.slice aS (n+1) cS,.slice aI q cI,.slice aV q cV]] w fun o w'=>∃oa oc,o=.returned (.tuple #[.agg #[.slice oa n oc],.int .i64 0])∧GB w w' oa n oc (gOf n (stv S I F)):=by
 have l1:=hM.s.lim;have l2:=hM.s.fits;have l3:=hM.i.lim;have l4:=hM.i.fits;have l5:=hM.v.lim;have l6:=hM.v.fits;have HOK:=Lib.hid hM.ok;have HC:=fun W [Tb W] [k:MX W n n aS cS aI q cI aV cV S I F]=>Lib.hid (frm (zBT W n n q hn hn hq aS aI aV cS cI cV S I F));have HE:=fun W [Tb W] [k:MX W n n aS cS aI q cI aV cV S I F]=>Lib.hid (zEk W n n q hn hn hq aS aI aV cS cI cV S I F);have HM:=fun W=>Lib.hid (zER W n j0);have HFT:=fun W a c g T [TBX W a n c n g T]=>Lib.hid (zHi W a n c j0 g T);go_enter Tryz.func110,Tryz.ntmps110;go_wp2_with fail;refine(HC _).out.mono ?_;rintro o w1 ⟨rfl,b1⟩;haveI B1:Bag w w1 [box w.heap.size 69 [.int .i64 n,.int .i64 n,.slice aS (n+1) cS,.slice aI q cI,.slice aV q cV],box (w.heap.size+1) 112 [.slice none 0 0]]:=by
  haveI:=((Bag.nil w).var 69 [.int .i64 n,.int .i64 n,.slice aS (n+1) cS,.slice aI q cI,.slice aV q cV] rfl).var 112 [.slice none 0 0] (n:=w.heap.size+1) jz;exact inferInstance
 haveI iV:=B1.vb 0 rfl;go_wp2_with fail;refine(HM _).out.mono ?_;rintro o w2 ⟨tv,g,rfl,hB2⟩;haveI b2:=hB2.fr';haveI B2:=B1.join hB2;go_wp2_with fail;refine(HE _).out.mono ?_;rintro o w3 ⟨ea,ec,rfl,hE3⟩;haveI b3:=hE3.fr';have B3:=B2.join hE3;have hX3:EL w3 ea q ec fun t=>(I t,cO S n t,F t):=B3.at 4 rfl;have lE1:=hX3.fits;have lE2:=hX3.lim;obtain⟨ta,tc,rfl⟩:=zA3 (B3.own 2 rfl);have lT:=zBq (B3.own 2 rfl);have lT1:=lT.1;have lT2:=lT.2.1;have B4:Bag w w3 [box w.heap.size 69 [.int .i64 n,.int .i64 n,.slice aS (n+1) cS,.slice aI q cI,.slice aV q cV],box (w.heap.size+1) 112 [.slice none 0 0],row 23 1 (.slice ta n tc) n (tbl g n n),(fam n fun r=>arr (g r) 4 n fun j=>.bool (enT I S n 0 r j)),ent ea q ec fun t=>(I t,cO S n t,F t)]:=B3.to 3 rfl (fun h=>⟨fun i hi=>(h.1 i hi).congr fun j _=>by show Value.bool false=.bool (enT I S n 0 i j);rw[zPv],h.2⟩) fun _ h=>h;clear B1 B2 B3 hB2 hE3 hX3 lT;go_wp2_with fail
 go_loopw [7] (fun x wr=>∃k:Nat,k≤q∧x=.int .i64 k∧Bag w wr [box w.heap.size 69 [.int .i64 n,.int .i64 n,.slice aS (n+1) cS,.slice aI q cI,.slice aV q cV],box (w.heap.size+1) 112 [.slice none 0 0],row 23 1 (.slice ta n tc) n (tbl g n n),(fam n fun r=>arr (g r) 4 n fun j=>.bool (enT I S n k r j)),ent ea q ec fun t=>(I t,cO S n t,F t)]) (fun x _=>q-(intOf x).toNat)
 case atStart=>exact⟨0,j0,rfl,B4⟩
 case round=>
  clear B4 iV b1 b2 b3;obtain⟨k,hk,rfl,iB⟩:=hrel;haveI bw:=iB.fr';have hX:EL wr ea q ec fun t=>(I t,cO S n t,F t):=iB.at 4 rfl;have hT:TBX wr ta n tc n g (enT I S n k):=iB.tbxS 2 3 rfl rfl
  by_cases hlt:k<q
  · obtain⟨hc1,hc2,hc3⟩:=zRF HOK.out hlt;have hr1:=(HOK.out.a _ _ hc1 hc2 hc3).1;haveI z0:CE wr (ab ea) (ao ea+k*3) (.int .i64 ((I k:Nat):Int)):=hX.z0 hlt;haveI z1:CE wr (ab ea) (ao ea+k*3+1) (.int .i64 ((cO S n k:Nat):Int)):=hX.z1 hlt;have y0:=hX.idx k hlt;haveI z3:=hT.ce hr1;have y3:=hT.idx (I k) hr1;have y4:=fun W=>zCz 23 (g (I k)) (cO S n k) n n hc1 W;haveI z4:=iB.wf 3 rfl hr1 hc1;have HB:Hid (Bag w _ [box w.heap.size 69 [.int .i64 n,.int .i64 n,.slice aS (n+1) cS,.slice aI q cI,.slice aV q cV],box (w.heap.size+1) 112 [.slice none 0 0],row 23 1 (.slice ta n tc) n (tbl g n n),(fam n fun r=>arr (g r) 4 n fun j=>.bool (enT I S n (k+1) r j)),ent ea q ec fun t=>(I t,cO S n t,F t)]):=Lib.hid ((iB.sf 3 rfl hr1 (cO S n k) (.bool true)).to 3 rfl (fun h=>⟨fun i hi=>(h.1 i hi).congr fun j _=>by
     show(if i=I k∧j=cO S n k then Value.bool true else .bool (enT I S n k i j))=.bool (enT I S n (k+1) i j);rw[zPw];split <;> rfl,h.2⟩) fun _ h=>h)
    generalize enT I S n k (I k) (cO S n k)=vv at *;clear hX hT iB hc2 hc3;obtain⟨e0,he0⟩:∃e0,e0=I k:=⟨_,rfl⟩;obtain⟨e1,he1⟩:∃e1,e1=cO S n k:=⟨_,rfl⟩;rw[←he0]at z0 z3 y3 y4 z4 hr1 HB;rw[←he1]at z1 y4 z4 hc1 HB;generalize g e0=ge at *;clear he0 he1;obtain⟨b5,hb5⟩:∃b5,b5=ao ea+k*3:=⟨_,rfl⟩;rw[←hb5]at z0 z1 y0;clear hb5;go_wp2_with fail;refine bgj (fun w'=>Below wr.heap.size wr w') [14] je (zbh) (fun hHeld=>?_);simp only[List.size_toArray,List.length_cons,List.length_nil,Nat.reduceAdd,Array.replicate_succ,Array.replicate_zero,List.push_toArray,List.nil_append,List.cons_append];refine tk 0 31 [6,7,13,14] ?_;refine tk 1 32 [3,4,5,6,7,13,14] ?_;refine tk 2 33 [3,4,5,6,7,13,14] ?_;refine tk 3 34 [4,5,6,7,13,14] ?_;refine tk 4 35 [5,6,7,13,14] ?_;refine tk 5 36 [6,7,13,14] ?_;refine tk 6 37 [7,13,14] ?_;refine tk 7 38 [13,14] ?_;refine tk 8 39 [10,11,12,13,14] ?_;refine tk 9 40 [10,11,12,13,14] ?_;refine tk 10 41 [11,12,13,14] ?_;refine tk 11 42 [12,13,14] ?_;refine tk 12 43 [13,14] ?_;refine tk 13 44 [14] ?_;refine stj 14 (h:=fun K hK=>?_);go_simp;refine hK.out _ _ (Or.inl ja) ?_;clear hK K
    try simp only[List.setIfInBounds_toArray,List.set_cons_zero,List.set_cons_succ]
    refine enj je ?_ _;go_wp2_with fail;go_roundw
    case rel=>exact⟨k+1,j0,jm,@Bag.dr _ _ _ HB.out⟩
    case measure=>exact jb
  · have hkq:k=q:=j0;rw[hkq]at hT;haveI hT':=hT;haveI iR:=iB.vb 1 rfl;have BB:=Lib.hid iB;clear iB hX;go_wp2_with fail;refine(HFT _ _ _ _ _).out.mono ?_;rintro o w6 ⟨oa,oc,rfl,hS,A,C,hB6⟩;have B7:=BB.out.join hB6;haveI b6:=hB6.fr';haveI iR7:=B7.vb 1 rfl;have BZ:=B7.put 1 rfl 0 (.slice oa n oc);clear B7 hB6 HFT HE HC HM;go_wp2_with fail;refine bodyPost_ret (v:=.tuple #[.agg #[.slice oa n oc],.int .i64 0]) (by haveI iRZ:=BZ.vb 1 rfl;simp only[results,Tryz.results110];go_simp) rfl ?_;have e:gOf n (enT I S n q)=gOf n (stv S I F):=zFd fun i j _ hj=>zRk HOK.out hj;rw[e]at hS BZ;exact⟨oa,oc,rfl,hS,A,C,BZ.sub ((((((List.Sublist.refl _).cons _).cons _).cons _).cons _).cons _)⟩
end Go.Proofs.YtmbkgapknoammaaGreatDoor
set_option maxRecDepth 100000
set_option maxHeartbeats 20000000
namespace Go.Proofs.YtmbkgapknoammaaGreatDoor
open Go.RowKit Sp
def zEy(V:Nat→Nat→Bool)(i j r c:Nat):Bool:=decide (r<i∨(r=i∧c<j))&&V r c
theorem zMo(V:Nat→Nat→Bool)(r c:Nat):zEy V 0 0 r c=false:=by
 unfold zEy;rw[decide_eq_false j0];rfl
theorem zMp(V:Nat→Nat→Bool)(i j r c:Nat):zEy V i (j+1) r c=if r=i∧c=j then V i j else zEy V i j r c:=by
 unfold zEy
 by_cases e:r=i∧c=j
 · rw[if_pos e,e.1,e.2,decide_eq_true j0,Bool.true_and]
 · rw[if_neg e];congr 1;exact decide_eq_decide.2 j0
theorem zOR(V:Nat→Nat→Bool){n i r c:Nat}(h:c<n):zEy V i n r c=zEy V (i+1) 0 r c:=by
 unfold zEy;congr 1;exact decide_eq_decide.2 j0
theorem zOS(V:Nat→Nat→Bool){n r c:Nat}(h:r<n):zEy V n 0 r c=V r c:=by
 unfold zEy;rw[decide_eq_true j0,Bool.true_and]
def zRT(n:Nat)(G:Nat→Nat→Bool)(L:Nat→Int):Nat→Nat→Bool:=gOf n fun i j=>G (L i).toNat (L j).toNat
attribute [local irreducible] Calls
theorem zHh(w:World)(a:Option Addr)(n c:Nat)(hn:n≤64)(G:Nat→Nat→Bool)[hG:GR w a n c G](al:Option Addr)(cl:Nat)(L:Nat→Int)[hL:IZ w al n cl L](hp:zDi L n n=true):Calls Tryz.prog 144 #[.agg #[.slice a n c],.slice al n cl] w fun o w'=>∃oa oc,o=.returned (.tuple #[.agg #[.slice oa n oc],.int .i64 0])∧GB w w' oa n oc (zRT n G L):=by
 have l1:=hG.out.fits;have l2:=hG.out.lim;have l3:=hL.out.fits;have l4:=hL.out.lim;have HP:=Lib.hid fun i (hi:i<n)=>zEC hp hi;have HC:=fun W [GR W a n c G]=>Lib.hid (zDm W a n c j0 G);have HR:=fun W [IZ W al n cl L]=>Lib.hid (zKJ W al n cl L n fun i hi=>⟨(HP.out i hi).1,(HP.out i hi).2.1⟩);have HW:=fun W [IZ W al n cl L]=>Lib.hid (zKG W al n cl L fun i t hi ht=>(HP.out i hi).2.2 t ht);have HT:=fun W [GR W a n c G]=>Lib.hid (zFG W a n c j0 G);have HM:=fun W=>Lib.hid (zER W n j0);have HFT:=fun W a c g T [TBX W a n c n g T]=>Lib.hid (zHi W a n c j0 g T);clear hp;go_enter Tryz.func144,Tryz.ntmps144;go_wp2_with fail;refine(HC _).out.mono ?_;rintro o w1 ⟨rfl,b1⟩;haveI B1:Bag w w1 [box w.heap.size 112 [.slice a n c],box (w.heap.size+1) 112 [.slice none 0 0]]:=by
  haveI:=((Bag.nil w).var 112 [.slice a n c] rfl).var 112 [.slice none 0 0] (n:=w.heap.size+1) jz;exact inferInstance
 haveI iV:=B1.vb 0 rfl;go_wp2_with fail;refine(HR _).out.mono ?_;rintro o w2 ⟨rfl,b2⟩;go_wp2_with fail;refine(HW _).out.mono ?_;rintro o w3 ⟨rfl,b3⟩;go_wp2_with fail;refine(HT _).out.mono ?_;rintro o w4 ⟨tv,g,rfl,hB4⟩;haveI b4:=hB4.fr';have B4:=(inferInstance:Bag w w3 [box w.heap.size 112 [.slice a n c],box (w.heap.size+1) 112 [.slice none 0 0]]).join hB4;obtain⟨ta,tc,rfl⟩:=zA3 (B4.own 2 rfl);have lT:=zBq (B4.own 2 rfl);have lT1:=lT.1;have lT2:=lT.2.1;go_wp2_with fail;refine(HM _).out.mono ?_;rintro o w5 ⟨uv,h,rfl,hB5⟩;haveI b5:=hB5.fr';have B5:=B4.join hB5;obtain⟨ua,uc,rfl⟩:=zA3 (B5.own 4 rfl);have lU:=zBq (B5.own 4 rfl);have lU1:=lU.1;have lU2:=lU.2.1;have B6:Bag w w5 [box w.heap.size 112 [.slice a n c],box (w.heap.size+1) 112 [.slice none 0 0],row 23 1 (.slice ta n tc) n (tbl g n n),fam n fun r=>arr (g r) 4 n fun j=>.bool (G r j),row 23 1 (.slice ua n uc) n (tbl h n n),fam n fun r=>arr (h r) 4 n fun y=>.bool (zEy (fun i j=>G (L i).toNat (L j).toNat) 0 0 r y)]:=B5.to 5 rfl (fun h=>⟨fun i hi=>(h.1 i hi).congr fun j _=>by show Value.bool false=.bool (zEy (fun i j=>G (L i).toNat (L j).toNat) 0 0 i j);rw[zMo],h.2⟩) fun _ h=>h;clear B1 B4 B5 hB4 hB5 lT lU HC HR HW HT HM;go_wp2_with fail
 go_loopw [9,10] (fun x _ wr=>∃i:Nat,i≤n∧x=.int .i64 i∧Bag w wr [box w.heap.size 112 [.slice a n c],box (w.heap.size+1) 112 [.slice none 0 0],row 23 1 (.slice ta n tc) n (tbl g n n),fam n fun r=>arr (g r) 4 n fun j=>.bool (G r j),row 23 1 (.slice ua n uc) n (tbl h n n),fam n fun r=>arr (h r) 4 n fun y=>.bool (zEy (fun i j=>G (L i).toNat (L j).toNat) i 0 r y)]) (fun x _ _=>n-(intOf x).toNat)
 case atStart=>exact⟨0,j0,rfl,B6⟩
 case round=>
  clear B6 iV b1 b2 b3 b4 b5;obtain⟨i,hi,rfl,iB⟩:=hrel
  by_cases hlt:i<n
  · haveI bw:=iB.fr';go_wp2_with fail
    go_loopw [10] (fun x wq=>∃j:Nat,j≤n∧x=.int .i64 j∧Bag w wq [box w.heap.size 112 [.slice a n c],box (w.heap.size+1) 112 [.slice none 0 0],row 23 1 (.slice ta n tc) n (tbl g n n),fam n fun r=>arr (g r) 4 n fun j=>.bool (G r j),row 23 1 (.slice ua n uc) n (tbl h n n),fam n fun r=>arr (h r) 4 n fun y=>.bool (zEy (fun i j=>G (L i).toNat (L j).toNat) i j r y)]) (fun x _=>n-(intOf x).toNat)
    case atStart=>exact⟨0,j0,rfl,iB⟩
    case round=>
     clear iB bw;rename World=>wq;obtain⟨j,hj,rfl,iB⟩:=hrel;haveI bw:=iB.fr'
     by_cases hltj:j<n
     · have hT:TBX wq ta n tc n g G:=iB.tbxS 2 3 rfl rfl;have hU:TBX wq ua n uc n h (zEy (fun i j=>G (L i).toNat (L j).toNat) i j):=iB.tbxS 4 5 rfl rfl;have hLL:=(inferInstance:IZ wq al n cl L).out;obtain⟨p1,p2,_⟩:=HP.out i hlt;obtain⟨q1,q2,_⟩:=HP.out j hltj;obtain⟨r1,hr1⟩:∃r1:Nat,r1=(L i).toNat:=⟨_,rfl⟩;obtain⟨r2,hr2⟩:∃r2:Nat,r2=(L j).toNat:=⟨_,rfl⟩;have hr1n:r1<n:=j0;have hr2n:r2<n:=j0;have y1:=hLL.idx i hlt;have y2:=hLL.idx j hltj;haveI z1:CE wq (ab al) (ao al+i) (.int .i64 (r1:Int)):=⟨by rw[show(r1:Int)=L i by omega];exact hLL.cell i hlt,hLL.old j0⟩;haveI z2:CE wq (ab al) (ao al+j) (.int .i64 (r2:Int)):=⟨by rw[show(r2:Int)=L j by omega];exact hLL.cell j hltj,hLL.old j0⟩;haveI z3:=hT.ce hr1n;haveI z4:=hT.at hr1n hr2n;have y3:=hT.idx r1 hr1n;have y4:=fun W=>zCz 23 (g r1) r2 n n hr2n W;haveI z5:=hU.ce hlt;have y5:=hU.idx i hlt;have y6:=fun W=>zCz 23 (h i) j n n hltj W;haveI z6:=iB.wf 5 rfl hlt hltj;have HB:Hid (Bag w _ [box w.heap.size 112 [.slice a n c],box (w.heap.size+1) 112 [.slice none 0 0],row 23 1 (.slice ta n tc) n (tbl g n n),fam n fun r=>arr (g r) 4 n fun j=>.bool (G r j),row 23 1 (.slice ua n uc) n (tbl h n n),fam n fun r=>arr (h r) 4 n fun y=>.bool (zEy (fun i j=>G (L i).toNat (L j).toNat) i (j+1) r y)]):=Lib.hid ((iB.sf 5 rfl hlt j (.bool (G r1 r2))).to 5 rfl (fun h=>⟨fun r hr=>(h.1 r hr).congr fun c _=>by
        show(if r=i∧c=j then Value.bool (G r1 r2)else .bool (zEy (fun i j=>G (L i).toNat (L j).toNat) i j r c))=.bool (zEy (fun i j=>G (L i).toNat (L j).toNat) i (j+1) r c);rw[zMp]
        by_cases e:r=i∧c=j
        · rw[if_pos e,if_pos e,hr1,hr2]
        · rw[if_neg e,if_neg e],h.2⟩) fun _ h=>h)
       generalize zEy (fun i j=>G (L i).toNat (L j).toNat) i j i j=vv at *;generalize G r1 r2=v2 at *;clear hT hU hLL iB p1 p2 q1 q2 hr1 hr2;generalize g r1=ge at *;generalize h i=he at *;go_wp2_with fail;refine bgj (fun w'=>Below wq.heap.size wq w') [19] je (zbh) (fun hHeld=>?_);simp only[List.size_toArray,List.length_cons,List.length_nil,Nat.reduceAdd,Array.replicate_succ,Array.replicate_zero,List.push_toArray,List.nil_append,List.cons_append];refine tk 0 44 [2,3,18,19] ?_;refine tk 1 45 [2,3,18,19] ?_;refine tk 2 46 [3,18,19] ?_;refine tk 3 47 [18,19] ?_;refine tk 4 48 [18,19] ?_;refine tk 5 49 [10,11,16,17,18,19] ?_;refine tk 6 50 [8,9,10,11,16,17,18,19] ?_;refine tk 7 51 [8,9,10,11,16,17,18,19] ?_;refine tk 8 52 [9,10,11,16,17,18,19] ?_;refine tk 9 53 [10,11,16,17,18,19] ?_;refine tk 10 54 [11,16,17,18,19] ?_;refine tk 11 55 [16,17,18,19] ?_;refine tk 12 56 [14,15,16,17,18,19] ?_;refine tk 13 57 [14,15,16,17,18,19] ?_;refine tk 14 58 [15,16,17,18,19] ?_;refine tk 15 59 [16,17,18,19] ?_;refine tk 16 60 [17,18,19] ?_;refine tk 17 61 [18,19] ?_;refine tk 18 62 [19] ?_;refine stj 19 (h:=fun K hK=>?_);go_simp;refine hK.out _ _ (Or.inl ja) ?_;clear hK K
       try simp only[List.setIfInBounds_toArray,List.set_cons_zero,List.set_cons_succ]
       refine enj je ?_ _;go_wp2_with fail;go_roundw
       case rel=>exact⟨j+1,j0,jm,@Bag.dr _ _ _ HB.out⟩
       case measure=>exact jb
     · have hjn:j=n:=j0;rw[hjn]at iB;have B7:Bag w wq [box w.heap.size 112 [.slice a n c],box (w.heap.size+1) 112 [.slice none 0 0],row 23 1 (.slice ta n tc) n (tbl g n n),fam n fun r=>arr (g r) 4 n fun j=>.bool (G r j),row 23 1 (.slice ua n uc) n (tbl h n n),fam n fun r=>arr (h r) 4 n fun y=>.bool (zEy (fun i j=>G (L i).toNat (L j).toNat) (i+1) 0 r y)]:=iB.to 5 rfl (fun h=>⟨fun r hr=>(h.1 r hr).congr fun c hc=>by show Value.bool (zEy (fun i j=>G (L i).toNat (L j).toNat) i n r c)=.bool (zEy (fun i j=>G (L i).toNat (L j).toNat) (i+1) 0 r c);rw[zOR _ hc],h.2⟩) fun _ h=>h;clear iB;go_wp2_with fail;go_roundw
       case rel=>exact⟨i+1,j0,jm,B7⟩
       case measure=>exact jb
  · have hin:i=n:=j0;rw[hin]at iB;haveI bw:=iB.fr';haveI hU:TBX wr ua n uc n h (zEy (fun i j=>G (L i).toNat (L j).toNat) n 0):=iB.tbxS 4 5 rfl rfl;have BB:=Lib.hid iB;clear iB;go_wp2_with fail;refine(HFT _ _ _ _ _).out.mono ?_;rintro o w6 ⟨oa,oc,rfl,hS,A,C,hB6⟩;have B7:=BB.out.join hB6;haveI b6:=hB6.fr';haveI iR7:=B7.vb 1 rfl;have BZ:=B7.put 1 rfl 0 (.slice oa n oc);clear B7 hB6 HFT;go_wp2_with fail;refine bodyPost_ret (v:=.tuple #[.agg #[.slice oa n oc],.int .i64 0]) (by haveI iRZ:=BZ.vb 1 rfl;simp only[results,Tryz.results144];go_simp) rfl ?_;have e:gOf n (zEy (fun i j=>G (L i).toNat (L j).toNat) n 0)=zRT n G L:=zFd fun i j hi _=>zOS _ hi;rw[e]at hS BZ;exact⟨oa,oc,rfl,hS,A,C,BZ.sub (((((((List.Sublist.refl _).cons _).cons _).cons _).cons _).cons _).cons _)⟩
theorem zHe(w:World)(a:Option Addr)(n c:Nat)(hn:n≤64)(G:Nat→Nat→Bool)[hG:GR w a n c G](al:Option Addr)(cl:Nat)(L:Nat→Int)[hL:IZ w al n cl L](hp:zDi L n n=true):Calls Tryz.prog 111 #[.agg #[.slice a n c],.slice al n cl] w fun o w'=>∃oa oc,o=.returned (.tuple #[.agg #[.slice oa n oc],.int .i64 0])∧GB w w' oa n oc (zRT n G L):=by
 have l1:=hG.out.fits;have l2:=hG.out.lim;have l3:=hL.out.fits;have l4:=hL.out.lim;have HP:=Lib.hid fun i (hi:i<n)=>zEC hp hi;have HC:=fun W [GR W a n c G]=>Lib.hid (zDm W a n c j0 G);have HK:=fun W [IZ W al n cl L]=>Lib.hid (zMT W al n cl j0 L hp);have HI:=fun W [GR W a n c G] [IZ W al n cl L]=>Lib.hid (zHh W a n c hn G al cl L hp);clear hp;go_enter Tryz.func111,Tryz.ntmps111;go_wp2_with fail;refine(HC _).out.mono ?_;rintro o w1 ⟨rfl,b1⟩;haveI B1:Bag w w1 [box w.heap.size 112 [.slice a n c],box (w.heap.size+1) 112 [.slice none 0 0]]:=by
  haveI:=((Bag.nil w).var 112 [.slice a n c] rfl).var 112 [.slice none 0 0] (n:=w.heap.size+1) jz;exact inferInstance
 haveI iV:=B1.vb 0 rfl;go_wp2_with fail;refine(HK _).out.mono ?_;rintro o w2 ⟨rfl,b2⟩;go_wp2_with fail;refine(HI _).out.mono ?_;rintro o w6 ⟨oa,oc,rfl,hS,A,C,hB6⟩;have B7:=(inferInstance:Bag w w2 [box w.heap.size 112 [.slice a n c],box (w.heap.size+1) 112 [.slice none 0 0]]).join hB6;haveI b6:=hB6.fr';haveI iR7:=B7.vb 1 rfl;have BZ:=B7.put 1 rfl 0 (.slice oa n oc);clear B1 B7 hB6 HI HK HC;go_wp2_with fail;refine bodyPost_ret (v:=.tuple #[.agg #[.slice oa n oc],.int .i64 0]) (by haveI iRZ:=BZ.vb 1 rfl;simp only[results,Tryz.results111];go_simp) rfl ?_;exact⟨oa,oc,rfl,hS,A,C,BZ.sub (((List.Sublist.refl _).cons _).cons _)⟩
def zGS(n:Nat)(S I F:Nat→Nat)(L:Nat→Int):Nat→Nat→Bool:=zRT n (gOf n fun i j=>decide (j≤i)&&stv S I F i j) L
theorem zKN(w:World)[Tb w](n q:Nat)(hn:n≤64)(hq:q≤4096)(aS aI aV:Option Addr)(cS cI cV:Nat)(S I F:Nat→Nat)[hM:MX w n n aS cS aI q cI aV cV S I F](al:Option Addr)(cl:Nat)(L:Nat→Int)[hL:IZ w al n cl L](hp:zDi L n n=true):Calls Tryz.prog 71 #[.agg #[.int .i64 n,.int .i64 n,.slice aS (n+1) cS,.slice aI q cI,.slice aV q cV],.slice al n cl] w fun o w'=>∃oa oc,o=.returned (.agg #[.slice oa n oc])∧GB w w' oa n oc (zGS n S I F L):=by
 have l1:=hM.s.lim;have l2:=hM.s.fits;have l3:=hM.i.lim;have l4:=hM.i.fits;have l5:=hM.v.lim;have l6:=hM.v.fits;have HOK:=Lib.hid hM.ok;have l7:=hL.out.fits;have l8:=hL.out.lim;have HLO:=fun W [Tb W] [k:MX W n n aS cS aI q cI aV cV S I F]=>Lib.hid (zKM W n q hn hq aS aI aV cS cI cV S I F);have HFM:=fun W p aS aI aV cS cI cV S I F (hq:p≤4096) [Tb W] [k:MX W n n aS cS aI p cI aV cV S I F]=>Lib.hid (zHj W n p hn hq aS aI aV cS cI cV S I F);have HRL:=fun W a c G [GR W a n c G] [IZ W al n cl L]=>Lib.hid (zHe W a n c hn G al cl L hp);clear hp;go_enter Tryz.func71,Tryz.ntmps71;go_wp2_with fail;refine(HLO _).out.mono ?_;rintro o w1 ⟨oS,dS,oI,p,dI,oV,dV,S',I',F',rfl,hM',hpq,hst,b1⟩;haveI hM1:=hM';haveI B1:Bag w w1 [box w.heap.size 69 [.int .i64 n,.int .i64 n,.slice aS (n+1) cS,.slice aI q cI,.slice aV q cV],box (w.heap.size+1) 112 [.slice none 0 0]]:=by
  haveI:=((Bag.nil w).var 69 [.int .i64 n,.int .i64 n,.slice aS (n+1) cS,.slice aI q cI,.slice aV q cV] rfl).var 112 [.slice none 0 0] (n:=w.heap.size+1) jz;exact inferInstance
 have m1:=hM'.s.fits;have m2:=hM'.s.lim;have m3:=hM'.i.fits;have m4:=hM'.i.lim;have m5:=hM'.v.fits;have m6:=hM'.v.lim;have HST:=Lib.hid hst;clear HLO hM' hst;go_wp2_with fail;refine(HFM _ _ _ _ _ _ _ _ _ _ _ hpq).out.mono ?_;rintro o w2 ⟨ga,gc,rfl,hG2⟩;haveI g2:=hG2.gr;haveI b2:=hG2.fr;have B2:Bag w w2 [box w.heap.size 69 [.int .i64 n,.int .i64 n,.slice aS (n+1) cS,.slice aI q cI,.slice aV q cV],box (w.heap.size+1) 112 [.slice none 0 0]]:=inferInstance;have n1:=g2.out.fits;have n2:=g2.out.lim;clear HFM hG2;go_wp2_with fail;refine(HRL _ _ _ _).out.mono ?_;rintro o w3 ⟨oa,oc,rfl,hS,A,C,hB3⟩;haveI b3:=hB3.fr';have B3:=((B2.on ((Below.refl _ _).alloc (Nat.le_refl _) (.cells #[.slice ga n gc] 112)))).join hB3;clear B1 B2 hB3 HRL;have k1:=zBq (B3.own 2 rfl);have k2:=k1.1;have k3:=k1.2.1;have B4:Bag w (w3.alloc (.cells #[.slice oa n oc] 112)) _:=@Bag.al _ _ _ (.cells #[.slice oa n oc] 112) B3;haveI iR:=B4.vb 1 rfl;have BZ:=@Bag.al _ _ _ (.cells #[.slice oa n oc] 112) (B3.put 1 rfl 0 (.slice oa n oc));clear k1 B3;go_wp2_with fail;refine bodyPost_ret (v:=.agg #[.slice oa n oc]) (by haveI iRZ:=BZ.vb 1 rfl;simp only[results,Tryz.results71];go_simp) rfl ?_;have e:zRT n (gOf n (stv S' I' F')) L=zGS n S I F L:=by unfold zGS;rw[zFd HST.out]
 rw[e]at hS BZ;exact⟨oa,oc,rfl,hS,A,C,BZ.sub (((List.Sublist.refl _).cons _).cons _)⟩
end Go.Proofs.YtmbkgapknoammaaGreatDoor

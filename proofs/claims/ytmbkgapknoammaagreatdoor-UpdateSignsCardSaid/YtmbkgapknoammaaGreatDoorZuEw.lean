/-
  Walks: sparsegen.Vector, a vector that is written to; sparselaw29.pick.
-/
import Derived.Test.YtmbkgapknoammaaGreatDoorZuYl
import Derived.Test.YtmbkgapknoammaaGreatDoorZuKs
import Derived.Test.YtmbkgapknoammaaGreatDoorZuRj
import Derived.BigQuiet
import Derived.Test.YtmbkgapknoammaaGreatDoorZuEs
set_option maxRecDepth 100000
set_option maxHeartbeats 20000000
namespace Go.Proofs.YtmbkgapknoammaaGreatDoor
open Go.RowKit Sp
structure PKS(k:Nat)(b:Nat→Nat→Nat)(P:Nat→Nat→Bool):Prop where
 s:Sgr k P
 ok:∀j,j<k→zGQ b (zBD k P) k j
section
variable {k:Nat}{b:Nat→Nat→Nat}{P:Nat→Nat→Bool}
def pkS(k:Nat)(P:Nat→Nat→Bool)(t:Nat):Nat:=(cat (zAb k P) t).length
def pkI(k:Nat)(P:Nat→Nat→Bool)(t:Nat):Nat:=(cat (zAb k P) k).getD t 0
noncomputable def pkV(b:Nat→Nat→Nat)(k:Nat)(P:Nat→Nat→Bool)(t:Nat):Nat:=(cat (zCC b k P) k).getD t 0
theorem PKS.fok(h:PKS k b P):FOK k (pkS k P k) (fun t=>((pkS k P t:Nat):Int)) (fun t=>((pkI k P t:Nat):Int)):=zRE fun _ hk=>zNP h.s hk
theorem zNU{c:Nat→List Nat}{x:Nat} :∀j,x∈cat c j→∃m,m<j∧x∈c m
 | 0,h=>KM
 | j+1,h=>by
  rcases List.mem_append.1 h with h | h
  · obtain⟨m,h1,h2⟩:=zNU j h;exact⟨m,j0,h2⟩
  · exact⟨j,j0,h⟩
theorem PKS.vfin(h:PKS k b P){x:Nat}(hx:x∈cat (zCC b k P) k):zAA x=true:=by
 obtain⟨j,hj,hm⟩:=zNU k hx;obtain⟨i,hi,rfl⟩:=List.mem_map.1 hm;obtain⟨t,ht,e⟩:=List.getElem_of_mem hi;have e:(zAb k P j).getD t 0=i:=QQ
 obtain⟨h1,h2,_⟩:=zIJ h.s hj ht;rw[e]at h1 h2;exact zIV h.ok hj h1 h2
theorem PKS.fck(h:PKS k b P){l:List Nat}(hl:l.Perm (List.range k)):FCK k (pkS k P k) (fun t=>((l.getD t 0:Nat):Int)) (pkS k P) (pkV b k P) where
 pm:=⟨l,hl,fun _ _=>rfl⟩
 z:=rfl
 e:=rfl
 m j hj:=by have:=h.fok.m j hj;exact Int.ofNat_lt.1 this
 b x _:=zHW k x
 f x hx:=by
  have hx:x<(cat (zCC b k P) k).length:=by rw[zGK];exact hx
  unfold pkV;rw[List.getD_eq_getElem?_getD,List.getElem?_eq_getElem hx];exact h.vfin (List.getElem_mem hx)
 d j hj:=by
  have h0:0<(zCC b k P j).length:=by rw[zFo];exact Nat.succ_pos _
  have h1:=zGJ (zCC b k P) hj h0;rw[Nat.add_zero,zGK]at h1;show 0<zA1 (fof ((cat (zCC b k P) k).getD (cat (zAb k P) j).length 0));rw[h1];have h2:(zCC b k P j).getD 0 0=zG0 b k P j j:=rfl;rw[h2];have:=(h.ok j hj).dp;rw[zCQ]at this;exact this
theorem zQ9(k:Nat)(P:Nat→Nat→Bool)(t:Nat):pkS k P t≤t*(k+1):=zIL t
theorem zPU{r c q:Nat}{S I F:Nat→Nat}(h:Val r c q S I F)(i j:Nat):zAA (atv S I F i j)=true:=by
 unfold atv
 cases e:lk I F i (S j) (S (j+1)-S j)with
 | none=>show zAA 0=true;decide
 | some y=>
  obtain⟨x,_,_,_,e'⟩:=zJD _ e;show zAA y=true;rw[←e'];exact(h.f x).2
theorem zPn{n:Nat}{S I F:Nat→Nat}{l:List Nat}(hl:l.Perm (List.range n)){i k:Nat}(hi:i<n)(hk:k<n)(h:i≠k)(hs:stv S I F (max (l.getD i 0) (l.getD k 0)) (min (l.getD i 0) (l.getD k 0))=true):zGS n S I F (fun t=>((l.getD t 0:Nat):Int)) i k=true:=by
 have h1:=zBp hl hi;have h2:=zBp hl hk;have hne:l.getD i 0≠l.getD k 0:=fun e=>h (zEB hl hi hk e);unfold zGS zRT;rw[zN7 hi hk h,Bool.or_eq_true];refine Or.inl ?_;show gOf n _ ((l.getD i 0:Nat):Int).toNat ((l.getD k 0:Nat):Int).toNat=true;rw[Int.toNat_natCast,Int.toNat_natCast,zN7 h1 h2 hne,Bool.or_eq_true];generalize l.getD i 0=a at *;generalize l.getD k 0=c at *;rcases Nat.le_total c a with hc | hc
 · rw[Nat.max_eq_left hc,Nat.min_eq_right hc]at hs;exact Or.inl (by rw[decide_eq_true hc,hs];rfl)
 · rw[Nat.max_eq_right hc,Nat.min_eq_left hc]at hs;exact Or.inr (by rw[decide_eq_true hc,hs];rfl)
theorem zRr{n q:Nat}{S I F:Nat→Nat}{l:List Nat}(hV:Val n n q S I F)(hD:Dfn n S I F)(hn:n≤5)(hl:l.Perm (List.range n)):PKS n (pAt S I F l) (zGS n S I F (fun t=>((l.getD t 0:Nat):Int))):=by
 obtain⟨gq,GS,GI,GF,h1,h2,h3⟩:=hD;exact⟨zIr _ _,zRa h1 h2 h3 hn hl (fun i k=>zPU hV _ _) fun i k hi hk h hs=>zPn hl hi hk h hs⟩
end
theorem zSm{w:World}{v:Value}{n:Nat}{l:List Nat}(h:w.ownsRow 0 37 1 v n (zAI l))(hv:v≠.slice none 0 0):∃g N,v=.slice (some ⟨g,0,none⟩) n N∧(zE5 g N n (fun t=>l.getD t 0)).P w∧v.ownBlock=some g:=by
 obtain⟨hl0,⟨h0,_⟩ | ⟨g,N,cur,hv,_,hg,hle,hm,hs,hx⟩⟩:=h
 · exact absurd h0 hv
 · have hm':maxLen=9223372036854775807:=rfl;have hl:l.length=n:=(by rw[zD8,Nat.mul_one]at hl0;exact hl0);refine⟨g,N,hv,⟨hle,j0,fun i=>cur[i]?.getD undef,⟨cur,hg,j0,fun i hi=>?_⟩,fun i hi=>?_⟩,by rw[hv];rfl⟩
   · show cur[i]? =some (cur[i]?.getD undef);rw[Array.getElem?_eq_getElem j0];rfl
   · have h1:(zAI l)[i]? =some (.int .u64 ((l.getD i 0:Nat):Int)):=zE7 Qt;rw[←hx,List.getElem?_take_of_lt j0,Array.getElem?_toList]at h1;show cur[i]?.getD undef=_;rw[h1];rfl
attribute [local irreducible] Calls
theorem zN4(w:World)[Tb w](a:Option Addr)(m cap:Nat)(L:Nat→Nat)[hL:FZ w a m cap L](k n:Nat)(hk:k≤100000)(_hn:n≤100000)(s:Int):Calls Tryz.prog 32 #[.slice a m cap,.int .i64 k,.int .i64 n,.int .i64 s] w fun o w'=>∃g N X,o=.returned (.slice (some ⟨g,0,none⟩) n N)∧Bag w w' [zE5 g N n X]∧FinX X:=by
 have HW:=fun W (k:Int) (h0:0≤k) (hk:k≤1000000) [i:FZ W a m cap L]=>Lib.hid (zTl (zFa W a m cap L i.out k h0 hk));have HN:=fun W x (hx:x<18446744073709551616) [Tb W]=>Lib.hid (zTD (zJT W x hx s tb));go_enter Tryz.func32,Tryz.ntmps32;go_wp2_with fail;have B0:=(Bag.nil w).lit 37 1 [] (m:=0) (n:=w.heap.size) rfl ja rfl
 go_loopw [9,10] (fun v x wr=>∃(i:Nat) (l:List Nat),i≤n∧x=.int .i64 i∧v≠.slice none 0 0∧l.length=i∧(∀t,t<i→l.getD t 0<18446744073709551616∧zAA (l.getD t 0)=true)∧Bag w wr [row 37 1 v i (zAI l)]) (fun _ x _=>n-(intOf x).toNat)
 case atStart=>exact⟨0,[],j0,rfl,jz,rfl,fun t h=>j0,B0⟩
 case round=>
  obtain⟨i,l,hi,rfl,hv0,hl,hF,iB⟩:=hrel;have HF:=Lib.hid hF;have HL:=Lib.hid hl;have HV:=Lib.hid hv0;haveI bw:=iB.fr';clear hF hl B0 hv0
  by_cases hlt:i<n
  · obtain⟨ta,tc,rfl⟩:=zA3 (iB.own 0 rfl);have hw3:IntKind.i64.wrap ((k:Int)+(i:Int))=(k:Int)+(i:Int):=jg;go_wp2_with fail;refine(HW _ _ j0 j0).out.mono ?_;rintro o w1 ⟨x,hx,rfl,b1⟩;go_wp2_with fail;refine(HN _ x hx).out.mono ?_;rintro o w2 ⟨y,hy,rfl,b2⟩;haveI B2:Bag w (w2.alloc (.cells #[.int .u64 y] 37)) [row 37 1 (.slice ta i tc) i (zAI l)]:=inferInstance;go_wp2_with (at_builtin;refine zFz 25 37 (.int .u64 0) 1 8 rfl _ _ rfl w 0 rfl rfl _ [.int .u64 (y:Int)] rfl rfl (fun j u hu=>by match j,hu with | 0,hu=>(injection hu with hu;rw[←hu];go_simp)) (fun u hu=>by rw[List.mem_singleton.1 hu];rfl) j0 ja ?_;intro v5 w5 hB5 hv5);have B5:Bag w w5 [row 37 1 v5 (i+1) (zAI (l++ [y]))]:=(by rw[zCp];exact hB5);have HV5:=Lib.hid hv5;clear hB5 hv5;go_roundw
    case rel=>exact⟨i+1,l++ [y],j0,jm,HV5.out,by rw[List.length_append,HL.out];rfl,fun t ht=>zJU (P:=fun z=>z<18446744073709551616∧zAA z=true) HL.out HF.out ⟨hy.1,hy.2.1⟩ ht,B5⟩
    case measure=>exact jb
  · obtain rfl:i=n:=j0;obtain⟨g,N,rfl,hZ,hb⟩:=zSm (iB.own 0 rfl) HV.out;go_wp2_with fail;go_ret;refine⟨g,N,fun t=>l.getD t 0,rfl,iB.to 0 rfl (fun _=>hZ) fun g' hg=>by rw[show g'=g from hg];exact hb,fun t=>?_⟩
    by_cases ht:t<i
    · exact HF.out t ht
    · show l.getD t 0<_∧zAA (l.getD t 0)=true;rw[List.getD_eq_getElem?_getD,List.getElem?_eq_none (by rw[HL.out];omega)];exact⟨by show 0<_;omega,ja⟩
theorem zKY(w:World)[Tb w](a:Option Addr)(m cap:Nat)(L:Nat→Nat)[hL:FZ w a m cap L](n style kind:Int)(za:Option Addr)(zn zc:Nat)(zf:Nat→Bool)[hZ:BZ w za zn zc zf]:Calls Tryz.prog 10 #[.slice a m cap,.int .i64 n,.int .i64 style,.int .i64 kind,.slice za zn zc] w fun o w'=>∃(k:Nat) (b:Nat→Nat→Nat) (P:Nat→Nat→Bool) (l:List Nat) (y:Nat→Nat) (oO oS oI oV:Option Addr) (dO dS dI dV wb N:Nat),k≤5∧o=.returned (.tuple #[.agg #[.slice oO k dO,.slice oS (k+1) dS,.slice oI (pkS k P k) dI,.slice oV (pkS k P k) dV],.slice (some ⟨wb,0,none⟩) k N])∧Bag w w' [zBb oO k dO (fun t=>((l.getD t 0:Nat):Int)),zBb oS (k+1) dS (fun t=>((pkS k P t:Nat):Int)),row 3 1 (.slice oI (pkS k P k) dI) (pkS k P k) (zA2 (cat (zAb k P) k)),zBZ oV (pkS k P k) dV (pkV b k P),zE5 wb N k y]∧PKS k b P∧l.Perm (List.range k)∧FinX y:=by
 have l1:=hL.out.fits;have l2:=hL.out.lim;have z1:=hZ.out.fits;have z2:=hZ.out.lim;obtain⟨k,hk1,hk2⟩:=zHr n 6 j0;have HMO:=fun W=>Lib.hid (zDF W n 6 j0 j0);rw[show((6:Nat):Int)=6 from rfl]at hk1;rw[hk1]at HMO;clear hk1;have HD:=fun W [Tb W] [FZ W a m cap L]=>Lib.hid ((zPm W a m cap L k j0 style).mono fun _ _ ⟨aS,cS,aI,q,cI,aV,cV,S,I,X,h1,h2,h3,h4,h5⟩=>(⟨aS,cS,aI,q,cI,aV,cV,S,I,X,h1,h2,h3,h4,⟨h5⟩⟩:∃aS cS aI q cI aV cV S I X,_=Ending.returned (.agg #[.int .i64 k,.int .i64 k,.slice aS (k+1) cS,.slice aI q cI,.slice aV q cV])∧MX _ k k aS cS aI q cI aV cV S I X∧q≤4096∧Dfn k S I X∧From W _));have HO:=fun W [Tb W] [FZ W a m cap L]=>Lib.hid (zLa W a m cap L k j0);have HLE:=fun W q (hq:q≤4096) aS cS aI cI aV cV S I X al cl l (hl:l.Perm (List.range k)) (hOK:∀j,j<k→zGQ (pAt S I X l) (zBD k (zGS k S I X (fun t=>((l.getD t 0:Nat):Int)))) k j) [Tb W] [MX W k k aS cS aI q cI aV cV S I X] [IZ W al k cl (fun t=>((l.getD t 0:Nat):Int))]=>Lib.hid (zIc W k q j0 hq aS aI aV cS cI cV S I X al cl l hl hOK);have HV:=fun W [Tb W] [FZ W a m cap L]=>Lib.hid (zN4 W a m cap L 30 k j0 j0 kind);go_enter Tryz.func10,Tryz.ntmps10;go_wp2_with fail;refine(HMO _).out.mono ?_;rintro o w1 ⟨rfl,rfl⟩;have B0:=(Bag.nil w).var 27 [.slice none 0 0,.slice none 0 0,.slice none 0 0,.slice none 0 0] rfl;haveI b0:=B0.fr';go_wp2_with fail;refine(HD _).out.mono ?_;rintro o w2 ⟨aS,cS,aI,q,cI,aV,cV,S,I,X,rfl,hM,hq,hD,b2⟩;haveI hM':=hM;go_wp2_with fail;refine(HO _).out.mono ?_;rintro o w3 ⟨la,lc,l,rfl,hB3,hl⟩;haveI b3:=hB3.fr';obtain⟨_,_,hv,hI3,_⟩:=zAP (hB3.own 0 rfl);injection hv with e1 _ e3
 subst e1 e3;haveI hI3':IZ w3 la k lc (fun t=>((l.getD t 0:Nat):Int)):=⟨hI3⟩;have hP:=zRr hM.ok hD j0 hl;have HLX:=HLE w3 q hq aS cS aI cI aV cV S I X la lc l hl hP.ok;have HP:=Lib.hid hP;clear HLE HD HO HMO hM hD hP;generalize pAt S I X l=b at *;generalize zGS k S I X (fun t=>((l.getD t 0:Nat):Int))=P at *;go_wp2_with fail;refine HLX.out.mono ?_;rintro o w4 ⟨oO,oS,oI,oV,dO,dS,dI,dV,rfl,hB4⟩;haveI b4:=hB4.fr';have B4:Bag w w4 [box w.heap.size 27 [.slice none 0 0,.slice none 0 0,.slice none 0 0,.slice none 0 0],zBb oO k dO (fun t=>((l.getD t 0:Nat):Int)),zBb oS (k+1) dS (fun t=>((pkS k P t:Nat):Int)),row 3 1 (.slice oI (pkS k P k) dI) (pkS k P k) (zA2 (cat (zAb k P) k)),zBZ oV (pkS k P k) dV (pkV b k P)]:=((inferInstance:Bag w w3 [box w.heap.size 27 [.slice none 0 0,.slice none 0 0,.slice none 0 0,.slice none 0 0]])).join hB4;have c1:=(B4.at 1 rfl:Ils w4 oO k dO (fun t=>((l.getD t 0:Nat):Int)));have c2:=(B4.at 2 rfl:Ils w4 oS (k+1) dS (fun t=>((pkS k P t:Nat):Int)));have c3:=zBq (B4.own 3 rfl);have c4:=(B4.at 4 rfl:Fls w4 oV (pkS k P k) dV (pkV b k P));have d1:=c1.fits;have d2:=c1.lim;have d3:=c2.fits;have d4:=c2.lim;have d5:=c3.1;have d6:=c3.2.1;have d7:=c4.fits;have d8:=c4.lim;clear hB4 HLX c1 c2 c3 c4 hI3 hI3' hB3;have hpk:=Lib.hid (zQ9 k P k);have B5:=B4.var 27 [.slice oO k dO,.slice oS (k+1) dS,.slice oI (pkS k P k) dI,.slice oV (pkS k P k) dV] (n:=w4.heap.size) rfl;haveI iF:=B5.vb 5 rfl;rw[show(cat (zAb k P) k).length=pkS k P k from rfl];generalize hq2:pkS k P k=qq at *;have HQ:=Lib.hid hq2;clear hq2 d1;have hqb:=hpk.out;have hqb2:k*(k+1)≤5*6:=Nat.mul_le_mul j0 j0;have d1:=(B5.at 1 rfl:Ils _ oO k dO (fun t=>((l.getD t 0:Nat):Int))).fits;go_wp2_with fail;refine(HV _).out.mono ?_;rintro o w5 ⟨wb,N,y,rfl,hB6,hy⟩;haveI b5:=hB6.fr';have B6:=B5.join hB6;obtain⟨n1,n2,_⟩:=(hB6.at 0 rfl:(zE5 wb N k y).P w5);clear B4 B5 hB6 iF HV B0;go_wp2_with fail
 go_loopw [16] (fun x wr=>∃(i:Nat) (y:Nat→Nat),i≤k∧x=.int .i64 i∧FinX y∧Bag w wr [box w.heap.size 27 [.slice none 0 0,.slice none 0 0,.slice none 0 0,.slice none 0 0],zBb oO k dO (fun t=>((l.getD t 0:Nat):Int)),zBb oS (k+1) dS (fun t=>((pkS k P t:Nat):Int)),row 3 1 (.slice oI qq dI) qq (zA2 (cat (zAb k P) k)),zBZ oV qq dV (pkV b k P),box w4.heap.size 27 [.slice oO k dO,.slice oS (k+1) dS,.slice oI qq dI,.slice oV qq dV],zE5 wb N k y]) (fun x _=>k-(intOf x).toNat)
 case atStart=>exact⟨0,y,j0,rfl,hy,B6⟩
 case round=>
  clear B6 b0 b2 b3 b4 b5 hy hM';obtain⟨i,y,hi,rfl,hy,iB⟩:=hrel;haveI bw:=iB.fr';have HY:=Lib.hid hy;clear hy
  by_cases hlt:i<k∧i<zn
  · obtain⟨h1,h2⟩:=hlt;have hZZ:=(inferInstance:BZ wr za zn zc zf).out;have y1:=hZZ.idx i h2;haveI z3:CE wr (ab za) (ao za+i) (.bool (zf i)):=⟨hZZ.cell i h2,hZZ.old j0⟩
    cases hz:zf i with
    | false=>
     rw[hz]at z3;clear hZZ;go_wp2_with fail;go_roundw
     case rel=>exact⟨i+1,y,j0,jm,HY.out,iB⟩
     case measure=>exact jb
    | true=>
     rw[hz]at z3;have y2:=fun W=>zCz 25 wb i k N h1 W;haveI z4:=iB.wx 6 rfl h1;have B8:=iB.sx 6 rfl i 9223372036854775808;have HY2:=Lib.hid (HY.out.up (k:=i) (y:=9223372036854775808) ⟨j0,ja⟩);generalize y i=yi at *;clear hZZ iB;go_wp2_with fail;go_roundw
     case rel=>exact⟨i+1,_,j0,jm,HY2.out,B8⟩
     case measure=>exact jb
  · have hor:¬i<k∨(i<k∧¬i<zn):=j0;haveI iR:=iB.vb 0 rfl;haveI iF:=iB.vb 5 rfl;have BZ:=iB.put4 (k:=0) rfl (.slice oO k dO) (.slice oS (k+1) dS) (.slice oI qq dI) (.slice oV qq dV);clear hlt iB;rcases hor with h | ⟨h,h'⟩
    all_goals(
     go_wp2_with fail;refine bodyPost_ret (v:=.tuple #[.agg #[.slice oO k dO,.slice oS (k+1) dS,.slice oI qq dI,.slice oV qq dV],.slice (some ⟨wb,0,none⟩) k N]) (by simp only[results,Tryz.results10];go_simp) rfl ?_;obtain rfl:=HQ.out;exact⟨k,b,P,l,y,oO,oS,oI,oV,dO,dS,dI,dV,wb,N,j0,rfl,BZ.sub ((((((((List.nil_sublist _).cons_cons _).cons _).cons_cons _).cons_cons _).cons_cons _).cons_cons _).cons _),HP.out,hl,HY.out⟩)
end Go.Proofs.YtmbkgapknoammaaGreatDoor
set_option maxRecDepth 100000
set_option maxHeartbeats 20000000
namespace Go.Proofs.YtmbkgapknoammaaGreatDoor
open Go.RowKit Sp
attribute [local irreducible] Calls
theorem zIb(w:World)[Tb w](n q:Nat)(aO aS aI aV:Option Addr)(cO cS cI cV:Nat)(O:Nat→Int)(S J V:Nat→Nat)(hn:n≤200)(hq:q≤10000)[hf:FM w n q aO cO aS cS aI cI aV cV O S (fun t=>((J t:Nat):Int)) V](aw:Option Addr)(m cw:Nat)(X:Nat→Nat)[hX:FZ w aw m cw X]:Calls Tryz.prog 30 #[.agg #[.slice aO n cO,.slice aS (n+1) cS,.slice aI q cI,.slice aV q cV],.slice aw m cw] w fun o w'=>∃oa oc,o=.returned (.tuple #[.slice oa (fl (vE n m X (ckE n S fun t=>((J t:Nat):Int))) (zC4 S J V (byO X O) n).length) oc,.int .i64 (vE n m X (ckE n S fun t=>((J t:Nat):Int)))])∧IZ w' oa (fl (vE n m X (ckE n S fun t=>((J t:Nat):Int))) (zC4 S J V (byO X O) n).length) oc (fun t=>(((zC4 S J V (byO X O) n).getD t 0:Nat):Int))∧From w w':=by
 have l1:=hf.o.fits;have l2:=hf.o.lim;have l3:=hf.s.fits;have l4:=hf.s.lim;have l5:=hf.i.fits;have l6:=hf.i.lim;have l7:=hf.v.fits;have l8:=hf.v.lim;have l9:=hX.out.fits;have l10:=hX.out.lim;have HOK:=Lib.hid hf.ok;have HC:=fun W [Tb W] [FM W n q aO cO aS cS aI cI aV cV O S (fun t=>((J t:Nat):Int)) V] [FZ W aw m cw X]=>Lib.hid (frm ((zHo W n q aO aS aI aV cO cS cI cV O (fun t=>((J t:Nat):Int)) S V hn hq aw m cw X).mono fun _ _ h=>⟨h.1,h.2.out⟩));have HBG:=fun W [FM W n q aO cO aS cS aI cI aV cV O S (fun t=>((J t:Nat):Int)) V] [FZ W aw n cw X]=>Lib.hid (zHp W n q aO aS aI aV cO cS cI cV O (fun t=>((J t:Nat):Int)) S V hn hq aw cw X);have HI:=Lib.hid (show vE n m X (ckE n S fun t=>((J t:Nat):Int))=0→(Iok n S fun t=>((J t:Nat):Int))∧m=n from fun h=>⟨zRC (zG1 h).1,(zG1 h).2.1⟩);generalize vE n m X (ckE n S fun t=>((J t:Nat):Int))=e at *;go_enter Tryz.func30,Tryz.ntmps30;go_wp2_with fail;refine(HC _).out.mono ?_;rintro o w1 ⟨rfl,b1⟩
 by_cases he:e=0
 · subst he;obtain⟨hI,hmn⟩:=HI.out rfl;subst m;have HJ:=Lib.hid fun x (hx:x<q)=>hI.nat hf.ok hx;have B1:Bag w w1 [box w.heap.size 27 [.slice aO n cO,.slice aS (n+1) cS,.slice aI q cI,.slice aV q cV]]:=by
    haveI:=(Bag.nil w).var 27 [.slice aO n cO,.slice aS (n+1) cS,.slice aI q cI,.slice aV q cV] rfl;exact inferInstance
   clear hI HI HC;go_wp2_with fail;refine(HBG _).out.mono ?_;rintro o w2 ⟨b,rfl,hB2⟩;have B3:Bag w w2 [box w.heap.size 27 [.slice aO n cO,.slice aS (n+1) cS,.slice aI q cI,.slice aV q cV],(arr b 4 n fun i=>.bool (uIn S J V (byO X O) 0 i)),row 3 1 (.slice none 0 0) (zC4 S J V (byO X O) 0).length (zA2 (zC4 S J V (byO X O) 0))]:=(B1.join hB2).nilr 3 1;clear B1 hB2 HBG;haveI iV:=B3.vb 0 rfl;go_wp2_with fail
   go_loopw [8,9] (fun v x wr=>∃k:Nat,k≤n∧x=.int .i64 k∧Bag w wr [box w.heap.size 27 [.slice aO n cO,.slice aS (n+1) cS,.slice aI q cI,.slice aV q cV],(arr b 4 n fun i=>.bool (uIn S J V (byO X O) k i)),row 3 1 v (zC4 S J V (byO X O) k).length (zA2 (zC4 S J V (byO X O) k))]) (fun _ x _=>n-(intOf x).toNat)
   case atStart=>exact⟨0,j0,rfl,B3⟩
   case round=>
    clear B3 iV b1;rename Value=>tv;obtain⟨k,hk,rfl,iB⟩:=hrel;haveI bw:=iB.fr';haveI iV:=iB.vb 0 rfl;obtain⟨ta,tc,rfl⟩:=zA3 (iB.own 2 rfl)
    by_cases hlt:k<n
    · have hX':FM wr n q aO cO aS cS aI cI aV cV O S (fun t=>((J t:Nat):Int)) V:=inferInstance;haveI z4:=hX'.ceS (t:=k) j0;haveI z5:=hX'.ceS (t:=k+1) j0;have y4:=hX'.ixS k j0;have y5:=hX'.ix1 k hlt;have y3:=fun W=>zCz 23 b k n n hlt W;have hle:=(HOK.out.lt (t:=k+1) j0).2;have hm:=HOK.out.m k hlt;obtain⟨s1,hs1⟩:∃s1,s1=S (k+1):=⟨_,rfl⟩;obtain⟨s0,hs0⟩:∃s0,s0=S k:=⟨_,rfl⟩;have HS1:=Lib.hid hs1
      cases hu:uIn S J V (byO X O) k k with
      | false=>
       haveI z3:WE wr b k (.bool false):=(by have:=iB.we 1 rfl hlt;rwa[hu]at this);have B6:Bag w wr [box w.heap.size 27 [.slice aO n cO,.slice aS (n+1) cS,.slice aI q cI,.slice aV q cV],(arr b 4 n fun i=>.bool (uIn S J V (byO X O) (k+1) i)),row 3 1 (.slice ta (zC4 S J V (byO X O) k).length tc) (zC4 S J V (byO X O) (k+1)).length (zA2 (zC4 S J V (byO X O) (k+1)))]:=by
        rw[zMn hu];exact iB.to 1 rfl (fun h=>h.congr fun i hi=>by rw[zLv hu]) fun _ h=>h
       rw[←hs1]at z5 hle hm;rw[←hs0]at z4 hm;clear hX' iB hu hs0 hs1 HS1;go_wp2_with fail
       go_loopw [10] (fun x wp=>x=.int .i64 s0∧Below wr.heap.size wr wp) (fun _ _=>0)
       case atStart=>exact⟨rfl,Below.refl _ _⟩
       case round=>
        rename World=>wp;obtain⟨rfl,hbp⟩:=hrel;haveI bp:From wr wp:=⟨hbp⟩;have B7:=(inferInstance:Bag w wp _);clear hbp;go_wp2_with fail;go_roundw
        case rel=>exact⟨k+1,j0,jm,B7⟩
        case measure=>exact jb
      | true=>
       haveI z3:WE wr b k (.bool true):=(by have:=iB.we 1 rfl hlt;rwa[hu]at this);have HU:=Lib.hid (show∀i,uIn S J V (byO X O) (k+1) i=(uIn S J V (byO X O) k i||lkB J V i s0 (s1-s0))from fun i=>by rw[zLw hu,hs0,hs1]);have B6:Bag w wr [box w.heap.size 27 [.slice aO n cO,.slice aS (n+1) cS,.slice aI q cI,.slice aV q cV],(arr b 4 n fun i=>.bool (uIn S J V (byO X O) k i||lkB J V i s0 (s0-s0))),row 3 1 (.slice ta (zC4 S J V (byO X O) k).length tc) (zC4 S J V (byO X O) k).length (zA2 (zC4 S J V (byO X O) k))]:=iB.to 1 rfl (fun h=>h.congr fun i hi=>by rw[Nat.sub_self,zJF,Bool.or_false]) fun _ h=>h;have HIN:=Lib.hid hu;rw[←hs1]at z5 hle hm;rw[←hs0]at z4 hm;clear hX' iB hs0 hs1 hu;go_wp2_with fail
       go_loopw [10] (fun x wp=>∃t:Nat,s0≤t∧t≤s1∧x=.int .i64 t∧Bag w wp [box w.heap.size 27 [.slice aO n cO,.slice aS (n+1) cS,.slice aI q cI,.slice aV q cV],(arr b 4 n fun i=>.bool (uIn S J V (byO X O) k i||lkB J V i s0 (t-s0))),row 3 1 (.slice ta (zC4 S J V (byO X O) k).length tc) (zC4 S J V (byO X O) k).length (zA2 (zC4 S J V (byO X O) k))]) (fun x _=>s1-(intOf x).toNat)
       case atStart=>exact⟨s0,Nat.le_refl _,j0,rfl,B6⟩
       case round=>
        clear B6 z3 z4 z5 iV bw;rename World=>wp;obtain⟨t,ht0,ht1,rfl,iB⟩:=hrel;haveI bw:=iB.fr';haveI iV:=iB.vb 0 rfl;have hX':FM wp n q aO cO aS cS aI cI aV cV O S (fun t=>((J t:Nat):Int)) V:=inferInstance;haveI z5:=hX'.ceS (t:=k+1) j0;rw[←HS1.out]at z5;haveI z3:WE wp b k (.bool true):=by have:=iB.we 1 rfl hlt;rwa[HIN.out]at this
        by_cases hts:t<s1
        · have y6:=hX'.ixI t j0;haveI z6:=hX'.ceI (t:=t) j0;have hj:J t<n:=(by have:=(HJ.out t j0).2;omega);have y7:=fun W=>zCz 23 b (J t) n n hj W;haveI z7:=iB.we 1 rfl hj;have B7:=iB.st 1 rfl (J t) (.bool true);have HB:Hid (Bag w _ [box w.heap.size 27 [.slice aO n cO,.slice aS (n+1) cS,.slice aI q cI,.slice aV q cV],(arr b 4 n fun i=>.bool (uIn S J V (byO X O) k i||lkB J V i s0 (t+1-s0))),row 3 1 (.slice ta (zC4 S J V (byO X O) k).length tc) (zC4 S J V (byO X O) k).length (zA2 (zC4 S J V (byO X O) k))]):=Lib.hid (B7.to 1 rfl (fun h=>h.congr fun i _=>by
           show(if i=J t then Value.bool true else .bool (uIn S J V (byO X O) k i||lkB J V i s0 (t-s0)))=.bool (uIn S J V (byO X O) k i||lkB J V i s0 (t+1-s0));rw[show t+1-s0=t-s0+1 by omega,zJG,show s0+(t-s0)=t by omega]
           by_cases e:i=J t
           · exact Xj
           · rw[if_neg e,decide_eq_false e,Bool.or_false]) fun _ h=>h)
          clear B7 hX' iB;generalize J t=jt at *;generalize (uIn S J V (byO X O) k jt||lkB J V jt s0 (t-s0))=vv at *;go_wp2_with fail;go_roundw
          case rel=>exact⟨t+1,j0,j0,jm,HB.out⟩
          case measure=>exact jb
        · have hts':t=s1:=j0;have hu:=HIN.out;have B7:Bag w wp [box w.heap.size 27 [.slice aO n cO,.slice aS (n+1) cS,.slice aI q cI,.slice aV q cV],(arr b 4 n fun i=>.bool (uIn S J V (byO X O) (k+1) i)),row 3 1 (.slice ta (zC4 S J V (byO X O) k).length tc) (zC4 S J V (byO X O) k).length (zA2 (zC4 S J V (byO X O) k))]:=iB.to 1 rfl (fun h=>h.congr fun i hi=>by rw[HU.out,hts']) fun _ h=>h;have B8:Bag w (wp.alloc (.cells #[.int .i64 k] 3)) _:=@Bag.al _ _ _ (.cells #[.int .i64 k] 3) B7;have HL:=Lib.hid (show(zC4 S J V (byO X O) (k+1)).length=(zC4 S J V (byO X O) k).length+1 by rw[zGk hu,List.length_append];rfl);have HL2:=Lib.hid (show zA2 (zC4 S J V (byO X O) (k+1))=zA2 (zC4 S J V (byO X O) k)++ [.int .i64 (k:Int)]by rw[zGk hu,zAn];rfl);have hlen:=zJm S J V (byO X O) k;clear hX' iB hu;go_wp2_with (at_builtin;refine zCF rfl _ _ rfl 0 (.slice ta (zC4 S J V (byO X O) k).length tc) (zC4 S J V (byO X O) k).length (zA2 (zC4 S J V (byO X O) k)) rfl _ (k:Int) rfl (B8.own 2 rfl) jj j0 (Nat.zero_le _) ?_;intro v5 w5 hown5 hg5 hob5;have B9:=B8.app 2 rfl hown5 hg5 hob5);rw[←HL.out,←HL2.out]at B9;clear hown5 hg5 hob5;go_roundw
          case rel=>exact⟨k+1,j0,jm,B9⟩
          case measure=>exact jb
    · have hkn:k=n:=j0;subst k;obtain⟨oa,oc,hv,hZ⟩:=zMs (iB.own 2 rfl);injection hv with e1 _ e3
      subst e1 e3;clear iB;go_wp2_with fail
      go_ret2
      exact⟨ta,tc,rfl,hZ,bw⟩
 · have hfl2:fl e (zC4 S J V (byO X O) n).length=0:=if_neg he;go_wp2_with fail
   go_ret2
   exact⟨none,0,by rw[hfl2] <;> rfl,Qq,⟨zbh⟩⟩
end Go.Proofs.YtmbkgapknoammaaGreatDoor
set_option maxRecDepth 100000
set_option maxHeartbeats 20000000
namespace Go.Proofs.YtmbkgapknoammaaGreatDoor
open Go.RowKit Sp
attribute [local irreducible] Calls
theorem zI4(w:World)[Tb w](n q:Nat)(aO aS aI aV:Option Addr)(cO cS cI cV:Nat)(O:Nat→Int)(S J V:Nat→Nat)(hn:n≤200)(hq:q≤10000)[hf:FM w n q aO cO aS cS aI cI aV cV O S (fun t=>((J t:Nat):Int)) V](aw:Option Addr)(m cw:Nat)(X:Nat→Nat)[hX:FZ w aw m cw X]:Calls Tryz.prog 11 #[.agg #[.slice aO n cO,.slice aS (n+1) cS,.slice aI q cI,.slice aV q cV],.slice aw m cw] w fun o w'=>
  (zI1 n m S J V X O false≠0∧o=.returned (.tuple #[.agg #[.slice none 0 0,.slice none 0 0,.slice none 0 0,.slice none 0 0],.int .i64 (zI1 n m S J V X O false)])∧From w w') ∨
  (zI1 n m S J V X O false=0∧∃(oO oS oI oV:Option Addr) (dO dS dI dV:Nat),o=.returned (.tuple #[.agg #[.slice oO n dO,.slice oS (n+1) dS,.slice oI (zB7 n S J V (byO X O) n).length dI,.slice oV (zB7 n S J V (byO X O) n).length dV],.int .i64 0])∧Bag w w' [zBb oO n dO O,zBb oS (n+1) dS (fun t=>(((zB7 n S J V (byO X O) t).length:Nat):Int)),zBb oI (zB7 n S J V (byO X O) n).length dI (fun t=>(((zB7 n S J V (byO X O) n).getD t 0:Nat):Int)),zBZ oV (zB7 n S J V (byO X O) n).length dV (fun t=>(zJp n S J V false (byO X O) n).getD t 0)]):=by
 have l1:=hf.o.fits;have l2:=hf.o.lim;have l3:=hf.s.fits;have l4:=hf.s.lim;have l5:=hf.i.fits;have l6:=hf.i.lim;have l7:=hf.v.fits;have l8:=hf.v.lim;have HR:=fun W [Tb W] [FM W n q aO cO aS cS aI cI aV cV O S (fun t=>((J t:Nat):Int)) V] [FZ W aw m cw X]=>Lib.hid (zIW W n q aO aS aI aV cO cS cI cV O S J V hn hq aw m cw X false);generalize zI1 n m S J V X O false=R at *;have B0:Bag w ((w.alloc (.cells #[.slice aO n cO,.slice aS (n+1) cS,.slice aI q cI,.slice aV q cV] 27)).alloc (.cells #[.slice none 0 0,.slice none 0 0,.slice none 0 0,.slice none 0 0] 27)) [box w.heap.size 27 [.slice aO n cO,.slice aS (n+1) cS,.slice aI q cI,.slice aV q cV],box (w.heap.size+1) 27 [.slice none 0 0,.slice none 0 0,.slice none 0 0,.slice none 0 0]]:=((Bag.nil w).var 27 [.slice aO n cO,.slice aS (n+1) cS,.slice aI q cI,.slice aV q cV] rfl).var 27 [.slice none 0 0,.slice none 0 0,.slice none 0 0,.slice none 0 0] (n:=w.heap.size+1) jz;have HB0:=Lib.hid B0;haveI iRB:=B0.vb 1 rfl;clear B0;go_enter Tryz.func11,Tryz.ntmps11;go_wp2_with fail;refine(HR _).out.mono ?_;rintro o w1 (⟨hz,rfl,b1⟩ | ⟨hz,oO,oS,oI,oV,dO,dS,dI,dV,rfl,hB⟩)
 · haveI b1':=b1;have BF:=Lib.hid ((HB0.out.on b1.out).put4 (k:=1) rfl (.slice none 0 0) (.slice none 0 0) (.slice none 0 0) (.slice none 0 0)).fr';clear HR;go_wp2_with fail;refine bodyPost_ret (v:=.tuple #[.agg #[.slice none 0 0,.slice none 0 0,.slice none 0 0,.slice none 0 0],.int .i64 R]) (by simp only[results,Tryz.results11];go_simp) rfl ?_;exact Or.inl ⟨hz,rfl,BF.out⟩
 · haveI b1':=hB.fr';have BF:=Lib.hid (((HB0.out.join hB).put4 (k:=1) rfl (.slice oO n dO) (.slice oS (n+1) dS) (.slice oI (zB7 n S J V (byO X O) n).length dI) (.slice oV (zB7 n S J V (byO X O) n).length dV)).sub ((List.sublist_cons_self _ _).trans (List.sublist_cons_self _ _)));clear HR hB;go_wp2_with fail;refine bodyPost_ret (v:=.tuple #[.agg #[.slice oO n dO,.slice oS (n+1) dS,.slice oI (zB7 n S J V (byO X O) n).length dI,.slice oV (zB7 n S J V (byO X O) n).length dV],.int .i64 0]) (by simp only[results,Tryz.results11];go_simp) rfl ?_;exact Or.inr ⟨hz,oO,oS,oI,oV,dO,dS,dI,dV,rfl,BF.out⟩
theorem zG3(w:World)[Tb w](n q:Nat)(aO aS aI aV:Option Addr)(cO cS cI cV:Nat)(O:Nat→Int)(S J V:Nat→Nat)(hn:n≤200)(hq:q≤10000)[hf:FM w n q aO cO aS cS aI cI aV cV O S (fun t=>((J t:Nat):Int)) V](aw:Option Addr)(m cw:Nat)(X:Nat→Nat)[hX:FZ w aw m cw X]:Calls Tryz.prog 17 #[.agg #[.slice aO n cO,.slice aS (n+1) cS,.slice aI q cI,.slice aV q cV],.slice aw m cw] w fun o w'=>
  (zI1 n m S J V X O true≠0∧o=.returned (.tuple #[.agg #[.slice none 0 0,.slice none 0 0,.slice none 0 0,.slice none 0 0],.int .i64 (zI1 n m S J V X O true)])∧From w w') ∨
  (zI1 n m S J V X O true=0∧∃(oO oS oI oV:Option Addr) (dO dS dI dV:Nat),o=.returned (.tuple #[.agg #[.slice oO n dO,.slice oS (n+1) dS,.slice oI (zB7 n S J V (byO X O) n).length dI,.slice oV (zB7 n S J V (byO X O) n).length dV],.int .i64 0])∧Bag w w' [zBb oO n dO O,zBb oS (n+1) dS (fun t=>(((zB7 n S J V (byO X O) t).length:Nat):Int)),zBb oI (zB7 n S J V (byO X O) n).length dI (fun t=>(((zB7 n S J V (byO X O) n).getD t 0:Nat):Int)),zBZ oV (zB7 n S J V (byO X O) n).length dV (fun t=>(zJp n S J V true (byO X O) n).getD t 0)]):=by
 have l1:=hf.o.fits;have l2:=hf.o.lim;have l3:=hf.s.fits;have l4:=hf.s.lim;have l5:=hf.i.fits;have l6:=hf.i.lim;have l7:=hf.v.fits;have l8:=hf.v.lim;have HR:=fun W [Tb W] [FM W n q aO cO aS cS aI cI aV cV O S (fun t=>((J t:Nat):Int)) V] [FZ W aw m cw X]=>Lib.hid (zIW W n q aO aS aI aV cO cS cI cV O S J V hn hq aw m cw X true);generalize zI1 n m S J V X O true=R at *;have B0:Bag w ((w.alloc (.cells #[.slice aO n cO,.slice aS (n+1) cS,.slice aI q cI,.slice aV q cV] 27)).alloc (.cells #[.slice none 0 0,.slice none 0 0,.slice none 0 0,.slice none 0 0] 27)) [box w.heap.size 27 [.slice aO n cO,.slice aS (n+1) cS,.slice aI q cI,.slice aV q cV],box (w.heap.size+1) 27 [.slice none 0 0,.slice none 0 0,.slice none 0 0,.slice none 0 0]]:=((Bag.nil w).var 27 [.slice aO n cO,.slice aS (n+1) cS,.slice aI q cI,.slice aV q cV] rfl).var 27 [.slice none 0 0,.slice none 0 0,.slice none 0 0,.slice none 0 0] (n:=w.heap.size+1) jz;have HB0:=Lib.hid B0;haveI iRB:=B0.vb 1 rfl;clear B0;go_enter Tryz.func17,Tryz.ntmps17;go_wp2_with fail;refine(HR _).out.mono ?_;rintro o w1 (⟨hz,rfl,b1⟩ | ⟨hz,oO,oS,oI,oV,dO,dS,dI,dV,rfl,hB⟩)
 · haveI b1':=b1;have BF:=Lib.hid ((HB0.out.on b1.out).put4 (k:=1) rfl (.slice none 0 0) (.slice none 0 0) (.slice none 0 0) (.slice none 0 0)).fr';clear HR;go_wp2_with fail;refine bodyPost_ret (v:=.tuple #[.agg #[.slice none 0 0,.slice none 0 0,.slice none 0 0,.slice none 0 0],.int .i64 R]) (by simp only[results,Tryz.results17];go_simp) rfl ?_;exact Or.inl ⟨hz,rfl,BF.out⟩
 · haveI b1':=hB.fr';have BF:=Lib.hid (((HB0.out.join hB).put4 (k:=1) rfl (.slice oO n dO) (.slice oS (n+1) dS) (.slice oI (zB7 n S J V (byO X O) n).length dI) (.slice oV (zB7 n S J V (byO X O) n).length dV)).sub ((List.sublist_cons_self _ _).trans (List.sublist_cons_self _ _)));clear HR hB;go_wp2_with fail;refine bodyPost_ret (v:=.tuple #[.agg #[.slice oO n dO,.slice oS (n+1) dS,.slice oI (zB7 n S J V (byO X O) n).length dI,.slice oV (zB7 n S J V (byO X O) n).length dV],.int .i64 0]) (by simp only[results,Tryz.results17];go_simp) rfl ?_;exact Or.inr ⟨hz,oO,oS,oI,oV,dO,dS,dI,dV,rfl,BF.out⟩
end Go.Proofs.YtmbkgapknoammaaGreatDoor
namespace Go.Proofs.YtmbkgapknoammaaGreatDoor
open Go.RowKit Sp
theorem zTF:uD false 4613937818241073152 4616189618054758400=some (25,0):=jY
theorem zTG:uG false 4613937818241073152 4616189618054758400=4617315517961601024:=by
 have e:(25:Int).natAbs*2^rsh 25 0 56=720575940379279360*720575940379279360:=jY
 unfold uG;rw[zTF];unfold zBc;show(if(25:Int)<0 then zK1 else if(25:Int)=0 then 0 else _)=_;rw[if_neg ja,if_neg ja,e,zSB];decide +kernel
theorem zTP:zA1 (uD true 4613937818241073152 4616189618054758400)≤0:=jY
theorem zTO:¬zA1 (uD false 4613937818241073152 4616189618054758400)≤0:=by rw[zTF];decide
theorem zTE:vE 1 1 (fun _=>4616189618054758400) (ckE 1 (fun t=>t) fun t=>(((fun _=>0:Nat→Nat) t:Nat):Int))=0:=by
 have h:Iok 1 (fun t=>t) fun t=>(((fun _=>0:Nat→Nat) t:Nat):Int):=fun j hj=>by
  obtain rfl:j=0:=j0
  exact⟨rfl,fun x h1 h2=>⟨show((0:Nat):Int)<((1:Nat):Int)by decide,fun h=>by
   have h2':x<1:=h2;have h':0<x:=h;omega⟩⟩
 rw[zKc h];decide +kernel
theorem zRI:uIn (fun t=>t) (fun _=>0) (fun _=>4613937818241073152) (byO (fun _=>4616189618054758400) fun _=>0) 0 0=true:=jY
theorem zST:atv (fun t=>t) (fun _=>0) (fun _=>4613937818241073152) 0 0=4613937818241073152:=jY
section
variable (minus:Bool)
theorem zTI:zS3 1 (fun t=>t) (fun _=>0) (fun _=>4613937818241073152) minus (byO (fun _=>4616189618054758400) fun _=>0) =
 if zA1 (uD minus 4613937818241073152 4616189618054758400)≤0∨zB0 (uG minus 4613937818241073152 4616189618054758400)=true then 290 else if zAA (uG minus 4613937818241073152 4616189618054758400)then 0 else 233:=by
 have one:∀(f:Nat→Int) (a:Nat),zAR f a 1=f a:=fun f a=>by
  show(if f a=0 then 0 else f a)=f a
  split
  · rename_i h;exact h.symm
  · exact jA
 unfold zS3;rw[one];unfold uE;rw[if_pos zRI,one];unfold uC uV;rw[if_pos rfl,if_pos rfl,zST];rfl
end
theorem zTs:zI1 1 1 (fun t=>t) (fun _=>0) (fun _=>4613937818241073152) (fun _=>4616189618054758400) (fun _=>0) false=0:=by
 unfold zI1;rw[if_pos zTE,zTI,zTG,if_neg (not_or.2 ⟨zTO,jY⟩),if_pos jY]
theorem zO3:zI1 1 1 (fun t=>t) (fun _=>0) (fun _=>4613937818241073152) (fun _=>4616189618054758400) (fun _=>0) true=290:=by
 unfold zI1;rw[if_pos zTE,zTI,if_pos (Or.inl zTP)]
theorem zQs:zT1 (fun t=>t) (fun _=>0) (fun _=>4613937818241073152) (byO (fun _=>4616189618054758400) fun _=>0) 0 1= [0]:=jY
theorem zTH:zB7 1 (fun t=>t) (fun _=>0) (fun _=>4613937818241073152) (byO (fun _=>4616189618054758400) fun _=>0) 1= [0]:=by
 show []++zI3 1 _ _ _ _ 0= [0];unfold zI3;rw[if_pos zRI,zQs];rfl
theorem zTQ:zJp 1 (fun t=>t) (fun _=>0) (fun _=>4613937818241073152) false (byO (fun _=>4616189618054758400) fun _=>0) 1= [4617315517961601024]:=by
 show []++zNN 1 _ _ _ _ _ 0= [4617315517961601024];unfold zNN;rw[if_pos zRI,zQs];show [uV _ _ _ _ _ 0 0]=_;unfold uV;rw[if_pos rfl,zST];show [uG false 4613937818241073152 4616189618054758400]=_;rw[zTG]
end Go.Proofs.YtmbkgapknoammaaGreatDoor

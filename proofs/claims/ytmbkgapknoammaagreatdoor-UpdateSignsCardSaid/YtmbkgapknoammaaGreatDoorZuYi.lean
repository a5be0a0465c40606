/-
  Walks: sparseref16.Neighbours, Eliminate.
-/
import Derived.Test.YtmbkgapknoammaaGreatDoorZuYg
import Derived.Test.YtmbkgapknoammaaGreatDoorZuEc
import Derived.Test.YtmbkgapknoammaaGreatDoorZuPo
import Derived.Test.YtmbkgapknoammaaGreatDoorZuBag
set_option maxRecDepth 100000
set_option maxHeartbeats 20000000
namespace Go.Proofs.YtmbkgapknoammaaGreatDoor
open Go.RowKit Sp
def nbG(T:Nat→Nat→Bool)(gone:Nat→Bool):Nat→Nat→Bool:=fun v w=>T v w&&!gone w
def eT(l:List Nat)(T:Nat→Nat→Bool)(i j r c:Nat):Bool:=T r c||decide (∃a,a<l.length∧∃b,b<l.length∧(a<i∨(a=i∧b<j))∧a≠b∧l.getD a 0=r∧l.getD b 0=c)
theorem zRm(l:List Nat)(T:Nat→Nat→Bool)(r c:Nat):eT l T 0 0 r c=T r c:=by
 unfold eT;rw[decide_eq_false (by rintro⟨a,_,b,_,h,_⟩;omega),Bool.or_false]
theorem zSL(l:List Nat)(T:Nat→Nat→Bool){i j i' j':Nat}(h:∀a b,a<l.length→b<l.length→a≠b→((a<i∨(a=i∧b<j))↔(a<i'∨(a=i'∧b<j'))))(r c:Nat):eT l T i j r c=eT l T i' j' r c:=by
 unfold eT;congr 1;refine decide_eq_decide.2 ⟨?_,?_⟩
 · rintro⟨a,h1,b,h2,h3,h4,h5⟩;exact⟨a,h1,b,h2,(h a b h1 h2 h4).1 h3,h4,h5⟩
 · rintro⟨a,h1,b,h2,h3,h4,h5⟩;exact⟨a,h1,b,h2,(h a b h1 h2 h4).2 h3,h4,h5⟩
theorem zRo(l:List Nat)(T:Nat→Nat→Bool)(i r c:Nat):eT l T i (i+1) r c=eT l T i i r c:=zSL l T (fun a b _ _ h=>j0) r c
theorem zSK(l:List Nat)(T:Nat→Nat→Bool)(i r c:Nat):eT l T i l.length r c=eT l T (i+1) 0 r c:=zSL l T (fun a b _ _ h=>j0) r c
theorem zRn{l:List Nat}{T:Nat→Nat→Bool}{i j:Nat}(hi:i<l.length)(hj:j<l.length)(h:i≠j)(r c:Nat):eT l T i (j+1) r c=if r=l.getD i 0∧c=l.getD j 0 then true else eT l T i j r c:=by
 unfold eT
 by_cases e:r=l.getD i 0∧c=l.getD j 0
 · rw[if_pos e,decide_eq_true ⟨i,hi,j,hj,j0,h,e.1.symm,e.2.symm⟩,Bool.or_true]
 · rw[if_neg e];congr 1;refine decide_eq_decide.2 ⟨?_,?_⟩
   · rintro⟨a,h1,b,h2,h3,h4,h5,h6⟩
     by_cases q:a=i∧b=j
     · rw[q.1]at h5;rw[q.2]at h6;exact absurd ⟨h5.symm,h6.symm⟩ e
     · exact⟨a,h1,b,h2,j0,h4,h5,h6⟩
   · rintro⟨a,h1,b,h2,h3,h4⟩;exact⟨a,h1,b,h2,j0,h4⟩
theorem zSr{G:Nat→Nat→Bool}{v m a b:Nat}(ha:a<(nb G v m).length)(hb:b<(nb G v m).length)(h:(nb G v m).getD a 0=(nb G v m).getD b 0):a=b:=by
 rw[List.getD_eq_getElem?_getD,List.getElem?_eq_getElem ha,List.getD_eq_getElem?_getD,List.getElem?_eq_getElem hb]at h;have h:(nb G v m)[a]=(nb G v m)[b]:=h;have hs:=List.pairwise_iff_getElem.1 (zMF G v m);rcases Nat.lt_trichotomy a b with c | c | c
 · have:=hs a b ha hb c;omega
 · exact c
 · have:=hs b a hb ha c;omega
theorem zSM{n v:Nat}(T:Nat→Nat→Bool)(gone:Nat→Bool){r c:Nat}(hr:r<n)(hc:c<n):eT (nb (nbG T gone) v n) T (nb (nbG T gone) v n).length 0 r c=elT n T gone v r c:=by
 unfold eT elT;congr 1;rw[Bool.eq_iff_iff,decide_eq_true_iff,Bool.and_eq_true,decide_eq_true_iff,Bool.and_eq_true];constructor
 · rintro⟨a,h2,b,h3,_,h4,h5,h6⟩;have p:=zHv h2;have q:=zHv h3;rw[h5]at p;rw[h6]at q;exact⟨⟨hr,hc,fun e=>h4 (zSr h2 h3 (by rw[h5,h6];exact e))⟩,p.2,q.2⟩
 · rintro⟨⟨_,_,h⟩,p,q⟩;obtain⟨a,h2,h5⟩:=zJt (G:=nbG T gone) (v:=v) hr p;obtain⟨b,h3,h6⟩:=zJt (G:=nbG T gone) (v:=v) hc q;exact⟨a,h2,b,h3,Or.inl h2,fun e=>h (by rw[←h5,←h6,e]),h5,h6⟩
attribute [local irreducible] Calls
theorem zJe(w:World)(eb gb:Nat)(ta:Option Addr)(n tc:Nat)(hn:n≤64)(g:Nat→Nat)(T:Nat→Nat→Bool)(gone:Nat→Bool)[hV:VB w eb [.slice ta n tc,.slice (some ⟨gb,0,none⟩) n n]][hT:TBX w ta n tc n g T][hG:RB w gb n gone](v:Nat)(hv:v<n):Calls Tryz.prog 107 #[.pointer (some ⟨eb,0,none⟩),.int .i64 v] w fun o w'=>∃u,o=.returned u∧Bag w w' [row 3 1 u (nb (nbG T gone) v n).length (zA2 (nb (nbG T gone) v n))]:=by
 have l1:=hT.fits;have l2:=hT.lim;go_enter Tryz.func107,Tryz.ntmps107;go_wp2_with fail;have B0:=(Bag.nil w).nilr 3 1
 go_loopw [5,6] (fun u x wq=>∃k:Nat,k≤n∧x=.int .i64 k∧Bag w wq [row 3 1 u (nb (nbG T gone) v k).length (zA2 (nb (nbG T gone) v k))]) (fun _ x _=>n-(intOf x).toNat)
 case atStart=>exact⟨0,j0,rfl,B0⟩
 case round=>
  clear B0;rename Value=>lv;rename World=>wq;obtain⟨k,hk,rfl,iB⟩:=hrel;haveI bw:=iB.fr'
  by_cases hlk:k<n
  · have hX:=(inferInstance:TBX wq ta n tc n g T);haveI z0:=hX.ce hv;haveI z1:=hX.at hv hlk;have y0:=hX.idx v hv;have y2:=fun W=>zCz 23 (g v) k n n hlk W;have y3:=fun W=>zCz 23 gb k n n hlk W;haveI z2:=(inferInstance:RB wq gb n gone).ce hlk;obtain⟨p,hp⟩:∃p,p=T v k:=⟨_,rfl⟩;obtain⟨q,hq⟩:∃q,q=gone k:=⟨_,rfl⟩;rw[←hp]at z1;rw[←hq]at z2;have hg:(nbG T gone) v k=(p&&!q):=(by rw[hp,hq];rfl);generalize g v=gv at *
    cases hpq:(p&&!q)with
    | false=>
     have HN:=Lib.hid (show nb (nbG T gone) v (k+1)=nb (nbG T gone) v k from zP2 (by rw[hg,hpq]));have hpq2:p=false∨(p=true∧q=true):=(by revert hpq;cases p <;> cases q <;> simp);clear hX hp hq hg hpq;rcases hpq2 with rfl | ⟨rfl,rfl⟩
     all_goals(
      go_wp2_with fail;go_roundw
      case rel=>exact⟨k+1,j0,jm,by rw[HN.out];exact iB⟩
      case measure=>simp[intOf];omega)
    | true=>
     have HN:=Lib.hid (show nb (nbG T gone) v (k+1)=nb (nbG T gone) v k++ [k]from zJs (by rw[hg,hpq]));have hlen:=zF4 (nbG T gone) v k;rw[Bool.and_eq_true,Bool.not_eq_true']at hpq;obtain⟨rfl,rfl⟩:=hpq;haveI B2:=@Bag.al _ _ _ (.cells #[.int .i64 k] 3) iB;clear hX hp hq hg iB;go_wp2_with (at_builtin;refine zBm 24 3 (.int .i64 0) 8 rfl _ _ rfl w 0 rfl rfl _ (.int .i64 (k:Int)) rfl rfl jj j0 j0 ?_;intro v5 w5 B5);have e1:(nb (nbG T gone) v (k+1)).length=(nb (nbG T gone) v k).length+1:=(by rw[HN.out,List.length_append];rfl);have e2:zA2 (nb (nbG T gone) v (k+1))=zA2 (nb (nbG T gone) v k)++ [.int .i64 (k:Int)]:=(by rw[HN.out,zAn];rfl);rw[←e1,←e2]at B5;go_roundw
     case rel=>exact⟨k+1,j0,jm,B5⟩
     case measure=>exact jb
  · have hkn:k=n:=j0;rw[hkn]at iB;go_wp2_with fail;go_ret;exact⟨_,rfl,iB⟩
theorem zIf(wz w:World)(eb gb:Nat)(ta:Option Addr)(n tc:Nat)(hn:n≤64)(g:Nat→Nat)(T:Nat→Nat→Bool)(gone:Nat→Bool)(D:List It)(v:Nat)(hv:v<n)(hB:Bag wz w (box eb 171 [.slice ta n tc,.slice (some ⟨gb,0,none⟩) n n]::row 23 1 (.slice ta n tc) n (tbl g n n)::(fam n fun r=>arr (g r) 4 n fun y=>.bool (T r y))::arr gb 4 n (fun i=>.bool (gone i))::D)):Calls Tryz.prog 108 #[.pointer (some ⟨eb,0,none⟩),.int .i64 v] w fun o w'=>(∃u,o=.returned u)∧Bag wz w' (box eb 171 [.slice ta n tc,.slice (some ⟨gb,0,none⟩) n n]::row 23 1 (.slice ta n tc) n (tbl g n n)::(fam n fun r=>arr (g r) 4 n fun y=>.bool (elT n T gone v r y))::arr gb 4 n (fun i=>.bool (if i=v then true else gone i))::D):=by
 haveI hV:=hB.vb 0 rfl;haveI hT:TBX w ta n tc n g T:=hB.tbxS 1 2 rfl rfl;haveI hG:RB w gb n gone:=⟨hB.at 3 rfl⟩;have l1:=hT.fits;have l2:=hT.lim;have HN:=fun W [VB W eb [.slice ta n tc,.slice (some ⟨gb,0,none⟩) n n]] [TBX W ta n tc n g T] [RB W gb n gone]=>Lib.hid (zJe W eb gb ta n tc hn g T gone v hv);have hB0:=Lib.hid hB;have HA:=Lib.hid fun(r c:Nat) (hr:r<n) (hc:c<n)=>zSM (v:=v) T gone hr hc;have hll:Hid (∀t,t<(nb (nbG T gone) v n).length→(nb (nbG T gone) v n).getD t 0<n):=Lib.hid fun t ht=>(zHv ht).1;have hlen:=zF4 (nbG T gone) v n;clear hB;generalize nb (nbG T gone) v n=l at *;go_enter Tryz.func108,Tryz.ntmps108;go_wp2_with fail;refine(HN _).out.mono ?_;rintro o w1 ⟨u,rfl,hB1⟩;haveI b1:=hB1.fr';obtain⟨la,lc,rfl,hL,hb⟩:=zMr (hB1.own 0 rfl);have lL1:=hL.fits;have lL2:=hL.lim;have B2:Bag wz w1 (zBb la l.length lc (fun t=>((l.getD t 0:Nat):Int))::box eb 171 [.slice ta n tc,.slice (some ⟨gb,0,none⟩) n n]::row 23 1 (.slice ta n tc) n (tbl g n n)::(fam n fun r=>arr (g r) 4 n fun y=>.bool (eT l T 0 0 r y))::arr gb 4 n (fun i=>.bool (gone i))::D):=(((hB0.out.join hB1).perm List.perm_append_comm).to 0 (t':=zBb la l.length lc fun t=>((l.getD t 0:Nat):Int)) rfl (fun _=>hL) fun g hg=>KF).to 3 rfl (fun h=>⟨fun i hi=>(h.1 i hi).congr fun y _=>by show Value.bool (T i y)=.bool (eT l T 0 0 i y);rw[zRm],h.2⟩) fun _ h=>h;clear hB0 hB1 HN hL hb;go_wp2_with fail
 go_loopw [5,6] (fun x _ wr=>∃i:Nat,i≤l.length∧x=.int .i64 i∧Bag wz wr (zBb la l.length lc (fun t=>((l.getD t 0:Nat):Int))::box eb 171 [.slice ta n tc,.slice (some ⟨gb,0,none⟩) n n]::row 23 1 (.slice ta n tc) n (tbl g n n)::(fam n fun r=>arr (g r) 4 n fun y=>.bool (eT l T i 0 r y))::arr gb 4 n (fun i=>.bool (gone i))::D)) (fun x _ _=>l.length-(intOf x).toNat)
 case atStart=>exact⟨0,j0,rfl,B2⟩
 case round=>
  clear B2 b1;obtain⟨i,hi,rfl,iB⟩:=hrel
  by_cases hlt:i<l.length
  · go_wp2_with fail
    go_loopw [6] (fun x wq=>∃j:Nat,j≤l.length∧x=.int .i64 j∧Bag wz wq (zBb la l.length lc (fun t=>((l.getD t 0:Nat):Int))::box eb 171 [.slice ta n tc,.slice (some ⟨gb,0,none⟩) n n]::row 23 1 (.slice ta n tc) n (tbl g n n)::(fam n fun r=>arr (g r) 4 n fun y=>.bool (eT l T i j r y))::arr gb 4 n (fun i=>.bool (gone i))::D)) (fun x _=>l.length-(intOf x).toNat)
    case atStart=>exact⟨0,j0,rfl,iB⟩
    case round=>
     clear iB;rename World=>wq;obtain⟨j,hj,rfl,iB⟩:=hrel;haveI bw:=iB.fr'
     by_cases hltj:j<l.length
     · by_cases hij:i=j
       · subst hij;have B3:Bag wz wq (zBb la l.length lc (fun t=>((l.getD t 0:Nat):Int))::box eb 171 [.slice ta n tc,.slice (some ⟨gb,0,none⟩) n n]::row 23 1 (.slice ta n tc) n (tbl g n n)::(fam n fun r=>arr (g r) 4 n fun y=>.bool (eT l T i (i+1) r y))::arr gb 4 n (fun i=>.bool (gone i))::D):=iB.to 3 rfl (fun h=>⟨fun r hr=>(h.1 r hr).congr fun y _=>by show Value.bool (eT l T i i r y)=.bool (eT l T i (i+1) r y);rw[zRo],h.2⟩) fun _ h=>h;clear iB;go_wp2_with fail;go_roundw
         case rel=>exact⟨i+1,j0,jm,B3⟩
         case measure=>exact jb
       · haveI iV:=iB.vb 1 rfl;have hX:TBX wq ta n tc n g (eT l T i j):=iB.tbxS 2 3 rfl rfl;have hLL:Ils wq la l.length lc (fun t=>((l.getD t 0:Nat):Int)):=iB.at 0 rfl;have h1:=hll.out i hlt;have h2:=hll.out j hltj;have y1:=hLL.idx i hlt;have y2:=hLL.idx j hltj;haveI z1:CE wq (ab la) (ao la+i) (.int .i64 ((l.getD i 0:Nat):Int)):=⟨hLL.cell i hlt,hLL.old j0⟩;haveI z2:CE wq (ab la) (ao la+j) (.int .i64 ((l.getD j 0:Nat):Int)):=⟨hLL.cell j hltj,hLL.old j0⟩;haveI z3:=hX.ce h1;have y3:=hX.idx _ h1;have y4:=fun W=>zCz 23 (g (l.getD i 0)) (l.getD j 0) n n h2 W;haveI z4:=iB.wf 3 rfl h1 h2;have e':((i:Int)==(j:Int))=false:=ju;have HB:Hid (Bag wz _ (zBb la l.length lc (fun t=>((l.getD t 0:Nat):Int))::box eb 171 [.slice ta n tc,.slice (some ⟨gb,0,none⟩) n n]::row 23 1 (.slice ta n tc) n (tbl g n n)::(fam n fun r=>arr (g r) 4 n fun y=>.bool (eT l T i (j+1) r y))::arr gb 4 n (fun i=>.bool (gone i))::D)):=Lib.hid ((iB.sf 3 rfl h1 (l.getD j 0) (.bool true)).to 3 rfl (fun h=>⟨fun r hr=>(h.1 r hr).congr fun y _=>by
          show(if r=l.getD i 0∧y=l.getD j 0 then Value.bool true else .bool (eT l T i j r y))=.bool (eT l T i (j+1) r y);rw[zRn hlt hltj hij];split <;> rfl,h.2⟩) fun _ h=>h)
         generalize eT l T i j (l.getD i 0) (l.getD j 0)=vv at *;clear hX hLL iB;obtain⟨r1,hr1⟩:∃r1,r1=l.getD i 0:=⟨_,rfl⟩;obtain⟨r2,hr2⟩:∃r2,r2=l.getD j 0:=⟨_,rfl⟩;rw[←hr1]at h1 z1 z3 y3 y4 z4 HB;rw[←hr2]at h2 z2 y4 z4 HB;generalize g r1=ge at *;clear hr1 hr2;go_wp2_with fail;refine bgj (fun w'=>Below wq.heap.size wq w') [15] je (zbh) (fun hHeld=>?_);simp only[List.size_toArray,List.length_cons,List.length_nil,Nat.reduceAdd,Array.replicate_succ,Array.replicate_zero,List.push_toArray,List.nil_append,List.cons_append];refine tk 0 25 [1,2,3,8,9,14,15] ?_;refine tk 1 26 [2,3,8,9,14,15] ?_;refine tk 2 27 [3,8,9,14,15] ?_;refine tk 3 28 [8,9,14,15] ?_;refine tk 4 29 [6,7,8,9,14,15] ?_;refine tk 5 30 [6,7,8,9,14,15] ?_;refine tk 6 31 [7,8,9,14,15] ?_;refine tk 7 32 [8,9,14,15] ?_;refine tk 8 33 [9,14,15] ?_;refine tk 9 34 [14,15] ?_;refine tk 10 35 [12,13,14,15] ?_;refine tk 11 36 [12,13,14,15] ?_;refine tk 12 37 [13,14,15] ?_;refine tk 13 38 [14,15] ?_;refine tk 14 39 [15] ?_;refine stj 15 (h:=fun K hK=>?_);go_simp;refine hK.out _ _ (Or.inl ja) ?_;clear hK K
         try simp only[List.setIfInBounds_toArray,List.set_cons_zero,List.set_cons_succ]
         refine enj je ?_ _;go_wp2_with fail;go_roundw
         case rel=>exact⟨j+1,j0,jm,@Bag.dr _ _ _ HB.out⟩
         case measure=>exact jb
     · have hjn:j=l.length:=j0;rw[hjn]at iB;have B3:Bag wz wq (zBb la l.length lc (fun t=>((l.getD t 0:Nat):Int))::box eb 171 [.slice ta n tc,.slice (some ⟨gb,0,none⟩) n n]::row 23 1 (.slice ta n tc) n (tbl g n n)::(fam n fun r=>arr (g r) 4 n fun y=>.bool (eT l T (i+1) 0 r y))::arr gb 4 n (fun i=>.bool (gone i))::D):=iB.to 3 rfl (fun h=>⟨fun r hr=>(h.1 r hr).congr fun y _=>by show Value.bool (eT l T i l.length r y)=.bool (eT l T (i+1) 0 r y);rw[zSK],h.2⟩) fun _ h=>h;clear iB;go_wp2_with fail;go_roundw
       case rel=>exact⟨i+1,j0,jm,B3⟩
       case measure=>exact jb
  · have hin:i=l.length:=j0;rw[hin]at iB;have B3':Bag wz wr (zBb la l.length lc (fun t=>((l.getD t 0:Nat):Int))::box eb 171 [.slice ta n tc,.slice (some ⟨gb,0,none⟩) n n]::row 23 1 (.slice ta n tc) n (tbl g n n)::(fam n fun r=>arr (g r) 4 n fun y=>.bool (elT n T gone v r y))::arr gb 4 n (fun i=>.bool (gone i))::D):=iB.to 3 rfl (fun h=>⟨fun r hr=>(h.1 r hr).congr fun y hy=>by show Value.bool (eT l T l.length 0 r y)=.bool (elT n T gone v r y);rw[HA.out r y hr hy],h.2⟩) fun _ h=>h;have B3:=B3'.sub (List.sublist_cons_self _ _);haveI iV:=B3.vb 0 rfl;haveI z5:=B3.we 3 rfl hv;have y5:=fun W=>zCz 23 gb v n n hv W;have B4:=Lib.hid ((B3.st 3 rfl v (.bool true)).to 3 (t':=arr gb 4 n fun i=>.bool (if i=v then true else gone i)) rfl (fun h=>h.congr fun i _=>by show(if i=v then Value.bool true else .bool (gone i))=.bool (if i=v then true else gone i);split <;> rfl) fun _ h=>h);clear iB B3 B3';generalize gone v=vv at *;go_wp2_with fail;refine bodyPost_end (v:=.tuple #[]) (by simp only[results,Tryz.results108];go_simp) rfl ?_;exact⟨⟨_,rfl⟩,B4.out⟩
end Go.Proofs.YtmbkgapknoammaaGreatDoor
namespace Go.Proofs.YtmbkgapknoammaaGreatDoor
open Go.RowKit Sp
def zAb(n:Nat)(G:Nat→Nat→Bool)(j:Nat):List Nat:=j::zCW n G j
theorem zIJ{n:Nat}{P:Nat→Nat→Bool}(hP:Sgr n P){j c:Nat}(hj:j<n)(hc:c<(zAb n P j).length):j≤(zAb n P j).getD c 0∧(zAb n P j).getD c 0<n∧(0<c→j<(zAb n P j).getD c 0∧zBD n P j ((zAb n P j).getD c 0)=true)∧(c=0→(zAb n P j).getD c 0=j):=by
 cases c with
 | zero=>exact⟨Nat.le_refl _,hj,fun h=>absurd h (Nat.lt_irrefl _),fun _=>rfl⟩
 | succ c=>
  have hc:c<(zCW n P j).length:=by have:c+1<(zCW n P j).length+1:=hc;omega
  have e:(zAb n P j).getD (c+1) 0=(zCW n P j).getD c 0:=rfl;rw[e];obtain⟨h1,h2⟩:=zNO hP hc;have h3:=(zHv (G:=fun v w=>elG n P v v w&&!decide (w<v)) (v:=j) (m:=n) hc).2;have h3:(elG n P j j ((zCW n P j).getD c 0)&&!decide ((zCW n P j).getD c 0<j))=true:=h3;rw[Bool.and_eq_true]at h3;exact⟨Nat.le_of_lt h1,h2,fun _=>⟨h1,h3.1⟩,fun h=>j0⟩
theorem zPM{n:Nat}{P:Nat→Nat→Bool}{j i:Nat}(hi:i<n):i∈zAb n P j↔(i=j∨(zBD n P j i=true∧¬i<j)):=by
 show i∈j::zCW n P j↔_;rw[List.mem_cons];refine or_congr Iff.rfl ?_;unfold zCW;rw[nb_mem];show i<n∧(elG n P j j i&&!decide (i<j))=true↔elG n P j j i=true∧_;rw[Bool.and_eq_true,Bool.not_eq_true',decide_eq_false_iff_not];exact⟨fun h=>h.2,fun h=>⟨hi,h⟩⟩
theorem zGI(n:Nat)(P:Nat→Nat→Bool)(j:Nat):(zAb n P j).length≤n+1:=by
 have:(zCW n P j).length≤n:=zF4 _ _ _;show(zCW n P j).length+1≤_;omega
theorem zNP{n:Nat}{P:Nat→Nat→Bool}(hP:Sgr n P){j:Nat}(hj:j<n):zTJ n j (zAb n P j) where
 pos:=Nat.succ_pos _
 hd:=rfl
 asc t h0 ht:=by
  obtain⟨t,rfl⟩:∃s,t=s+1:=⟨t-1,j0⟩;have ht:t<(zCW n P j).length:=by have:t+1<(zCW n P j).length+1:=ht;omega
  show(zAb n P j).getD (t+1-1) 0<(zCW n P j).getD t 0;rw[show t+1-1=t by omega]
  cases t with
  | zero=>exact(zNO hP ht).1
  | succ t=>exact zPJ (n:=n) (T:=P) (Nat.succ_pos t) ht
 lt t ht:=(zIJ hP hj ht).2.1
section
variable (b:Nat→Nat→Nat)(n:Nat)(P:Nat→Nat→Bool)
noncomputable def zG0(j i:Nat):Nat:=zL5 b (zBD n P) (lp b (zBD n P) j) j i
noncomputable def zCG(j c r i:Nat):Nat:=if r<j then lp b (zBD n P) j r i else if r=j∧i∈(zAb n P j).take c then zG0 b n P j i else 0
noncomputable def zCC(j:Nat):List Nat:=(zAb n P j).map (zG0 b n P j)
def stC(j:Nat):List Nat:=(List.range (j+1)).map fun t=>(cat (zAb n P) t).length
end
section
variable {b:Nat→Nat→Nat}{n:Nat}{P:Nat→Nat→Bool}
theorem zMK(r i:Nat):zCG b n P 0 0 r i=0:=by
 unfold zCG;rw[if_neg (Nat.not_lt_zero _),List.take_zero,if_neg (fun h=>by cases h.2)]
theorem zML{j c x:Nat}(h:(zAb n P j)[c]? =some x)(r i:Nat):zCG b n P j (c+1) r i=if r=j∧i=x then zG0 b n P j x else zCG b n P j c r i:=by
 have hc:=(List.getElem?_eq_some_iff.1 h).1;have ht:(zAb n P j).take (c+1)=(zAb n P j).take c++ [x]:=by rw[List.take_add_one,h];rfl
 unfold zCG;rw[ht]
 by_cases h1:r<j
 · rw[if_pos h1,if_pos h1,if_neg j0]
 · rw[if_neg h1,if_neg h1]
   by_cases h2:r=j∧i=x
   · rw[if_pos h2,if_pos ⟨h2.1,List.mem_append.2 (Or.inr (by rw[h2.2];exact List.mem_singleton.2 rfl))⟩,h2.2]
   · rw[if_neg h2]
     by_cases h3:r=j∧i∈(zAb n P j).take c
     · rw[if_pos h3,if_pos ⟨h3.1,List.mem_append.2 (Or.inl h3.2)⟩]
     · rw[if_neg h3,if_neg fun h4=>?_];rcases List.mem_append.1 h4.2 with h5 | h5
       · exact h3 ⟨h4.1,h5⟩
       · exact h2 ⟨h4.1,List.mem_singleton.1 h5⟩
theorem zP6{j r i:Nat}(hi:i<n):zCG b n P j (zAb n P j).length r i=zCG b n P (j+1) 0 r i:=by
 unfold zCG;rw[List.take_length,List.take_zero]
 by_cases h1:r<j
 · rw[if_pos h1,if_pos j0,show j+1=r+1+(j-r)by omega,zE2 (j-r) (r+1) r j0,show j=r+1+(j-r-1)by omega,zE2 (j-r-1) (r+1) r j0]
 · rw[if_neg h1]
   by_cases h2:r=j
   · subst h2;rw[if_pos (show r<r+1 by omega),zCQ]
     by_cases h3:i∈zAb n P r
     · rw[if_pos ⟨rfl,h3⟩];rfl
     · rw[if_neg fun h=>h3 h.2];rw[zPM hi]at h3;unfold zL5;rw[if_neg fun e=>h3 (Or.inl e),if_neg fun e=>h3 (Or.inr ⟨e.2,j0⟩)]
   · rw[if_neg fun h=>h2 h.1,if_neg j0,if_neg fun h=>by cases h.2]
theorem zP7{j c m i:Nat}(h:m<j):zCG b n P j c m i=lp b (zBD n P) j m i:=if_pos h
theorem zGU(j:Nat):zG0 b n P j j=zBc (lD b (lp b (zBD n P) j) j j) 0:=by unfold zG0 zL5;rw[if_pos rfl]
theorem zOg{j i:Nat}(h1:j<i)(h2:zBD n P j i=true):zG0 b n P j i=zEH (lD b (lp b (zBD n P) j) i j) (fof (zBc (lD b (lp b (zBD n P) j) j j) 0)) 0:=by
 unfold zG0 zL5;rw[if_neg j0,if_pos ⟨h1,h2⟩]
theorem zMM{j c:Nat}(h:0<c):zCG b n P j c j j=zBc (lD b (lp b (zBD n P) j) j j) 0:=by
 obtain⟨c,rfl⟩:∃s,c=s+1:=⟨c-1,j0⟩;have hm:j∈(zAb n P j).take (c+1):=List.mem_cons_self;unfold zCG;rw[if_neg (Nat.lt_irrefl _),if_pos ⟨rfl,hm⟩,zGU]
theorem zGv(C:Nat→Nat→Bool)(V:Nat→Nat→Nat)(j i:Nat):zL5 b C V j i<18446744073709551616:=by
 unfold zL5
 split
 · exact zMq _ _
 · split
   · exact zOU _ _ _
   · exact j0
theorem zGs(C:Nat→Nat→Bool):∀j m i,lp b C j m i<18446744073709551616
 | 0,_,_=>QJ
 | j+1,m,i=>by
  show(if m=j then zL5 b C (lp b C j) j i else lp b C j m i)<_
  split
  · exact zGv _ _ _ _
  · exact zGs C j m i
theorem zR0(j c r i:Nat):zCG b n P j c r i<18446744073709551616:=by
 unfold zCG
 split
 · exact zGs _ _ _ _
 · split
   · exact zGv _ _ _ _
   · exact j0
theorem zNM{j c x:Nat}(h:(zAb n P j)[c]? =some x):(zCC b n P j)[c]? =some (zG0 b n P j x):=by
 unfold zCC;rw[List.getElem?_map,h];rfl
theorem zFo(j:Nat):(zCC b n P j).length=(zAb n P j).length:=List.length_map _
theorem zGK:∀j,(cat (zCC b n P) j).length=(cat (zAb n P) j).length
 | 0=>rfl
 | j+1=>by rw[zFp,zFp,zGK j,zFo]
theorem zIL:∀j,(cat (zAb n P) j).length≤j*(n+1)
 | 0=>Nat.zero_le _
 | j+1=>by
  have h1:=zIL j;have h2:=zGI n P j;rw[zFp,Nat.succ_mul];omega
theorem zOr(j:Nat):stC n P (j+1)=stC n P j++ [(cat (zAb n P) (j+1)).length]:=by unfold stC;rw[List.range_succ,List.map_append];rfl
theorem zQD{j t:Nat}(h:t<j+1):(stC n P j).getD t 0=(cat (zAb n P) t).length:=by
 unfold stC;rw[List.getD_eq_getElem?_getD,List.getElem?_map,List.getElem?_range h];rfl
def lfI(n:Nat)(P:Nat→Nat→Bool)(j c:Nat):List Nat:=cat (zAb n P) j++(zAb n P j).take c
noncomputable def lfV(b:Nat→Nat→Nat)(n:Nat)(P:Nat→Nat→Bool)(j c:Nat):List Nat:=cat (zCC b n P) j++(zCC b n P j).take c
theorem zJ2{α:Type}{l:List α}{c:Nat}{x:α}(h:l[c]? =some x):l.take (c+1)=l.take c++ [x]:=by rw[List.take_add_one,h];rfl
theorem zPc{j c x:Nat}(h:(zAb n P j)[c]? =some x):lfI n P j (c+1)=lfI n P j c++ [x]:=by unfold lfI;rw[zJ2 h,List.append_assoc]
theorem zPb{j c x:Nat}(h:(zAb n P j)[c]? =some x):lfV b n P j (c+1)=lfV b n P j c++ [zG0 b n P j x]:=by unfold lfV;rw[zJ2 (zNM h),List.append_assoc]
theorem zMN(j:Nat):lfI n P j (zAb n P j).length=lfI n P (j+1) 0:=by
 unfold lfI;rw[List.take_length,List.take_zero,List.append_nil];rfl
theorem zR4(j:Nat):lfV b n P j (zAb n P j).length=lfV b n P (j+1) 0:=by
 unfold lfV;rw[←zFo (b:=b),List.take_length,List.take_zero,List.append_nil];rfl
theorem zR5{j c:Nat}(h:c≤(zAb n P j).length):(lfI n P j c).length=(cat (zAb n P) j).length+c:=by
 unfold lfI;rw[List.length_append,List.length_take,Nat.min_eq_left h]
theorem zSA{j c:Nat}(hj:j<n)(h:c≤(zAb n P j).length):(lfI n P j c).length≤(n+1)*(n+1):=by
 rw[zR5 h];have h1:=zIL (n:=n) (P:=P) j;have h2:=zGI n P j;have h3:(j+1)*(n+1)≤(n+1)*(n+1):=Nat.mul_le_mul_right _ j0;rw[Nat.add_mul,Nat.one_mul]at h3;omega
theorem zJH(j:Nat):lfI n P j 0=cat (zAb n P) j:=by unfold lfI;rw[List.take_zero,List.append_nil]
theorem zPa(j:Nat):lfV b n P j 0=cat (zCC b n P) j:=by unfold lfV;rw[List.take_zero,List.append_nil]
theorem zNV:∀j,∀x∈cat (zCC b n P) j,x<18446744073709551616
 | 0,x,h=>KM
 | j+1,x,h=>by
  rcases List.mem_append.1 h with h | h
  · exact zNV j x h
  · obtain⟨i,_,rfl⟩:=List.mem_map.1 h;exact zGv _ _ _ _
theorem zHW(j t:Nat):(cat (zCC b n P) j).getD t 0<18446744073709551616:=by
 by_cases h:t<(cat (zCC b n P) j).length
 · rw[List.getD_eq_getElem?_getD,List.getElem?_eq_getElem h];exact zNV j _ (List.getElem_mem h)
 · rw[List.getD_eq_getElem?_getD,List.getElem?_eq_none j0];show 0<_;omega
theorem zRf{l:List Nat}{c:Nat}(h:c<l.length):l[c]? =some (l.getD c 0):=by rw[List.getD_eq_getElem?_getD,List.getElem?_eq_getElem h];rfl
theorem zIV(h:∀j,j<n→zGQ b (zBD n P) n j){j i:Nat}(hj:j<n)(h1:j≤i)(h2:i<n):zAA (zG0 b n P j i)=true:=by
 have:=(h j hj).fin i h1 h2;rw[zCQ]at this;exact this
theorem zQw(h:∀j,j<n→zGQ b (zBD n P) n j){j:Nat}(hj:j<n):zB0 (zG0 b n P j j)=false:=by
 have:=(h j hj).nz;rw[zCQ]at this;exact this
end
end Go.Proofs.YtmbkgapknoammaaGreatDoor
set_option maxRecDepth 100000
set_option maxHeartbeats 20000000
namespace Go.Proofs.YtmbkgapknoammaaGreatDoor
open Go.RowKit Sp
attribute [local irreducible] Calls
theorem zHm(w:World)(a:Option Addr)(n c:Nat)(hn:n≤64)(G:Nat→Nat→Bool)[hG:GR w a n c G]:Calls Tryz.prog 106 #[.agg #[.slice a n c]] w fun o w'=>∃(eb gb:Nat) (ta:Option Addr) (tc:Nat) (g:Nat→Nat),o=.returned (.pointer (some ⟨eb,0,none⟩))∧Bag w w' (box eb 171 [.slice ta n tc,.slice (some ⟨gb,0,none⟩) n n]::row 23 1 (.slice ta n tc) n (tbl g n n)::(fam n fun r=>arr (g r) 4 n fun y=>.bool (G r y))::arr gb 4 n (fun _=>.bool (false)):: []):=by
 have l1:=hG.out.fits;have l2:=hG.out.lim;have HT:=fun W [GR W a n c G]=>Lib.hid (zFG W a n c j0 G);have hmk:=fun W=>zE1 (P:=Tryz.prog) (t:=23) (e:=4) (z:=.bool false) (b:=1) je je rfl j0 n j0 W;go_enter Tryz.func106,Tryz.ntmps106;go_wp2_with fail;have B0:=(Bag.nil w).var 112 [.slice a n c] rfl;haveI iV:=B0.vb 0 rfl;haveI bw:=B0.fr';generalize w.alloc (.cells [Value.slice a n c].toArray 112)=wr at *;refine bgj (fun w'=>Below wr.heap.size wr w') [] je (zbh) (fun hHeld=>?_);simp only[List.size_toArray,List.length_cons,List.length_nil,Nat.reduceAdd,Array.replicate_succ,Array.replicate_zero,List.push_toArray,List.nil_append,List.cons_append];refine tk 0 3 [1,6,7,8] ?_;refine tk 2 5 [3,4,5,6,7,8] ?_;refine tk 3 6 [4,5,6,7,8] ?_;refine tk 4 7 [5,6,7,8] ?_;refine zS7 1 5 (h:=fun K hK=>?_) (h':=fun K hK=>?_)
 · go_simp;refine(HT _).out.mono ?_;rintro o w4 ⟨tv,g,rfl,hB4⟩;obtain⟨ta,tc,rfl⟩:=zA3 (hB4.own 0 rfl);haveI b4:=hB4.fr';go_simp;refine hK.out _ _ (Or.inr zbh) ?_;clear hK K
   try simp only[Act.put]
   try simp only[List.setIfInBounds_toArray]
   repeat(first | simp only[List.set_cons_zero] | simp only[List.set_cons_succ])
   refine stj 5 (h:=fun K hK=>?_);go_simp;refine hK.out _ _ (Or.inr zbh) ?_;clear hK K
   try simp only[Act.put]
   try simp only[List.setIfInBounds_toArray]
   repeat(first | simp only[List.set_cons_zero] | simp only[List.set_cons_succ])
   refine tk 6 9 [7,8] ?_;refine stj 7 (h:=fun K hK=>?_);go_simp;refine hK.out _ _ (Or.inr zbh) ?_;clear hK K
   try simp only[Act.put]
   try simp only[List.setIfInBounds_toArray]
   repeat(first | simp only[List.set_cons_zero] | simp only[List.set_cons_succ])
   refine tk 8 2 [] ?_;refine enj je ?_ _;go_wp2_with fail;go_ret
   first
   | exact⟨_,_,ta,tc,g,rfl,(((((@Bag.dr _ _ _ B0).join hB4).make 4 (.bool false) n rfl).var 171 [.slice ta n tc,.slice (some ⟨w4.heap.size,0,none⟩) n n] jz).sub (List.sublist_cons_self _ _)).perm (List.perm_append_comm (l₁:= [_,_,_]) (l₂:= [_]))⟩
   | exact⟨_,_,ta,tc,g,rfl,((((@Bag.dr _ _ _ (B0.make 4 (.bool false) n rfl)).join hB4).var 171 [.slice ta n tc,.slice (some ⟨wr.heap.size,0,none⟩) n n] rfl).sub (List.sublist_cons_self _ _)).perm (List.Perm.map (fun i=> [arr wr.heap.size 4 n fun _=>.bool false,row 23 1 (.slice ta n tc) n (tbl g n n),fam n fun r=>arr (g r) 4 n fun y=>.bool (G r y),box w4.heap.size 171 [.slice ta n tc,.slice (some ⟨wr.heap.size,0,none⟩) n n]].getD i (box 0 0 [])) (by decide:List.Perm [0,1,2,3] [3,1,2,0]))⟩
 · go_simp;refine hK.out _ _ (Or.inr zbh) ?_;clear hK K
   try simp only[Act.put]
   try simp only[List.setIfInBounds_toArray]
   repeat(first | simp only[List.set_cons_zero] | simp only[List.set_cons_succ])
   refine stj 1 (h:=fun K hK=>?_);go_simp;refine(HT _).out.mono ?_;rintro o w4 ⟨tv,g,rfl,hB4⟩;obtain⟨ta,tc,rfl⟩:=zA3 (hB4.own 0 rfl);haveI b4:=hB4.fr';go_simp;refine hK.out _ _ (Or.inr zbh) ?_;clear hK K
   try simp only[Act.put]
   try simp only[List.setIfInBounds_toArray]
   repeat(first | simp only[List.set_cons_zero] | simp only[List.set_cons_succ])
   refine tk 6 9 [7,8] ?_;refine stj 7 (h:=fun K hK=>?_);go_simp;refine hK.out _ _ (Or.inr zbh) ?_;clear hK K
   try simp only[Act.put]
   try simp only[List.setIfInBounds_toArray]
   repeat(first | simp only[List.set_cons_zero] | simp only[List.set_cons_succ])
   refine tk 8 2 [] ?_;refine enj je ?_ _;go_wp2_with fail;go_ret
   first
   | exact⟨_,_,ta,tc,g,rfl,(((((@Bag.dr _ _ _ B0).join hB4).make 4 (.bool false) n rfl).var 171 [.slice ta n tc,.slice (some ⟨w4.heap.size,0,none⟩) n n] jz).sub (List.sublist_cons_self _ _)).perm (List.perm_append_comm (l₁:= [_,_,_]) (l₂:= [_]))⟩
   | exact⟨_,_,ta,tc,g,rfl,((((@Bag.dr _ _ _ (B0.make 4 (.bool false) n rfl)).join hB4).var 171 [.slice ta n tc,.slice (some ⟨wr.heap.size,0,none⟩) n n] rfl).sub (List.sublist_cons_self _ _)).perm (List.Perm.map (fun i=> [arr wr.heap.size 4 n fun _=>.bool false,row 23 1 (.slice ta n tc) n (tbl g n n),fam n fun r=>arr (g r) 4 n fun y=>.bool (G r y),box w4.heap.size 171 [.slice ta n tc,.slice (some ⟨wr.heap.size,0,none⟩) n n]].getD i (box 0 0 [])) (by decide:List.Perm [0,1,2,3] [3,1,2,0]))⟩
theorem zMg(w:World)(a:Option Addr)(n c:Nat)(hn:n≤64)(G:Nat→Nat→Bool)[hG:GR w a n c G]:Calls Tryz.prog 70 #[.agg #[.slice a n c]] w fun o w'=>∃oa oc A C,o=.returned (.tuple #[.slice oa n oc,.int .i64 0])∧Bag w w' [row 24 1 (.slice oa n oc) n (zC1 A C (zAb n G) n),fam n (zBl A C (zAb n G))]:=by
 have l1:=hG.out.fits;have l2:=hG.out.lim;have HC:=fun W [GR W a n c G]=>Lib.hid (zDm W a n c j0 G);have HB:=fun W [GR W a n c G]=>Lib.hid (zHm W a n c hn G);go_enter Tryz.func70,Tryz.ntmps70;go_wp2_with fail;refine(HC _).out.mono ?_;rintro o w1 ⟨rfl,b1⟩;haveI B1:Bag w w1 [box w.heap.size 112 [.slice a n c]]:=by
  haveI:=(Bag.nil w).var 112 [.slice a n c] rfl;exact inferInstance
 haveI iV:=B1.vb 0 rfl;go_wp2_with fail;refine(HB _).out.mono ?_;rintro o w2 ⟨eb,gb,ta,tc,g,rfl,hB2⟩;haveI b2:=hB2.fr';have B2:Bag w w2 (box eb 171 [.slice ta n tc,.slice (some ⟨gb,0,none⟩) n n]::row 23 1 (.slice ta n tc) n (tbl g n n)::(fam n fun r=>arr (g r) 4 n fun y=>.bool (elG n G 0 r y))::arr gb 4 n (fun i=>.bool (decide (i<0))):: [box w.heap.size 112 [.slice a n c],row 24 1 (.slice none 0 0) 0 (zC1 (fun _=>none) (fun _=>0) (zAb n G) 0),fam 0 (zBl (fun _=>none) (fun _=>0) (zAb n G))]):=((((((B1.join hB2).perm List.perm_append_comm).to 3 (t':=arr gb 4 n fun i=>.bool (decide (i<0))) rfl (fun h=>h.congr fun i _=>by show Value.bool false=.bool (decide (i<0));rw[decide_eq_false (Nat.not_lt_zero i)]) fun _ h=>h)).nilr 24 1).new (t:=fam 0 (zBl (fun _=>none) (fun _=>0) (zAb n G))) (Below.refl _ _) ⟨fun i hi=>j0,fun i j g hi=>j0⟩ fun g ⟨i,hi,_⟩=>j0);clear B1 hB2 HC HB;go_wp2_with fail
 go_loopw [6,7] (fun v x wr=>∃(j:Nat) (A:Nat→Option Addr) (C:Nat→Nat),j≤n∧x=.int .i64 j∧Bag w wr (box eb 171 [.slice ta n tc,.slice (some ⟨gb,0,none⟩) n n]::row 23 1 (.slice ta n tc) n (tbl g n n)::(fam n fun r=>arr (g r) 4 n fun y=>.bool (elG n G j r y))::arr gb 4 n (fun i=>.bool (decide (i<j))):: [box w.heap.size 112 [.slice a n c],row 24 1 v j (zC1 A C (zAb n G) j),fam j (zBl A C (zAb n G))])) (fun _ x _=>n-(intOf x).toNat)
 case atStart=>exact⟨0,fun _=>none,fun _=>0,j0,rfl,B2⟩
 case round=>
  clear B2 iV b1 b2;rename Value=>tv;obtain⟨j,A,C,hj,rfl,iB⟩:=hrel;haveI bw:=iB.fr';haveI iV:=iB.vb 4 rfl
  by_cases hlt:j<n
  · haveI iE:=iB.vb 0 rfl;haveI hT:TBX wr ta n tc n g (elG n G j):=iB.tbxS 1 2 rfl rfl;have lT1:=hT.fits;have lT2:=hT.lim;haveI hGo:RB wr gb n (fun i=>decide (i<j)):=⟨iB.at 3 rfl⟩;have HN:=fun W [VB W eb [.slice ta n tc,.slice (some ⟨gb,0,none⟩) n n]] [TBX W ta n tc n g (elG n G j)] [RB W gb n (fun i=>decide (i<j))]=>Lib.hid (show Calls Tryz.prog 107 #[.pointer (some ⟨eb,0,none⟩),.int .i64 j] W fun o w'=>∃u,o=.returned u∧Bag W w' [row 3 1 u (zCW n G j).length (zA2 (zCW n G j))]from zJe W eb gb ta n tc hn g (elG n G j) (fun i=>decide (i<j)) j hlt);have hcl:(zCW n G j).length≤n:=zF4 _ _ _;obtain⟨ov,oc,rfl⟩:=zA3 (iB.own 5 rfl);have B3:=iB.lit 3 1 [.int .i64 j] (m:=1) (n:=wr.heap.size) rfl ja rfl;clear iB;go_wp2_with fail;refine(HN _).out.mono ?_;rintro o w3 ⟨u,rfl,hB4⟩;haveI b4:=hB4.fr';have B4:=B3.join hB4;obtain⟨ra,rc,rfl,hL,hb⟩:=zMr (hB4.own 0 rfl);haveI B5:=B4.to 8 (t':=zBb ra (zCW n G j).length rc fun t=>(((zCW n G j).getD t 0:Nat):Int)) rfl (fun _=>hL) fun g hg=>KF;clear B3 B4 hB4 hb HN;have E1:Hid (1+(zCW n G j).length=(zAb n G j).length):=Lib.hid (by show _=(zCW n G j).length+1;omega);have E2:Hid (([Value.int .i64 (j:Int)]++(List.range (zCW n G j).length).map fun t=>Value.int .i64 (((zCW n G j).getD t 0:Nat):Int))=zA2 (zAb n G j)):=Lib.hid (by
     rw[zB2 (l:=(zCW n G j)) (a:=0) (fun t _=>by rw[Nat.zero_add]) j0,List.drop_zero,List.take_length];rfl)
    go_wp2_with (at_builtin;first | (refine zEK rfl _ _ rfl w 7 rfl rfl _ (zCW n G j).length rc (fun t=>(((zCW n G j).getD t 0:Nat):Int)) rfl hL j0 ?_;intro v6 w6 B6 hv6;obtain⟨q6,c6,rfl⟩:=zA3 (B6.own 7 rfl);rw[E1.out,E2.out]at B6;obtain⟨_,_,hv7,hI7,hb7⟩:=zAP (B6.own 7 rfl);injection hv7 with i71 i72 i73;subst i71 i73;haveI B7:=(@Bag.al _ _ _ (.cells #[.slice q6 (1+(zCW n G j).length) c6] 24) (B6.to 7 (t':=zBb q6 (zAb n G j).length c6 fun t=>(((zAb n G j).getD t 0:Nat):Int)) rfl (fun _=>hI7) fun g hg=>by rw[←hg.2];exact hb7 hg.1))) | (refine zBm 108 24 (.slice none 0 0) 24 rfl _ _ rfl w 5 rfl rfl _ (.slice q6 (1+(zCW n G j).length) c6) rfl rfl jj j0 j0 ?_;intro v8 w8 B8));rw[E1.out]at B8;have B9:=B8.more 6 7 j0 rfl rfl (f':=zBl (fun r=>if r=j then q6 else A r) (fun r=>if r=j then c6 else C r) (zAb n G)) (fun a ha=>zJP ha) zJQ;rw[←zFH (R:=(zAb n G))]at B9;obtain⟨o8,c8,rfl⟩:=zA3 (B8.own 5 rfl);have B10:=B9.sub (C:= [_,_,_,_,_,_,_]) (List.sublist_append_left _ [_]);clear B5 B6 B7 B8 B9 E1 E2 hL hI7 hb7 hv6;refine(zIf w w8 eb gb ta n tc hn g (elG n G j) (fun i=>decide (i<j)) _ j hlt B10).mono ?_;rintro o w11 ⟨⟨u,rfl⟩,hB11⟩;have B11:=hB11.to 3 (t':=arr gb 4 n fun i=>.bool (decide (i<j+1))) rfl (fun h=>h.congr fun i _=>by
     show Value.bool (if i=j then true else decide (i<j))=.bool (decide (i<j+1))
     by_cases e:i=j
     · rw[if_pos e,decide_eq_true j0]
     · rw[if_neg e,decide_eq_decide.2 (show i<j↔i<j+1 by omega)]) fun _ h=>h
    clear B10 hB11;go_wp2_with fail;go_roundw
    case rel=>exact⟨j+1,_,_,j0,jm,B11⟩
    case measure=>exact jb
  · have hjn:j=n:=j0;rw[hjn]at iB;obtain⟨ov,oc,rfl⟩:=zA3 (iB.own 5 rfl);go_wp2_with fail;refine bodyPost_ret (results_tmp2 rfl _ _ _) rfl ?_;exact⟨ov,oc,A,C,rfl,iB.sub (List.sublist_append_right [_,_,_,_,_] _)⟩
end Go.Proofs.YtmbkgapknoammaaGreatDoor

/-
  Walks: sparseref12.FromTable, Check.
-/
import Derived.Test.YtmbkgapknoammaaGreatDoorZuYa
import Derived.BigQuiet
import Derived.Test.YtmbkgapknoammaaGreatDoorZuEm
import Derived.Test.YtmbkgapknoammaaGreatDoorZuQn
import Derived.Test.YtmbkgapknoammaaGreatDoorZuGt
import Derived.Test.YtmbkgapknoammaaGreatDoorZuKs
import Derived.Test.YtmbkgapknoammaaGreatDoorZuKw
set_option maxRecDepth 100000
set_option maxHeartbeats 20000000
namespace Go.Proofs.YtmbkgapknoammaaGreatDoor
open Go.RowKit Sp
def zC1(A:Nat→Option Addr)(C:Nat→Nat)(R:Nat→List Nat)(n:Nat):List Value:=(List.range n).map fun i=>.slice (A i) (R i).length (C i)
theorem zFH{A:Nat→Option Addr}{C:Nat→Nat}{R:Nat→List Nat}{n c:Nat}{b:Option Addr} :zC1 (fun i=>if i=n then b else A i) (fun i=>if i=n then c else C i) R (n+1)=zC1 A C R n++ [.slice b (R n).length c]:=by
 unfold zC1;rw[List.range_succ,List.map_append,List.map_cons,List.map_nil];simp only[if_true];congr 1;exact List.map_congr_left fun i hi=>by
  have:=List.mem_range.1 hi;show Value.slice (if i=n then b else A i) (R i).length (if i=n then c else C i)=_;rw[if_neg j0,if_neg j0]
def zBl(A:Nat→Option Addr)(C:Nat→Nat)(R:Nat→List Nat)(r:Nat):It:=zBb (A r) (R r).length (C r) fun t=>(((R r).getD t 0:Nat):Int)
theorem zJP{A:Nat→Option Addr}{C:Nat→Nat}{R:Nat→List Nat}{n c:Nat}{b:Option Addr}{r:Nat}(h:r<n):zBl (fun i=>if i=n then b else A i) (fun i=>if i=n then c else C i) R r=zBl A C R r:=by
 unfold zBl;show zBb (if r=n then b else A r) _ (if r=n then c else C r) _=_;rw[if_neg j0,if_neg j0]
theorem zJQ{A:Nat→Option Addr}{C:Nat→Nat}{R:Nat→List Nat}{n c:Nat}{b:Option Addr} :zBl (fun i=>if i=n then b else A i) (fun i=>if i=n then c else C i) R n=zBb b (R n).length c fun t=>(((R n).getD t 0:Nat):Int):=by
 unfold zBl;show zBb (if n=n then b else A n) _ (if n=n then c else C n) _=_;rw[if_pos rfl,if_pos rfl]
theorem Bag.rws{w0 w:World}{B:List It}{v:Value}{n:Nat}{A:Nat→Option Addr}{C:Nat→Nat}{R:Nat→List Nat}(h:Bag w0 w B)(i j:Nat)(hi:B[i]? =some (row 24 1 v n (zC1 A C R n)))(hj:B[j]? =some (fam n (zBl A C R))):∃a c,v=.slice a n c∧Rws w a n c R:=by
 obtain⟨a,c,hv,h1,h2,h3,h4⟩:=zC5 (h.own i hi);have h5:(∀i,i<n→(zBl A C R i).P w)∧_:=h.at j hj;exact⟨a,c,hv,h2,h3,fun hn=>(h4 hn).1,fun hn=>(h4 hn).2.1,fun i hi=>⟨A i,C i,(h4 j0).2.2 i _ (zAy _ hi),h5.1 i hi⟩⟩
def GB(w0 w:World)(a:Option Addr)(n c:Nat)(G:Nat→Nat→Bool):Prop:=Sgr n G∧∃A C,Bag w0 w [row 24 1 (.slice a n c) n (zC1 A C (fun v=>nb G v n) n),fam n (zBl A C fun v=>nb G v n)]
theorem GB.gr{w0 w:World}{a:Option Addr}{n c:Nat}{G:Nat→Nat→Bool}(h:GB w0 w a n c G):GR w a n c G:=by
 obtain⟨h0,A,C,h1⟩:=h;obtain⟨a',c',hv,h2⟩:=h1.rws 0 1 rfl rfl;injection hv with e1 _ e3
 subst e1 e3;exact⟨h2,h0⟩
theorem GB.fr{w0 w:World}{a:Option Addr}{n c:Nat}{G:Nat→Nat→Bool}(h:GB w0 w a n c G):From w0 w:=by
 obtain⟨h0,A,C,h1⟩:=h;exact h1.fr'
theorem zMr{w:World}{v:Value}{l:List Nat}(h:w.ownsRow 0 3 1 v l.length (zA2 l)):∃a c,v=.slice a l.length c∧Ils w a l.length c (fun t=>((l.getD t 0:Nat):Int))∧(0<l.length→v.ownBlock=some (ab a)):=zAP h
attribute [local irreducible] Calls
theorem zHi(w:World)(a:Option Addr)(n c:Nat)(hn:n≤1000)(g:Nat→Nat)(T:Nat→Nat→Bool)[hT:TBX w a n c n g T]:Calls Tryz.prog 142 #[.slice a n c] w fun o w'=>∃oa oc,o=.returned (.agg #[.slice oa n oc])∧GB w w' oa n oc (gOf n T):=by
 have l1:=hT.fits;have l2:=hT.lim;go_enter Tryz.func142,Tryz.ntmps142;go_wp2_with fail;have B0:Bag w _ [box w.heap.size 112 [.slice none 0 0],box (w.heap.size+1) 112 [(.slice none 0 0)],row 24 1 (.slice none 0 0) 0 (zC1 (fun _=>none) (fun _=>0) (fun v=>nb (gOf n T) v n) 0),fam 0 (zBl (fun _=>none) (fun _=>0) fun v=>nb (gOf n T) v n)]:=(((((Bag.nil w).var 112 [.slice none 0 0] rfl).var 112 [.slice none 0 0] jz).nilr 24 1).new (t:=fam 0 (zBl (fun _=>none) (fun _=>0) fun v=>nb (gOf n T) v n)) (Below.refl _ _) ⟨fun i hi=>j0,fun i j g hi=>j0⟩ fun g ⟨i,hi,_⟩=>j0)
 go_loopw [4] (fun x wr=>∃(i:Nat) (A:Nat→Option Addr) (C:Nat→Nat) (tv:Value),i≤n∧x=.int .i64 i∧Bag w wr [box w.heap.size 112 [.slice none 0 0],box (w.heap.size+1) 112 [tv],row 24 1 tv i (zC1 A C (fun v=>nb (gOf n T) v n) i),fam i (zBl A C fun v=>nb (gOf n T) v n)]) (fun x _=>n-(intOf x).toNat)
 case atStart=>exact⟨0,fun _=>none,fun _=>0,_,j0,rfl,B0⟩
 case round=>
  clear B0;obtain⟨i,A,C,tv,hi,rfl,iB⟩:=hrel;haveI bw:=iB.fr';haveI iV:=iB.vb 1 rfl
  by_cases hlt:i<n
  · have B1:=iB.nilr 3 1;clear iB;go_wp2_with fail
    go_loopw [5,6] (fun v x wq=>∃k:Nat,k≤n∧x=.int .i64 k∧Bag w wq [box w.heap.size 112 [.slice none 0 0],box (w.heap.size+1) 112 [tv],row 24 1 tv i (zC1 A C (fun v=>nb (gOf n T) v n) i),fam i (zBl A C fun v=>nb (gOf n T) v n),row 3 1 v (nb (gOf n T) i k).length (zA2 (nb (gOf n T) i k))]) (fun _ x _=>n-(intOf x).toNat)
    case atStart=>exact⟨0,j0,rfl,B1⟩
    case round=>
     clear B1 iV bw;rename Value=>lv;rename World=>wq;obtain⟨k,hk,rfl,iB⟩:=hrel;haveI bw:=iB.fr';haveI iV:=iB.vb 1 rfl
     by_cases hlk:k<n
     · have hX:=(inferInstance:TBX wq a n c n g T);haveI z0:=hX.ce hlt;haveI z1:=hX.ce hlk;haveI z2:=hX.at hlt hlk;haveI z3:=hX.at hlk hlt;have y0:=hX.idx i hlt;have y1:=hX.idx k hlk;have y2:=fun W=>zCz 23 (g i) k n n hlk W;have y3:=fun W=>zCz 23 (g k) i n n hlt W;obtain⟨p,hp⟩:∃p,p=T i k:=⟨_,rfl⟩;obtain⟨q,hq⟩:∃q,q=T k i:=⟨_,rfl⟩;rw[←hp]at z2;rw[←hq]at z3
       by_cases e:i=k
       · have HN:=Lib.hid (show nb (gOf n T) i (k+1)=nb (gOf n T) i k from zP2 (by rw[←e];exact(zIr n T).irr i));subst e;clear hX hp hq;go_wp2_with fail;go_roundw
         case rel=>exact⟨i+1,j0,jm,by rw[HN.out];exact iB⟩
         case measure=>exact jb
       · have hg:(gOf n T) i k=(p||q):=(by rw[zN7 hlt hlk e,hp,hq]);have e':((i:Int)==(k:Int))=false:=by rw[beq_eq_false_iff_ne];omega
         cases hpq:(p||q)with
         | false=>
          have HN:=Lib.hid (show nb (gOf n T) i (k+1)=nb (gOf n T) i k from zP2 (by rw[hg,hpq]));rw[Bool.or_eq_false_iff]at hpq;obtain⟨rfl,rfl⟩:=hpq;clear hX hp hq hg;go_wp2_with fail;go_roundw
          case rel=>exact⟨k+1,j0,jm,by rw[HN.out];exact iB⟩
          case measure=>exact jb
         | true=>
          have HN:=Lib.hid (show nb (gOf n T) i (k+1)=nb (gOf n T) i k++ [k]from zJs (by rw[hg,hpq]));clear hX hp hq hg;haveI B2:=@Bag.al _ _ _ (.cells #[.int .i64 k] 3) iB;have hlen:=zF4 (gOf n T) i k;have hpq2:p=true∨(p=false∧q=true):=(by revert hpq;cases p <;> cases q <;> simp);clear hpq;rcases hpq2 with rfl | ⟨rfl,rfl⟩
          all_goals(
           go_wp2_with (at_builtin;refine zBm 24 3 (.int .i64 0) 8 rfl _ _ rfl w 4 rfl rfl _ (.int .i64 (k:Int)) rfl rfl jj j0 j0 ?_;intro v5 w5 B5);have e1:(nb (gOf n T) i (k+1)).length=(nb (gOf n T) i k).length+1:=(by rw[HN.out,List.length_append];rfl);have e2:zA2 (nb (gOf n T) i (k+1))=zA2 (nb (gOf n T) i k)++ [.int .i64 (k:Int)]:=(by rw[HN.out,zAn];rfl);rw[←e1,←e2]at B5;go_roundw
           case rel=>exact⟨k+1,j0,jm,B5⟩
           case measure=>simp[intOf];omega)
     · have hkn:k=n:=j0;rw[hkn]at iB;obtain⟨ra,rc,rfl,hI,hb⟩:=zMr (iB.own 4 rfl);have B3:=iB.to 4 (t':=zBb ra (nb (gOf n T) i n).length rc fun t=>(((nb (gOf n T) i n).getD t 0:Nat):Int)) rfl (fun _=>hI) fun g hg=>KF;haveI B4:=@Bag.al _ _ _ (.cells #[.slice ra (nb (gOf n T) i n).length rc] 24) B3;clear iB hI hb;go_wp2_with (at_builtin;refine zBm 108 24 (.slice none 0 0) 24 rfl _ _ rfl w 2 rfl rfl _ (.slice ra (nb (gOf n T) i n).length rc) rfl rfl jj j0 j0 ?_;intro v5 w5 B5;obtain⟨o5,c5,rfl⟩:=zA3 (B5.own 2 rfl);haveI iV5:=B5.vb 1 rfl);have B6:=B5.more 3 4 j0 rfl rfl (f':=zBl (fun r=>if r=i then ra else A r) (fun r=>if r=i then rc else C r) fun v=>nb (gOf n T) v n) (fun a ha=>zJP ha) zJQ;rw[←zFH (R:=fun v=>nb (gOf n T) v n)]at B6;have B7:=B6.put 1 rfl 0 (.slice o5 (i+1) c5);go_wp2_with fail;go_roundw
       case rel=>exact⟨i+1,_,_,_,j0,jm,B7⟩
       case measure=>exact jb
  · obtain rfl:i=n:=j0;haveI iR:=iB.vb 0 rfl;have B8:=iB.put 0 rfl 0 tv;obtain⟨oa,oc,rfl,hR⟩:=B8.rws 2 3 rfl rfl;haveI iR8:=B8.vb 0 rfl;clear iB bw;go_wp2_with fail;refine bodyPost_ret (v:=.agg #[.slice oa i oc]) (by simp only[results,Tryz.results142];go_simp) rfl ?_;exact⟨oa,oc,rfl,zIr _ _,A,C,B8.sub (((List.Sublist.refl _).cons _).cons _)⟩
theorem zDm(w:World)(a:Option Addr)(n c:Nat)(hn:n≤200)(G:Nat→Nat→Bool)[hG:GR w a n c G]:Calls Tryz.prog 105 #[.agg #[.slice a n c]] w fun o w'=>o=.returned (.int .i64 0)∧From w w':=by
 have l1:=hG.out.fits;have l2:=hG.out.lim;have HOK:=Lib.hid hG.ok;go_enter Tryz.func105,Tryz.ntmps105;go_wp2_with fail;have B0:=(Bag.nil w).var 112 [.slice a n c] rfl
 go_loopw [4] (fun x wr=>∃i:Nat,i≤n∧x=.int .i64 i∧Bag w wr [box w.heap.size 112 [.slice a n c]]) (fun x _=>n-(intOf x).toNat)
 case atStart=>exact⟨0,j0,rfl,B0⟩
 case round=>
  clear B0;obtain⟨i,hi,rfl,iB⟩:=hrel;haveI bw:=iB.fr';haveI iV:=iB.vb 0 rfl
  by_cases hlt:i<n
  · have hX:=(inferInstance:GR wr a n c G).out;obtain⟨ra,rc,z0,hL⟩:=hX.row i hlt;haveI z0':CE wr (ab a) (ao a+i) (.slice ra (nb G i n).length rc):=⟨z0,hX.old j0⟩;haveI zL:IZ wr ra (nb G i n).length rc (fun t=>(((nb G i n).getD t 0:Nat):Int)):=⟨hL⟩;have y0:=hX.idx i hlt;have HA:=fun W [IZ W ra (nb G i n).length rc (fun t=>(((nb G i n).getD t 0:Nat):Int))]=>Lib.hid (zPf W ra (nb G i n).length rc (fun t=>(((nb G i n).getD t 0:Nat):Int)) fun t h1 h2=>by have:=zQe (G:=G) (v:=i) (m:=n) h1 h2;show(((nb G i n).getD (t-1) 0:Nat):Int)<(((nb G i n).getD t 0:Nat):Int);omega);have hB1:=Lib.hid iB;clear hX z0 hL iB;go_wp2_with fail;refine(HA _).out.mono ?_;rintro o w3 ⟨rfl,b3⟩;have B1:Bag w w3 _:=hB1.out.on zbh;haveI iV3:=B1.vb 0 rfl;go_wp2_with fail
    go_loopw [5,6] (fun x _ wq=>∃k:Nat,k≤(nb G i n).length∧x=.int .i64 k∧Bag w wq [box w.heap.size 112 [.slice a n c]]) (fun x _ _=>(nb G i n).length-(intOf x).toNat)
    case atStart=>exact⟨0,j0,rfl,B1⟩
    case round=>
     clear B1 iV iV3 bw b3 zL z0' HA hB1;rename World=>wq;obtain⟨k,hk,rfl,iB⟩:=hrel;haveI bw:=iB.fr';haveI iV:=iB.vb 0 rfl;have hX:=(inferInstance:GR wq a n c G).out;obtain⟨qa,qc,z0,hL⟩:=hX.row i hlt;haveI z0':CE wq (ab a) (ao a+i) (.slice qa (nb G i n).length qc):=⟨z0,hX.old j0⟩;have l3:=hL.fits;have l4:=hL.lim
     by_cases hlk:k<(nb G i n).length
     · obtain⟨hx1,hx2⟩:=zHv hlk;have y1:=hL.idx k hlk;haveI z1:CE wq (ab qa) (ao qa+k) (.int .i64 ((((nb G i n).getD k 0:Nat)):Int)):=⟨hL.cell k hlk,hL.old j0⟩;obtain⟨x,hx⟩:∃x,x=(nb G i n).getD k 0:=⟨_,rfl⟩;rw[←hx]at hx1 hx2 z1;obtain⟨xa,xc,z2,hL2⟩:=hX.row x hx1;haveI z2':CE wq (ab a) (ao a+x) (.slice xa (nb G x n).length xc):=⟨z2,hX.old j0⟩;haveI zL:IZ wq xa (nb G x n).length xc (fun t=>(((nb G x n).getD t 0:Nat):Int)):=⟨hL2⟩;have y2:=hX.idx x hx1;have hxi:¬x=i:=fun e=>(by rw[e,HOK.out.irr]at hx2;cases hx2);obtain⟨t,ht1,ht2⟩:=zJt (G:=G) (v:=x) (m:=n) hlt (by rw[HOK.out.sym];exact hx2);have hin:inB (fun t=>(((nb G x n).getD t 0:Nat):Int)) (i:Int) (nb G x n).length=true:=zN1 ht1 (by show(((nb G x n).getD t 0:Nat):Int)=_;rw[ht2]);have HIN:=fun W [IZ W xa (nb G x n).length xc (fun t=>(((nb G x n).getD t 0:Nat):Int))]=>Lib.hid (zMV W xa (nb G x n).length xc (fun t=>(((nb G x n).getD t 0:Nat):Int)) (i:Int));rw[hin]at HIN;have d0:decide ((x:Int)<0)=false:=decide_eq_false j0;have d1:decide ((n:Int)≤(x:Int))=false:=decide_eq_false j0;have d2:((x:Int)==(i:Int))=false:=ju;have d3:¬n≤x:=j0;clear hX hL hL2 hx z0 z2 hx2 ht1 ht2 hin;go_wp2_with fail;refine(HIN _).out.mono ?_;rintro o w3 ⟨rfl,b3⟩;go_wp2_with fail;go_roundw
       case rel=>exact⟨k+1,j0,jm,inferInstance⟩
       case measure=>exact jb
     · have hke:k=(nb G i n).length:=j0;clear hX hL z0;go_wp2_with fail;go_roundw
       case rel=>exact⟨i+1,j0,jm,iB⟩
       case measure=>exact jb
  · obtain rfl:i=n:=j0;go_wp2_with fail;go_ret;exact⟨rfl,bw⟩
end Go.Proofs.YtmbkgapknoammaaGreatDoor
set_option maxRecDepth 100000
set_option maxHeartbeats 20000000
namespace Go.Proofs.YtmbkgapknoammaaGreatDoor
open Go.RowKit Sp
theorem zEQ(T E:TypeId)(z:Value)(s b:Nat){w0 w:World}{B:List It}(hB:Bag w0 w B)(k:Nat){v:Value}{n:Nat}{xs:List Value}(hk:B[k]? =some (row E s v n xs))(g:Nat)(us:List Value)(hl:us.length=s)(hc:∀j u,us[j]? =some u→w.cell? ⟨g,j,none⟩=some u)(h1:∀u∈us,u.oneCell'=true)(hn:n≤1048576)(hb:b≤64)(ty:TypeId)
 (und:Tryz.prog.underlying T=some (.slice E)) (inf:(Tryz.prog.info? E).map (fun i=>(i.zero,i.size,i.bytes))=some (some z,s,b)) (hz:z.cells.size=s) (h0:0<s) :
 ∃v' w',(Builtin.append_ #[T,T] ty #[v,.slice (some ⟨g,0,none⟩) 1 1]).run Tryz.prog w=.ok v' w'∧Bag w0 w' (B.set k (row E s v' (n+1) (xs++us)))∧v'≠.slice none 0 0:=by
 obtain⟨i0,hi,hz0,hz1,hz2⟩:=info_parts inf;have h64:(n+1)*b≤1048577*64:=Nat.mul_le_mul j0 hb;obtain⟨v',w',hr,h1,h2,h3,h4⟩:=run_append_own_at (P:=Tryz.prog) w 0 T ty E i0 z s b und hi hz0 hz1 hz2 hz h0 v n xs (hB.own k hk) ⟨g,0,none⟩ 1 1 us (by rw[hl,Nat.one_mul])
  (fun j u hu=>by rw[Addr.add_lit,Nat.zero_add];exact hc j u hu) h1 jJ (Nat.le_trans h64 ja) (Nat.zero_le _)
 exact⟨v',w',hr,hB.app k hk h1 h2 h4,fun e=>by have:=(h3.1 e).2;omega⟩
theorem zEg{ops:Array Oper}{o:Oper}{a:Act}{K:Act→World→Prop}{Q:Exit→Act→World→Prop}{w:World}{E':Prop}(T E:TypeId)(z:Value)(s b:Nat)(hgd:o.guard=none)(sl x:Operand)
 (ho:o.op=.call { callee:=.builtin .append,args:=#[sl,x],argTypes:=#[T,T] }) (w0:World) {B:List It} [hB:Bag w0 w B] (k:Nat) {v:Value} {n:Nat} {xs:List Value} (hk:B[k]? =some (row E s v n xs)) (hs:a.eval sl=v) (g:Nat) (us:List Value) (hl:us.length=s) (hx:a.eval x=.slice (some ⟨g,0,none⟩) 1 1) (hc:∀j u,us[j]? =some u→w.cell? ⟨g,j,none⟩=some u) (h1:∀u∈us,u.oneCell'=true) (hn:n≤1048576) (hb:b≤64)
 (d:Nat) (hd:o.dst=some d) (h:∀v' w',Bag w0 w' (B.set k (row E s v' (n+1) (xs++us)))→v'≠.slice none 0 0→K (a.put (some d) v') w') (und:Tryz.prog.underlying T=some (.slice E):=by kernel_rfl) (inf:(Tryz.prog.info? E).map (fun i=>(i.zero,i.size,i.bytes))=some (some z,s,b):=by kernel_rfl) (hz:z.cells.size=s:=by rfl) (h0:0<s:=by decide) :
 if Region.wanted o (yielded ops a.tmps)=true then Oper.wp Tryz.prog o a w K Q else E':=by
 have hw:Region.wanted o (yielded ops a.tmps)=true:=by simp[Region.wanted,hgd]
 rw[if_pos hw];obtain⟨v',w',hr,h1,h2⟩:=zEQ T E z s b hB k hk g us hl hc h1 hn hb o.type und inf hz h0;unfold Oper.wp execOp;simp only[ho,resolve,invoke,builtin,Sem.run_bind,Sem.run_pure,Result.andThen_ok,List.map_toArray,List.map_cons,List.map_nil,hs,hx,hr];have:=h v' w' h1 h2;rw[←hd]at this;exact this
theorem zFz{ops:Array Oper}{rest:List Oper}{o:Oper}{a:Act}{Q:Exit→Act→World→Prop}{w:World}(T E:TypeId)(z:Value)(s b:Nat)(hgd:o.guard=none)(sl x:Operand)
 (ho:o.op=.call { callee:=.builtin .append,args:=#[sl,x],argTypes:=#[T,T] }) (w0:World) {B:List It} [hB:Bag w0 w B] (k:Nat) {v:Value} {n:Nat} {xs:List Value} (hk:B[k]? =some (row E s v n xs)) (hs:a.eval sl=v) (g:Nat) (us:List Value) (hl:us.length=s) (hx:a.eval x=.slice (some ⟨g,0,none⟩) 1 1) (hc:∀j u,us[j]? =some u→w.cell? ⟨g,j,none⟩=some u) (h1:∀u∈us,u.oneCell'=true) (hn:n≤1048576) (hb:b≤64)
 (h:∀v' w',Bag w0 w' (B.set k (row E s v' (n+1) (xs++us)))→v'≠.slice none 0 0→wpList Tryz.prog ops Q rest (a.put o.dst v') w') (und:Tryz.prog.underlying T=some (.slice E):=by kernel_rfl) (inf:(Tryz.prog.info? E).map (fun i=>(i.zero,i.size,i.bytes))=some (some z,s,b):=by kernel_rfl) (hz:z.cells.size=s:=by rfl) (h0:0<s:=by decide):wpList Tryz.prog ops Q (o::rest) a w:=by
 refine wpList_plain hgd fun K hK=>?_;obtain⟨v',w',hr,h1,h2⟩:=zEQ T E z s b hB k hk g us hl hc h1 hn hb o.type und inf hz h0;unfold Oper.wp execOp;simp only[ho,resolve,invoke,builtin,Sem.run_bind,Sem.run_pure,Result.andThen_ok,List.map_toArray,List.map_cons,List.map_nil,hs,hx,hr];exact hK _ _ (h v' w' h1 h2)
theorem zNS{w:World}{g:Nat}{x y z:Value}(h0:w.cell? ⟨g,0,none⟩=some x)(h1:w.cell? ⟨g,1,none⟩=some y)(h2:w.cell? ⟨g,2,none⟩=some z):∀j u,[x,y,z][j]? =some u→w.cell? ⟨g,j,none⟩=some u
 | 0,u,h=>by injection h with h;rw[←h];exact h0
 | 1,u,h=>by injection h with h;rw[←h];exact h1
 | 2,u,h=>by injection h with h;rw[←h];exact h2
 | _+3,u,h=>KM
theorem zSn{x y z:Value}(h0:x.oneCell'=true)(h1:y.oneCell'=true)(h2:z.oneCell'=true):∀u∈ [x,y,z],u.oneCell'=true:=by
 intro u hu;simp only[List.mem_cons,List.not_mem_nil,or_false]at hu;rcases hu with rfl | rfl | rfl <;> assumption
def zBk:List (Nat×Nat×Nat)→List Value
 | []=> []
 | e::l=>.int .i64 (e.1:Int)::.int .i64 (e.2.1:Int)::.int .u64 (e.2.2:Int)::zBk l
theorem zEb:∀(l m:List (Nat×Nat×Nat)),zBk (l++m)=zBk l++zBk m
 | [],_=>rfl
 | e::l,m=>by show _::_::_::zBk (l++m)=_;rw[zEb l m];rfl
theorem zEa:∀l:List (Nat×Nat×Nat),(zBk l).length=l.length*3
 | []=>rfl
 | _::l=>by show(zBk l).length+1+1+1=(l.length+1)*3;rw[zEa l];omega
theorem zD9:∀(l:List (Nat×Nat×Nat)) (i:Nat) (e:Nat×Nat×Nat),l[i]? =some e→(zBk l)[i*3]? =some (.int .i64 (e.1:Int))∧(zBk l)[i*3+1]? =some (.int .i64 (e.2.1:Int))∧(zBk l)[i*3+2]? =some (.int .u64 (e.2.2:Int))
 | [],_,_,h=>KM
 | a::l,0,e,h=>by injection h with h;subst h;exact⟨rfl,rfl,rfl⟩
 | a::l,i+1,e,h=>by
  have:=zD9 l i e h;rw[show(i+1)*3=i*3+1+1+1 by omega,show i*3+1+1+1+1=(i*3+1)+1+1+1 by omega,show i*3+1+1+1+2=(i*3+2)+1+1+1 by omega];exact this
class EL(w:World)(a:Option Addr)(n c:Nat)(E:outParam (Nat→Nat×Nat×Nat)):Prop where
 fits:n≤c
 lim:c≤9223372036854775807
 addr:0<n→a=some ⟨ab a,ao a,none⟩
 c0:∀i,i<n→w.cell? ⟨ab a,ao a+i*3,none⟩=some (.int .i64 ((E i).1:Int))
 c1:∀i,i<n→w.cell? ⟨ab a,ao a+i*3+1,none⟩=some (.int .i64 ((E i).2.1:Int))
 c2:∀i,i<n→w.cell? ⟨ab a,ao a+i*3+2,none⟩=some (.int .u64 ((E i).2.2:Int))
 old:0<n→ab a<w.heap.size
section
variable {w w':World}{a:Option Addr}{n c:Nat}{E:Nat→Nat×Nat×Nat}
theorem EL.below(h:EL w a n c E)(hb:Below w.heap.size w w'):EL w' a n c E:=
 ⟨h.fits,h.lim,h.addr,fun i hi=>by rw[hb.cell (p:=⟨ab a,ao a+i*3,none⟩) (h.old j0)];exact h.c0 i hi,fun i hi=>by rw[hb.cell (p:=⟨ab a,ao a+i*3+1,none⟩) (h.old j0)];exact h.c1 i hi,fun i hi=>by rw[hb.cell (p:=⟨ab a,ao a+i*3+2,none⟩) (h.old j0)];exact h.c2 i hi,fun hn=>Nat.lt_of_lt_of_le (h.old hn) hb.size⟩
instance EL.dr[h:EL w a n c E]:EL w.drew a n c E:=h.below (Below.refl _ _).drew
instance EL.dn(k:Nat)[h:EL w a n c E]:EL (w.drewN k) a n c E:=h.below (below_drewN (Below.refl _ _) _)
instance EL.al(o:Obj)[h:EL w a n c E]:EL (w.alloc o) a n c E:=h.below ((Below.refl _ _).alloc (Nat.le_refl _) _)
instance EL.fr(L:World)[f:From L w][h:EL L a n c E]:EL w a n c E:=h.below f.out
theorem EL.z0(h:EL w a n c E){i:Nat}(hi:i<n):CE w (ab a) (ao a+i*3) (.int .i64 ((E i).1:Int)):=⟨h.c0 i hi,h.old j0⟩
theorem EL.z1(h:EL w a n c E){i:Nat}(hi:i<n):CE w (ab a) (ao a+i*3+1) (.int .i64 ((E i).2.1:Int)):=⟨h.c1 i hi,h.old j0⟩
theorem EL.z2(h:EL w a n c E){i:Nat}(hi:i<n):CE w (ab a) (ao a+i*3+2) (.int .u64 ((E i).2.2:Int)):=⟨h.c2 i hi,h.old j0⟩
theorem EL.idx(h:EL w a n c E)(i:Nat)(hi:i<n)(W:World):(Instr.indexAt 172 (.slice a n c) (.int .i64 (i:Int))).run Tryz.prog W=.ok (.pointer (some ⟨ab a,ao a+i*3,none⟩)) W:=by
 have ha:=h.addr j0;generalize ab a=b at *;generalize ao a=o at *;subst ha;rw[run_indexAt_slice _ _ _ _ _ _ _ (show Tryz.prog.underlying 172 =some (.slice (Tryz.prog.elem 172))by kernel_rfl),if_pos ⟨j0,j0⟩,(show∀w,(Go.sizeOf (Tryz.prog.elem 172)).run Tryz.prog w=.ok 3 w from fun _=>je)];simp only[Result.andThen,Int.toNat_natCast,Addr.add_lit]
end
theorem zQa{w:World}{v:Value}{n:Nat}{l:List (Nat×Nat×Nat)}(h:w.ownsRow 0 175 3 v n (zBk l)):∃a c,v=.slice a n c∧EL w a n c (fun t=>l.getD t (0,0,0))∧(0<n→v.ownBlock=some (ab a)):=by
 have hl:l.length=n:=by have:=h.1;rw[zEa]at this;omega
 rcases h.2 with⟨rfl,h0⟩ | ⟨g,cap,cur,rfl,hb,hg,hn,hm,hs,hx⟩
 · subst h0;exact⟨none,0,rfl,⟨j0,j0,j0,fun i hi=>j0,fun i hi=>j0,fun i hi=>j0,j0⟩,j0⟩
 · have hml:maxLen≤9223372036854775807:=ja;have hcell:∀i v,(zBk l)[i]? =some v→w.cell? ⟨g,i,none⟩=some v:=fun i v hi=>by
    have hi2:i<(zBk l).length:=(List.getElem?_eq_some_iff.1 hi).1;have h1:cur[i]? =some v:=by
     rw[←Array.getElem?_toList,←hi,←hx,List.getElem?_take_of_lt (by rw[zEa]at hi2;omega)]
    simp[World.cell?,hg,h1]
   have hget:∀i,i<n→l[i]? =some (l.getD i (0,0,0)):=fun i hi=>Qt;refine⟨_,cap,rfl,⟨hn,Nat.le_trans hm hml,fun _=>rfl,fun i hi=>?_,fun i hi=>?_,fun i hi=>?_,fun _=>(Array.getElem?_eq_some_iff.1 hg).1⟩,fun _=>rfl⟩
   · show w.cell? ⟨g,0+i*3,none⟩=_;rw[Nat.zero_add];exact hcell _ _ (zD9 l i _ (hget i hi)).1
   · show w.cell? ⟨g,0+i*3+1,none⟩=_;rw[Nat.zero_add];exact hcell _ _ (zD9 l i _ (hget i hi)).2.1
   · show w.cell? ⟨g,0+i*3+2,none⟩=_;rw[Nat.zero_add];exact hcell _ _ (zD9 l i _ (hget i hi)).2.2
def cO(S:Nat→Nat):Nat→Nat→Nat
 | 0,_=>0
 | j+1,t=>if S j≤t then j else cO S j t
theorem zRG{r c q:Nat}{S I F:Nat→Nat}(h:Val r c q S I F){j t:Nat}(hj:j<c)(h1:S j≤t)(h2:t<S (j+1)):cO S c t=j:=by
 have key:∀d,j+1+d≤c→cO S (j+1+d) t=j:=by
  intro d
  induction d with
  | zero=>intro _;show(if S j≤t then j else _)=j;rw[if_pos h1]
  | succ d ih=>
   intro hd;have h3:=h.mono d (j+1) j0;show(if S (j+1+d)≤t then j+1+d else cO S (j+1+d) t)=j;rw[if_neg j0];exact ih j0
 have:=key (c-(j+1)) j0;rwa[show j+1+(c-(j+1))=c by omega]at this
theorem zRF{r c q:Nat}{S I F:Nat→Nat}(h:Val r c q S I F){t:Nat}(ht:t<q):cO S c t<c∧S (cO S c t)≤t∧t<S (cO S c t+1):=by
 have key:∀d,d≤c→t<S d→∃j,j<d∧S j≤t∧t<S (j+1):=by
  intro d
  induction d with
  | zero=>intro _ h0;rw[h.z]at h0;omega
  | succ d ih=>
   intro hd h0
   by_cases hc:S d≤t
   · exact⟨d,j0,hc,h0⟩
   · obtain⟨j,a,b⟩:=ih j0 j0;exact⟨j,j0,b⟩
 obtain⟨j,h1,h2,h3⟩:=key c (Nat.le_refl _) (by rw[h.e];exact ht);rw[zRG h h1 h2 h3];exact⟨h1,h2,h3⟩
def enL(S I F:Nat→Nat)(c k:Nat):List (Nat×Nat×Nat):=(List.range k).map fun t=>(I t,cO S c t,F t)
theorem zGC(S I F:Nat→Nat)(c k:Nat):enL S I F c (k+1)=enL S I F c k++ [(I k,cO S c k,F k)]:=by unfold enL;rw[List.range_succ,List.map_append];rfl
theorem zRl(S I F:Nat→Nat)(c:Nat){k t:Nat}(h:t<k):(enL S I F c k).getD t (0,0,0)=(I t,cO S c t,F t):=by
 unfold enL;rw[List.getD_eq_getElem?_getD,zAy _ h];rfl
theorem EL.to{w:World}{a:Option Addr}{n c:Nat}{E E':Nat→Nat×Nat×Nat}(h:EL w a n c E)(e:∀i,i<n→E i=E' i):EL w a n c E':=
 ⟨h.fits,h.lim,h.addr,fun i hi=>by rw[←e i hi];exact h.c0 i hi,fun i hi=>by rw[←e i hi];exact h.c1 i hi,fun i hi=>by rw[←e i hi];exact h.c2 i hi,h.old⟩
def ent(a:Option Addr)(n c:Nat)(E:Nat→Nat×Nat×Nat):It where
 blk g:=0<n∧ab a=g
 P w:=EL w a n c E
 loc {w w'} h hb:=⟨h.fits,h.lim,h.addr,fun i hi=>by rw[World.cell?_of_block (w:=w) (w':=w') (a:=⟨ab a,ao a+i*3,none⟩) (hb (ab a) ⟨j0,rfl⟩)];exact h.c0 i hi,fun i hi=>by rw[World.cell?_of_block (w:=w) (w':=w') (a:=⟨ab a,ao a+i*3+1,none⟩) (hb (ab a) ⟨j0,rfl⟩)];exact h.c1 i hi,fun i hi=>by rw[World.cell?_of_block (w:=w) (w':=w') (a:=⟨ab a,ao a+i*3+2,none⟩) (hb (ab a) ⟨j0,rfl⟩)];exact h.c2 i hi,fun hn=>by
  have h1:=h.c0 0 hn;rw[←World.cell?_of_block (w:=w) (w':=w') (a:=⟨ab a,ao a+0*3,none⟩) (hb (ab a) ⟨hn,rfl⟩)]at h1;exact World.block_lt_of_cell? w' ⟨ab a,ao a+0*3,none⟩ h1⟩
 lt h g hg:=Xm
attribute [local irreducible] Calls
theorem zEk(w:World)[Tb w](r c q:Nat)(hr:r≤64)(hc:c≤64)(hq:q≤4096)(aS aI aV:Option Addr)(cS cI cV:Nat)(S I F:Nat→Nat)[hM:MX w r c aS cS aI q cI aV cV S I F]:Calls Tryz.prog 139 #[.agg #[.int .i64 r,.int .i64 c,.slice aS (c+1) cS,.slice aI q cI,.slice aV q cV]] w fun o w'=>∃oa oc,o=.returned (.slice oa q oc)∧Bag w w' [ent oa q oc (fun t=>(I t,cO S c t,F t))]:=by
 have l1:=hM.s.lim;have l2:=hM.s.fits;have l3:=hM.i.lim;have l4:=hM.i.fits;have l5:=hM.v.lim;have l6:=hM.v.fits;have HOK:=Lib.hid hM.ok;have HC:=fun W [Tb W] [k:MX W r c aS cS aI q cI aV cV S I F]=>Lib.hid (frm (zBT W r c q hr hc hq aS aI aV cS cI cV S I F));go_enter Tryz.func139,Tryz.ntmps139;go_wp2_with fail;refine(HC _).out.mono ?_;rintro o w1 ⟨rfl,b1⟩;haveI B1:Bag w w1 [box w.heap.size 69 [.int .i64 r,.int .i64 c,.slice aS (c+1) cS,.slice aI q cI,.slice aV q cV]]:=by
  haveI:=(Bag.nil w).var 69 [.int .i64 r,.int .i64 c,.slice aS (c+1) cS,.slice aI q cI,.slice aV q cV] rfl;exact inferInstance
 have B2:=B1.nilr 175 3;haveI iV:=B2.vb 0 rfl;go_wp2_with fail
 go_loopw [3,4,5] (fun v x _ wr=>∃j:Nat,j≤c∧x=.int .i64 j∧Bag w wr [box w.heap.size 69 [.int .i64 r,.int .i64 c,.slice aS (c+1) cS,.slice aI q cI,.slice aV q cV],row 175 3 v (S j) (zBk (enL S I F c (S j)))]) (fun _ x _ _=>c-(intOf x).toNat)
 case atStart=>exact⟨0,j0,rfl,by rw[HOK.out.z];exact B2⟩
 case round=>
  clear B1 B2 iV b1;rename Value=>tv;obtain⟨j,hj,rfl,iB⟩:=hrel;haveI bw:=iB.fr';haveI iV:=iB.vb 0 rfl;have hX:=(inferInstance:MX wr r c aS cS aI q cI aV cV S I F)
  by_cases hlt:j<c
  · haveI z0:=hX.ceS (t:=j) j0;have y0:=hX.s.idx j j0;have hs1:=HOK.out.m j hlt;have hs2:=HOK.out.le (t:=j+1) j0;clear hX;go_wp2_with fail
    go_loopw [3,5] (fun v x wq=>∃k:Nat,S j≤k∧k≤S (j+1)∧x=.int .i64 k∧Bag w wq [box w.heap.size 69 [.int .i64 r,.int .i64 c,.slice aS (c+1) cS,.slice aI q cI,.slice aV q cV],row 175 3 v k (zBk (enL S I F c k))]) (fun _ x _=>S (j+1)-(intOf x).toNat)
    case atStart=>exact⟨S j,j0,j0,rfl,iB⟩
    case round=>
     clear iB iV bw z0;rename Value=>uv;rename World=>wq;obtain⟨k,hk0,hk,rfl,iB⟩:=hrel;haveI bw:=iB.fr';haveI iV:=iB.vb 0 rfl;have hX:=(inferInstance:MX wq r c aS cS aI q cI aV cV S I F);haveI z1:=hX.ceS (t:=j+1) j0;have y1:=hX.ix1 j hlt;obtain⟨s1,hs⟩:∃s1,s1=S (j+1):=⟨_,rfl⟩;rw[←hs]at z1 hk hs2
     by_cases hlk:k<s1
     · have y2:=hX.i.idx k j0;haveI z2:=hX.ceI (t:=k) j0;have y3:=hX.v.idx k j0;haveI z3:=hX.ceV (t:=k) j0;have HE:=Lib.hid (show zBk (enL S I F c (k+1))=zBk (enL S I F c k)++ [.int .i64 (I k:Int),.int .i64 (j:Int),.int .u64 (F k:Int)]by
        rw[zGC,zEb,zRG HOK.out hlt hk0 (by rw[←hs];exact hlk)];rfl)
       have HS:=Lib.hid hs;clear hX hs;obtain⟨x,hx⟩:∃x,x=I k:=⟨_,rfl⟩;obtain⟨y,hy⟩:∃y,y=F k:=⟨_,rfl⟩;rw[←hx]at z2;rw[←hy]at z3;rw[←hx,←hy]at HE;clear hx hy;go_wp2_with fail;refine bgj (fun w'=>Below wq.heap.size wq w') [14,15] je (zbh) (fun hHeld=>?_);simp only[List.size_toArray,List.length_cons,List.length_nil,Nat.reduceAdd,Array.replicate_succ,Array.replicate_zero,List.push_toArray,List.nil_append,List.cons_append];refine tk 0 30 [14,15] ?_;refine tk 1 31 [2,4,5,12,13,14,15] ?_;refine tk 2 32 [4,5,12,13,14,15] ?_;refine tk 3 33 [4,5,12,13,14,15] ?_;refine tk 4 34 [5,12,13,14,15] ?_;refine tk 5 35 [12,13,14,15] ?_;refine tk 6 36 [12,13,14,15] ?_;refine tk 7 37 [8,10,11,12,13,14,15] ?_;refine tk 8 38 [10,11,12,13,14,15] ?_;refine tk 9 39 [10,11,12,13,14,15] ?_;refine tk 10 40 [11,12,13,14,15] ?_;refine tk 11 41 [12,13,14,15] ?_;refine tk 12 42 [13,14,15] ?_;refine stj 13 (h:=fun K hK=>?_);go_simp;refine hK.out _ _ (Or.inr zbh) ?_;clear hK K
       try simp only[List.setIfInBounds_toArray,List.set_cons_zero,List.set_cons_succ]
       refine stj 14 (h:=fun K hK=>?_);refine zEg 172 175 (.agg #[.int .i64 0,.int .i64 0,.int .u64 0]) 3 24 jA _ _ jA w 1 jA jA _ [.int .i64 (x:Int),.int .i64 (j:Int),.int .u64 (y:Int)] jA jA (zNS jj jj jj) (zSn rfl rfl rfl) ?_ ja _ jA ?_
       · exact j0
       intro v5 w5 B5 hv5;refine hK.out _ _ (Or.inl ja) ?_;clear hK K
       try simp only[Act.put,List.setIfInBounds_toArray,List.set_cons_zero,List.set_cons_succ]
       refine stj 15 (h:=fun K hK=>?_);go_simp;refine hK.out _ _ (Or.inl ja) ?_;clear hK K
       try simp only[List.setIfInBounds_toArray,List.set_cons_zero,List.set_cons_succ]
       refine enj je ?_ _;rw[←HE.out]at B5;go_wp2_with fail;go_roundw
       case rel=>exact⟨k+1,j0,by rw[←HS.out];omega,jm,B5⟩
       case measure=>rw[←HS.out];simp[intOf];omega
     · have hks:k=S (j+1):=j0;clear hX;go_wp2_with fail;go_roundw
       case rel=>exact⟨j+1,j0,jm,by rw[←hks];exact iB⟩
       case measure=>exact jb
  · obtain rfl:j=c:=j0;rw[HOK.out.e]at iB;obtain⟨oa,oc,rfl,hE,hb⟩:=zQa (iB.own 1 rfl);clear hX;go_wp2_with fail;go_ret;exact⟨oa,oc,rfl,(iB.to 1 (t':=ent oa q oc (fun t=>(I t,cO S j t,F t))) rfl (fun _=>hE.to fun i hi=>zRl S I F j hi) fun g hg=>KF).sub (List.sublist_cons_self _ _)⟩
end Go.Proofs.YtmbkgapknoammaaGreatDoor
namespace Go.Proofs.YtmbkgapknoammaaGreatDoor
open Go.RowKit Sp
class OB(W:World)(g:Nat):Prop where
 z:∀i,W.frozen? ⟨g,i,none⟩=false
 lt:g<W.heap.size
theorem OB.below{W W':World}{g:Nat}(h:OB W g)(hb:Below W.heap.size W W'):OB W' g:=by
 obtain⟨_,h2⟩:=zA6 hb;exact⟨fun i=>(h2 _ _ h.lt).trans (h.z i),Nat.lt_of_lt_of_le h.lt hb.size⟩
section
variable {W:World}{g:Nat}
instance OB.dr[h:OB W g]:OB W.drew g:=h.below (Below.refl _ _).drew
instance OB.dn(q:Nat)[h:OB W g]:OB (W.drewN q) g:=h.below (below_drewN (Below.refl _ _) _)
instance OB.al(o:Obj)[h:OB W g]:OB (W.alloc o) g:=h.below ((Below.refl _ _).alloc (Nat.le_refl _) _)
instance OB.fr(L:World)[k:From L W][h:OB L g]:OB W g:=h.below k.out
instance OB.se{b i:Nat}{v:Value}[h:OB W g]:OB (W.setCell ⟨b,i,none⟩ v) g:=⟨fun j=>(zAs _ _ _).trans (h.z j),jW⟩
end
@[go_sem] theorem OB.rz (W:World) (g i:Nat) [h:OB W g]:W.frozen? ⟨g,i,none⟩=false:=h.z i
instance CE.sen{W:World}{b i g j:Nat}{v u:Value}[h:CE W b i v][k:NB b g]:CE (W.setCell ⟨g,j,none⟩ u) b i v:=⟨(zAm k.out _ _ _).trans h.out,jW⟩
attribute [local irreducible] Calls
theorem zJo(s:Bool)(X:Nat)(E:Int)(more:Bool)(mode:Int):zCg s X E more mode<18446744073709551616:=zGA _ _ _
theorem zOU(d d':Option (Int×Int))(mode:Int):zEH d d' mode<18446744073709551616:=by
 unfold zEH;split
 · split
   · exact ja
   · split
     · exact ja
     · exact zJo _ _ _ _ _
 · exact ja
theorem zMq(d:Option (Int×Int))(mode:Int):zBc d mode<18446744073709551616:=by
 unfold zBc;split
 · exact ja
 · split
   · exact ja
   · split
     · exact ja
     · exact zJo _ _ _ _ _
end Go.Proofs.YtmbkgapknoammaaGreatDoor
namespace Go.Proofs.YtmbkgapknoammaaGreatDoor
open Go.RowKit Sp
theorem zEm{f:Nat→Int} :∀(m a q:Nat),m≤q→zAR f a m=0→zAR f a q=zAR f (a+m) (q-m):=by
 intro m
 induction m with
 | zero=>intro a q _ _;rfl
 | succ m ih=>
  intro a q hq h;have h0:=zIA _ _ h a (Nat.le_refl _) j0;rw[zNm h0 j0]at h ⊢;rw[ih (a+1) (q-1) j0 h];congr 1 <;> omega
end Go.Proofs.YtmbkgapknoammaaGreatDoor
namespace Go.Proofs.YtmbkgapknoammaaGreatDoor
open Go.RowKit Sp
theorem DM.put{w:World}{base g n cap:Nat}{d:Nat→Option (Int×Int)}{A:Nat→Option Addr}{C:Nat→Nat}(h:DM w base (.slice (some ⟨g,0,none⟩) n cap) n d A C){i:Nat}(hi:i<n)
 {dk:Option (Int×Int)} {a1:Option Addr} {c1:Nat} (hm:Mag w a1 (nl (zA1 dk).natAbs) c1 (zA1 dk).natAbs) (hne:0<nl (zA1 dk).natAbs→ab a1≠g) (hf:0<nl (zA1 dk).natAbs→base≤ab a1) :
 DM ((((w.setCell ⟨g,i*4,none⟩ (.bool (zAj dk))).setCell ⟨g,i*4+1,none⟩ (.bool (decide (zA1 dk<0)))).setCell ⟨g,i*4+2,none⟩ (.slice a1 (nl (zA1 dk).natAbs) c1)).setCell ⟨g,i*4+3,none⟩ (.int .i64 (zA7 dk))) base
  (.slice (some ⟨g,0,none⟩) n cap) n (fun t=>if t=i then dk else d t) (fun t=>if t=i then a1 else A t) (fun t=>if t=i then c1 else C t):=
 ⟨(h.out.put hi hm hne).1,fun t ht hp=>by
  by_cases e:t=i
  · simp only[if_pos e]at hp ⊢;exact hf hp
  · simp only[if_neg e]at hp ⊢;exact h.fr t ht hp⟩
theorem DM.congr{w:World}{base k:Nat}{v:Value}{d d':Nat→Option (Int×Int)}{A:Nat→Option Addr}{C:Nat→Nat}(h:DM w base v k d A C)(e:∀i,i<k→d i=d' i):DM w base v k d' A C:=
 ⟨h.out.congr e,fun i hi hp=>h.fr i hi (by rw[e i hi];exact hp)⟩
attribute [local irreducible] Calls
end Go.Proofs.YtmbkgapknoammaaGreatDoor
set_option maxRecDepth 100000
set_option maxHeartbeats 20000000
namespace Go.Proofs.YtmbkgapknoammaaGreatDoor
open Go.RowKit Sp
theorem zN8{f:Nat}(h:f<18446744073709551616):(((f:Nat):Int)==0||((f:Nat):Int)==9223372036854775808)=zB0 f:=by
 unfold zB0 fM;rw[Bool.eq_iff_iff];simp;omega
attribute [local irreducible] Calls
theorem zIh(w:World)[Tb w](v s:Bool)(a:Option Addr)(n c:Nat)(e:Int)(d:Option (Int×Int))[hx:DS w v s a n c e d]:Calls Tryz.prog 73 #[.agg #[.bool v,.bool s,.slice a n c,.int .i64 e]] w fun o w'=>o=.returned (.int .u64 (zBc d 0:Nat))∧Below w.heap.size w w':=by
 have HR:=fun W [i:DS W v s a n c e d] [Tb W]=>Lib.hid (frm (zKU W v s a n c e d 0 i.out tb));generalize ((zBc d 0:Nat):Int)=z at *;go_enter Tryz.func73,Tryz.ntmps73;go_wp2_with fail;refine(HR _).out.mono ?_;rintro o w1 ⟨rfl,b1⟩;go_wp2_with fail;go_ret;exact⟨rfl,zbh⟩
theorem zKW(w:World)[Tb w](v s:Bool)(a:Option Addr)(n c:Nat)(e:Int)(d:Option (Int×Int))[hx:DS w v s a n c e d](v' s':Bool)(a':Option Addr)(n' c':Nat)(e':Int)(d':Option (Int×Int))[hy:DS w v' s' a' n' c' e' d']:Calls Tryz.prog 75 #[.agg #[.bool v,.bool s,.slice a n c,.int .i64 e],.agg #[.bool v',.bool s',.slice a' n' c',.int .i64 e']] w fun o w'=>o=.returned (.int .u64 (zEH d d' 0:Nat))∧Below w.heap.size w w':=by
 have HR:=fun W [i:DS W v s a n c e d] [j:DS W v' s' a' n' c' e' d'] [Tb W]=>Lib.hid (frm (zMk W v s a n c e d v' s' a' n' c' e' d' 0 i.out j.out tb));generalize ((zEH d d' 0:Nat):Int)=z at *;go_enter Tryz.func75,Tryz.ntmps75;go_wp2_with fail;refine(HR _).out.mono ?_;rintro o w1 ⟨rfl,b1⟩;go_wp2_with fail;go_ret;exact⟨rfl,zbh⟩
theorem zEZ(w:World)(f:Nat)(hf:f<18446744073709551616):Calls Tryz.prog 74 #[.int .u64 f] w fun o w'=>o=.returned (.bool (zB0 f))∧w=w':=by
 rw[←zN8 hf];generalize ((f:Nat):Int)=z at *
 cases h1:(z==0) <;> cases h2:(z==9223372036854775808) <;>
 · go_enter Tryz.func74,Tryz.ntmps74;go_wp2_with fail;go_ret;exact⟨rfl,rfl⟩
theorem zIi(w:World)[Tb w](x y:Nat)(hx:x<18446744073709551616)(hy:y<18446744073709551616):Calls Tryz.prog 49 #[.int .u64 x,.int .u64 y] w (zAM w (zAO (fof x) (fof y))):=by
 have HX:=fun W [Tb W]=>Lib.hid (frs (zBv x) (zD3 W x hx tb));have HY:=fun W [Tb W]=>Lib.hid (frs (zBv y) (zD3 W y hy tb));have HM:=fun W a c a' c' [i:DS W (zAj (fof x)) (decide (zA1 (fof x)<0)) a (nl (zA1 (fof x)).natAbs) c (zA7 (fof x)) (fof x)] [j:DS W (zAj (fof y)) (decide (zA1 (fof y)<0)) a' (nl (zA1 (fof y)).natAbs) c' (zA7 (fof y)) (fof y)] [Tb W]=>Lib.hid (frF (zMd W _ _ _ _ a a' _ _ c c' _ _ (fof x) (fof y) i.out j.out tb));generalize fof x=dx at *;generalize fof y=dy at *;generalize zAO dx dy=dz at *;go_enter Tryz.func49,Tryz.ntmps49;go_wp2_with fail;refine(HX _).out.mono ?_;rintro o w1 ⟨a1,c1,rfl,i1,b1⟩;go_wp2_with fail;refine(HY _).out.mono ?_;rintro o w2 ⟨a2,c2,rfl,i2,b2⟩;go_wp2_with fail;refine(HM _ _ _ _ _).out.mono ?_;rintro o w3 ⟨a3,c3,rfl,i3,b3,f3⟩;have e1:=b1.out.size;have e2:=b2.out.size;simp at e1;go_wp2_with fail;refine bodyPost_ret (v:=.agg #[.bool (zAj dz),.bool (decide (zA1 dz<0)),.slice a3 (nl (zA1 dz).natAbs) c3,.int .i64 (zA7 dz)]) (by simp only[results,Tryz.results49];go_simp) rfl ?_;exact⟨a3,c3,rfl,Mag.st4 i3.out (fun h=>by have:=f3 h;omega) _ _ _ _,zbh,fun h=>by have:=f3 h;omega⟩
end Go.Proofs.YtmbkgapknoammaaGreatDoor

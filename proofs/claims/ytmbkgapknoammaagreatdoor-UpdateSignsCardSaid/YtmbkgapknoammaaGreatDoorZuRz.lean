/-
  Walks: package sparsekit: Shuffle.
-/
import Derived.Test.YtmbkgapknoammaaGreatDoorZuGq
import Derived.Test.YtmbkgapknoammaaGreatDoorZuKs
import Derived.Test.YtmbkgapknoammaaGreatDoorZuCm
import Derived.Maps.AppendAt
import Derived.Test.YtmbkgapknoammaaGreatDoorZuTj
import Derived.Test.YtmbkgapknoammaaGreatDoorZuGo
import Derived.Test.YtmbkgapknoammaaGreatDoorZuBL
import Derived.Deep.RegionLaw
import Derived.Deep.DeepCutAuto
import Derived.Test.YtmbkgapknoammaaGreatDoorZuGi
namespace Go.Proofs.YtmbkgapknoammaaGreatDoor
open Go.RowKit Sp
theorem zSE:(Tryz.prog.info? 3).map (fun i=>(i.zero,i.size,i.bytes))=some (some (.int .i64 0),1,8):=je
theorem zKq:Tryz.prog.underlying 24 =some (.slice 3):=je
theorem zCF{ops:Array Oper}{rest:List Oper}{o:Oper}{a:Act}{Q:Exit→Act→World→Prop}{w:World}(hgd:o.guard=none)(s x:Operand)
 (ho:o.op=.call { callee:=.builtin .append,args:=#[s,x],argTypes:=#[24,24] }) (base:Nat) (v:Value) (n:Nat) (xs:List Value) (hs:a.eval s=v) (g:Nat) (d:Int)
 (hx:a.eval x=.slice (some ⟨g,0,none⟩) 1 1) (hown:w.ownsRow base 3 1 v n xs) (hcell:w.cell? ⟨g,0,none⟩=some (.int .i64 d)) (hn:n≤4398046511104)
 (hbase:base≤w.heap.size) (h:∀v' w',w'.ownsRow base 3 1 v' (n+1) (xs++ [.int .i64 d])→w.grownBy w' v.ownBlock→(v'.ownBlock=v.ownBlock∨v'.ownBlock=some w.heap.size)→wpList Tryz.prog ops Q rest (a.put o.dst v') w'):wpList Tryz.prog ops Q (o::rest) a w:=by
 obtain⟨i0,hi,hz0,hz1,hz2⟩:=info_parts zSE;refine wpList_append_own_at w hgd s x _ ho base _ i0 (.int .i64 0) 1 8 zKq hi hz0 hz1 hz2 rfl ja v n _ hs hown ⟨g,0,none⟩ 1 1 [.int .i64 d] hx rfl ?_ ?_ ?_ ?_ hbase ?_
 · intro j u hu;have:j=0:=by
    rcases Nat.eq_zero_or_pos j with h | h
    · exact h
    · rw[List.getElem?_eq_none jq]at hu;cases hu
   subst this;simp at hu;subst hu;rw[Addr.add_zero'];exact hcell
 · exact Ks
 · exact jJ
 · exact j0
 · exact KX
theorem zOX{w:World}{base:Nat}{v:Value}{k:Nat}{xs:List Value}(h:w.ownsRow base 3 1 v k xs):(k=0∧v=.slice none 0 0)∨∃g cap,v=.slice (some ⟨g,0,none⟩) k cap∧base≤g∧g<w.heap.size∧k≤cap∧cap≤9223372036854775807∧∀j,j<k→w.cell? ⟨g,j,none⟩=xs[j]? :=by
 rcases h.2 with⟨hv,hk⟩ | ⟨g,cap,cur,hv,hbg,hgg,hkc,hcm,hcs,htake⟩
 · left;exact⟨hk,hv⟩
 · right
   have ho:=h;rw[hv]at ho;exact⟨g,cap,hv,hbg,(Array.getElem?_eq_some_iff.1 hgg).1,hkc,Q7,fun j hj=>ho.cellAt j j0⟩
end Go.Proofs.YtmbkgapknoammaaGreatDoor
namespace Go.Proofs.YtmbkgapknoammaaGreatDoor
open Go.RowKit Sp
def zDj(a n:Int):Int:=a%18446744073709551616%n
end Go.Proofs.YtmbkgapknoammaaGreatDoor
namespace Go.Proofs.YtmbkgapknoammaaGreatDoor
open Go.RowKit Sp
def zA2(l:List Nat):List Value:=l.map fun(x:Nat)=>Value.int .i64 (x:Int)
theorem zD6{l:List Nat}{j x:Nat}(h:l[j]? =some x):(zA2 l)[j]? =some (.int .i64 (x:Int)):=by unfold zA2;rw[List.getElem?_map,h];rfl
theorem zAn(l m:List Nat):zA2 (l++m)=zA2 l++zA2 m:=List.map_append
structure Ils(w:World)(a:Option Addr)(n cap:Nat)(L:Nat→Int):Prop where
 fits:n≤cap
 lim:cap≤9223372036854775807
 addr:0<n→a=some ⟨ab a,ao a,none⟩
 cell:∀i,i<n→w.cell? ⟨ab a,ao a+i,none⟩=some (.int .i64 (L i))
 old:0<n→ab a<w.heap.size
theorem Ils.below{w w':World}{a:Option Addr}{n cap:Nat}{L:Nat→Int}(h:Ils w a n cap L)(hb:Below w.heap.size w w'):Ils w' a n cap L:=
 ⟨h.fits,h.lim,h.addr,fun i hi=>jN,fun hn=>Nat.lt_of_lt_of_le (h.old hn) hb.size⟩
theorem zT6:Tryz.prog.underlying 24 =some (.slice (Tryz.prog.elem 24)):=je
theorem zTe(w:World):(Go.sizeOf (Tryz.prog.elem 24)).run Tryz.prog w=.ok 1 w:=je
theorem Ils.idx{w:World}{a:Option Addr}{n cap:Nat}{L:Nat→Int}(h:Ils w a n cap L)(i:Nat)(hi:i<n)(W:World):(Instr.indexAt 24 (.slice a n cap) (.int .i64 i)).run Tryz.prog W=.ok (.pointer (some ⟨ab a,ao a+i,none⟩)) W:=by
 have ha:=h.addr j0;generalize ab a=b at *;generalize ao a=o at *;subst ha;rw[run_indexAt_slice _ _ _ _ _ _ _ zT6,if_pos ⟨j0,j0⟩,zTe];simp only[Result.andThen,Int.toNat_natCast,Nat.mul_one,Addr.add_lit]
attribute [local irreducible] Calls
end Go.Proofs.YtmbkgapknoammaaGreatDoor
set_option maxRecDepth 100000
set_option maxHeartbeats 4000000
namespace Go.Proofs.YtmbkgapknoammaaGreatDoor
open Go.RowKit Sp
structure RowC(w:World)(g n cap:Nat)(e:TypeId)(z:Nat):Prop where
 lt:z<B^n
 fit:n≤cap
 lim:cap≤9223372036854775807
 row:∃cur:Array Value,w.heap[g]? =some (.cells cur e (0,0))∧cur.size=cap∧∀i,i<n→cur[i]? =some (.int .u32 (dig z i))
theorem RowC.old{w:World}{g n cap:Nat}{e:TypeId}{z:Nat}(h:RowC w g n cap e z):g<w.heap.size:=by
 obtain⟨cur,hc,_⟩:=h.row;exact(Array.getElem?_eq_some_iff.1 hc).1
theorem RowC.cell{w:World}{g n cap:Nat}{e:TypeId}{z:Nat}(h:RowC w g n cap e z)(i:Nat)(hi:i<n):w.cell? ⟨g,i,none⟩=some (.int .u32 (dig z i)):=by
 obtain⟨cur,hc,hs,hd⟩:=h.row;rw[cell_of_row w g i cur e (0,0) hc];exact hd i hi
theorem RowC.free{w:World}{g n cap:Nat}{e:TypeId}{z:Nat}(h:RowC w g n cap e z)(i:Nat):w.frozen? ⟨g,i,none⟩=false:=by
 obtain⟨cur,hc,hs,hd⟩:=h.row;exact frozen_of_row w g i cur e hc
theorem RowC.store{w:World}{g n cap:Nat}{e:TypeId}{z:Nat}(h:RowC w g n cap e z)(i d:Nat)(hi:i<n)(hd:d<4294967296):RowC (w.setCell ⟨g,i,none⟩ (.int .u32 d)) g n cap e (zD1 z i d):=by
 obtain⟨cur,hc,hs,hdig⟩:=h.row;have hf:=h.fit;refine⟨zCL hd hi h.lt,h.fit,h.lim,cur.setIfInBounds i (.int .u32 d),heap_setCell_same w g i cur e _ hc,by simpa using hs,fun k hk=>?_⟩
 by_cases hki:k=i
 · subst hki;rw[zDK _ _ _ hd,Array.getElem?_setIfInBounds_self_of_lt j0]
 · exact Qb
theorem RowC.below{B':Nat}{w w':World}{g n cap:Nat}{e:TypeId}{z:Nat}(h:RowC w g n cap e z)(hb:Below B' w w')(hg:g<B'):RowC w' g n cap e z:=by
 obtain⟨cur,hc,hs,hd⟩:=h.row;exact⟨h.lt,h.fit,h.lim,cur,by rw[hb.block g hg];exact hc,hs,hd⟩
theorem RowC.mag{w:World}{g n cap:Nat}{e:TypeId}{z:Nat}(h:RowC w g n cap e z):Mag w (some ⟨g,0,none⟩) n cap z:=
 ⟨h.lt,h.fit,h.lim,fun _=>rfl,fun i hi=>by rw[zAF,zB8,Nat.zero_add];exact h.cell i hi,fun _=>h.old⟩
theorem RowC.drewN{w:World}{g n cap:Nat}{e:TypeId}{z:Nat}(h:RowC w g n cap e z)(q:Nat):RowC (w.drewN q) g n cap e z:=⟨h.lt,h.fit,h.lim,h.row⟩
theorem zHf{w:World}{base:Nat}{e:TypeId}{v:Value}{n z:Nat}(h:w.ownsRow base e 1 v n (zDq z n))(hz:z<B^n)(hn:0<n):∃g cap,v=.slice (some ⟨g,0,none⟩) n cap∧base≤g∧RowC w g n cap e z:=by
 rcases h.2 with⟨_,h0⟩ | ⟨g,cap,cur,rfl,hbg,hg,hnc,hcm,hcs,htake⟩
 · exact j0
 · refine⟨g,cap,rfl,hbg,hz,hnc,by simp only[maxLen]at hcm;omega,cur,hg,by rw[hcs,Nat.mul_one],fun i hi=>?_⟩;have h1:(zDq z n)[i]? =some (.int .u32 (dig z i)):=zDb hi;rw[←htake,List.getElem?_take,if_pos j0]at h1;simpa using h1
def pc(Q V k:Nat):Nat:=Q*(V%B^k)/B^k
theorem zQS(Q V:Nat):pc Q V 0=0:=by unfold pc;rw[zAe,Nat.mul_zero,Nat.zero_div]
theorem zQT(Q V k:Nat):(pc Q V k+Q*dig V k)%B=dig (Q*V) k∧(pc Q V k+Q*dig V k)/B=pc Q V (k+1):=by
 have h1:pc Q V k+Q*dig V k=Q*(V%B^(k+1))/B^k:=by
  unfold pc;rw[zAi,Nat.mul_add,←Nat.mul_assoc,Nat.add_mul_div_right _ _ (zAo k)]
 rw[h1];refine⟨?_,by unfold pc;rw[Nat.div_div_eq_div_mul,←zA9]⟩;have h2:Q*V=Q*(V%B^(k+1))+Q*(V/B^(k+1))*B*B^k:=by
  have:=Nat.mod_add_div V (B^(k+1))
  conv=>lhs;rw[←this]
  rw[Nat.mul_add,zA9,Nat.mul_comm (B^k*B) (V/_),←Nat.mul_assoc,←Nat.mul_assoc];congr 1;rw[Nat.mul_assoc (Q*_),Nat.mul_assoc (Q*_),Nat.mul_comm (B^k) B]
 unfold dig;rw[h2,Nat.add_mul_div_right _ _ (zAo k),Nat.add_mul_mod_self_right]
theorem zTi{Q V k:Nat}(hQ:0<Q):pc Q V k<Q:=by
 unfold pc;rw[Nat.div_lt_iff_lt_mul (zAo k)];exact Nat.mul_lt_mul_of_pos_left (zAE V k) hQ
theorem zSk{Q V k:Nat}(hQ:Q≤4294967295):pc Q V k≤4294967295:=by
 rcases Nat.eq_zero_or_pos Q with h | h
 · subst h;unfold pc;simp
 · have:=zTi (V:=V) (k:=k) h;omega
theorem zSj{Q V n:Nat}(hV:V<B^n)(hQ:Q≤4294967295):pc Q V n=dig (Q*V) n:=by
 have h:=zSk (V:=V) (k:=n) hQ;have e:pc Q V n=Q*V/B^n:=by unfold pc;rw[zA8 hV]
 unfold dig;rw[←e,Nat.mod_eq_of_lt];rw[zAX];omega
theorem zDr(Z j k:Nat):dig (Z/B^j) k=dig Z (k+j):=by
 unfold dig;rw[Nat.div_div_eq_div_mul,←zAw,Nat.add_comm j k]
theorem zKv{U P n:Nat}(hU:U<B^(n+1))(hP:P<B^(n+1)):∃X d,P+d=X∧d<B^(n+1)∧(∀k,k≤n→dig X k=dig U k)∧car P d (n+1)=(if P≤U then 0 else 1)∧(P≤U→d=U-P):=by
 by_cases h:P≤U
 · refine⟨U,U-P,j0,j0,fun _ _=>rfl,?_,fun _=>rfl⟩;rw[if_pos h];unfold car;rw[zA8 hP,zA8 (by omega:U-P<B^(n+1)),show P+(U-P)=U by omega];exact Nat.div_eq_of_lt hU
 · refine⟨U+B^(n+1),U+B^(n+1)-P,j0,j0,fun k hk=>?_,?_,fun h'=>absurd h' h⟩
   · rw[←zFl (x:=U+B^(n+1)) (show k<n+1 by omega),Nat.add_mod_right,zA8 hU]
   · rw[if_neg h];unfold car;rw[zA8 hP,zA8 (by omega:U+B^(n+1)-P<B^(n+1)),show P+(U+B^(n+1)-P)=U+1*B^(n+1)by omega,Nat.add_mul_div_right _ _ (zAo _),Nat.div_eq_of_lt hU]
def zQ2(Z j d k:Nat):Nat:=Z%B^j+(d%B^k+Z/B^j/B^k*B^k)*B^j
theorem zLA(Z j d:Nat):zQ2 Z j d 0=Z:=by
 unfold zQ2;rw[zAe,Nat.pow_zero,Nat.div_one,Nat.mul_one,Nat.zero_add];have:=Nat.mod_add_div Z (B^j);rw[Nat.mul_comm]at this;exact this
theorem zLB(Z j d k:Nat):zD1 (zQ2 Z j d k) (j+k) (dig d k)=zQ2 Z j d (k+1):=by
 unfold zQ2;rw[zDW (zAE Z j)];congr 2;have h1:(d%B^k+Z/B^j/B^k*B^k)%B^k=d%B^k:=by rw[Nat.add_mul_mod_self_right,Nat.mod_mod]
 have h2:(d%B^k+Z/B^j/B^k*B^k)/B^(k+1)=Z/B^j/B^(k+1):=by
  rw[zA9,←Nat.div_div_eq_div_mul,Nat.add_mul_div_right _ _ (zAo k),Nat.div_eq_of_lt (zAE d k),Nat.zero_add,Nat.div_div_eq_div_mul]
 unfold zD1;rw[h1,h2,zAi]
theorem zOl{Z j d n:Nat}(hZ:Z<B^(j+n+1))(hd:d<B^(n+1)):zQ2 Z j d (n+1)=Z%B^j+d*B^j:=by
 unfold zQ2;have:Z/B^j<B^(n+1):=Qo
 rw[zA8 hd,Nat.div_eq_of_lt this,Nat.zero_mul,Nat.add_zero]
theorem zLF{Z R U P E A C:Nat}(h1:R+A=Z)(h2:C≤A)(hA:A=U*E)(hC:C=P*E):R+(U-P)*E=Z-P*E:=by
 rw[Nat.sub_mul,←hA,←hC];omega
theorem zJ3{Z j P:Nat}(h:P≤Z/B^j):Z%B^j+(Z/B^j-P)*B^j=Z-P*B^j:=
 zLF (by rw[Nat.mul_comm (Z/B^j)];exact Nat.mod_add_div Z _) (Nat.mul_le_mul_right (B^j) h) rfl rfl
theorem zLT(w:World)(g N cu n cv j Q V Z:Nat)(av:Option Addr)(hrow:RowC w g N cu 94 Z)(hN:j+n+1≤N)(hlim:N≤549755813888)(hv:Mag w av n cv V)(hva:0<n→ab av≠g)(hQ:Q≤4294967295)(hZ:Z<B^(j+n+1))(b:Bool)(hb:b=decide (Q*V≤Z/B^j)):Calls Tryz.prog 199 #[.slice (some ⟨g,0,none⟩) N cu,.slice av n cv,.int .i64 j,.int .u64 Q] w fun e w'=>
  e=.returned (.bool b)∧RowC w' g N cu 94 (if b then Z-Q*V*B^j else Z)∧w.grownBy w' (some g):=by
 have hmk:=zBd 49 94 zCy zCh ((n:Int)+1) j0 j0;have l1:=hv.lim;have l2:=hv.fits;have l3:=hrow.lim;have l4:=hrow.fit;have lg:=hrow.old;have hU:Z/B^j<B^(n+1):=Qo
 have hP:Q*V<B^(n+1):=by
  rw[zA9,Nat.mul_comm (B^n) B];have hQB:Q<B:=jR
  exact Nat.mul_lt_mul'' hQB hv.lt
 obtain⟨X,d,hX,hd,hXd,hcar,hdd⟩:=zKv hU hP;obtain⟨U,hUe⟩:∃U,U=Z/B^j:=⟨_,rfl⟩;have hXU:∀k,k≤n→dig X k=dig Z (k+j):=fun k hk=>by rw[hXd k hk,zDr]
 obtain⟨P,hPe⟩:∃P,P=Q*V:=⟨_,rfl⟩;rw[←hPe]at hX hcar hb hdd;rw[←hUe]at hcar hb hdd;have HUE:=Lib.hid hUe;have HX:=Lib.hid hX;have HXU:=Lib.hid hXU;have HCAR:=Lib.hid hcar;have HB:=Lib.hid hb;have HDD:=Lib.hid hdd;have HD:=Lib.hid hd;have HZ:=Lib.hid hZ;have HPE:=Lib.hid hPe;clear hX hXU hcar hb hdd hd hZ hPe hXd hU hP hUe;go_enter Tryz.func199,Tryz.ntmps199
 go_wp2
 clear hmk;have hrow0:=Row.made w (n+1) 94 j0;have hbm:Below w.heap.size w (w.alloc (.cells (madeCells #[.int .u32 0] (n+1)) 94)):=(Below.refl _ _).alloc (Nat.le_refl _) _
 go_loopw [11,12,13] (fun br ca i wr=>∃k:Nat,k≤n+1∧i=.int .i64 k∧br=.int .u64 (car P d k:Nat)∧(∃cc:Nat,ca=.int .u64 cc∧cc≤4294967295∧(k≤n→cc=pc Q V k))∧Row wr w.heap.size (n+1) 94 (d%B^k)∧Below w.heap.size w wr) (fun _ _ i _=>n+1-(intOf i).toNat)
 case atStart=>exact⟨0,j0,rfl,Xd,⟨0,rfl,j0,fun _=>(zQS _ _).symm⟩,Xe,hbm⟩
 case round=>
  clear hrow0 hbm;obtain⟨k,hk,rfl,rfl,⟨cc,rfl,hcc,hcp⟩,hro,hbw⟩:=hrel;have HCP:=Lib.hid hcp;clear hcp;have hv':=hv.below hbw;have hr':=hrow.below hbw lg;have hc1:=zC9 P d k
  by_cases hkn:k≤n
  · have c2:=hr'.cell (k+j) j0;rw[←HXU.out k hkn]at c2;have hd2:=zA5 X k;have c3:=hro.cell k j0;have f3:=hro.free k;have HS1:=Lib.hid (zG5 X P d k HX.out).1;have HS2:=Lib.hid (zHc X P d k HX.out);have hsd:zD1 (d%B^k) k (dig d k)=d%B^(k+1):=(by rw[zDu (zAE d k),zAi]);have HSD:=Lib.hid hsd;clear hsd
    by_cases hlt:k<n
    · have c1:=hv'.cell k hlt;have i1:=hv'.idx 49 und siz k hlt;have hd1:=zA5 V k;have hps:=zQT Q V k;rw[←HCP.out hkn,←HPE.out]at hps;obtain⟨m1,m2⟩:=zDC (x:=Q) (y:=dig V k) (z:=0) (c:=cc) j0 hd1 j0 j0;have m2':(cc:Int)+(Q:Int)*((dig V k:Nat):Int)<18446744073709551616:=Kd;have m0:(0:Int)≤(Q:Int)*((dig V k:Nat):Int):=Kd;obtain⟨T,hT⟩:∃T:Nat,T=cc+Q*dig V k:=⟨_,rfl⟩;have hTI:((T:Nat):Int)=(cc:Int)+(Q:Int)*((dig V k:Nat):Int):=(by rw[hT];simp);rw[←hT]at hps;have hTL:((T:Nat):Int)%4294967296=((dig P k:Nat):Int):=(by rw[←hps.1,zAX];omega);have hTD:((T:Nat):Int)/4294967296=((pc Q V (k+1):Nat):Int):=(by rw[←hps.2,zAX];omega);have hpl:=zSk (V:=V) (k:=k+1) hQ;have HTI:=Lib.hid hTI;have HTL:=Lib.hid hTL;have HTD:=Lib.hid hTD;clear m1 m2 hT hTI hps hTL hTD
      go_wp2
      go_roundw
      case rel=>
       refine⟨k+1,j0,jm,?_,⟨pc Q V (k+1),?_,hpl,fun _=>rfl⟩,?_,hbw.setCell (Nat.le_refl _) _⟩
       · rw[←HTI.out,HTL.out,HS2.out]
       · rw[←HTI.out,HTD.out]
       · rw[←HTI.out,HTL.out,HS1.out,←HSD.out];exact hro.store k (dig d k) j0 (zA5 d k)
      case measure=>exact jb
    · obtain rfl:k=n:=j0;have hcd:cc=dig P k:=(by rw[HCP.out hkn,HPE.out];exact zSj hv.lt hQ);have hd3:=zA5 P k;subst hcd;have hz:((dig P k:Nat):Int)/4294967296=0:=j0;have hy:((dig P k:Nat):Int)%4294967296=((dig P k:Nat):Int):=j0;have hlt':decide (k<k)=false:=by simp
      go_wp2
      go_roundw
      case rel=>
       refine⟨k+1,j0,jm,?_,⟨0,rfl,j0,fun h=>absurd h j0⟩,?_,hbw.setCell (Nat.le_refl _) _⟩
       · rw[HS2.out]
       · rw[HS1.out,←HSD.out];exact hro.store k (dig d k) j0 (zA5 d k)
      case measure=>exact Q4
  · obtain rfl:k=n+1:=j0;rw[zA8 HD.out]at hro;have hcar:=HCAR.out;have hon:w.grownBy wr (some g):=⟨hbw.os,hbw.tape,hbw.output,hbw.size,fun b h _=>hbw.block b h⟩;have hsz:=hbw.size
    by_cases hPU:P≤U
    · rw[if_pos hPU]at hcar;have hbt:b=true:=(by rw[HB.out];simpa using hPU);subst hbt;have hdv:=HDD.out hPU;have HPU:=Lib.hid hPU;clear hPU;have HDV:=Lib.hid hdv;clear hdv;rw[hcar];clear hcar;obtain⟨wo,rfl⟩:∃wo:World,wo=wr:=⟨_,rfl⟩
      go_wp2
      go_loopw [15] (fun i wi=>∃q:Nat,q≤n+1∧i=.int .i64 q∧RowC wi g N cu 94 (zQ2 Z j d q)∧Row wi w.heap.size (n+1) 94 d∧w.grownBy wi (some g)) (fun i _=>n+1-(intOf i).toNat)
      case atStart=>exact⟨0,j0,rfl,by rw[zLA];exact hr',hro,hon⟩
      case round=>
       clear hr' hro hon;obtain⟨q,hq,rfl,hru,hro,hon⟩:=hrel
       by_cases hqn:q≤n
       · have c1:=hro.cell q j0;have c2:=hru.cell (q+j) j0;have f2:=hru.free (q+j)
         go_wp2
         go_roundw
         case rel=>
          refine⟨q+1,j0,jm,?_,?_,zBK hon _ _⟩
          · rw[←zLB,Nat.add_comm j q];exact hru.store (q+j) (dig d q) j0 (zA5 d q)
          · exact hro.only (zBK (zCP _ g) _ _) j0
         case measure=>simp[intOf];(try omega)
       · obtain rfl:q=n+1:=j0;rw[zOl HZ.out HD.out]at hru;have he:Z%B^j+d*B^j=Z-P*B^j:=by
          rw[HDV.out,HUE.out];exact zJ3 (by rw[←HUE.out];exact HPU.out)
         go_wp2
         go_ret;refine⟨rfl,?_,hon⟩;have hru2:=hru;rw[he,HPE.out]at hru2;exact hru2
    · rw[if_neg hPU]at hcar;have hbt:b=false:=(by rw[HB.out];simpa using hPU);subst hbt;rw[hcar];clear hcar
      go_wp2
      go_ret;exact⟨rfl,hr',hon⟩
end Go.Proofs.YtmbkgapknoammaaGreatDoor
set_option maxRecDepth 100000
set_option maxHeartbeats 4000000
namespace Go.Proofs.YtmbkgapknoammaaGreatDoor
open Go.RowKit Sp
theorem zJb(w:World)(a:Option Addr)(n cap x s:Nat)(hx:Mag w a n cap x)(hlim:n≤1099511627776)(hs:s≤1048576):Calls Tryz.prog 127 #[.slice a n cap,.int .i64 s] w fun e w'=>∃g c,e=.returned (.slice (some ⟨g,0,none⟩) (s/32+n+1) c)∧w.heap.size≤g∧RowC w' g (s/32+n+1) c 94 (x*2^s)∧Below w.heap.size w w':=by
 have l1:=hx.lim;have l2:=hx.fits;have hmk:=zBd 49 94 zCy zCh ((s:Int)/32) j0 j0;have HX:=Lib.hid hx;clear hx;go_enter Tryz.func127,Tryz.ntmps127
 go_wp2
 clear hmk;have hown0:(w.alloc (.cells (madeCells #[.int .u32 0] (s/32)) 94)).ownsRow w.heap.size 94 1 (.slice (some ⟨w.heap.size,0,none⟩) (s/32) (s/32)) (s/32) (zDq (x*2^s) (s/32)):=by
  have:=World.ownsRow_lit (base:=w.heap.size) (e:=94) (size:=1) w (madeCells #[.int .u32 0] (s/32)) (s/32) (Nat.le_refl _) jJ KV;have e:(madeCells #[.int .u32 0] (s/32)).toList=zDq (x*2^s) (s/32):=by
   rw[toList_madeCells_one];refine List.ext_getElem? fun i=>?_;rcases Nat.lt_or_ge i (s/32)with h | h
   · rw[zDb h,zJ6 _ _ _ h];simp[h]
   · rw[List.getElem?_eq_none KT,List.getElem?_eq_none (by rw[zAB];exact h)]
  rwa[e]at this
 go_loopw [5,6,7] (fun v c i wr=>∃k:Nat,k≤n∧i=.int .i64 k∧c=.int .u64 (dig (x%B^k*2^s) (s/32+k):Nat)∧wr.ownsRow w.heap.size 94 1 v (s/32+k) (zDq (x*2^s) (s/32+k))∧Below w.heap.size w wr) (fun _ _ i _=>n-(intOf i).toNat)
 case atStart=>exact⟨0,j0,rfl,by rw[zAe,Nat.zero_mul,zDc];rfl,hown0,(Below.refl _ _).alloc (Nat.le_refl _) _⟩
 case round=>
  clear hown0;obtain⟨k,hk,rfl,rfl,hown,hb⟩:=hrel;have hx':=HX.out.below hb;have hz:=hb.size
  by_cases hlt:k<n
  · have c1:=hx'.cell k hlt;have i1:=hx'.idx 49 und siz k hlt;obtain⟨w1,w2,w3,w4⟩:=zJ7 (x:=x) (k:=k) (s:=s);have hor:=zQ3 w3 w4;have hd1:=zA5 x k;obtain⟨T,hT⟩:∃T,T=dig (x%B^k*2^s) (s/32+k)+dig x k*2^(s%32):=⟨_,rfl⟩;rw[←hT]at w1 w2 hor w4;have H1:=Lib.hid w1;have H2:=Lib.hid w2;clear w1 w2 w3 hT;have HD:Hid (((T:Nat):Int)%4294967296=((dig (x*2^s) (s/32+k):Nat):Int)):=(by show _=_;rw[←H1.out,zAX];omega);go_wp2_with (at_builtin;refine zAK 49 94 zCy zCh rfl _ _ rfl w.heap.size _ (s/32+k) (x*2^s) rfl _ _ rfl (hown.alloc _) (World.cell?_alloc_new _ _ _ _) HD.out j0 jr ?_;intro v1 w1 hown1 hb1);go_roundw
    case rel=>exact⟨k+1,j0,jm,by rw[←H2.out,zAX];go_num,hown1,(hb.alloc hz _).trans hb1⟩
    case measure=>exact jb
  · obtain rfl:k=n:=j0;have hd1:=zA5 (x%B^k*2^s) (s/32+k);have HD:Hid (((dig (x%B^k*2^s) (s/32+k):Nat):Int)=((dig (x*2^s) (s/32+k):Nat):Int)):=(by show _=_;rw[zA8 HX.out.lt]);go_wp2_with (at_builtin;refine zAK 49 94 zCy zCh rfl _ _ rfl w.heap.size _ (s/32+k) (x*2^s) rfl _ _ rfl (hown.alloc _) (World.cell?_alloc_new _ _ _ _) HD.out j0 jr ?_;intro v1 w1 hown1 hb1);obtain⟨g1,cp1,hv,hgb,hrc⟩:=zHf hown1 (zQ4 HX.out.lt) j0;subst hv;go_ret;exact⟨g1,cp1,rfl,hgb,hrc,(hb.alloc hz _).trans hb1⟩
def zGO(w:World)(z r:Nat)(e:Ending)(w':World):Prop:=
 ∃a cap a' cap',e=.returned (.tuple #[.slice a (nl z) cap,.slice a' (nl r) cap'])∧Mag w' a (nl z) cap z∧Mag w' a' (nl r) cap' r∧Below w.heap.size w w'
theorem zKR(w:World)(a a':Option Addr)(n m cap cap' x y:Nat)(hx:Mag w a n cap x)(hy:Mag w a' m cap' y)(hn:n=nl x)(hm:m=nl y)(hxy:x<y):Calls Tryz.prog 190 #[.slice a n cap,.slice a' m cap'] w (zGO w (x/y) (x%y)):=by
 have hcmp:=zAS (m:=(x:Int)) (n:=(y:Int)) j0;have HC:=fun W h h'=>Lib.hid (zEX W a a' n m cap cap' x y h h' hn hm);rw[hcmp]at HC;rw[Nat.div_eq_of_lt hxy,Nat.mod_eq_of_lt hxy];subst hn;clear hcmp hxy hm;go_enter Tryz.func190,Tryz.ntmps190;go_wp2_with (go_at_call 94;refine(HC _ hx hy).out.mono ?_;rintro e w' ⟨rfl,q,rfl⟩)
 go_ret2
 exact⟨none,0,a,cap,rfl,Mag.nil _,hx.drewN q,below_drewN (Below.refl _ _) q⟩
theorem zQA{U n:Nat}(hn:0<n)(hU:U<B^(n+1)):U/B^(n-1)=dig U n*B+dig U (n-1):=by
 obtain⟨p,rfl⟩:∃p,n=p+1:=⟨n-1,j0⟩;rw[show p+1-1=p by omega];have h1:dig U (p+1)=U/B^p/B:=by
  unfold dig;rw[zA9,←Nat.div_div_eq_div_mul,Nat.mod_eq_of_lt];rw[Nat.div_div_eq_div_mul,←zA9,Nat.div_lt_iff_lt_mul (zAo _),Nat.mul_comm,←zA9];exact hU
 rw[h1];unfold dig;have:=Nat.div_add_mod (U/B^p) B;rw[Nat.mul_comm]at this;exact this.symm
theorem zPl{U v n vt:Nat}(hv:0<v)(hn:0<n)(hU:U<B^(n+1))(hUv:U<v*B)(hvt:vt=dig v (n-1))(h0:0<vt):U/v≤min ((dig U n*B+dig U (n-1))/vt) 4294967295:=by
 have h4:dig v (n-1)≤v/B^(n-1):=Nat.mod_le _ _;have h1:vt*B^(n-1)≤v:=by
  rw[hvt];exact Nat.le_trans (Nat.mul_le_mul_right (B^(n-1)) h4) (Nat.div_mul_le_self v _)
 have h2:U/v≤(dig U n*B+dig U (n-1))/vt:=by
  rw[←zQA hn hU,Nat.div_div_eq_div_mul,Nat.mul_comm];exact Nat.div_le_div_left h1 (Nat.mul_pos h0 (zAo _))
 have h3:U/v<B:=by
  rw[Nat.div_lt_iff_lt_mul hv,Nat.mul_comm];exact hUv
 rw[zAX]at h3;generalize U/v=t at h2 h3 ⊢;generalize (dig U n*B+dig U (n-1))/vt=s at h2 ⊢;omega
theorem zN5{U v Q:Nat}(h1:U/v≤Q)(h2:Q*v≤U)(hv:0<v):Q=U/v:=by
 exact Nat.le_antisymm ((Nat.le_div_iff_mul_le hv).2 h2) h1
theorem zL8{U v Q:Nat}(h2:¬Q*v≤U)(hv:0<v):U/v≤Q-1∧0<Q:=by
 have:U/v<Q:=by
  rcases Nat.lt_or_ge (U/v) Q with h | h
  · exact h
  · exact absurd ((Nat.le_div_iff_mul_le hv).1 h) h2
 generalize U/v=t at this ⊢;omega
theorem zQM{Z j v:Nat} :Z-Z/B^j/v*v*B^j=Z%B^j+Z/B^j%v*B^j:=by
 have h:=zJ3 (Z:=Z) (j:=j) (P:=Z/B^j/v*v) (Nat.div_mul_le_self _ _);rw[←h];congr 2;have:=Nat.div_add_mod (Z/B^j) v;rw[Nat.mul_comm]at this;omega
theorem zKQ(w:World)(a a':Option Addr)(n m cap cap' x y:Nat)(hx:Mag w a m cap x)(hy:Mag w a' n cap' y)(hm:m=nl x)(hn:n=nl y)(hlim:m≤549755813887)(hxy:y≤x)(hy0:0<y):Calls Tryz.prog 190 #[.slice a m cap,.slice a' n cap'] w (zGO w (x/y) (x%y)):=by
 have hnm:n≤m:=by rw[hn,hm];exact zAN hxy
 have hn0:0<n:=by rw[hn];exact zBz hy0
 have l1:=hx.lim;have l2:=hx.fits;have l3:=hy.lim;have l4:=hy.fits;have HC:=fun W h h'=>Lib.hid (zEX W a a' m n cap cap' x y h h' hm hn);obtain⟨k,hk,hk0⟩:∃k:Int,zAq x y=k∧0≤k:=⟨_,rfl,zC0 j0⟩;rw[hk]at HC;have hkd:decide (k<0)=false:=jq
 have ct:=hy.cell (n-1) j0;have it:=hy.idx' (P:=Tryz.prog) 49 und siz (n-1) j0 ((n:Int)-1) j0;have hdt:=zA5 y (n-1);have htop:dig y (n-1)≠0:=by rw[hn];exact zIE hy0
 have hbt:zA4 (dig y (n-1))≤32:=zAC j0;have hbt1:1≤zA4 (dig y (n-1)):=zCE (Nat.pos_of_ne_zero htop);obtain⟨s,hs⟩:∃s,s+zA4 (dig y (n-1))=32:=⟨32-zA4 (dig y (n-1)),j0⟩;have hsI:(32:Int)-(zA4 (dig y (n-1)):Int)=((s:Nat):Int):=j0
 have hlead:=fun W=>zF7 W (dig y (n-1)) hdt;simp only[hsI]at hlead;have hs31:s≤31:=j0
 have hs0:s/32=0:=j0
 have hscale:=zEP hy0 s (by rw[←hn];exact hs);rw[←hn]at hscale;obtain⟨v,hv⟩:∃v,v=y*2^s:=⟨_,rfl⟩;rw[←hv]at hscale;have hlt:=zH8 hx.lt hs31 hscale.2 hn0 (show n≤m+1 by omega);have hvB:v<B^n:=by rw[←hscale.1];exact zFy v
 have HS1:=fun W h=>Lib.hid (zJb W a m cap x s h j0 j0);have HS2:=fun W h=>Lib.hid (zJb W a' n cap' y s h j0 j0);rw[hs0,Nat.zero_add]at HS1 HS2;rw[←hv]at HS2;have HN:=Lib.hid hn;have HM:=Lib.hid hm;have HL:=Lib.hid hlead;have HV:=Lib.hid hv;have HS:=Lib.hid hscale;have HLT:=Lib.hid hlt;have HVB:=Lib.hid hvB;have HY0:=Lib.hid hy0;have hmk:=zBd 49 94 zCy zCh ((m:Int)-n+1) j0 j0;have hne:(((m+1:Nat):Int)==((m:Nat):Int))=false:=ju
 have hne':(((m:Nat):Int)+1==((m:Nat):Int))=false:=ju
 clear hk hn hm hlead hv hscale hlt hsI hs hvB hy0 hs0;go_enter Tryz.func190,Tryz.ntmps190;go_wp2_with (first | (go_at_call 94;refine(HC _ hx hy).out.mono ?_;rintro e w' ⟨rfl,q,rfl⟩) | (go_at_call 198;refine(HL.out _).mono ?_;rintro e w' ⟨rfl,rfl⟩))
 first
 | go_region_with
  (first
   | (go_at_call 127;have xx:=B1;refine(HS2 _ (hy.below (have:=Beh.mk B1;zbh))).out.mono ?_;rintro e w2 ⟨g2,c2,rfl,hg2,hr2,hb2⟩;have hf2:=hr2.fit;have hl2:=hr2.lim;have hn2:n≤c2:=j0;have B2:=zA0 (w:=w) (have:=Beh.mk B1;zbh) hb2)
   | (go_at_call 127;refine(HS1 _ (hx.below zbh)).out.mono ?_;rintro e w1 ⟨g1,c1,rfl,hg1,hr1,hb1⟩;have B1:=zA0 (w:=w) zbh hb1)
   | fail)
 | fail "region"
 all_goals(
  have hvt0:=HS.out.2;have Mv:=hr2.mag.take n j0;rw[zA8 HVB.out]at Mv;have hr1':=hr1.below hb2 hr1.old;have hg12:g1≠g2:=by have:=hr1.old;omega
  have hu1:=HLT.out;have l5:=hr1.lim;have l6:=hr1.fit;have lo1:=hr1'.old;have lo2:=hr2.old;have hgw:w.heap.size≤g1:=by have:=B1.size;(try simp at hg1);omega
  go_wp2_with fail;clear hmk;have hrq:=Row.made w2 (m-n+1) 94 j0;have hbq:Below w2.heap.size w2 (w2.alloc (.cells (madeCells #[.int .u32 0] (m-n+1)) 94)):=(Below.refl _ _).alloc (Nat.le_refl _) _;have hru:=hr1'.below hbq lo1;have Mv3:=Mv.below hbq;have hb4:=zA0 (w:=w) B2 hbq;have hgq:w2.heap.size≠g1:=j0
  have hw2:=B2.size;have hva:0<n→ab (some (⟨g2,0,none⟩:Addr))≠g1:=fun _=>by rw[zAF];omega
  go_loopw [11] (fun i wr=>∃k Z K:Nat,k≤m-n+1∧i=.int .i64 ((k:Int)-1)∧RowC wr g1 (m+1) c1 94 Z∧Row wr w2.heap.size (m-n+1) 94 (K*B^k)∧Z+K*B^k*v=x*2^s∧Z<v*B^k∧Mag wr (some ⟨g2,0,none⟩) n c2 v∧Below w.heap.size w wr) (fun i _=>(intOf i+1).toNat)
  case atStart=>exact⟨m-n+1,x*2^s,0,Nat.le_refl _,congrArg (Value.int .i64) j0,hru,by rw[Nat.zero_mul];exact hrq,by rw[Nat.zero_mul,Nat.zero_mul,Nat.add_zero],by rw[show m-n+1=m+1-n by omega];exact HLT.out.1,Mv3,hb4⟩
  case round=>
   clear hrq hru Mv3 hb4 Mv hr1' hbq hr1 hr2 hb1 hb2 B1;obtain⟨k,Z,K,hk,rfl,hru',hrq',hZ,hZv,hmv',hb'⟩:=hrel;have HZ:=Lib.hid hZ;have HZV:=Lib.hid hZv;clear hZ hZv
   by_cases h0:0<k
   · obtain⟨j,rfl⟩:∃j,k=j+1:=⟨k-1,j0⟩;have hj1:((j+1:Nat):Int)-1=(j:Int):=j0;rw[hj1];clear hj1;have hv0:0<v:=by
      rcases Nat.eq_zero_or_pos v with h | h
      · have:=HZV.out;rw[h,Nat.zero_mul]at this;omega
      · exact h
     have hR:=zHP (K:=K) hv0 HZV.out;obtain⟨U,hUe⟩:∃U,U=Z/B^j:=⟨_,rfl⟩;rw[←hUe]at hR;have hUn:U<B^(n+1):=by
      rw[zA9];exact Nat.lt_of_lt_of_le hR.2.1 (Nat.mul_le_mul_right _ (Nat.le_of_lt HVB.out))
     have hZl:Z<B^(j+n+1):=by
      refine Nat.lt_of_lt_of_le HZV.out ?_;have e:B^(j+n+1)=B^n*B^(j+1):=(by rw[←zAw];congr 1;omega);rw[e];exact Nat.mul_le_mul_right _ (Nat.le_of_lt HVB.out)
     obtain⟨vt,hvt⟩:∃vt,vt=dig v (n-1):=⟨_,rfl⟩;have hvt1:2147483648≤vt:=(by rw[hvt];exact hvt0);have hvtl:vt<4294967296:=(by rw[hvt];exact zA5 v _);have hgh:=zPl hv0 hn0 hUn hR.2.1 hvt j0;have e1:dig U n=dig Z (j+n):=(by rw[hUe,zDr,Nat.add_comm]);have e2:dig U (n-1)=dig Z (j+n-1):=(by rw[hUe,zDr];congr 1;omega);rw[e1,e2]at hgh;have ct:=hru'.cell (j+n) j0;have cs:=hru'.cell (j+n-1) j0;have is:=hru'.mag.idx' (P:=Tryz.prog) 49 und siz (j+n-1) j0 ((j:Int)+n-1) j0;have cv:=hmv'.cell (n-1) j0;have iv:=hmv'.idx' (P:=Tryz.prog) 49 und siz (n-1) j0 ((n:Int)-1) j0;simp only[zAF,zB8,Nat.zero_add]at is cv iv;rw[←hvt]at cv;have hd1:=zA5 Z (j+n);have hd0:=zA5 Z (j+n-1);generalize dig Z (j+n)=d1 at ct hgh hd1;generalize dig Z (j+n-1)=d0 at cs hgh hd0;have hor:=zGq (r:=d1) (d:=d0) hd1 hd0;have b1:(1:Int)≤(vt:Int):=j0;have b2:(0:Int)≤(d1:Int)*4294967296+(d0:Nat):=j0;have b3:(d1:Int)*4294967296+(d0:Nat)≤18446744073709551615:=j0;have HGH:=Lib.hid hgh;have HR:=Lib.hid hR;have HUE:=Lib.hid hUe;have HZL:=Lib.hid hZl;clear hgh hR hUe hvt e1 e2 hUn hZl;go_wp2_with fail
     first
     | go_quiet (fail)
     | fail "quiet"
     all_goals go_wp2_with fail
     clear ct cs is cv iv hor b1 b2 b3;obtain⟨wo,rfl⟩:∃wo:World,wo=wr:=⟨_,rfl⟩;have hru0:=hru'.drewN nq;have hon0:wo.grownBy (wo.drewN nq) (some g1):=zFK (zCP _ _) _
     go_loopw [13] (fun gs wi=>∃Gs:Nat,gs=.int .u64 Gs∧U/v≤Gs∧Gs≤4294967295∧RowC wi g1 (m+1) c1 94 Z∧wo.grownBy wi (some g1)) (fun gs _=>(intOf gs).toNat)
     case atStart=>
      refine⟨min ((d1*B+d0)/vt) 4294967295,congrArg (Value.int .u64) ?_,HGH.out,Nat.min_le_right _ _,hru0,hon0⟩;rw[zAX];have ea:(((d1*4294967296+d0)/vt:Nat):Int)=((d1:Int)*4294967296+d0)/vt:=(by rw[Int.natCast_ediv];congr 1);rw[←ea];generalize (d1*4294967296+d0)/vt=t;omega
     case round=>
      clear hru0 hon0;obtain⟨Gs,rfl,hge,hle,hrui,hon⟩:=hrel;have hmvi:=hmv'.only hon (by rw[zAF];omega);obtain⟨b,hb⟩:∃b,b=decide (Gs*v≤Z/B^j):=⟨_,rfl⟩;have HT:=Lib.hid (zLT wr g1 (m+1) c1 n c2 j Gs v Z (some ⟨g2,0,none⟩) hrui j0 j0 hmvi hva hle HZL.out b hb);have HGE:=Lib.hid hge
      by_cases hit:Gs*v≤U
      · have hbt:b=true:=(by rw[hb,←HUE.out];simpa using hit);have hq:=zN5 hge hit hv0;rw[hbt]at HT;have HQ:=Lib.hid hq;clear hb hbt hit hq hge;go_wp2_with fail;refine HT.out.mono ?_;rintro e w5 ⟨rfl,hr5,hon5⟩;have hr5:RowC w5 g1 (m+1) c1 94 (Z-Gs*v*B^j):=(by simpa using hr5);have hon6:=zBO hon hon5;have hrq5:=hrq'.only hon6 hgq;have cq:=hrq5.cell j j0;have fq:=hrq5.free j;go_wp2_with fail;go_roundw
        case rel=>
         have hb5:=Sp.Below.of_only hb' hon6 (by have:=hb'.size;omega) j0;have hqB:U/v<4294967296:=(by have:=HQ.out;omega);have hqe:((Gs:Nat):Int)%4294967296=((Gs:Nat):Int):=j0;refine⟨j,Z%B^j+Z/B^j%v*B^j,K*B+U/v,j0,rfl,?_,?_,?_,?_,?_,hb5.setCell (by show _≤w2.heap.size;omega) _⟩
         · rw[←zQM,←HUE.out,←HQ.out];exact hr5.below ((Below.refl w2.heap.size w5).setCell (Nat.le_refl _) _) j0
         · rw[←zDV,←HQ.out];(try rw[hqe]);exact hrq5.store j Gs j0 j0
         · have h:=HR.out.2.2.2;rw[HUE.out]at h ⊢;rw[h,HZ.out]
         · have h:=HR.out.2.2.1;rw[HUE.out]at h;exact h
         · exact(hmv'.only hon6 (by rw[zAF];omega)).below' ((Below.refl w2.heap.size w5).setCell (Nat.le_refl _) _) (fun _=>by rw[zAF];omega)
        case measure=>exact Q4
      · have hbt:b=false:=(by rw[hb,←HUE.out];simpa using hit);have hq:=zL8 hit hv0;rw[hbt]at HT;have HQ:=Lib.hid hq.1;have hG0:=hq.2;clear hb hbt hit hq hge;go_wp2_with fail;refine HT.out.mono ?_;rintro e w5 ⟨rfl,hr5,hon5⟩;have hr5:RowC w5 g1 (m+1) c1 94 Z:=(by simpa using hr5);go_wp2_with fail;go_roundw
        case rel=>
         exact⟨Gs-1,jm,HQ.out,j0,hr5,zBO hon hon5⟩
        case measure=>exact jb
   · obtain rfl:k=0:=j0;rw[Nat.pow_zero,Nat.mul_one]at hrq';have hZ:=HZ.out;have hZv:=HZV.out;rw[Nat.pow_zero,Nat.mul_one]at hZ hZv;have hD:=zK6 HV.out hZv hZ;have hzl:nl Z≤549755813888:=(by have:=zAH hru'.lt;omega);have hms:=hru'.mag;have hqs:=hrq'.mag;have HT1:=fun W h=>Lib.hid (zB1 W (some ⟨g1,0,none⟩) (m+1) c1 Z h j0);have HSH:=fun W b c h=>Lib.hid (zGd W b (nl Z) c Z s h j0 j0 _ rfl);generalize decide (Z%2^s≠0)=lb at HSH;have hz:Z/2^s=x%y:=(by rw[hD.2,Nat.mul_div_cancel _ (Nat.pow_pos ja)]);rw[hz]at HSH;have HT2:=fun W h=>Lib.hid (zB1 W (some ⟨w2.heap.size,0,none⟩) (m-n+1) (m-n+1) K h j0);rw[hD.1]at HT2 hqs;have hr0:x%y<4294967296∨True:=Or.inr trivial;have HT3:=fun W b l c h (hl:l≤nl Z)=>Lib.hid (zB1 W b l c (x%y) h j0);clear hZ hZv hD hz hr0;go_wp2_with fail;refine(HT1 _ hms).out.mono ?_;rintro e w5 ⟨a5,c5,rfl,M5,hb5,hf5⟩;have B5:=zA0 (w:=w) hb' hb5;have hqs5:=hqs.below hb5;go_wp2_with fail;refine(HSH _ a5 c5 M5).out.mono ?_;rintro e w6 ⟨a6,n6,c6,rfl,M6,hn6,hb6,hf6⟩;have B6:=zA0 (w:=w) B5 hb6;have hqs6:=hqs5.below hb6;go_wp2_with fail;refine(HT2 _ hqs6).out.mono ?_;rintro e w7 ⟨a7,c7,rfl,M7,hb7,hf7⟩;have B7:=zA0 (w:=w) B6 hb7;have M67:=M6.below hb7;go_wp2_with fail;refine(HT3 _ a6 n6 c6 M67 hn6).out.mono ?_;rintro e w8 ⟨a8,c8,rfl,M8,hb8,hf8⟩;have B8:=zA0 (w:=w) B7 hb8;have M78:=M7.below hb8;go_wp2_with fail
     go_ret2
     exact⟨a7,c7,a8,c8,rfl,M78,M8,B8⟩)
theorem zMe(w:World)(a a':Option Addr)(n m cap cap' x y:Nat)(hx:Mag w a m cap x)(hy:Mag w a' n cap' y)(hm:m=nl x)(hn:n=nl y)(hlim:m≤549755813887)(hy0:0<y):Calls Tryz.prog 190 #[.slice a m cap,.slice a' n cap'] w (zGO w (x/y) (x%y)):=by
 rcases Nat.lt_or_ge x y with h | h
 · exact zKR w a a' m n cap cap' x y hx hy hm hn h
 · exact zKQ w a a' n m cap cap' x y hx hy hm hn hlim h hy0
end Go.Proofs.YtmbkgapknoammaaGreatDoor

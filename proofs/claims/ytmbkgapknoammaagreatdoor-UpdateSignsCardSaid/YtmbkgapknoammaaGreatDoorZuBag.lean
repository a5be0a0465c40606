/-
  Plain: neighbours in a graph that is given by a table; permutations; what makes a factor valid. No program in sight.
-/
import Derived.Test.YtmbkgapknoammaaGreatDoorZuGq
import Derived.Test.YtmbkgapknoammaaGreatDoorZuPz
import Derived.Test.YtmbkgapknoammaaGreatDoorZuRz
import Derived.Deep.OwnRows
import Derived.Test.YtmbkgapknoammaaGreatDoorZuQn
import Derived.Maps.AppendAt
namespace Go.Proofs.YtmbkgapknoammaaGreatDoor
open Go.RowKit Sp
def nb(G:Nat→Nat→Bool)(v m:Nat):List Nat:=(List.range m).filter (G v)
theorem zJs{G:Nat→Nat→Bool}{v m:Nat}(h:G v m=true):nb G v (m+1)=nb G v m++ [m]:=by
 unfold nb;rw[List.range_succ,List.filter_append,List.filter_cons_of_pos (by exact h)];rfl
theorem zP2{G:Nat→Nat→Bool}{v m:Nat}(h:G v m=false):nb G v (m+1)=nb G v m:=by
 unfold nb;rw[List.range_succ,List.filter_append,List.filter_cons_of_neg (by rw[h];exact Bool.false_ne_true)];exact List.append_nil _
theorem nb_mem{G:Nat→Nat→Bool}{v m x:Nat} :x∈nb G v m↔x<m∧G v x=true:=by
 unfold nb;rw[List.mem_filter,List.mem_range]
theorem zF4(G:Nat→Nat→Bool)(v m:Nat):(nb G v m).length≤m:=by
 have:=List.length_filter_le (G v) (List.range m);rwa[List.length_range]at this
theorem zMF(G:Nat→Nat→Bool)(v m:Nat):(nb G v m).Pairwise (· < ·):=List.Pairwise.filter _ List.pairwise_lt_range
theorem zHv{G:Nat→Nat→Bool}{v m k:Nat}(h:k<(nb G v m).length):(nb G v m).getD k 0<m∧G v ((nb G v m).getD k 0)=true:=by
 rw[List.getD_eq_getElem?_getD,List.getElem?_eq_getElem h];exact nb_mem.1 (List.getElem_mem h)
theorem zQe{G:Nat→Nat→Bool}{v m k:Nat}(h0:0<k)(h:k<(nb G v m).length):(nb G v m).getD (k-1) 0<(nb G v m).getD k 0:=by
 rw[List.getD_eq_getElem?_getD,List.getD_eq_getElem?_getD,List.getElem?_eq_getElem h,List.getElem?_eq_getElem (show k-1<_ by omega)];exact List.pairwise_iff_getElem.1 (zMF G v m) _ _ _ _ j0
theorem zJt{G:Nat→Nat→Bool}{v m x:Nat}(hx:x<m)(h:G v x=true):∃k,k<(nb G v m).length∧(nb G v m).getD k 0=x:=by
 obtain⟨k,hk,e⟩:=List.getElem_of_mem (nb_mem.2 ⟨hx,h⟩);exact⟨k,hk,by rw[List.getD_eq_getElem?_getD,List.getElem?_eq_getElem hk];exact e⟩
structure Sgr(n:Nat)(G:Nat→Nat→Bool):Prop where
 irr:∀v,G v v=false
 sym:∀v w,G v w=G w v
 out:∀v w,G v w=true→w<n
def gOf(n:Nat)(T:Nat→Nat→Bool)(v w:Nat):Bool:=decide (v<n∧w<n∧v≠w)&&(T v w||T w v)
theorem zIr(n:Nat)(T:Nat→Nat→Bool):Sgr n (gOf n T) where
 irr v:=by unfold gOf;rw[decide_eq_false (fun h=>h.2.2 rfl)];rfl
 sym v w:=by
  unfold gOf;rw[Bool.or_comm,show decide (v<n∧w<n∧v≠w)=decide (w<n∧v<n∧w≠v)from decide_eq_decide.2 ⟨fun h=>⟨h.2.1,h.1,fun e=>h.2.2 e.symm⟩,fun h=>⟨h.2.1,h.1,fun e=>h.2.2 e.symm⟩⟩]
 out v w h:=by
  unfold gOf at h;rw[Bool.and_eq_true]at h;exact(of_decide_eq_true h.1).2.1
theorem zN7{n:Nat}{T:Nat→Nat→Bool}{v w:Nat}(hv:v<n)(hw:w<n)(h:v≠w):gOf n T v w=(T v w||T w v):=by
 unfold gOf;rw[decide_eq_true ⟨hv,hw,h⟩,Bool.true_and]
def elT(n:Nat)(T:Nat→Nat→Bool)(gone:Nat→Bool)(v i j:Nat):Bool:=
 T i j||decide (i<n∧j<n∧i≠j)&&(T v i&&!gone i&&(T v j&&!gone j))
def elG(n:Nat)(T:Nat→Nat→Bool):Nat→Nat→Nat→Bool
 | 0=>T
 | v+1=>elT n (elG n T v) (fun i=>decide (i<v)) v
def zCW(n:Nat)(T:Nat→Nat→Bool)(j:Nat):List Nat:=nb (fun v w=>elG n T v v w&&!decide (w<v)) j n
theorem zNt{n:Nat}{T:Nat→Nat→Bool}(h:Sgr n T):∀v,Sgr n (elG n T v)
 | 0=>h
 | v+1=>by
  have ih:=zNt h v;refine⟨fun i=>?_,fun i j=>?_,fun i j hh=>?_⟩
  · show(elG n T v i i||_)=false;rw[ih.irr,decide_eq_false (fun h=>h.2.2 rfl)];rfl
  · show(elG n T v i j||_)=(elG n T v j i||_);rw[ih.sym i j,Bool.and_comm (elG n T v v i&&_),show decide (i<n∧j<n∧i≠j)=decide (j<n∧i<n∧j≠i)from decide_eq_decide.2 ⟨fun h=>⟨h.2.1,h.1,fun e=>h.2.2 e.symm⟩,fun h=>⟨h.2.1,h.1,fun e=>h.2.2 e.symm⟩⟩]
  · have hh:(elG n T v i j||decide (i<n∧j<n∧i≠j)&&_)=true:=hh;rw[Bool.or_eq_true,Bool.and_eq_true]at hh;rcases hh with h1 | ⟨h1,_⟩
    · exact ih.out i j h1
    · exact(of_decide_eq_true h1).2.1
theorem zNO{n:Nat}{T:Nat→Nat→Bool}(h:Sgr n T){j k:Nat}(hk:k<(zCW n T j).length):j<(zCW n T j).getD k 0∧(zCW n T j).getD k 0<n:=by
 obtain⟨h1,h2⟩:=zHv hk;have h2:(elG n T j j ((zCW n T j).getD k 0)&&!decide ((zCW n T j).getD k 0<j))=true:=h2;rw[Bool.and_eq_true,Bool.not_eq_true',decide_eq_false_iff_not]at h2;refine⟨?_,h1⟩;rcases Nat.lt_or_eq_of_le (Nat.le_of_not_lt h2.2)with h3 | h3
 · exact h3
 · rw[←h3,(zNt h j).irr]at h2;cases h2.1
theorem zPJ{n:Nat}{T:Nat→Nat→Bool}{j k:Nat}(h0:0<k)(hk:k<(zCW n T j).length):(zCW n T j).getD (k-1) 0<(zCW n T j).getD k 0:=zQe h0 hk
def zDi(L:Nat→Int)(n:Nat):Nat→Bool
 | 0=>true
 | k+1=>zDi L n k&&decide (0≤L k∧L k<n∧∀i,i<k→L i≠L k)
theorem zOV{L:Nat→Int}{n m i:Nat}(hi:i<m)(h:¬(0≤L i∧L i<n∧∀t,t<i→L t≠L i)):zDi L n m=false:=by
 induction m with
 | zero=>omega
 | succ m ih=>
  show(zDi L n m&&_)=false;rcases Nat.lt_succ_iff_lt_or_eq.1 hi with h1 | h1
  · rw[ih h1];rfl
  · subst h1;rw[decide_eq_false h];exact Bool.and_false _
theorem zEC{L:Nat→Int}{n m i:Nat}(h:zDi L n m=true)(hi:i<m):0≤L i∧L i<n∧∀t,t<i→L t≠L i:=by
 by_cases hh:0≤L i∧L i<n∧∀t,t<i→L t≠L i
 · exact hh
 · rw[zOV hi hh]at h;cases h
structure FOK(n q:Nat)(S I:Nat→Int):Prop where
 z:S 0=0
 e:S n=q
 m:∀j,j<n→S j<S (j+1)
 d:∀j,j<n→I (S j).toNat=j
 a:∀j x,j<n→(S j).toNat≤x→x<(S (j+1)).toNat→I x<n∧((S j).toNat<x→I (x-1)<I x)
theorem FOK.mono{n q:Nat}{S I:Nat→Int}(h:FOK n q S I):∀d t,t+d≤n→S t+d≤S (t+d):=by
 intro d
 induction d with
 | zero=>intro t _;exact Int.le_of_eq (Int.add_zero _)
 | succ d ih=>intro t ht;have h1:=ih t j0;have h2:=h.m (t+d) j0;rw[show t+(d+1)=t+d+1 by omega];omega
theorem FOK.lo{n q:Nat}{S I:Nat→Int}(h:FOK n q S I){t:Nat}(ht:t≤n):(t:Int)≤S t∧S t≤q:=by
 have h1:=h.mono t 0 j0;have h2:=h.mono (n-t) t j0;rw[h.z,Nat.zero_add]at h1;rw[show t+(n-t)=n by omega,h.e]at h2;omega
theorem FOK.ge{n q:Nat}{S I:Nat→Int}(h:FOK n q S I){j:Nat}(hj:j<n):∀d,(S j).toNat+d<(S (j+1)).toNat→(j:Int)+d≤I ((S j).toNat+d):=by
 intro d
 induction d with
 | zero=>intro _;rw[Nat.add_zero,h.d j hj];omega
 | succ d ih=>
  intro hd;have h1:=ih j0;have h2:=(h.a j ((S j).toNat+(d+1)) hj j0 hd).2 j0;rw[show(S j).toNat+(d+1)-1=(S j).toNat+d by omega]at h2;omega
end Go.Proofs.YtmbkgapknoammaaGreatDoor
namespace Go.Proofs.YtmbkgapknoammaaGreatDoor
open Go.RowKit Sp
class RB(w:World)(b n:Nat)(f:outParam (Nat→Bool)):Prop where out:w.rowIs b 4 n (fun i=>.bool (f i))
section
variable {w w':World}{b n:Nat}{f f':Nat→Bool}
theorem RB.lo{base:Nat}(h:RB w b n f)(hb:Below base w w')(lt:b<base):RB w' b n f:=⟨h.out.of_block (hb.block b lt)⟩
theorem RB.below(h:RB w b n f)(hb:Below w.heap.size w w'):RB w' b n f:=h.lo hb h.out.lt
instance RB.dr[h:RB w b n f]:RB w.drew b n f:=h.below (Below.refl _ _).drew
instance RB.dn(q:Nat)[h:RB w b n f]:RB (w.drewN q) b n f:=h.below (below_drewN (Below.refl _ _) _)
instance RB.al(o:Obj)[h:RB w b n f]:RB (w.alloc o) b n f:=h.below ((Below.refl _ _).alloc (Nat.le_refl _) _)
instance RB.fr(L:World)[k:From L w][h:RB L b n f]:RB w b n f:=h.below k.out
instance RB.mk'(w:World)(n:Nat)(k:Nat)[h:Sz w k]:RB (w.alloc (.cells (madeCells #[.bool false] n) 4)) k n (fun _=>false):=⟨by have:=World.rowIs_made w (.bool false) n 4;rwa[←h.out]at this⟩
theorem RB.ce(h:RB w b n f){i:Nat}(hi:i<n):CE w b i (.bool (f i)):=⟨h.out.cell hi,h.out.lt⟩
theorem RB.set(h:RB w b n f)(i:Nat)(v:Bool):RB (w.setCell ⟨b,i,none⟩ (.bool v)) b n (fun j=>if j=i then v else f j):=
 ⟨(h.out.set i (.bool v)).congr fun j _=>by show(if j=i then Value.bool v else .bool (f j))=_;split <;> rfl⟩
theorem RB.sen(h:RB w b n f){g:Nat}(hg:b≠g)(i:Nat)(v:Value):RB (w.setCell ⟨g,i,none⟩ v) b n f:=⟨h.out.setOther (a:=⟨g,i,none⟩) hg v⟩
theorem RB.to(h:RB w b n f)(e:∀i,i<n→f i=f' i):RB w b n f':=⟨h.out.congr fun i hi=>by show Value.bool (f i)=_;rw[e i hi]⟩
theorem RB.grown(h:RB w b n f){row:Option Nat}(hg:w.grownBy w' row)(ne:some b≠row):RB w' b n f:=⟨h.out.of_block (hg.block b h.out.lt ne)⟩
end
structure Tbl(w:World)(base:Nat)(a:Option Addr)(n c m:Nat)(g:Nat→Nat)(T:Nat→Nat→Bool):Prop where
 fits:n≤c
 lim:c≤9223372036854775807
 addr:0<n→a=some ⟨ab a,ao a,none⟩
 old:0<n→ab a<w.heap.size
 cell:∀i,i<n→w.cell? ⟨ab a,ao a+i,none⟩=some (.slice (some ⟨g i,0,none⟩) m m)
 row:∀i,i<n→RB w (g i) m (T i)
 ne:∀i,i<n→g i≠ab a
 inj:∀i j,i<n→j<n→g i=g j→i=j
 ge:∀i,i<n→base≤g i
section
variable {w w':World}{base n c m:Nat}{a:Option Addr}{g:Nat→Nat}{T T':Nat→Nat→Bool}
theorem Tbl.below(h:Tbl w base a n c m g T)(hb:Below w.heap.size w w'):Tbl w' base a n c m g T:=
 ⟨h.fits,h.lim,h.addr,fun hn=>Nat.lt_of_lt_of_le (h.old hn) hb.size,fun i hi=>jN,
  fun i hi=>(h.row i hi).below hb,h.ne,h.inj,h.ge⟩
theorem Tbl.out(h:Tbl w base a n c m g T){i:Nat}(hi:i<n):CE w (ab a) (ao a+i) (.slice (some ⟨g i,0,none⟩) m m):=⟨h.cell i hi,h.old j0⟩
theorem Tbl.at(h:Tbl w base a n c m g T){i j:Nat}(hi:i<n)(hj:j<m):CE w (g i) j (.bool (T i j)):=(h.row i hi).ce hj
theorem Tbl.set(h:Tbl w base a n c m g T){r k:Nat}(hr:r<n)(v:Bool):Tbl (w.setCell ⟨g r,k,none⟩ (.bool v)) base a n c m g (fun i j=>if i=r∧j=k then v else T i j) where
 fits:=h.fits
 lim:=h.lim
 addr:=h.addr
 old hn:=by rw[World.size_setCell];exact h.old hn
 cell i hi:=by rw[World.cell?_of_block (w:=w) (Below.heap_setCell _ _ _ _ (fun e=>h.ne r hr e.symm))];exact h.cell i hi
 row i hi:=by
  by_cases e:i=r
  · subst e;exact((h.row i hi).set k v).to fun j _=>by show(if j=k then v else T i j)=if i=i∧j=k then v else T i j;split <;> rename_i h1 <;> simp[h1]
  · exact((h.row i hi).sen (fun e'=>e (h.inj i r hi hr e')) k (.bool v)).to fun j _=>by show T i j=if i=r∧j=k then v else T i j;rw[if_neg fun h=>e h.1]
 ne:=h.ne
 inj:=h.inj
 ge:=h.ge
theorem Tbl.to(h:Tbl w base a n c m g T)(e:∀i j,i<n→j<m→T i j=T' i j):Tbl w base a n c m g T':= { h with row:=fun i hi=>(h.row i hi).to fun j hj=>e i j hi hj }
theorem Tbl.sen(h:Tbl w base a n c m g T){b:Nat}(hb:b<base)(ha:b≠ab a)(k:Nat)(v:Value):Tbl (w.setCell ⟨b,k,none⟩ v) base a n c m g T where
 fits:=h.fits
 lim:=h.lim
 addr:=h.addr
 old hn:=by rw[World.size_setCell];exact h.old hn
 cell i hi:=by rw[World.cell?_of_block (w:=w) (Below.heap_setCell _ _ _ _ (fun e=>ha e.symm))];exact h.cell i hi
 row i hi:=(h.row i hi).sen (fun e=>by have:=h.ge i hi;omega) k v
 ne:=h.ne
 inj:=h.inj
 ge:=h.ge
end
structure Rws(w:World)(a:Option Addr)(n c:Nat)(R:Nat→List Nat):Prop where
 fits:n≤c
 lim:c≤9223372036854775807
 addr:0<n→a=some ⟨ab a,ao a,none⟩
 old:0<n→ab a<w.heap.size
 row:∀i,i<n→∃ra rc,w.cell? ⟨ab a,ao a+i,none⟩=some (.slice ra (R i).length rc)∧Ils w ra (R i).length rc (fun k=>(((R i).getD k 0:Nat):Int))
theorem Rws.below{w w':World}{a:Option Addr}{n c:Nat}{R:Nat→List Nat}(h:Rws w a n c R)(hb:Below w.heap.size w w'):Rws w' a n c R:=
 ⟨h.fits,h.lim,h.addr,fun hn=>Nat.lt_of_lt_of_le (h.old hn) hb.size,fun i hi=>by
  obtain⟨ra,rc,h1,h2⟩:=h.row i hi;exact⟨ra,rc,by rw[hb.cell (p:=⟨ab a,ao a+i,none⟩) (h.old j0)];exact h1,h2.below hb⟩⟩
class RWS(w:World)(a:Option Addr)(n c:Nat)(R:outParam (Nat→List Nat)):Prop where out:Rws w a n c R
section
variable {w:World}{a:Option Addr}{n c:Nat}{R:Nat→List Nat}
instance RWS.dr[h:RWS w a n c R]:RWS w.drew a n c R:=⟨h.out.below (Below.refl _ _).drew⟩
instance RWS.dn(q:Nat)[h:RWS w a n c R]:RWS (w.drewN q) a n c R:=⟨h.out.below (below_drewN (Below.refl _ _) _)⟩
instance RWS.al(o:Obj)[h:RWS w a n c R]:RWS (w.alloc o) a n c R:=⟨h.out.below ((Below.refl _ _).alloc (Nat.le_refl _) _)⟩
instance RWS.fr(L:World)[k:From L w][h:RWS L a n c R]:RWS w a n c R:=⟨h.out.below k.out⟩
end
class TBL(w:World)(base:Nat)(a:Option Addr)(n c m:Nat)(g:outParam (Nat→Nat))(T:outParam (Nat→Nat→Bool)):Prop where out:Tbl w base a n c m g T
section
variable {w:World}{base n c m:Nat}{a:Option Addr}{g:Nat→Nat}{T:Nat→Nat→Bool}
instance TBL.dr[h:TBL w base a n c m g T]:TBL w.drew base a n c m g T:=⟨h.out.below (Below.refl _ _).drew⟩
instance TBL.dn(q:Nat)[h:TBL w base a n c m g T]:TBL (w.drewN q) base a n c m g T:=⟨h.out.below (below_drewN (Below.refl _ _) _)⟩
instance TBL.al(o:Obj)[h:TBL w base a n c m g T]:TBL (w.alloc o) base a n c m g T:=⟨h.out.below ((Below.refl _ _).alloc (Nat.le_refl _) _)⟩
instance TBL.fr(L:World)[k:From L w][h:TBL L base a n c m g T]:TBL w base a n c m g T:=⟨h.out.below k.out⟩
end
theorem zBq{w:World}{base:Nat}{e:TypeId}{a:Option Addr}{n c:Nat}{xs:List Value}(h:w.ownsRow base e 1 (.slice a n c) n xs):n≤c∧c≤9223372036854775807∧(0<n→a=some ⟨ab a,0,none⟩∧base≤ab a∧ab a<w.heap.size)∧(∀i v,xs[i]? =some v→w.cell? ⟨ab a,i,none⟩=some v):=by
 obtain⟨hl,h⟩:=h;rw[Nat.mul_one]at hl;rcases h with⟨hv,h0⟩ | ⟨g,cap,cur,hv,hb,hg,hn,hm,hs,hx⟩
 · injection hv with e1 e2 e3
   subst e1 e3;refine⟨j0,j0,fun hp=>j0,fun i v hi=>?_⟩;rw[List.getElem?_eq_none j0]at hi;cases hi
 · injection hv with e1 e2 e3
   subst e1 e3;have hlt:=(Array.getElem?_eq_some_iff.1 hg).1;have hml:maxLen≤9223372036854775807:=ja;refine⟨hn,Nat.le_trans hm hml,fun _=>⟨rfl,hb,hlt⟩,fun i v hi=>?_⟩;have hi2:i<xs.length:=(List.getElem?_eq_some_iff.1 hi).1;have h1:cur[i]? =some v:=by
    rw[←Array.getElem?_toList,←hi,←hx,List.getElem?_take_of_lt j0]
   show(World.cell? w ⟨g,i,none⟩)=some v;simp[World.cell?,hg,h1]
structure TbO(w:World)(base:Nat)(e:TypeId)(v:Value)(n m:Nat)(g:Nat→Nat)(T:Nat→Nat→Bool):Prop where
 own:w.ownsRow base e 1 v n ((List.range n).map fun i=>.slice (some ⟨g i,0,none⟩) m m)
 row:∀i,i<n→RB w (g i) m (T i)
 ne:∀i,i<n→some (g i)≠v.ownBlock
 inj:∀i j,i<n→j<n→g i=g j→i=j
 ge:∀i,i<n→base≤g i
theorem zAy{α:Type}(f:Nat→α){n i:Nat}(hi:i<n):((List.range n).map f)[i]? =some (f i):=by
 rw[List.getElem?_map,List.getElem?_range hi];rfl
theorem TbO.nil(w:World)(base:Nat)(e:TypeId)(m:Nat)(g:Nat→Nat)(T:Nat→Nat→Bool):TbO w base e (.slice none 0 0) 0 m g T:=
 ⟨World.ownsRow_nil _ _ _ _,fun i hi=>j0,fun i hi=>j0,fun i j hi=>j0,fun i hi=>j0⟩
end Go.Proofs.YtmbkgapknoammaaGreatDoor
namespace Go.Proofs.YtmbkgapknoammaaGreatDoor
open Go.RowKit Sp
structure It where
 blk:Nat→Prop
 P:World→Prop
 loc:∀ {w w':World},P w→(∀g,blk g→w'.heap[g]? =w.heap[g]?)→P w'
 lt:∀ {w:World},P w→∀g,blk g→g<w.heap.size
def row(e:TypeId)(s:Nat)(v:Value)(n:Nat)(xs:List Value):It where
 blk g:=v.ownBlock=some g
 P w:=w.ownsRow 0 e s v n xs
 loc h hb:=by
  refine⟨h.1,?_⟩;rcases h.2 with hn | ⟨g,cap,cur,rfl,h0,hgg,rest⟩
  · exact .inl hn
  · exact .inr ⟨g,cap,cur,rfl,h0,(hb g rfl).trans hgg,rest⟩
 lt h g hg:=(h.lt g hg).2
def arr(b:Nat)(t:TypeId)(n:Nat)(f:Nat→Value):It where
 blk g:=g=b
 P w:=w.rowIs b t n f
 loc h hb:=h.of_block (hb b rfl)
 lt h g hg:=by rw[hg];exact h.lt
def box(b:Nat)(t:TypeId)(xs:List Value):It where
 blk g:=g=b
 P w:=w.heap[b]? =some (.cells xs.toArray t (0,0))
 loc h hb:=(hb b rfl).trans h
 lt h g hg:=by rw[hg];exact(Array.getElem?_eq_some_iff.1 h).1
def fam(n:Nat)(f:Nat→It):It where
 blk g:=∃i,i<n∧(f i).blk g
 P w:=(∀i,i<n→(f i).P w)∧∀i j g,i<n→j<n→(f i).blk g→(f j).blk g→i=j
 loc h hb:=⟨fun i hi=>(f i).loc (h.1 i hi) fun g hg=>hb g ⟨i,hi,hg⟩,h.2⟩
 lt h g hg:=by obtain⟨i,hi,hg⟩:=hg;exact(f i).lt (h.1 i hi) g hg
class Bag(w0 w:World)(B:outParam (List It)):Prop where
 below:Below w0.heap.size w0 w
 P:∀t∈B,t.P w
 ge:∀t∈B,∀g,t.blk g→w0.heap.size≤g
 apart:B.Pairwise fun x y=>∀g,x.blk g→¬y.blk g
section
variable {w0 w w':World}{B C:List It}{k:Nat}{t t':It}
theorem Bag.nil(w:World):Bag w w []:=⟨Below.refl _ _,fun _ h=>KM,fun _ h=>KM,List.Pairwise.nil⟩
theorem Bag.at(h:Bag w0 w B)(k:Nat)(hk:B[k]? =some t):t.P w:=h.P t (List.mem_of_getElem? hk)
theorem Bag.size(h:Bag w0 w B):w0.heap.size≤w.heap.size:=h.below.size
theorem Bag.on(h:Bag w0 w B)(hb:Below w.heap.size w w'):Bag w0 w' B:=
 ⟨h.below.trans (hb.mono h.size),fun t ht=>t.loc (h.P t ht) fun g hg=>hb.block g (t.lt (h.P t ht) g hg),h.ge,h.apart⟩
theorem Bag.join(h:Bag w0 w B)(k:Bag w w' C):Bag w0 w' (B++C):=by
 have h':=h.on k.below;refine⟨h'.below,fun t ht=>?_,fun t ht g hg=>?_,List.pairwise_append.2 ⟨h.apart,k.apart,fun x hx y hy g h1 h2=>?_⟩⟩
 · rcases List.mem_append.1 ht with h1 | h1
   · exact h'.P t h1
   · exact k.P t h1
 · rcases List.mem_append.1 ht with h1 | h1
   · exact h.ge t h1 g hg
   · exact Nat.le_trans h.size (k.ge t h1 g hg)
 · have:=x.lt (h.P x hx) g h1;have:=k.ge y hy g h2;omega
instance Bag.dr[h:Bag w0 w B]:Bag w0 w.drew B:=h.on (Below.refl _ _).drew
instance Bag.dn(q:Nat)[h:Bag w0 w B]:Bag w0 (w.drewN q) B:=h.on (below_drewN (Below.refl _ _) _)
instance Bag.al(o:Obj)[h:Bag w0 w B]:Bag w0 (w.alloc o) B:=h.on ((Below.refl _ _).alloc (Nat.le_refl _) _)
instance Bag.fr(L:World)[k:From L w][h:Bag w0 L B]:Bag w0 w B:=h.on k.out
theorem Bag.nil1(w:World)(o:Obj):Bag w (w.alloc o) []:=(Bag.nil w).on ((Below.refl _ _).alloc (Nat.le_refl _) _)
theorem Bag.old{w1:World}(h:Bag w1 w B)(hb:Below w0.heap.size w0 w1):Bag w0 w B:=
 ⟨hb.trans (h.below.mono hb.size),h.P,fun t ht g hg=>Nat.le_trans hb.size (h.ge t ht g hg),h.apart⟩
theorem Bag.older{o:Obj}(h:Bag (w0.alloc o) w B):Bag w0 w B:=h.old ((Below.refl _ _).alloc (Nat.le_refl _) _)
theorem Bag.sub(h:Bag w0 w B)(hs:C.Sublist B):Bag w0 w C:=⟨h.below,fun t ht=>h.P t (hs.subset ht),fun t ht=>h.ge t (hs.subset ht),h.apart.sublist hs⟩
theorem Bag.perm(h:Bag w0 w B)(hs:B.Perm C):Bag w0 w C:=
 ⟨h.below,fun t ht=>h.P t (hs.mem_iff.2 ht),fun t ht=>h.ge t (hs.mem_iff.2 ht),(hs.pairwise_iff fun {_ _} h g h1 h2=>h g h2 h1).1 h.apart⟩
theorem zMm{R:It→It→Prop}(sym:∀x y,R x y→R y x):∀ {B:List It} {k:Nat},B.Pairwise R→(∀j x,j≠k→B[j]? =some x→R t' x)→(B.set k t').Pairwise R
 | [],_,_,_=>List.Pairwise.nil
 | a::l,0,h,hn=>by
  rw[List.pairwise_cons]at h;refine List.pairwise_cons.2 ⟨fun x hx=>?_,h.2⟩;obtain⟨j,hj⟩:=List.mem_iff_getElem?.1 hx;exact hn (j+1) x j0 (by rw[List.getElem?_cons_succ];exact hj)
 | a::l,k+1,h,hn=>by
  rw[List.pairwise_cons]at h;refine List.pairwise_cons.2 ⟨fun x hx=>?_,zMm sym h.2 fun j x hj hx=>hn (j+1) x j0 (by rw[List.getElem?_cons_succ];exact hx)⟩;rcases List.mem_or_eq_of_mem_set hx with h1 | h1
  · exact h.1 x h1
  · rw[h1];exact sym _ _ (hn 0 a j0 rfl)
theorem zGj{R:It→It→Prop}(sym:∀x y,R x y→R y x){B:List It}(h:B.Pairwise R){i j:Nat}{x y:It}(hij:i≠j)(hi:B[i]? =some x)(hj:B[j]? =some y):R x y:=by
 obtain⟨h1,e1⟩:=List.getElem?_eq_some_iff.1 hi;obtain⟨h2,e2⟩:=List.getElem?_eq_some_iff.1 hj;rw[←e1,←e2];rcases Nat.lt_or_gt_of_ne hij with c | c
 · exact List.pairwise_iff_getElem.1 h i j h1 h2 c
 · exact sym _ _ (List.pairwise_iff_getElem.1 h j i h2 h1 c)
theorem Bag.upd(h:Bag w0 w B)(k:Nat)(hk:B[k]? =some t)(hos:w'.os=w.os)(htp:w'.tape=w.tape)(hou:w'.output=w.output)(hsz:w.heap.size≤w'.heap.size)
 (hb:∀g,g<w.heap.size→¬t.blk g→w'.heap[g]? =w.heap[g]?) (hP:t'.P w') (ht:∀g,t'.blk g→t.blk g∨w.heap.size≤g):Bag w0 w' (B.set k t'):=by
 have htm:=List.mem_of_getElem? hk;have hlt:=t.lt (h.P t htm);have sym:∀x y:It,(∀g,x.blk g→¬y.blk g)→∀g,y.blk g→¬x.blk g:=fun _ _ h g h1 h2=>h g h2 h1;refine⟨h.below.trans ⟨hos,htp,hou,hsz,fun g hg=>hb g (Nat.lt_of_lt_of_le hg h.size) fun h1=>?_⟩,fun x hx=>?_,fun x hx g hg=>?_,zMm sym h.apart fun j x hj hx g h1 h2=>?_⟩
 · have:=h.ge t htm g h1;omega
 · obtain⟨j,hj⟩:=List.mem_iff_getElem?.1 hx;rw[List.getElem?_set]at hj
   by_cases e:k=j
   · rw[if_pos e]at hj
     split at hj
     · injection hj with hj;rw[←hj];exact hP
     · cases hj
   · rw[if_neg e]at hj;have hm:=List.mem_of_getElem? hj;refine x.loc (h.P x hm) fun g hg=>hb g (x.lt (h.P x hm) g hg) fun h1=>?_;exact zGj sym h.apart e hk hj g h1 hg
 · rcases List.mem_or_eq_of_mem_set hx with h1 | h1
   · exact h.ge x h1 g hg
   · rw[h1]at hg;rcases ht g hg with h2 | h2
     · exact h.ge t htm g h2
     · exact Nat.le_trans h.size h2
 · have hm:=List.mem_of_getElem? hx;rcases ht g h1 with h3 | h3
   · exact zGj sym h.apart (Ne.symm hj) hk hx g h3 h2
   · have:=x.lt (h.P x hm) g h2;omega
theorem Bag.to(h:Bag w0 w B)(k:Nat)(hk:B[k]? =some t)(hP:t.P w→t'.P w)(ht:∀g,t'.blk g→t.blk g):Bag w0 w (B.set k t'):=
 h.upd k hk rfl rfl rfl (Nat.le_refl _) (fun _ _ _=>rfl) (hP (h.at k hk)) fun g hg=>Or.inl (ht g hg)
theorem Bag.new(h:Bag w0 w B)(hb:Below w.heap.size w w')(hP:t.P w')(ht:∀g,t.blk g→w.heap.size≤g):Bag w0 w' (B++ [t]):=
 h.join ⟨hb,fun x hx=>by rw[List.mem_singleton.1 hx];exact hP,fun x hx=>by rw[List.mem_singleton.1 hx];exact ht,List.pairwise_singleton _ _⟩
theorem Bag.var(h:Bag w0 w B)(t:TypeId)(xs:List Value){n:Nat}(hn:n=w.heap.size):Bag w0 (w.alloc (.cells xs.toArray t)) (B++ [box n t xs]):=by
 subst hn;exact h.new (t:=box w.heap.size t xs) ((Below.refl _ _).alloc (Nat.le_refl _) _) (heap_alloc_new w _) fun g hg=>KR
theorem Bag.make(h:Bag w0 w B)(t:TypeId)(z:Value)(m:Nat){n:Nat}(hn:n=w.heap.size):Bag w0 (w.alloc (.cells (madeCells #[z] m) t)) (B++ [arr n t m fun _=>z]):=by
 subst hn;exact h.new ((Below.refl _ _).alloc (Nat.le_refl _) _) (World.rowIs_made w z m t) fun g hg=>KR
theorem Bag.nilr(h:Bag w0 w B)(e:TypeId)(s:Nat):Bag w0 w (B++ [row e s (.slice none 0 0) 0 []]):=
 h.new (Below.refl _ _) (World.ownsRow_nil _ _ _ _) fun g hg=>(by cases hg)
theorem Bag.lit(h:Bag w0 w B)(e:TypeId)(s:Nat)(xs:List Value){m n:Nat}(hn:n=w.heap.size)(hm:m≤maxLen)(hl:xs.length=m*s):Bag w0 (w.alloc (.cells xs.toArray e)) (B++ [row e s (.slice (some ⟨n,0,none⟩) m m) m xs]):=by
 subst hn;refine h.new ((Below.refl _ _).alloc (Nat.le_refl _) _) ⟨hl,.inr ⟨_,m,xs.toArray,rfl,Nat.zero_le _,heap_alloc_new w _,Nat.le_refl _,hm,by simpa using hl,by simp[←hl]⟩⟩ fun g hg=>?_;injection hg with hg;rw[←hg];exact Nat.le_refl _
theorem Bag.app{e:TypeId}{s n m:Nat}{v u:Value}{xs ys:List Value}(h:Bag w0 w B)(k:Nat)(hk:B[k]? =some (row e s v n xs)){b:Nat}(ho:w'.ownsRow b e s u m ys)(hg:w.grownBy w' v.ownBlock)
 (hob:u.ownBlock=v.ownBlock∨u.ownBlock=some w.heap.size):Bag w0 w' (B.set k (row e s u m ys)):=by
 refine h.upd k hk hg.os hg.tape hg.output hg.size (fun g h1 h2=>hg.block g h1 fun e=>h2 e.symm) ⟨ho.1,?_⟩ fun g h1=>?_
 · rcases ho.2 with h1 | ⟨g,cap,cur,h1,h2,h3⟩
   · exact .inl h1
   · exact .inr ⟨g,cap,cur,h1,Nat.zero_le _,h3⟩
 · have h1:u.ownBlock=some g:=h1;rcases hob with h2 | h2
   · exact Or.inl (h2.symm.trans h1)
   · rw[h2]at h1;injection h1 with h1;exact Or.inr (Nat.le_of_eq h1)
theorem zGb(w:World)(b i:Nat)(x:Value):∀g,g<w.heap.size→¬g=b→(w.setCell ⟨b,i,none⟩ x).heap[g]? =w.heap[g]? :=fun g _ hg=>Below.heap_setCell w ⟨b,i,none⟩ x g hg
theorem Bag.put{b:Nat}{e:TypeId}{xs:List Value}(h:Bag w0 w B)(k:Nat)(hk:B[k]? =some (box b e xs))(i:Nat)(x:Value):Bag w0 (w.setCell ⟨b,i,none⟩ x) (B.set k (box b e (xs.set i x))):=by
 refine h.upd k hk rfl rfl rfl Q2 (zGb w b i x) ?_ fun g hg=>Or.inl hg;have h1:w.heap[b]? =some (.cells xs.toArray e (0,0)):=h.at k hk;show(w.setCell ⟨b,i,none⟩ x).heap[b]? =_;simp[World.setCell,Array.getElem?_modify,h1]
theorem Bag.st{b n:Nat}{e:TypeId}{f:Nat→Value}(h:Bag w0 w B)(k:Nat)(hk:B[k]? =some (arr b e n f))(i:Nat)(x:Value):Bag w0 (w.setCell ⟨b,i,none⟩ x) (B.set k (arr b e n fun j=>if j=i then x else f j)):=
 h.upd k hk rfl rfl rfl Q2 (zGb w b i x) (World.rowIs.set (h.at k hk) i x) fun g hg=>Or.inl hg
theorem Bag.sf{b:Nat→Nat}{m n r:Nat}{e:TypeId}{f:Nat→Nat→Value}(h:Bag w0 w B)(k:Nat)(hk:B[k]? =some (fam m fun i=>arr (b i) e n (f i)))(hr:r<m)(i:Nat)(x:Value):Bag w0 (w.setCell ⟨b r,i,none⟩ x) (B.set k (fam m fun a=>arr (b a) e n fun j=>if a=r∧j=i then x else f a j)):=by
 obtain⟨h1,h2⟩:=h.at k hk;refine h.upd k hk rfl rfl rfl Q2 (fun g hg h3=>zGb w (b r) i x g hg fun e=>h3 ⟨r,hr,e⟩) ⟨fun a ha=>?_,h2⟩ fun g hg=>Or.inl hg;have h3:w.rowIs (b a) e n (f a):=h1 a ha;show(w.setCell ⟨b r,i,none⟩ x).rowIs (b a) e n _
 by_cases c:a=r
 · subst c;exact(h3.set i x).congr fun j _=>by show(if j=i then x else f a j)=if a=a∧j=i then x else f a j;split <;> rename_i h5 <;> simp[h5]
 · exact(h3.setOther (a:=⟨b r,i,none⟩) (fun e=>c (h2 a r (b a) ha hr rfl e)) x).congr fun j _=>by show f a j=if a=r∧j=i then x else f a j;rw[if_neg fun h=>c h.1]
theorem Bag.more{m:Nat}{f f':Nat→It}(h:Bag w0 w B)(i j:Nat)(hij:i<j)(hi:B[i]? =some (fam m f))(hj:B[j]? =some t)(hf:∀a,a<m→f' a=f a)(ht:f' m=t):Bag w0 w ((B.eraseIdx j).set i (fam (m+1) f')):=by
 have sym:∀x y:It,(∀g,x.blk g→¬y.blk g)→∀g,y.blk g→¬x.blk g:=fun _ _ h g h1 h2=>h g h2 h1;obtain⟨h1,h2⟩:=h.at i hi;have h3:=h.at j hj;have hne:=zGj sym h.apart (Nat.ne_of_lt hij) hi hj;have hF:(fam (m+1) f').P w:=by
  refine⟨fun a ha=>?_,fun a c g ha hc ga gc=>?_⟩
  · by_cases e:a=m
    · rw[e,ht];exact h3
    · rw[hf a j0];exact h1 a j0
  · by_cases e:a=m <;> by_cases e':c=m
    · rw[e,e']
    · rw[e,ht]at ga;rw[hf c j0]at gc;exact absurd ga (hne g ⟨c,j0,gc⟩)
    · rw[e',ht]at gc;rw[hf a j0]at ga;exact absurd gc (hne g ⟨a,j0,ga⟩)
    · rw[hf a j0]at ga;rw[hf c j0]at gc;exact h2 a c g j0 j0 ga gc
 have hblk:∀g,(fam (m+1) f').blk g→(fam m f).blk g∨t.blk g:=fun g ⟨a,ha,ga⟩=>by
  by_cases e:a=m
  · rw[e,ht]at ga;exact Or.inr ga
  · rw[hf a j0]at ga;exact Or.inl ⟨a,j0,ga⟩
 have hs:(B.eraseIdx j).Sublist B:=List.eraseIdx_sublist _ _;refine⟨h.below,fun x hx=>?_,fun x hx g hg=>?_,zMm sym (h.apart.sublist hs) fun p _ hp hx g h4 h5=>?_⟩
 · rcases List.mem_or_eq_of_mem_set hx with h4 | h4
   · exact h.P x (hs.subset h4)
   · rw[h4];exact hF
 · rcases List.mem_or_eq_of_mem_set hx with h4 | h4
   · exact h.ge x (hs.subset h4) g hg
   · rw[h4]at hg;rcases hblk g hg with h5 | h5
     · exact h.ge _ (List.mem_of_getElem? hi) g h5
     · exact h.ge _ (List.mem_of_getElem? hj) g h5
 · rw[List.getElem?_eraseIdx]at hx;rcases hblk g h4 with h6 | h6
   · split at hx
     · exact zGj sym h.apart (Ne.symm hp) hi hx g h6 h5
     · exact zGj sym h.apart j0 hi hx g h6 h5
   · split at hx
     · exact zGj sym h.apart j0 hj hx g h6 h5
     · exact zGj sym h.apart j0 hj hx g h6 h5
end
class VB(w:World)(b:Nat)(xs:outParam (List Value)):Prop where out:∃t,w.heap[b]? =some (.cells xs.toArray t (0,0))
theorem VB.below{w w':World}{b:Nat}{xs:List Value}(h:VB w b xs)(hb:Below w.heap.size w w'):VB w' b xs:=by
 obtain⟨t,h⟩:=h.out;exact⟨t,by rw[hb.block b (Array.getElem?_eq_some_iff.1 h).1];exact h⟩
section
variable {w:World}{b:Nat}{xs r:List Value}{x0 x1 x2 x3 x4 x5:Value}
instance VB.dr[h:VB w b xs]:VB w.drew b xs:=⟨h.out⟩
instance VB.dn(q:Nat)[h:VB w b xs]:VB (w.drewN q) b xs:=h.below (below_drewN (Below.refl _ _) _)
instance VB.al(o:Obj)[h:VB w b xs]:VB (w.alloc o) b xs:=h.below ((Below.refl _ _).alloc (Nat.le_refl _) _)
instance VB.fr(L:World)[k:From L w][h:VB L b xs]:VB w b xs:=h.below k.out
instance VB.mk'(n:Nat)(t:TypeId)[h:Sz w n]:VB (w.alloc (.cells xs.toArray t)) n xs:=⟨t,by rw[h.out];exact heap_alloc_new w _⟩
theorem VB.se(h:VB w b xs){g:Nat}(hg:b≠g)(i:Nat)(v:Value):VB (w.setCell ⟨g,i,none⟩ v) b xs:=by
 obtain⟨t,h⟩:=h.out;exact⟨t,(Below.heap_setCell w ⟨g,i,none⟩ v b hg).trans h⟩
theorem VB.cell(h:VB w b xs)(i:Nat):w.cell? ⟨b,i,none⟩=xs[i]? :=by obtain⟨t,h⟩:=h.out;simp[World.cell?,h]
@[go_sem] theorem VB.r0 (w:World) (b:Nat) {x0:Value} {r:List Value} [h:VB w b (x0::r)]:w.cell? ⟨b,0,none⟩=some x0:=h.cell 0
@[go_sem] theorem VB.r1 (w:World) (b:Nat) {x0 x1:Value} {r:List Value} [h:VB w b (x0::x1::r)]:w.cell? ⟨b,1,none⟩=some x1:=h.cell 1
@[go_sem] theorem VB.r2 (w:World) (b:Nat) {x0 x1 x2:Value} {r:List Value} [h:VB w b (x0::x1::x2::r)]:w.cell? ⟨b,2,none⟩=some x2:=h.cell 2
@[go_sem] theorem VB.r3 (w:World) (b:Nat) {x0 x1 x2 x3:Value} {r:List Value} [h:VB w b (x0::x1::x2::x3::r)]:w.cell? ⟨b,3,none⟩=some x3:=h.cell 3
@[go_sem] theorem VB.r4 (w:World) (b:Nat) {x0 x1 x2 x3 x4:Value} {r:List Value} [h:VB w b (x0::x1::x2::x3::x4::r)]:w.cell? ⟨b,4,none⟩=some x4:=h.cell 4
@[go_sem] theorem VB.rz (w:World) (b i:Nat) {xs:List Value} [h:VB w b xs]:w.frozen? ⟨b,i,none⟩=false:=by obtain⟨t,h⟩:=h.out;simp[World.frozen?,h]
@[go_sem] theorem VB.rs (w:World) (b:Nat) {xs:List Value} [h:VB w b xs]:b<w.heap.size:=by obtain⟨t,h⟩:=h.out;exact(Array.getElem?_eq_some_iff.1 h).1
class WE(w:World)(b i:Nat)(v:outParam Value):Prop where
 out:w.cell? ⟨b,i,none⟩=some v
 z:w.frozen? ⟨b,i,none⟩=false
 lt:b<w.heap.size
variable {i:Nat}{v:Value}
theorem WE.below{w':World}(h:WE w b i v)(hb:Below w.heap.size w w'):WE w' b i v:=
 ⟨((zA6 hb).1 _ _ h.lt).trans h.out,((zA6 hb).2 _ _ h.lt).trans h.z,Nat.lt_of_lt_of_le h.lt hb.size⟩
instance WE.dr[h:WE w b i v]:WE w.drew b i v:=h.below (Below.refl _ _).drew
instance WE.dn(q:Nat)[h:WE w b i v]:WE (w.drewN q) b i v:=h.below (below_drewN (Below.refl _ _) _)
instance WE.al(o:Obj)[h:WE w b i v]:WE (w.alloc o) b i v:=h.below ((Below.refl _ _).alloc (Nat.le_refl _) _)
instance WE.fr(L:World)[k:From L w][h:WE L b i v]:WE w b i v:=h.below k.out
@[go_sem] theorem WE.rd (w:World) (b i:Nat) {v:Value} [h:WE w b i v]:w.cell? ⟨b,i,none⟩=some v:=h.out
@[go_sem] theorem WE.rz (w:World) (b i:Nat) {v:Value} [h:WE w b i v]:w.frozen? ⟨b,i,none⟩=false:=h.z
end
section
variable {w0 w:World}{B:List It}{b n:Nat}{e:TypeId}{xs:List Value}{f:Nat→Value}
theorem Bag.vb(h:Bag w0 w B)(k:Nat)(hk:B[k]? =some (box b e xs)):VB w b xs:=⟨e,h.at k hk⟩
theorem Bag.we(h:Bag w0 w B)(k:Nat)(hk:B[k]? =some (arr b e n f)){i:Nat}(hi:i<n):WE w b i (f i):=
 ⟨World.rowIs.cell (h.at k hk) hi,World.rowIs.frozen (h.at k hk) i,World.rowIs.lt (h.at k hk)⟩
theorem Bag.wf{b:Nat→Nat}{m:Nat}{f:Nat→Nat→Value}(h:Bag w0 w B)(k:Nat)(hk:B[k]? =some (fam m fun i=>arr (b i) e n (f i))){r i:Nat}(hr:r<m)(hi:i<n):WE w (b r) i (f r i):=by
 have h1:w.rowIs (b r) e n (f r):=(h.at k hk).1 r hr;exact⟨h1.cell hi,h1.frozen i,h1.lt⟩
theorem Bag.fr'(h:Bag w0 w B):From w0 w:=⟨h.below⟩
theorem Bag.own{s m:Nat}{v:Value}(h:Bag w0 w B)(k:Nat)(hk:B[k]? =some (row e s v m xs)):w.ownsRow 0 e s v m xs:=h.at k hk
end
def zBb(a:Option Addr)(n c:Nat)(L:Nat→Int):It where
 blk g:=0<n∧ab a=g
 P w:=Ils w a n c L
 loc {w w'} h hb:=⟨h.fits,h.lim,h.addr,fun i hi=>KO,fun hn=>by
  have h1:=h.cell 0 hn;rw[←World.cell?_of_block (w:=w) (w':=w') (a:=⟨ab a,ao a+0,none⟩) (hb (ab a) ⟨hn,rfl⟩)]at h1;exact World.block_lt_of_cell? w' ⟨ab a,ao a+0,none⟩ h1⟩
 lt h g hg:=Xm
def zBZ(a:Option Addr)(n c:Nat)(L:Nat→Nat):It where
 blk g:=0<n∧ab a=g
 P w:=Fls w a n c L
 loc {w w'} h hb:=⟨h.fits,h.lim,h.addr,fun i hi=>KO,h.b,fun hn=>by
  have h1:=h.cell 0 hn;rw[←World.cell?_of_block (w:=w) (w':=w') (a:=⟨ab a,ao a+0,none⟩) (hb (ab a) ⟨hn,rfl⟩)]at h1;exact World.block_lt_of_cell? w' ⟨ab a,ao a+0,none⟩ h1⟩
 lt h g hg:=Xm
theorem zPV{w:World}{b n:Nat}{f:Nat→Value}{X:Nat→Nat}(h:(arr b 37 n f).P w)(hn:n≤9223372036854775807)(hf:∀i,i<n→f i=.int .u64 ((X i:Nat):Int))(hb:∀i,i<n→X i<18446744073709551616):Fls w (some ⟨b,0,none⟩) n n X:=by
 have h:w.rowIs b 37 n f:=h;exact⟨Nat.le_refl _,hn,fun _=>rfl,fun i hi=>by
  show w.cell? ⟨b,0+i,none⟩=_;rw[Nat.zero_add,h.cell hi,hf i hi],hb,fun _=>h.lt⟩
def zAI(l:List Nat):List Value:=l.map fun(x:Nat)=>Value.int .u64 (x:Int)
theorem zCp(l m:List Nat):zAI (l++m)=zAI l++zAI m:=List.map_append
theorem zE7{l:List Nat}{j x:Nat}(h:l[j]? =some x):(zAI l)[j]? =some (.int .u64 (x:Int)):=by unfold zAI;rw[List.getElem?_map,h];rfl
theorem zD5(l:List Nat):(zA2 l).length=l.length:=List.length_map _
theorem zD8(l:List Nat):(zAI l).length=l.length:=List.length_map _
section
variable {w0 w:World}{B:List It}{v:Value}{n:Nat}{l:List Nat}
theorem zC5{e:TypeId}{xs:List Value}(h:w.ownsRow 0 e 1 v n xs):∃a c,v=.slice a n c∧(0<n→v.ownBlock=some (ab a))∧n≤c∧c≤9223372036854775807∧(0<n→a=some ⟨ab a,ao a,none⟩∧ab a<w.heap.size∧∀i x,xs[i]? =some x→w.cell? ⟨ab a,ao a+i,none⟩=some x):=by
 obtain⟨a,c,rfl⟩:=zA3 h;obtain⟨h1,h2,h3,h4⟩:=zBq h;refine⟨a,c,rfl,fun hn=>?_,h1,h2,fun hn=>?_⟩
 · obtain⟨ea,_⟩:=h3 hn;rw[ea];rfl
 · obtain⟨ea,_,hlt⟩:=h3 hn;refine⟨by rw[ea];rfl,hlt,fun i x hx=>?_⟩;have:=h4 i x hx;rw[ea]at this ⊢;show w.cell? ⟨ab a,0+i,none⟩=_;rw[Nat.zero_add];exact this
theorem zAP(h:w.ownsRow 0 3 1 v n (zA2 l)):∃a c,v=.slice a n c∧Ils w a n c (fun t=>((l.getD t 0:Nat):Int))∧(0<n→v.ownBlock=some (ab a)):=by
 obtain⟨a,c,hv,h1,h2,h3,h4⟩:=zC5 h;have hl:l.length=n:=by have:=h.1;rw[zD5,Nat.mul_one]at this;exact this
 refine⟨a,c,hv,⟨h2,h3,fun hn=>(h4 hn).1,fun i hi=>?_,fun hn=>(h4 hn).2.1⟩,h1⟩;refine(h4 j0).2.2 i _ (zD6 ?_);rw[List.getD_eq_getElem?_getD,List.getElem?_eq_getElem j0];rfl
theorem zD4(h:w.ownsRow 0 37 1 v n (zAI l))(hb:∀i,i<n→l.getD i 0<18446744073709551616):∃a c,v=.slice a n c∧Fls w a n c (fun t=>l.getD t 0)∧(0<n→v.ownBlock=some (ab a)):=by
 obtain⟨a,c,hv,h1,h2,h3,h4⟩:=zC5 h;have hl:l.length=n:=by have:=h.1;rw[zD8,Nat.mul_one]at this;exact this
 refine⟨a,c,hv,⟨h2,h3,fun hn=>(h4 hn).1,fun i hi=>?_,hb,fun hn=>(h4 hn).2.1⟩,h1⟩;refine(h4 j0).2.2 i _ (zE7 ?_);rw[List.getD_eq_getElem?_getD,List.getElem?_eq_getElem j0];rfl
end
end Go.Proofs.YtmbkgapknoammaaGreatDoor

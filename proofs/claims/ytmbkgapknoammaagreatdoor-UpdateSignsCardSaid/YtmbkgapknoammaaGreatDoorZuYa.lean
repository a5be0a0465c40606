/-
  Walks: sparsekit.In, Ascending; sparseref09.Range, Twice.
-/
import Derived.Test.YtmbkgapknoammaaGreatDoorZuEe
import Derived.BigQuiet
import Derived.Test.YtmbkgapknoammaaGreatDoorZuEm
set_option maxRecDepth 100000
set_option maxHeartbeats 20000000
namespace Go.Proofs.YtmbkgapknoammaaGreatDoor
open Go.RowKit Sp
def inB(L:Nat→Int)(v:Int):Nat→Bool
 | 0=>false
 | k+1=>inB L v k||decide (L k=v)
theorem zN1{L:Nat→Int}{v:Int}{n k:Nat}(hk:k<n)(h:L k=v):inB L v n=true:=by
 induction n with
 | zero=>omega
 | succ n ih=>
  show(inB L v n||decide (L n=v))=true;rcases Nat.lt_succ_iff_lt_or_eq.1 hk with c | c
  · rw[ih c];rfl
  · rw[←c,decide_eq_true h,Bool.or_true]
theorem zQi{L:Nat→Int}{v:Int}{n:Nat}(h:∀k,k<n→L k≠v):inB L v n=false:=by
 induction n with
 | zero=>rfl
 | succ n ih=>show(inB L v n||decide (L n=v))=false;rw[ih fun k hk=>h k j0,decide_eq_false (h n j0)];rfl
theorem Ils.cut0{w:World}{a:Option Addr}{n c:Nat}{L:Nat→Int}(h:Ils w a n c L){k:Nat}(hk:k≤n):Ils w a k c L:=
 ⟨Nat.le_trans hk h.fits,h.lim,fun h0=>h.addr j0,fun i hi=>h.cell i j0,fun h0=>h.old j0⟩
attribute [local irreducible] Calls
theorem zMV(w:World)(a:Option Addr)(n c:Nat)(L:Nat→Int)[hx:IZ w a n c L](v:Int):Calls Tryz.prog 137 #[.slice a n c,.int .i64 v] w fun o w'=>o=.returned (.bool (inB L v n))∧From w w':=by
 have l1:=hx.out.fits;have l2:=hx.out.lim;obtain⟨R,hR⟩:∃R,R=inB L v n:=⟨_,rfl⟩;have HR:=Lib.hid hR;rw[←hR];clear hR;go_enter Tryz.func137,Tryz.ntmps137;go_wp2_with fail
 go_loopw [5] (fun x wr=>∃k:Nat,k≤n∧x=.int .i64 k∧(∀t,t<k→L t≠v)∧Below w.heap.size w wr) (fun x _=>n-(intOf x).toNat)
 case atStart=>exact⟨0,j0,rfl,fun t h=>j0,Below.refl _ _⟩
 case round=>
  obtain⟨k,hk,rfl,hA,hbr⟩:=hrel;haveI bw:From w wr:=⟨hbr⟩;have HA:=Lib.hid hA;clear hbr hA
  by_cases hlt:k<n
  · have k1:=(inferInstance:IZ wr a n c L).out;have i1:=k1.idx k hlt;haveI z1:CE wr (ab a) (ao a+k) (.int .i64 (L k)):=⟨k1.cell k hlt,k1.old j0⟩
    by_cases he:L k=v
    · have HY:Hid (R=true):=Lib.hid (by rw[HR.out];exact zN1 hlt he);have d1:(L k==v)=true:=(by rw[beq_iff_eq];exact he);generalize L k=x at *;clear k1 he;go_wp2_with fail;go_ret;exact⟨by rw[HY.out] <;> rfl,⟨zbh⟩⟩
    · have HA2:=Lib.hid (show∀t,t<k+1→L t≠v from fun t ht=>by
       rcases Nat.lt_succ_iff_lt_or_eq.1 ht with h | h
       · exact HA.out t h
       · rw[h];exact he)
      have d1:(L k==v)=false:=(by rw[beq_eq_false_iff_ne];exact he);obtain⟨x,hxe⟩:∃x,x=L k:=⟨_,rfl⟩;rw[←hxe]at z1 d1;clear k1 he hxe;go_wp2_with fail;go_roundw
      case rel=>exact⟨k+1,j0,jm,HA2.out,zbh⟩
      case measure=>exact jb
  · obtain rfl:k=n:=j0;have HY:Hid (R=false):=Lib.hid (by rw[HR.out];exact zQi HA.out);go_wp2_with fail;go_ret;exact⟨by rw[HY.out] <;> rfl,bw⟩
theorem zPf(w:World)(a:Option Addr)(n c:Nat)(L:Nat→Int)[hx:IZ w a n c L](hh:∀i,0<i→i<n→L (i-1)<L i):Calls Tryz.prog 136 #[.slice a n c] w fun o w'=>o=.returned (.bool true)∧From w w':=by
 have l1:=hx.out.fits;have l2:=hx.out.lim;have HH:=Lib.hid hh;clear hh;go_enter Tryz.func136,Tryz.ntmps136;go_wp2_with fail
 go_loopw [3] (fun x wr=>∃k:Nat,1≤k∧k≤n+1∧x=.int .i64 k∧Below w.heap.size w wr) (fun x _=>n-(intOf x).toNat)
 case atStart=>exact⟨1,Nat.le_refl _,j0,rfl,Below.refl _ _⟩
 case round=>
  obtain⟨k,hk0,hk,rfl,hbr⟩:=hrel;haveI bw:From w wr:=⟨hbr⟩;clear hbr
  by_cases hlt:k<n
  · have k1:=(inferInstance:IZ wr a n c L).out;have i1:=k1.idx k hlt;haveI z1:CE wr (ab a) (ao a+k) (.int .i64 (L k)):=⟨k1.cell k hlt,k1.old j0⟩;have i2:=k1.idx (k-1) j0;rw[show((k-1:Nat):Int)=(k:Int)-1 by omega]at i2;haveI z2:CE wr (ab a) (ao a+(k-1)) (.int .i64 (L (k-1))):=⟨k1.cell (k-1) j0,k1.old j0⟩;have h1:=HH.out k j0 hlt;have d1:decide (L k≤L (k-1))=false:=decide_eq_false j0;have h1':¬L k≤L (k-1):=j0;generalize L (k-1)=x1 at *;generalize L k=x at *;generalize k-1=k2 at *;clear k1;go_wp2_with fail
    go_quiet (fail)
    all_goals(
     go_wp2_with fail;go_roundw
     case rel=>exact⟨k+1,j0,j0,jm,zbh⟩
     case measure=>simp[intOf];omega)
  · exact Qg
theorem zKJ(w:World)(a:Option Addr)(n c:Nat)(L:Nat→Int)[hx:IZ w a n c L](m:Nat)(hh:∀i,i<n→0≤L i∧L i<m):Calls Tryz.prog 165 #[.slice a n c,.int .i64 m] w fun o w'=>o=.returned (.bool true)∧From w w':=by
 have l1:=hx.out.fits;have l2:=hx.out.lim;have HH:=Lib.hid hh;clear hh;go_enter Tryz.func165,Tryz.ntmps165;go_wp2_with fail
 go_loopw [5] (fun x wr=>∃k:Nat,0≤k∧k≤n+0∧x=.int .i64 k∧Below w.heap.size w wr) (fun x _=>n-(intOf x).toNat)
 case atStart=>exact⟨0,Nat.le_refl _,j0,rfl,Below.refl _ _⟩
 case round=>
  obtain⟨k,hk0,hk,rfl,hbr⟩:=hrel;haveI bw:From w wr:=⟨hbr⟩;clear hbr
  by_cases hlt:k<n
  · have k1:=(inferInstance:IZ wr a n c L).out;have i1:=k1.idx k hlt;haveI z1:CE wr (ab a) (ao a+k) (.int .i64 (L k)):=⟨k1.cell k hlt,k1.old j0⟩;have h1:=HH.out k hlt;have d1:decide (L k<0)=false:=decide_eq_false j0;have d2:decide ((m:Int)≤L k)=false:=decide_eq_false j0;have h2:¬L k<0:=j0;have h3:¬(m:Int)≤L k:=j0;generalize L k=x at *;clear k1;go_wp2_with fail;go_roundw
    case rel=>exact⟨k+1,j0,j0,jm,zbh⟩
    case measure=>exact jb
  · exact Qg
theorem zKG(w:World)(a:Option Addr)(n c:Nat)(L:Nat→Int)[hx:IZ w a n c L](hh:∀i t,i<n→t<i→L t≠L i):Calls Tryz.prog 166 #[.slice a n c] w fun o w'=>o=.returned (.bool false)∧From w w':=by
 have l1:=hx.out.fits;have l2:=hx.out.lim;have HH:=Lib.hid hh;clear hh;have HI:=fun W k v [IZ W a k c L]=>Lib.hid (zMV W a k c L v);go_enter Tryz.func166,Tryz.ntmps166;go_wp2_with fail
 go_loopw [3] (fun x wr=>∃k:Nat,0≤k∧k≤n+0∧x=.int .i64 k∧Below w.heap.size w wr) (fun x _=>n-(intOf x).toNat)
 case atStart=>exact⟨0,Nat.le_refl _,j0,rfl,Below.refl _ _⟩
 case round=>
  obtain⟨k,hk0,hk,rfl,hbr⟩:=hrel;haveI bw:From w wr:=⟨hbr⟩;clear hbr
  by_cases hlt:k<n
  · have k1:=(inferInstance:IZ wr a n c L).out;have i1:=k1.idx k hlt;haveI z1:CE wr (ab a) (ao a+k) (.int .i64 (L k)):=⟨k1.cell k hlt,k1.old j0⟩;haveI k2:IZ wr a k c L:=⟨k1.cut0 j0⟩;have hkc:k≤c:=j0;have HIk:=fun W [IZ W a k c L]=>HI W k (L k);rw[zQi fun t ht=>HH.out k t hlt ht]at HIk;obtain⟨x,hxe⟩:∃x,x=L k:=⟨_,rfl⟩;rw[←hxe]at z1 HIk;clear k1 hxe;go_wp2_with fail;refine bgj (fun w'=>Below wr.heap.size wr w') [] je (zbh) (fun hHeld=>?_);simp only[List.size_toArray,List.length_cons,List.length_nil,Nat.reduceAdd,Array.replicate_succ,Array.replicate_zero,List.push_toArray,List.nil_append,List.cons_append];refine tk 0 10 [2,7] ?_;refine tk 1 11 [2,7] ?_;refine tk 2 12 [7] ?_;refine tk 3 13 [5,6,7] ?_;refine tk 4 14 [5,6,7] ?_;refine tk 5 15 [6,7] ?_;refine tk 6 16 [7] ?_;refine stj 7 (h:=fun K hK=>?_);go_simp;refine(HIk _).out.mono ?_;rintro o w3 ⟨rfl,b3⟩;go_simp;refine hK.out _ _ (Or.inr zbh) ?_;clear hK K
    try simp only[List.setIfInBounds_toArray,List.set_cons_zero,List.set_cons_succ]
    refine enj je ?_ _;go_wp2_with fail;go_roundw
    case rel=>exact⟨k+1,j0,j0,jm,zbh⟩
    case measure=>exact jb
  · exact Qg
end Go.Proofs.YtmbkgapknoammaaGreatDoor
set_option maxRecDepth 100000
set_option maxHeartbeats 20000000
namespace Go.Proofs.YtmbkgapknoammaaGreatDoor
open Go.RowKit Sp
theorem zOy{P:Program}(t ty e:TypeId)(i:TypeInfo)(ht:P.underlying t=some (.slice e))(hi:P.info? e=some i)(w:World)(a b:Option Addr)(n cp c:Nat)(h:n≤cp):(Builtin.append_ #[t,t] ty #[.slice a n cp,.slice b 0 c]).run P w=.ok (.slice a n cp) w:=by
 cases b <;> cases a <;> simp[Builtin.append_,run_underlying ht,sizeOf,typeInfo,hi,Builtin.lenOf,Builtin.firstCells,loadCells,loadCellsFrom,h,storeCells]
theorem zEi{w0 w:World}{B:List It}(hB:Bag w0 w B)(k:Nat){v:Value}{n:Nat}{xs:List Value}(hk:B[k]? =some (row 3 1 v n xs))(b:Option Addr)(m c:Nat)(L:Nat→Int)(hL:Ils w b m c L)(hn:n+m≤1048576)(ty:TypeId):∃v' w',(Builtin.append_ #[24,24] ty #[v,.slice b m c]).run Tryz.prog w=.ok v' w'∧Bag w0 w' (B.set k (row 3 1 v' (n+m) (xs++(List.range m).map fun i=>.int .i64 (L i))))∧(v≠.slice none 0 0→v'≠.slice none 0 0):=by
 obtain⟨i0,hi,hz0,hz1,hz2⟩:=info_parts zSE;rcases Nat.eq_zero_or_pos m with h0 | h0
 · subst h0;obtain⟨a,cp,hv⟩:=zA3 (hB.own k hk);subst hv;obtain⟨h1,h2,h3,h4⟩:=zBq (hB.own k hk);refine⟨_,w,zOy _ _ _ i0 zKq hi w a b n cp c h1,?_,fun h=>h⟩;have hl:k<B.length:=(List.getElem?_eq_some_iff.1 hk).1;have e:B.set k (row 3 1 (.slice a n cp) (n+0) (xs++(List.range 0).map fun i=>.int .i64 (L i)))=B:=by
    rw[List.range_zero,List.map_nil,List.append_nil,Nat.add_zero];refine List.ext_getElem? fun j=>?_;rw[List.getElem?_set]
    split
    · rename_i e;subst e;exact hk.symm
    · exact jA
   rw[e];exact hB
 · have ha:=hL.addr h0;obtain⟨v',w',hr,h1,h2,h3,h4⟩:=run_append_own_at (P:=Tryz.prog) w 0 24 ty 3 i0 (.int .i64 0) 1 8 zKq hi hz0 hz1 hz2 rfl ja v n xs (hB.own k hk) ⟨ab b,ao b,none⟩ m c ((List.range m).map fun i=>.int .i64 (L i)) jz
    (fun j u hu=>by
     have hj:j<m:=KH;rw[zAy _ hj]at hu;injection hu with hu
     rw[←hu,Addr.add_lit];exact hL.cell j hj)
    (fun u hu=>by obtain⟨i,_,rfl⟩:=List.mem_map.1 hu;rfl) jJ j0 (Nat.zero_le _)
   rw[←ha]at hr;exact⟨v',w',hr,hB.app k hk h1 h2 h4,fun h e=>h (h3.1 e).1⟩
theorem zAD{ops:Array Oper}{o:Oper}{a:Act}{K:Act→World→Prop}{Q:Exit→Act→World→Prop}{w:World}{E:Prop}(hgd:o.guard=none)(s x:Operand)
 (ho:o.op=.call { callee:=.builtin .append,args:=#[s,x],argTypes:=#[24,24] }) (w0:World) {B:List It} [hB:Bag w0 w B] (k:Nat) {v:Value} {n:Nat} {xs:List Value} (hk:B[k]? =some (row 3 1 v n xs)) (hs:a.eval s=v) (b:Option Addr) (m c:Nat) (L:Nat→Int) (hx:a.eval x=.slice b m c) (hL:Ils w b m c L) (hn:n+m≤1048576)
 (d:Nat) (hd:o.dst=some d) (h:∀v' w',Bag w0 w' (B.set k (row 3 1 v' (n+m) (xs++(List.range m).map fun i=>.int .i64 (L i))))→(v≠.slice none 0 0→v'≠.slice none 0 0)→K (a.put (some d) v') w') :
 if Region.wanted o (yielded ops a.tmps)=true then Oper.wp Tryz.prog o a w K Q else E:=by
 have hw:Region.wanted o (yielded ops a.tmps)=true:=by simp[Region.wanted,hgd]
 rw[if_pos hw];obtain⟨v',w',hr,h1,h2⟩:=zEi hB k hk b m c L hL hn o.type;unfold Oper.wp execOp;simp only[ho,resolve,invoke,builtin,Sem.run_bind,Sem.run_pure,Result.andThen_ok,List.map_toArray,List.map_cons,List.map_nil,hs,hx,hr];have:=h v' w' h1 h2;rw[←hd]at this;exact this
theorem zEK{ops:Array Oper}{rest:List Oper}{o:Oper}{a:Act}{Q:Exit→Act→World→Prop}{w:World}(hgd:o.guard=none)(s x:Operand)
 (ho:o.op=.call { callee:=.builtin .append,args:=#[s,x],argTypes:=#[24,24] }) (w0:World) {B:List It} [hB:Bag w0 w B] (k:Nat) {v:Value} {n:Nat} {xs:List Value} (hk:B[k]? =some (row 3 1 v n xs)) (hs:a.eval s=v) (b:Option Addr) (m c:Nat) (L:Nat→Int) (hx:a.eval x=.slice b m c) (hL:Ils w b m c L) (hn:n+m≤1048576)
 (h:∀v' w',Bag w0 w' (B.set k (row 3 1 v' (n+m) (xs++(List.range m).map fun i=>.int .i64 (L i))))→(v≠.slice none 0 0→v'≠.slice none 0 0)→wpList Tryz.prog ops Q rest (a.put o.dst v') w'):wpList Tryz.prog ops Q (o::rest) a w:=by
 refine wpList_plain hgd fun K hK=>?_;obtain⟨v',w',hr,h1,h2⟩:=zEi hB k hk b m c L hL hn o.type;unfold Oper.wp execOp;simp only[ho,resolve,invoke,builtin,Sem.run_bind,Sem.run_pure,Result.andThen_ok,List.map_toArray,List.map_cons,List.map_nil,hs,hx,hr];exact hK _ _ (h v' w' h1 h2)
theorem zGy{l:List Nat}{n k:Nat}(h:l.Perm (List.range n)):(l.take k++ [n]++l.drop k).Perm (List.range (n+1)):=by
 rw[List.range_succ];have h1:(l.take k++ [n]++l.drop k).Perm (n::l):=by
  rw[List.append_assoc];have:=List.perm_middle (a:=n) (l₁:=l.take k) (l₂:=l.drop k);rwa[List.take_append_drop]at this
 exact h1.trans ((List.perm_append_singleton n l).symm.trans (h.append_right [n]))
theorem zB2{l:List Nat}{a b:Nat}{L:Nat→Int}(hL:∀i,i<b→L i=((l.getD (a+i) 0:Nat):Int))(h:a+b≤l.length):((List.range b).map fun i=>Value.int .i64 (L i))=zA2 ((l.drop a).take b):=by
 refine List.ext_getElem? fun j=>?_
 by_cases hj:j<b
 · rw[zAy _ hj,hL j hj];refine(zD6 ?_).symm;rw[List.getElem?_take_of_lt hj,List.getElem?_drop,List.getD_eq_getElem?_getD,List.getElem?_eq_getElem j0];rfl
 · rw[List.getElem?_eq_none jq,List.getElem?_eq_none (by rw[zD5];simp;omega)]
attribute [local irreducible] Calls
theorem zF1{w:World}{v:Value}{n:Nat}{xs:List Value}(h:w.ownsRow 0 3 1 v n xs)(hv:v≠.slice none 0 0):∃g c,v=.slice (some ⟨g,0,none⟩) n c:=by
 rcases h.2 with⟨rfl,_⟩ | ⟨g,cap,cur,rfl,_⟩
 · exact absurd rfl hv
 · exact⟨g,cap,rfl⟩
theorem zIN{w:World}{b:Nat}{x:Int}(h:(box b 3 [.int .i64 x]).P w):Ils w (some ⟨b,0,none⟩) 1 1 (fun _=>x):=by
 have h:w.heap[b]? =some (.cells [Value.int .i64 x].toArray 3 (0,0)):=h;refine⟨Nat.le_refl _,j0,fun _=>rfl,fun i hi=>?_,fun _=>(Array.getElem?_eq_some_iff.1 h).1⟩;obtain rfl:i=0:=j0
 show w.cell? ⟨b,0+0,none⟩=_;simp[World.cell?,h]
theorem Bag.ownI{w:World}(w0:World){B:List It}[h:Bag w0 w B](k:Nat){e:TypeId}{s m:Nat}{v:Value}{xs:List Value}(hk:B[k]? =some (row e s v m xs)):w.ownsRow 0 e s v m xs:=h.own k hk
theorem Bag.atI{w:World}(w0:World){B:List It}[h:Bag w0 w B](k:Nat){t:It}(hk:B[k]? =some t):t.P w:=h.at k hk
theorem zED{w:World}{a:Option Addr}{n c k:Nat}{l:List Nat}(h:w.ownsRow 0 3 1 (.slice a n c) n (zA2 l))(hk:k≤n):Ils w a k c (fun t=>((l.getD t 0:Nat):Int)):=by
 obtain⟨a',c',hv,hI,_⟩:=zAP h;injection hv with e1 _ e3
 subst e1 e3;exact hI.cut0 hk
theorem zGn{w:World}{g n c k:Nat}{l:List Nat}(h:w.ownsRow 0 3 1 (.slice (some ⟨g,0,none⟩) n c) n (zA2 l))(hk:k≤n):Ils w (if c=k then some ⟨g,0,none⟩else some ⟨g,k,none⟩) (n-k) (c-k) (fun t=>((l.getD (k+t) 0:Nat):Int)):=by
 have h1:=(zED h (Nat.le_refl n)).cut hk (Nat.le_refl n)
 by_cases e:c=k
 · rw[if_pos e]at h1 ⊢;exact h1
 · rw[if_neg e]at h1 ⊢;rw[Option.map_some,Addr.add_lit,Nat.zero_add,Nat.mul_one]at h1;exact h1
theorem zLa(w:World)[Tb w](a:Option Addr)(m cap:Nat)(L:Nat→Nat)[hL:FZ w a m cap L](n:Nat)(hn:n≤100):Calls Tryz.prog 36 #[.slice a m cap,.int .i64 n] w fun o w'=>∃oa oc l,o=.returned (.slice oa n oc)∧Bag w w' [row 3 1 (.slice oa n oc) n (zA2 l)]∧l.Perm (List.range n):=by
 have HW:=fun W k (h0:0≤k) (hk:k≤1000000) [i:FZ W a m cap L]=>Lib.hid (zTl (zFa W a m cap L i.out k h0 hk));have HM:=fun W (x:Int) (k:Nat) (hk:k≤1000)=>Lib.hid (show Calls Tryz.prog 16 #[.int .i64 x,.int .i64 ((k:Int)+1)] W fun o w'=>∃y:Nat,y<k+1∧o=.returned (.int .i64 (y:Int))∧From W w' from(zDF W x ((k:Int)+1) j0 j0).mono fun _ _ ⟨h1,h2⟩=>by
  obtain⟨y,e1,e2⟩:=zHr x (k+1) j0;exact⟨y,e2,by rw[h1,←e1];rfl,⟨by subst h2;exact Below.refl _ _⟩⟩)
 go_enter Tryz.func36,Tryz.ntmps36;go_wp2_with fail;have B0:=(Bag.nil w).lit 3 1 [] (m:=0) (n:=w.heap.size) rfl ja rfl
 go_loopw [5,6,7] (fun v x _ wr=>∃(i:Nat) (g c:Nat) (l:List Nat),i≤n∧x=.int .i64 i∧v=.slice (some ⟨g,0,none⟩) i c∧l.Perm (List.range i)∧Bag w wr [row 3 1 (.slice (some ⟨g,0,none⟩) i c) i (zA2 l)]) (fun _ x _ _=>n-(intOf x).toNat)
 case atStart=>exact⟨0,_,_,[],j0,rfl,rfl,List.Perm.refl _,B0⟩
 case round=>
  clear B0;obtain⟨i,g,c,l,hi,rfl,rfl,hP,iB⟩:=hrel;haveI bw:=iB.fr'
  by_cases hlt:i<n
  · go_wp2_with fail;refine(HW _ _ j0 j0).out.mono ?_;rintro o w1 ⟨x,hx,rfl,b1⟩;go_wp2_with fail;refine(HM _ _ _ j0).out.mono ?_;rintro o w2 ⟨y,hy,rfl,b2⟩;have iB2:Bag w w2 _:=inferInstance;clear iB bw b1 b2;have hic:i≤c:=(by have h2:=(zBq (iB2.own 0 rfl)).1;exact h2);have hyc:y≤c:=j0;have hyi:y≤i:=j0;haveI bA:Bag w (w2.alloc (.cells #[] 3)) [row 3 1 (.slice (some ⟨g,0,none⟩) i c) i (zA2 l),row 3 1 (.slice (some ⟨w2.heap.size,0,none⟩) 0 0) 0 []]:=iB2.lit 3 1 [] rfl ja rfl;haveI bB:Bag w ((w2.alloc (.cells #[] 3)).alloc (.cells #[.int .i64 i] 3)) [row 3 1 (.slice (some ⟨g,0,none⟩) i c) i (zA2 l),row 3 1 (.slice (some ⟨w2.heap.size,0,none⟩) 0 0) 0 [],box (w2.heap.size+1) 3 [.int .i64 i]]:=bA.var 3 [.int .i64 i] jz;haveI bC:Bag w ((w2.alloc (.cells #[.int .i64 i] 3)).alloc (.cells #[] 3)) [row 3 1 (.slice (some ⟨g,0,none⟩) i c) i (zA2 l),row 3 1 (.slice (some ⟨w2.heap.size+1,0,none⟩) 0 0) 0 [],box w2.heap.size 3 [.int .i64 i]]:=((iB2.var 3 [.int .i64 i] rfl).lit 3 1 [] jz ja rfl).perm ((List.Perm.swap _ _ _).cons _);go_wp2_with fail;refine bgj (fun w'=>True) [] je (trivial) (fun hHeld=>?_);simp only[List.size_toArray,List.length_cons,List.length_nil,Nat.reduceAdd,Array.replicate_succ,Array.replicate_zero,List.push_toArray,List.nil_append,List.cons_append];refine tkj 1 24 ?_ [3,4,7,11,12] (hy:=?_) (hS:=trivial) (h:=?_);rotate_left
    · exact jI
    refine tkj 2 25 ?_ [3,4,7,11,12] (hy:=?_) (hS:=trivial) (h:=?_);rotate_left
    · exact jI
    refine tkj 3 26 ?_ [4,7,11,12] (hy:=?_) (hS:=trivial) (h:=?_);rotate_left
    · exact jI
    refine tkj 5 28 ?_ [6,7,11,12] (hy:=?_) (hS:=trivial) (h:=?_);rotate_left
    · exact jI
    refine tkj 8 31 ?_ [10,11,12] (hy:=?_) (hS:=trivial) (h:=?_);rotate_left
    · exact jI
    refine tkj 9 32 ?_ [10,11,12] (hy:=?_) (hS:=trivial) (h:=?_);rotate_left
    · exact jI
    refine tkj 10 33 ?_ [11,12] (hy:=?_) (hS:=trivial) (h:=?_);rotate_left
    · exact jI
    refine zS7 0 6 (h:=fun K hK=>?_) (h':=fun K hK=>?_)
    · go_simp;refine hK.out _ _ (Or.inr trivial) ?_;clear hK K
      try simp only[Act.put]
      try simp only[List.setIfInBounds_toArray]
      repeat(first | simp only[List.set_cons_zero] | simp only[List.set_cons_succ])
      refine zS7 4 6 (h:=fun K hK=>?_) (h':=fun K hK=>?_)
      · refine zAD jA _ _ jA w 1 jA jA _ y c (fun t=>((l.getD t 0:Nat):Int)) jA ?_ ?_ _ jA ?_
        · exact zED (Bag.ownI w 0 rfl) hyi
        · exact j0
        intro v4 w4 B4 hv4;haveI bD:=B4.var 3 [.int .i64 (i:Int)] (n:=w4.heap.size) rfl;refine hK.out _ _ (Or.inr trivial) ?_;clear hK K
        try simp only[Act.put]
        try simp only[List.setIfInBounds_toArray]
        repeat(first | simp only[List.set_cons_zero] | simp only[List.set_cons_succ])
        refine stj 6 (h:=fun K hK=>?_);go_simp;refine hK.out _ _ (Or.inr trivial) ?_;clear hK K
        try simp only[Act.put]
        try simp only[List.setIfInBounds_toArray]
        repeat(first | simp only[List.set_cons_zero] | simp only[List.set_cons_succ])
        refine stj 7 (h:=fun K hK=>?_);refine zAD jA _ _ jA w 1 jA jA _ 1 1 (fun _=>(i:Int)) jA ?_ ?_ _ jA ?_
        · exact zIN (Bag.atI w 2 rfl)
        · exact j0
        intro v7 w7 B7 hv7;refine hK.out _ _ (Or.inr trivial) ?_;clear hK K
        try simp only[Act.put]
        try simp only[List.setIfInBounds_toArray]
        repeat(first | simp only[List.set_cons_zero] | simp only[List.set_cons_succ])
        refine stj 11 (h:=fun K hK=>?_);refine zAD jA _ _ jA w 1 jA jA _ (i-y) (c-y) (fun t=>((l.getD (y+t) 0:Nat):Int)) jA ?_ ?_ _ jA ?_
        · exact zGn (Bag.ownI w 0 rfl) hyi
        · exact j0
        intro v11 w11 B11 hv11;refine hK.out _ _ (Or.inr trivial) ?_;clear hK K
        try simp only[Act.put]
        try simp only[List.setIfInBounds_toArray]
        repeat(first | simp only[List.set_cons_zero] | simp only[List.set_cons_succ])
        refine tkj 12 5 ?_ [] (hy:=?_) (hS:=trivial) (h:=?_);rotate_left
        · exact jI
        refine enj je ?_ _;go_wp2_with fail;obtain⟨g',c',rfl⟩:=zF1 (B11.own 1 rfl) (hv11 (hv7 (hv4 jz)));have B12:=B11.sub (C:= [_]) (((List.nil_sublist _).cons_cons _).cons _);have hlen:l.length=i:=Qw;have e1:0+y+1+(i-y)=i+1:=j0;have e2:(([]++(List.range y).map fun t=>Value.int .i64 ((l.getD t 0:Nat):Int))++(List.range 1).map fun _=>Value.int .i64 (i:Int))++((List.range (i-y)).map fun t=>Value.int .i64 ((l.getD (y+t) 0:Nat):Int))=zA2 (l.take y++ [i]++l.drop y):=by
         rw[List.nil_append,zAn,zAn,zB2 (l:=l) (a:=0) (b:=y) (fun t _=>by rw[Nat.zero_add]) Qm,zB2 (l:=l) (a:=y) (b:=i-y) (fun t _=>rfl) Qm,List.drop_zero,List.take_of_length_le (l:=l.drop y) Xn];rfl
        rw[e1,e2]at B12;go_roundw
        case rel=>exact⟨i+1,_,_,_,j0,jm,by rw[e1],zGy hP,B12⟩
        case measure=>exact jb
      · go_simp;refine hK.out _ _ (Or.inr trivial) ?_;clear hK K
        try simp only[Act.put]
        try simp only[List.setIfInBounds_toArray]
        repeat(first | simp only[List.set_cons_zero] | simp only[List.set_cons_succ])
        refine stj 4 (h:=fun K hK=>?_);refine zAD jA _ _ jA w 1 jA jA _ y c (fun t=>((l.getD t 0:Nat):Int)) jA ?_ ?_ _ jA ?_
        · exact zED (Bag.ownI w 0 rfl) hyi
        · exact j0
        intro v4 w4 B4 hv4;haveI bD:=B4.var 3 [.int .i64 (i:Int)] (n:=w4.heap.size) rfl;refine hK.out _ _ (Or.inr trivial) ?_;clear hK K
        try simp only[Act.put]
        try simp only[List.setIfInBounds_toArray]
        repeat(first | simp only[List.set_cons_zero] | simp only[List.set_cons_succ])
        refine stj 7 (h:=fun K hK=>?_);refine zAD jA _ _ jA w 1 jA jA _ 1 1 (fun _=>(i:Int)) jA ?_ ?_ _ jA ?_
        · exact zIN (Bag.atI w 2 rfl)
        · exact j0
        intro v7 w7 B7 hv7;refine hK.out _ _ (Or.inr trivial) ?_;clear hK K
        try simp only[Act.put]
        try simp only[List.setIfInBounds_toArray]
        repeat(first | simp only[List.set_cons_zero] | simp only[List.set_cons_succ])
        refine stj 11 (h:=fun K hK=>?_);refine zAD jA _ _ jA w 1 jA jA _ (i-y) (c-y) (fun t=>((l.getD (y+t) 0:Nat):Int)) jA ?_ ?_ _ jA ?_
        · exact zGn (Bag.ownI w 0 rfl) hyi
        · exact j0
        intro v11 w11 B11 hv11;refine hK.out _ _ (Or.inr trivial) ?_;clear hK K
        try simp only[Act.put]
        try simp only[List.setIfInBounds_toArray]
        repeat(first | simp only[List.set_cons_zero] | simp only[List.set_cons_succ])
        refine tkj 12 5 ?_ [] (hy:=?_) (hS:=trivial) (h:=?_);rotate_left
        · exact jI
        refine enj je ?_ _;go_wp2_with fail;obtain⟨g',c',rfl⟩:=zF1 (B11.own 1 rfl) (hv11 (hv7 (hv4 jz)));have B12:=B11.sub (C:= [_]) (((List.nil_sublist _).cons_cons _).cons _);have hlen:l.length=i:=Qw;have e1:0+y+1+(i-y)=i+1:=j0;have e2:(([]++(List.range y).map fun t=>Value.int .i64 ((l.getD t 0:Nat):Int))++(List.range 1).map fun _=>Value.int .i64 (i:Int))++((List.range (i-y)).map fun t=>Value.int .i64 ((l.getD (y+t) 0:Nat):Int))=zA2 (l.take y++ [i]++l.drop y):=by
         rw[List.nil_append,zAn,zAn,zB2 (l:=l) (a:=0) (b:=y) (fun t _=>by rw[Nat.zero_add]) Qm,zB2 (l:=l) (a:=y) (b:=i-y) (fun t _=>rfl) Qm,List.drop_zero,List.take_of_length_le (l:=l.drop y) Xn];rfl
        rw[e1,e2]at B12;go_roundw
        case rel=>exact⟨i+1,_,_,_,j0,jm,by rw[e1],zGy hP,B12⟩
        case measure=>exact jb
    · go_simp;refine hK.out _ _ (Or.inr trivial) ?_;clear hK K
      try simp only[Act.put]
      try simp only[List.setIfInBounds_toArray]
      repeat(first | simp only[List.set_cons_zero] | simp only[List.set_cons_succ])
      refine stj 0 (h:=fun K hK=>?_);go_simp;refine hK.out _ _ (Or.inr trivial) ?_;clear hK K
      try simp only[Act.put]
      try simp only[List.setIfInBounds_toArray]
      repeat(first | simp only[List.set_cons_zero] | simp only[List.set_cons_succ])
      refine stj 4 (h:=fun K hK=>?_);refine zAD jA _ _ jA w 1 jA jA _ y c (fun t=>((l.getD t 0:Nat):Int)) jA ?_ ?_ _ jA ?_
      · exact zED (Bag.ownI w 0 rfl) hyi
      · exact j0
      intro v4 w4 B4 hv4;haveI bD:=B4.var 3 [.int .i64 (i:Int)] (n:=w4.heap.size) rfl;refine hK.out _ _ (Or.inr trivial) ?_;clear hK K
      try simp only[Act.put]
      try simp only[List.setIfInBounds_toArray]
      repeat(first | simp only[List.set_cons_zero] | simp only[List.set_cons_succ])
      refine stj 7 (h:=fun K hK=>?_);refine zAD jA _ _ jA w 1 jA jA _ 1 1 (fun _=>(i:Int)) jA ?_ ?_ _ jA ?_
      · exact zIN (Bag.atI w 2 rfl)
      · exact j0
      intro v7 w7 B7 hv7;refine hK.out _ _ (Or.inr trivial) ?_;clear hK K
      try simp only[Act.put]
      try simp only[List.setIfInBounds_toArray]
      repeat(first | simp only[List.set_cons_zero] | simp only[List.set_cons_succ])
      refine stj 11 (h:=fun K hK=>?_);refine zAD jA _ _ jA w 1 jA jA _ (i-y) (c-y) (fun t=>((l.getD (y+t) 0:Nat):Int)) jA ?_ ?_ _ jA ?_
      · exact zGn (Bag.ownI w 0 rfl) hyi
      · exact j0
      intro v11 w11 B11 hv11;refine hK.out _ _ (Or.inr trivial) ?_;clear hK K
      try simp only[Act.put]
      try simp only[List.setIfInBounds_toArray]
      repeat(first | simp only[List.set_cons_zero] | simp only[List.set_cons_succ])
      refine tkj 12 5 ?_ [] (hy:=?_) (hS:=trivial) (h:=?_);rotate_left
      · exact jI
      refine enj je ?_ _;go_wp2_with fail;obtain⟨g',c',rfl⟩:=zF1 (B11.own 1 rfl) (hv11 (hv7 (hv4 jz)));have B12:=B11.sub (C:= [_]) (((List.nil_sublist _).cons_cons _).cons _);have hlen:l.length=i:=Qw;have e1:0+y+1+(i-y)=i+1:=j0;have e2:(([]++(List.range y).map fun t=>Value.int .i64 ((l.getD t 0:Nat):Int))++(List.range 1).map fun _=>Value.int .i64 (i:Int))++((List.range (i-y)).map fun t=>Value.int .i64 ((l.getD (y+t) 0:Nat):Int))=zA2 (l.take y++ [i]++l.drop y):=by
       rw[List.nil_append,zAn,zAn,zB2 (l:=l) (a:=0) (b:=y) (fun t _=>by rw[Nat.zero_add]) Qm,zB2 (l:=l) (a:=y) (b:=i-y) (fun t _=>rfl) Qm,List.drop_zero,List.take_of_length_le (l:=l.drop y) Xn];rfl
      rw[e1,e2]at B12;go_roundw
      case rel=>exact⟨i+1,_,_,_,j0,jm,by rw[e1],zGy hP,B12⟩
      case measure=>exact jb
  · obtain rfl:i=n:=j0;go_wp2_with fail;go_ret;exact⟨_,_,l,rfl,iB,hP⟩
end Go.Proofs.YtmbkgapknoammaaGreatDoor

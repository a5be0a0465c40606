/-
  Lists of dyads in memory; a list of the call's own that grows by append.
-/
import Derived.Test.YtmbkgapknoammaaGreatDoorZuBf
import Derived.Test.YtmbkgapknoammaaGreatDoorZuBe
import Derived.Maps.AppendAt
import Derived.Test.YtmbkgapknoammaaGreatDoorZuBL
import Derived.Test.YtmbkgapknoammaaGreatDoorZuGo
import Derived.Test.YtmbkgapknoammaaGreatDoorZuFP
import Derived.Test.YtmbkgapknoammaaGreatDoorZuGr
set_option maxRecDepth 100000
namespace Go.Proofs.YtmbkgapknoammaaGreatDoor
open Go.RowKit Sp
structure El where
 bd:Bool
 s:Bool
 a:Option Addr
 n:Nat
 p:Nat
 e:Int
 x:Nat
def El.d(E:El):Option (Int×Int):=zMy E.bd (sgn E.s E.x) E.e
structure Dys(w:World)(a:Option Addr)(n cap:Nat)(L:Nat→El):Prop where
 fits:n≤cap
 lim:cap≤9223372036854775807
 addr:0<n→a=some ⟨ab a,ao a,none⟩
 c0:∀i,i<n→w.cell? ⟨ab a,ao a+i*4,none⟩=some (.bool (L i).bd)
 c1:∀i,i<n→w.cell? ⟨ab a,ao a+i*4+1,none⟩=some (.bool (L i).s)
 c2:∀i,i<n→w.cell? ⟨ab a,ao a+i*4+2,none⟩=some (.slice (L i).a (L i).n (L i).p)
 c3:∀i,i<n→w.cell? ⟨ab a,ao a+i*4+3,none⟩=some (.int .i64 (L i).e)
 m:∀i,i<n→Mag w (L i).a (L i).n (L i).p (L i).x
 b:∀i,i<n→ -9223372036854775808≤(L i).e∧(L i).e≤9223372036854775807
 old:0<n→ab a<w.heap.size
theorem Dys.below{w w':World}{a:Option Addr}{n cap:Nat}{L:Nat→El}(h:Dys w a n cap L)(hb:Below w.heap.size w w'):Dys w' a n cap L:=by
 obtain⟨h1,_⟩:=zA6 hb;exact⟨h.fits,h.lim,h.addr,fun i hi=>(h1 _ _ (h.old j0)).trans (h.c0 i hi),fun i hi=>(h1 _ _ (h.old j0)).trans (h.c1 i hi),fun i hi=>(h1 _ _ (h.old j0)).trans (h.c2 i hi),
  fun i hi=>(h1 _ _ (h.old j0)).trans (h.c3 i hi),fun i hi=>(h.m i hi).below hb,h.b,fun hn=>Nat.lt_of_lt_of_le (h.old hn) hb.size⟩
theorem zTC:(Tryz.prog.info? 53).map (fun i=>(i.zero,i.size,i.bytes))=some (some (.agg #[.bool false,.bool false,.slice none 0 0,.int .i64 0]),4,48):=je
theorem zT8:Tryz.prog.underlying 44 =some (.slice 53):=je
theorem zTn:Tryz.prog.elem 44 =53 :=je
theorem zTK(W:World):(Go.sizeOf 53).run Tryz.prog W=.ok 4 W:=je
theorem Dys.idx{w:World}{a:Option Addr}{n cap:Nat}{L:Nat→El}(h:Dys w a n cap L)(i:Nat)(hi:i<n)(W:World):(Instr.indexAt 44 (.slice a n cap) (.int .i64 i)).run Tryz.prog W=.ok (.pointer (some ⟨ab a,ao a+i*4,none⟩)) W:=by
 have ha:=h.addr j0;generalize ab a=b at *;generalize ao a=o at *;subst ha;rw[run_indexAt_slice _ _ _ _ _ _ _ zT8,if_pos ⟨j0,j0⟩,zTn,zTK];simp only[Result.andThen,Int.toNat_natCast,Addr.add_lit]
def zAv(f:Nat→Value×Value×Value×Value):Nat→List Value
 | 0=> []
 | k+1=>zAv f k++ [(f k).1,(f k).2.1,(f k).2.2.1,(f k).2.2.2]
theorem zBM(f:Nat→Value×Value×Value×Value)(k:Nat):(zAv f k).length=k*4:=by
 induction k with
 | zero=>rfl
 | succ n ih=>simp[zAv,ih];omega
theorem zAY(f:Nat→Value×Value×Value×Value){k i:Nat}(h:i<k):(zAv f k)[i*4]? =some (f i).1∧(zAv f k)[i*4+1]? =some (f i).2.1∧(zAv f k)[i*4+2]? =some (f i).2.2.1∧(zAv f k)[i*4+3]? =some (f i).2.2.2:=by
 induction k with
 | zero=>omega
 | succ n ih=>
  have hl:=zBM f n
  by_cases hin:i<n
  · obtain⟨h0,h1,h2,h3⟩:=ih hin;simp only[zAv];rw[List.getElem?_append_left j0,List.getElem?_append_left j0,List.getElem?_append_left j0,List.getElem?_append_left j0];exact⟨h0,h1,h2,h3⟩
  · obtain rfl:i=n:=j0;simp only[zAv];rw[List.getElem?_append_right j0,List.getElem?_append_right j0,List.getElem?_append_right j0,List.getElem?_append_right j0,hl];simp
theorem zBA{f g:Nat→Value×Value×Value×Value}{k:Nat}(h:∀i,i<k→f i=g i):zAv f k=zAv g k:=by
 induction k with
 | zero=>rfl
 | succ n ih=>simp only[zAv];rw[ih (fun i hi=>h i j0),h n j0]
theorem zPX{ops:Array Oper}{rest:List Oper}{o:Oper}{a:Act}{Q:Exit→Act→World→Prop}{w:World}(hgd:o.guard=none)(s x:Operand)
 (ho:o.op=.call { callee:=.builtin .append,args:=#[s,x],argTypes:=#[44,44] }) (base:Nat) (v:Value) (n:Nat) (xs:List Value) (hs:a.eval s=v) (g:Nat) (b0 s0:Bool) (sl:Value) (f0:Int) (hsl:sl.oneCell'=true)
 (hx:a.eval x=.slice (some ⟨g,0,none⟩) 1 1) (hown:w.ownsRow base 53 4 v n xs) (k0:w.cell? ⟨g,0,none⟩=some (.bool b0)) (k1:w.cell? ⟨g,1,none⟩=some (.bool s0)) (k2:w.cell? ⟨g,2,none⟩=some sl) (k3:w.cell? ⟨g,3,none⟩=some (.int .i64 f0)) (hn:n≤1048576)
 (hbase:base≤w.heap.size) (h:∀v' w',w'.ownsRow base 53 4 v' (n+1) (xs++ [.bool b0,.bool s0,sl,.int .i64 f0])→w.grownBy w' v.ownBlock→(v'.ownBlock=v.ownBlock∨v'.ownBlock=some w.heap.size)→wpList Tryz.prog ops Q rest (a.put o.dst v') w') :
 wpList Tryz.prog ops Q (o::rest) a w:=by
 obtain⟨i0,hi,hz0,hz1,hz2⟩:=info_parts zTC;refine wpList_append_own_at w hgd s x _ ho base _ i0 _ 4 48 zT8 hi hz0 hz1 hz2 rfl ja v n xs hs hown ⟨g,0,none⟩ 1 1 [.bool b0,.bool s0,sl,.int .i64 f0] hx rfl ?_ ?_ jJ j0 hbase (fun v' w' h1 h2 _ h4=>h v' w' h1 h2 h4)
 · intro j u hu;rw[Addr.add_lit,Nat.zero_add];rcases j with _ | _ | _ | _ | j
   · simp at hu;subst hu;exact k0
   · simp at hu;subst hu;exact k1
   · simp at hu;subst hu;exact k2
   · simp at hu;subst hu;exact k3
   · simp at hu
 · intro u hu;simp only[List.mem_cons,List.not_mem_nil,or_false]at hu;rcases hu with rfl | rfl | rfl | rfl
   · exact jA
   · exact jA
   · exact hsl
   · exact jA
theorem zBW{w w':World}{a:Option Addr}{n cap x:Nat}{row:Option Nat}(h:Mag w a n cap x)(hg:w.grownBy w' row)(hne:0<n→some (ab a)≠row):Mag w' a n cap x:=
 ⟨h.lt,h.fits,h.lim,h.addr,fun i hi=>by
  rw[World.cell?_of_block (a:=⟨ab a,ao a+i,none⟩) (hg.block (ab a) (h.old j0) (hne j0))];exact h.cell i hi,
  fun hn=>Nat.lt_of_lt_of_le (h.old hn) hg.size⟩
theorem zFv{w w':World}{base:Nat}{e:TypeId}{size:Nat}{v:Value}{n:Nat}{xs:List Value}(h:w.ownsRow base e size v n xs)(hg:w.grownBy w' v.ownBlock)(hb:base≤w.heap.size):Below base w w':=zAt h hg hb
end Go.Proofs.YtmbkgapknoammaaGreatDoor
namespace Go.Proofs.YtmbkgapknoammaaGreatDoor
open Go.RowKit Sp
def mnE(d:Nat→Option (Int×Int)):Nat→Int
 | 0=>0
 | k+1=>min (mnE d k) (zA7 (d k))
def smE(d:Nat→Option (Int×Int))(E:Int):Nat→Int
 | 0=>0
 | k+1=>smE d E k+up (zA1 (d k)) (zA7 (d k)) E
def zCs(d:Nat→Option (Int×Int)):Nat→Bool
 | 0=>false
 | k+1=>zCs d k||zAj (d k)
def zDS(d:Nat→Option (Int×Int))(n:Nat):Option (Int×Int):=if zCs d n then none else nrm (smE d (mnE d n) n) (mnE d n)
theorem zQZ(d:Nat→Option (Int×Int))(k:Nat):mnE d k≤0:=by
 induction k with
 | zero=>exact Int.le_refl _
 | succ n ih=>simp only[mnE];omega
theorem zQf(d:Nat→Option (Int×Int)){i k:Nat}(h:i<k):mnE d k≤zA7 (d i):=by
 induction k with
 | zero=>omega
 | succ n ih=>
  simp only[mnE]
  by_cases hi:i<n
  · have:=ih hi;omega
  · obtain rfl:i=n:=j0;omega
theorem zSu(d:Nat→Option (Int×Int))(h:∀i,IsN (d i))(k:Nat): -65536≤mnE d k:=by
 induction k with
 | zero=>show(-65536:Int)≤0;omega
 | succ n ih=>
  have:=(zAd (h n)).2.1;simp only[mnE];omega
theorem zS8(d:Nat→Option (Int×Int)){E F:Int}(h:E≤F)(k:Nat)(hF:∀i,i<k→F≤zA7 (d i)):up (smE d F k) F E=smE d E k:=by
 induction k with
 | zero=>simp only[smE];exact zDT _ _
 | succ n ih=>
  simp only[smE];rw[zLu,ih (fun i hi=>hF i j0),zQx _ h (hF n j0)]
theorem zRH{d:Option (Int×Int)}(h:IsN d){E:Int}(h0: -65536≤E)(h1:E≤zA7 d):zA4 (up (zA1 d) (zA7 d) E).natAbs≤131072:=by
 refine zCr h1 ?_
 cases d with
 | none=>simp[zA1,zA7]at *;rw[show zA4 0=0 from rfl];omega
 | some p=>
  obtain⟨m,e⟩:=p;have:=zE0 (h m e rfl);simp only[zA1,zA7,Option.getD_some]at *;omega
theorem zFZ{x:Int}{k:Nat}(h:zA4 x.natAbs≤k):x.natAbs<2^k:=Nat.lt_of_lt_of_le (zAz _) (Nat.pow_le_pow_right ja h)
theorem zQE(d:Nat→Option (Int×Int))(h:∀i,IsN (d i)){E:Int}(h0: -65536≤E)(p:Nat)(hp:p=131072)(k:Nat)(hE:∀i,i<k→E≤zA7 (d i)):(smE d E k).natAbs≤k*2^p:=by
 induction k with
 | zero=>simp[smE]
 | succ n ih=>
  have h1:=ih (fun i hi=>hE i j0);have h2:=zFZ (k:=p) (by rw[hp];exact zRH (h n) h0 (hE n j0));simp only[smE];have h3:=Int.natAbs_add_le (smE d E n) (up (zA1 (d n)) (zA7 (d n)) E);rw[Nat.add_mul,Nat.one_mul];omega
theorem zOu(d:Nat→Option (Int×Int))(h:∀i,IsN (d i)){E:Int}(h0: -65536≤E){k:Nat}(hk:k≤1048576)(hE:∀i,i<k→E≤zA7 (d i)):zA4 (smE d E k).natAbs≤131100:=by
 obtain⟨p,hp⟩:∃p:Nat,p=131072:=⟨_,rfl⟩;have h1:=zQE d h h0 p hp k hE;have h2:(smE d E k).natAbs<2^(21+p):=by
  refine Nat.lt_of_le_of_lt h1 ?_;rw[Nat.pow_add];exact Nat.mul_lt_mul_of_pos_right j0 (Nat.pow_pos ja)
 have:=zAC h2;omega
theorem zFY(d:Nat→Option (Int×Int))(n:Nat):zCs d n=true↔∃i,i<n∧zAj (d i)=true:=by
 induction n with
 | zero=>simp[zCs]
 | succ n ih=>
  simp only[zCs,Bool.or_eq_true,ih];constructor
  · rintro(⟨i,hi,h⟩ | h)
    · exact⟨i,j0,h⟩
    · exact⟨n,j0,h⟩
  · rintro⟨i,hi,h⟩
    by_cases hin:i<n
    · exact .inl ⟨i,hin,h⟩
    · obtain rfl:i=n:=j0;exact .inr h
theorem zNu(d:Nat→Option (Int×Int)){n:Nat}(hb:zCs d n=false){E:Int}(hE:∀i,i<n→E≤zA7 (d i))(h0:E≤0):zDS d n=nrm (smE d E n) E:=by
 unfold zDS;rw[hb];show nrm _ _=_;have hm:E≤mnE d n:=by
  clear hb
  induction n with
  | zero=>exact h0
  | succ k ih=>
   have:=ih (fun i hi=>hE i j0);have:=hE k j0;simp only[mnE];omega
 rw[←zQd _ _ E hm,zS8 d hm n (fun i hi=>zQf d hi)]
end Go.Proofs.YtmbkgapknoammaaGreatDoor
namespace Go.Proofs.YtmbkgapknoammaaGreatDoor
open Go.RowKit Sp
def zIn(d:Nat→Option (Int×Int))(A:Nat→Option Addr)(C:Nat→Nat)(i:Nat):Value×Value×Value×Value:=
 (.bool false,.bool (decide (zA1 (d i)<0)),.slice (A i) (nl (zA1 (d i)).natAbs) (C i),.int .i64 (zA7 (d i)))
structure Nms(w:World)(base:Nat)(v:Value)(k:Nat)(d:Nat→Option (Int×Int))(A:Nat→Option Addr)(C:Nat→Nat):Prop where
 own:w.ownsRow base 53 4 v k (zAv (zIn d A C) k)
 m:∀i,i<k→Mag w (A i) (nl (zA1 (d i)).natAbs) (C i) (zA1 (d i)).natAbs
 ap:∀i,i<k→0<nl (zA1 (d i)).natAbs→some (ab (A i))≠v.ownBlock
theorem zB4{w w':World}{base:Nat}{e:TypeId}{size:Nat}{v:Value}{n:Nat}{xs:List Value}(h:w.ownsRow base e size v n xs)(hb:Below w.heap.size w w'):w'.ownsRow base e size v n xs:=by
 refine h.kept (row:=none) ⟨hb.os,hb.tape,hb.output,hb.size,fun k hk _=>hb.block k hk⟩ ?_
 cases ho:v.ownBlock with
 | none=>exact .inl rfl
 | some g=>exact .inr jz
theorem Nms.below{w w':World}{base:Nat}{v:Value}{k:Nat}{d:Nat→Option (Int×Int)}{A:Nat→Option Addr}{C:Nat→Nat}(h:Nms w base v k d A C)(hb:Below w.heap.size w w'):Nms w' base v k d A C:=
 ⟨zB4 h.own hb,fun i hi=>(h.m i hi).below hb,h.ap⟩
theorem Nms.app{w w':World}{base:Nat}{v v':Value}{k:Nat}{d:Nat→Option (Int×Int)}{A:Nat→Option Addr}{C:Nat→Nat}{a1:Option Addr}{c1:Nat}(h:Nms w base v k d A C)
 (ho:w'.ownsRow base 53 4 v' (k+1) (zAv (zIn d A C) k++ [.bool false,.bool (decide (zA1 (d k)<0)),.slice a1 (nl (zA1 (d k)).natAbs) c1,.int .i64 (zA7 (d k))]))
 (hg:w.grownBy w' v.ownBlock) (hv:v'.ownBlock=v.ownBlock∨v'.ownBlock=some w.heap.size) (hm:Mag w a1 (nl (zA1 (d k)).natAbs) c1 (zA1 (d k)).natAbs) (hne:0<nl (zA1 (d k)).natAbs→some (ab a1)≠v.ownBlock) :
 Nms w' base v' (k+1) d (fun i=>if i=k then a1 else A i) (fun i=>if i=k then c1 else C i):=by
 have hap:∀(x:Option Addr) (n:Nat),(0<n→ab x<w.heap.size)→(0<n→some (ab x)≠v.ownBlock)→0<n→some (ab x)≠v'.ownBlock:=fun x n h1 h2 h3 h4=>by
  rcases hv with hv | hv
  · rw[hv]at h4;exact h2 h3 h4
  · rw[hv]at h4;injection h4 with h4;have:=h1 h3;omega
 refine⟨?_,fun i hi=>?_,fun i hi=>?_⟩
 · have e1:zAv (zIn d (fun i=>if i=k then a1 else A i) (fun i=>if i=k then c1 else C i)) k=zAv (zIn d A C) k:=zBA fun i hi=>by
    unfold zIn;simp only[if_neg (show ¬i=k by omega)]
   simp only[zAv];rw[e1];unfold zIn;simp only[if_pos];exact ho
 · by_cases hk:i=k
   · subst hk;simp only[if_pos];exact zBW hm hg hne
   · simp only[if_neg hk];exact zBW (h.m i j0) hg (h.ap i j0)
 · by_cases hk:i=k
   · exact Xr
   · simp only[if_neg hk];exact hap _ _ (h.m i j0).old (h.ap i j0)
theorem Nms.dys{w:World}{base:Nat}{v:Value}{k:Nat}{d:Nat→Option (Int×Int)}{A:Nat→Option Addr}{C:Nat→Nat}(h:Nms w base v k d A C)(hd:∀i,IsN (d i)):∃a cap,v=.slice a k cap∧Dys w a k cap (fun i=>⟨false,decide (zA1 (d i)<0),A i,nl (zA1 (d i)).natAbs,C i,zA7 (d i),(zA1 (d i)).natAbs⟩):=by
 have hbd:∀i,i<k→ -9223372036854775808≤zA7 (d i)∧zA7 (d i)≤9223372036854775807:=fun i _=>by have:=zAd (hd i);omega
 rcases h.own.2 with⟨hv,hk⟩ | ⟨g,cap,cur,hv,hbg,hgg,hkc,hcm,hcs,htake⟩
 · subst hk;exact⟨none,0,hv,⟨j0,j0,j0,fun i hi=>j0,fun i hi=>j0,fun i hi=>j0,fun i hi=>j0,fun i hi=>j0,fun i hi=>j0,j0⟩⟩
 · have ho:=h.own;rw[hv]at ho;have hc:∀j,j<k*4→w.cell? ⟨g,j,none⟩=(zAv (zIn d A C) k)[j]? :=fun j hj=>ho.cellAt j hj;refine⟨some ⟨g,0,none⟩,cap,hv,hkc,Q7,fun _=>rfl,fun i hi=>?_,fun i hi=>?_,fun i hi=>?_,fun i hi=>?_,h.m,hbd,fun _=>(Array.getElem?_eq_some_iff.1 hgg).1⟩
   · rw[zAF,zB8,Nat.zero_add,hc _ j0];exact(zAY _ hi).1
   · rw[zAF,zB8,Nat.zero_add,hc _ j0];exact(zAY _ hi).2.1
   · rw[zAF,zB8,Nat.zero_add,hc _ j0];exact(zAY _ hi).2.2.1
   · rw[zAF,zB8,Nat.zero_add,hc _ j0];exact(zAY _ hi).2.2.2
theorem DyV.grown{w w':World}{b:Nat}{v s:Bool}{sl:Value}{f:Int}{row:Option Nat}(h:DyV w b v s sl f)(hg:w.grownBy w' row)(hne:some b≠row):DyV w' b v s sl f:=by
 have hbk:=hg.block b h.lt hne;have e1:∀i,w'.cell? ⟨b,i,none⟩=w.cell? ⟨b,i,none⟩:=fun i=>World.cell?_of_block (a:=⟨b,i,none⟩) hbk;have e2:∀i,w'.frozen? ⟨b,i,none⟩=w.frozen? ⟨b,i,none⟩:=fun i=>World.frozen?_of_block (a:=⟨b,i,none⟩) hbk;exact⟨(e1 _).trans h.c0,(e1 _).trans h.c1,(e1 _).trans h.c2,(e1 _).trans h.c3,fun i=>(e2 _).trans (h.z i),Nat.lt_of_lt_of_le h.lt hg.size⟩
end Go.Proofs.YtmbkgapknoammaaGreatDoor
namespace Go.Proofs.YtmbkgapknoammaaGreatDoor
open Go.RowKit Sp
def zDh(M:Nat→Int):Nat→Int
 | 0=>0
 | k+1=>zDh M k+M k
theorem zKx{M M':Nat→Int}{n:Nat}(h:∀i,i<n→M i=M' i):zDh M n=zDh M' n:=by
 induction n with
 | zero=>rfl
 | succ n ih=>simp only[zDh];rw[ih (fun i hi=>h i j0),h n j0]
theorem zJ4(M:Nat→Int)(k m:Nat):zDh M (k+m)=zDh M k+zDh (fun i=>M (k+i)) m:=by
 induction m with
 | zero=>simp[zDh]
 | succ m ih=>rw[←Nat.add_assoc];simp only[zDh];rw[ih];omega
theorem zRZ{M E m e:Int}(h:nrm M E=some (m,e))(hE:E≤0):E≤e∧up m e E=M:=by
 by_cases h0:M=0
 · subst h0;rw[zBr]at h;injection h with h;injection h with h1 h2;subst h1 h2;exact⟨hE,zDT _ _⟩
 · obtain⟨t,ht,he,_⟩:=zB5 h0 h;subst he;exact⟨j0,by rw[zS0];exact ht.symm⟩
theorem zK3(d:Nat→Option (Int×Int))(M:Nat→Int){E:Int}(hE:E≤0)(n:Nat)(h:∀i,i<n→d i=nrm (M i) E∧nrm (M i) E≠none):zDS d n=nrm (zDh M n) E:=by
 have hb:zCs d n=false:=by
  cases hc:zCs d n with
  | false=>rfl
  | true=>
   obtain⟨i,hi,hd⟩:=(zFY d n).1 hc;have h1:=h i hi;rw[h1.1]at hd;exact absurd (dbad_nn.2 h1.2) (by rw[hd];decide)
 have hu:∀i,i<n→E≤zA7 (d i)∧up (zA1 (d i)) (zA7 (d i)) E=M i:=fun i hi=>by
  obtain⟨h1,h2⟩:=h i hi
  cases hd:nrm (M i) E with
  | none=>exact absurd hd h2
  | some p=>obtain⟨m,e⟩:=p;rw[h1,hd];exact zRZ hd hE
 rw[zNu d hb (fun i hi=>(hu i hi).1) hE];congr 1;clear hb h
 induction n with
 | zero=>rfl
 | succ n ih=>simp only[smE,zDh];rw[ih (fun i hi=>hu i j0),(hu n j0).2]
theorem zOp(M:Nat→Int)(P n:Nat)(h:∀i,i<n→zA4 (M i).natAbs≤P):(zDh M n).natAbs≤n*2^P:=by
 induction n with
 | zero=>simp[zDh]
 | succ n ih=>
  have h1:=ih (fun i hi=>h i j0);have h2:=zFZ (h n j0);simp only[zDh];have h3:=Int.natAbs_add_le (zDh M n) (M n);rw[Nat.add_mul,Nat.one_mul];omega
theorem zLI(M:Nat→Int){P n:Nat}(hn:n≤15)(h:∀i,i<n→zA4 (M i).natAbs≤P):zA4 (zDh M n).natAbs≤4+P:=by
 refine zAC (Nat.lt_of_le_of_lt (zOp M P n h) ?_);rw[Nat.pow_add];exact Nat.mul_lt_mul_of_pos_right j0 (Nat.pow_pos ja)
theorem zFq{z:Int}{k:Nat}(p:Nat)(h:zA4 z.natAbs≤k):zA4 (z*2^p).natAbs≤k+p:=by
 by_cases h0:z=0
 · rw[h0,Int.zero_mul];exact Nat.zero_le _
 · rw[zAr,zAc j0];omega
theorem zDA{M E:Int}(h:nrm M E≠none):nrm (-M) E≠none:=by
 rw[←zGE _ _ h]
 cases k:nrm M E with
 | none=>exact absurd k h
 | some p=>obtain⟨m,e⟩:=p;exact fun h'=>by cases h'
theorem zPG(M E:Int)(h:nrm M E≠none):zHQ (nrm M E)=nrm (M.natAbs:Int) E∧nrm (M.natAbs:Int) E≠none:=by
 rcases Int.natAbs_eq M with h1 | h1
 · rw[←h1];refine⟨?_,h⟩
   cases k:nrm M E with
   | none=>exact absurd k h
   | some p=>
    obtain⟨m,e⟩:=p;show some ((m.natAbs:Int),e)=_;have:0≤m:=by
     by_cases h0:M=0
     · exact Qz
     · obtain⟨t,ht,_⟩:=zB5 h0 k;have:=(zBf m t).1;rw[←ht]at this;omega
    rw[show(m.natAbs:Int)=m by omega]
 · have e1:(M.natAbs:Int)= -M:=j0;rw[e1];refine⟨?_,zDA h⟩;rw[←zGE _ _ h]
   cases k:nrm M E with
   | none=>exact absurd k h
   | some p=>
    obtain⟨m,e⟩:=p;show some ((m.natAbs:Int),e)=some (-m,e);have:m≤0:=by
     by_cases h0:M=0
     · exact Qz
     · obtain⟨t,ht,_⟩:=zB5 h0 k;have:=(zBf m t).2;rw[←ht]at this;omega
    rw[show(m.natAbs:Int)= -m by omega]
def cxS(V:Nat)(j:Nat):Int:=zAq ((4*V:Nat):Int) ((j*j:Nat):Int)
theorem zSP(V:Nat):Cx (cxS V):=by
 refine⟨fun j=>zFU _ _,fun j j' h h'=>?_⟩;have h1:=cmpI_ge.1 h';refine cmpI_one.2 ?_;have h2:=zOt h;unfold cxS at *;omega
theorem zIu(z:Int)(mode:Int)(h0:0<z)(h:nrm z (-2148)≠none):∃c,IsLo (cxS z.natAbs) c∧zBc (nrm z (-2148)) mode=zDt false (c+if awx false c (cxS z.natAbs) mode then 1 else 0) mode:=by
 cases hd:nrm z (-2148)with
 | none=>exact absurd hd h
 | some p=>
  obtain⟨m,e⟩:=p;obtain⟨t,ht,he,hodd,_,_⟩:=zB5 j0 hd;have hm0:0<m:=by have:=(zBf m t).2;rw[←ht]at this;omega
  have hab:z.natAbs=m.natAbs*2^t:=by rw[ht];exact zAr m t
  have hmp:0<m.natAbs:=j0
  show∃c,_∧(if m<0 then zK1 else if m=0 then 0 else zCg false (isq (m.natAbs*2^rsh m e 56)) ((e-rsh m e 56)/2) (decide (isq (m.natAbs*2^rsh m e 56)*isq (m.natAbs*2^rsh m e 56)≠m.natAbs*2^rsh m e 56)) mode)=_;rw[if_neg j0,if_neg j0];have he2:=zGe m e 56;have hge:=zLX m e 56;obtain⟨n,hn⟩:∃n,n=rsh m e 56:=⟨_,rfl⟩;rw[←hn]at he2 hge ⊢;obtain⟨V,hV⟩:∃V,V=m.natAbs*2^n:=⟨_,rfl⟩;have hVb:zA4 V=zA4 m.natAbs+n:=by rw[hV];exact zAc hmp n
  have hVp:0<V:=by rw[hV];exact Nat.mul_pos hmp (zAx _)
  rw[←hV];have i1:=zDE V;have i2:=zDD V;obtain⟨X,hX⟩:∃X,X=isq V:=⟨_,rfl⟩;rw[←hX]at i1 i2 ⊢;obtain⟨E,hE⟩:∃E:Int,E=(e-n)/2:=⟨_,rfl⟩;have hE2:e-n=2*E:=j0
  rw[←hE];have hXb:58≤zA4 X:=by
   by_cases hb:zA4 X<58
   · have h1:=zAz X;have h2:X+1≤2^57:=Nat.le_trans h1 (Nat.pow_le_pow_right ja j0);have h3:=zH0 h2;have h4:=zAT hVp;have h5:2^117≤2^(zA4 V-1):=Nat.pow_le_pow_right ja j0;have h6:(2:Nat)^57*2^57<2^117:=ja;omega
   · exact j0
  have hcut:zPZ X E (decide (X*X≠V)) (cxS z.natAbs):=by
   intro j Y hj;obtain⟨a,ha⟩:∃a:Nat,a=(-1075-min E (-1075)).toNat:=⟨_,rfl⟩;obtain⟨b,hb⟩:∃b:Nat,b=(E-min E (-1075)).toNat:=⟨_,rfl⟩;rw[←ha,←hb]at hj;have h3:cxS z.natAbs j=zAq ((V:Nat):Int) ((Y*Y:Nat):Int):=by
    unfold cxS;refine zCq (p:=2^(a+a)) (q:=2^(b+b)) (zAx _) (zAx _) ?_ ?_
    · have e1:4*(m.natAbs*2^t)*2^(a+a)=m.natAbs*(2^t*2^2*2^(a+a)):=(by rw[show(4:Nat)=2^2 by decide];ac_rfl);rw[hab,hV,e1,←Nat.pow_add,←Nat.pow_add,Nat.mul_assoc,←Nat.pow_add];exact congrArg (fun q=>m.natAbs*2^q) j0
    · have e1:j*j*2^(a+a)=(j*2^a)*(j*2^a):=(by rw[Nat.pow_add];ac_rfl);have e2:Y*Y*2^(b+b)=(Y*2^b)*(Y*2^b):=(by rw[Nat.pow_add];ac_rfl);rw[e1,e2,hj]
   rw[h3]
   by_cases hlt:X<Y
   · rw[if_pos hlt];have:=zH0 (show X+1≤Y by omega);exact cmpI_m1.2 j0
   · rw[if_neg hlt]
     by_cases heq:X=Y
     · subst heq;rw[if_pos rfl]
       by_cases hs:X*X=V
       · simp only[hs,ne_eq,not_true_eq_false,decide_false,Bool.false_eq_true,if_false];exact cmpI_eq0.2 j0
       · simp only[ne_eq,hs,not_false_eq_true,decide_true,if_true];exact cmpI_one.2 j0
     · rw[if_neg heq];have:=zOt (show Y<X by omega);exact cmpI_one.2 j0
  have hXp:0<X:=by
   rcases Nat.eq_zero_or_pos X with h | h
   · rw[h]at hXb;exact absurd hXb ja
   · exact h
  obtain⟨c,h1,h2⟩:=zE6 false hXp E _ mode (zSP z.natAbs) hcut (fun _=>by unfold rlg;omega);exact⟨c,h1,by unfold zCg;rw[h2]⟩
theorem zIs{R:Int}{r:Nat}(hr:fzN r=R.natAbs)(hl:r<9218868437227405312)(mode:Int):zAA (zAu (nrm R (-1074)) mode)=true∧fz (zAu (nrm R (-1074)) mode)=R:=by
 by_cases h0:R=0
 · subst h0;rw[zBY];exact⟨ja,ja⟩
 · rw[zHD h0 hr.symm hl];have h5:=zD7 (s:=decide (R<0)) hl;exact⟨h5.1,by rw[h5.2,hr,zAk]⟩
end Go.Proofs.YtmbkgapknoammaaGreatDoor
namespace Go.Proofs.YtmbkgapknoammaaGreatDoor
open Go.RowKit Sp
theorem zIF(w:World){bd s:Bool}{a:Option Addr}{n cap:Nat}{e:Int}{d:Option (Int×Int)}(h:DyIn w bd s a n cap e d)(hT:Tab w):Calls Tryz.prog 159 #[.agg #[.bool bd,.bool s,.slice a n cap,.int .i64 e]] w (zAM w d):=by
 obtain⟨x,h1,h2,h3,h4,h5,rfl⟩:=h;exact zNE w bd s a n cap x e h1 h2 hT h3 (zIZ h3) h4 h5
end Go.Proofs.YtmbkgapknoammaaGreatDoor

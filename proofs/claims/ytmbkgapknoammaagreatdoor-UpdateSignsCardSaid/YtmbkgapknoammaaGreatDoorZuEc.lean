/-
  Plain: a matrix with a diagonal that is greater than the sums of its rows. No program in sight.
-/
import Derived.Test.YtmbkgapknoammaaGreatDoorZuPz
import Derived.Test.YtmbkgapknoammaaGreatDoorZuIP
import Derived.Test.YtmbkgapknoammaaGreatDoorZuGq
import Derived.Test.YtmbkgapknoammaaGreatDoorZuBag
import Derived.Test.YtmbkgapknoammaaGreatDoorZuQn
import Derived.BigQuiet
namespace Go.Proofs.YtmbkgapknoammaaGreatDoor
open Go.RowKit Sp
def skp(i q:Nat):Nat:=if q<i then q else q+1
def zRW(S I F:Nat→Nat)(i:Nat):Nat→Option (Int×Int)
 | 0=>nrm 1 0
 | q+1=>zHQ (fof (atv S I F (max i (skp i q)) (min i (skp i q))))
def zEu(n:Nat)(S I F:Nat→Nat)(i:Nat):Nat:=zAu (zDS (zRW S I F i) n) 2
def dEN(n:Nat)(S I F:Nat→Nat)(i j:Nat):Option Nat:=if i=j then some (zEu n S I F i)else if stv S I F i j then some (atv S I F i j)else none
def dM(S I F:Nat→Nat)(i:Nat):Nat→Int
 | 0=>2^1074
 | q+1=>((fz (atv S I F (max i (skp i q)) (min i (skp i q)))).natAbs:Int)
theorem zPi(S I F:Nat→Nat)(i q:Nat):IsN (zRW S I F i q):=by
 cases q with
 | zero=>exact zCR _ _
 | succ q=>exact zRb (zBv _)
theorem zSl:fzN 4791830003522207744=2^1115:=by
 have h:=zBL 1063 4503599627370496 j0 j0;rw[show 1063*4503599627370496+4503599627370496=4791830003522207744 by decide]at h;rw[h];exact p52 1063 1115 ja
theorem zPS{f:Nat}(h:fM f<4791830003522207744):zA4 (fz f).natAbs≤1115:=by
 refine zAC ?_;rw[zNa,←zSl];exact zHC h
theorem zQb:nrm 1 0=nrm ((2:Int)^1074) (-1074):=by
 have:=zCl 1 (-1074) 1074;rw[Int.one_mul]at this;rw[this];rfl
theorem zGD{r c q:Nat}{S I F:Nat→Nat}(h:Val r c q S I F)(hb:∀x,fM (F x)<4791830003522207744)(i t:Nat):zRW S I F i t=nrm (dM S I F i t) (-1074)∧nrm (dM S I F i t) (-1074)≠none∧zA4 (dM S I F i t).natAbs≤1115:=by
 cases t with
 | zero=>
  have hv:nrm 1 0≠none:=zBs j0 ja;refine⟨zQb,by show nrm ((2:Int)^1074) (-1074)≠none;rw[←zQb];exact hv,?_⟩;show zA4 ((2:Int)^1074).natAbs≤1115;have:=zFq (z:=1) (k:=1) 1074 ja;rw[Int.one_mul]at this;omega
 | succ t=>
  have hf:=(zO4 h (max i (skp i t)) (min i (skp i t))).2;have hB:fM (atv S I F (max i (skp i t)) (min i (skp i t)))<4791830003522207744:=zKi (P:=fun y=>fM y<4791830003522207744) ja hb _ _;show zHQ (fof _)=_∧_;rw[zCA hf];obtain⟨h1,h2⟩:=zPG _ _ (zDG hf);refine⟨h1,h2,?_⟩;show zA4 ((fz _).natAbs:Int).natAbs≤1115;rw[Int.natAbs_natCast];exact zPS hB
theorem zPT:fzN 5408823152471965696=2^1252:=by
 have h:=zBL 1200 4503599627370496 j0 j0;rw[show 1200*4503599627370496+4503599627370496=5408823152471965696 by decide]at h;rw[h];exact p52 1200 1252 ja
theorem zGL(a:Nat):(2:Int)^a=((2^a:Nat):Int):=by rw[Int.natCast_pow];rfl
theorem zM2{M:Int}(h0:0≤M)(hM:M≤2^1252)(hv:nrm M (-1074)≠none)(mode:Int):zAA (zAu (nrm M (-1074)) mode)=true:=by
 have e0:(-1074:Int)= -1074-((0:Nat):Int):=j0
 have hc:=zIs (R:=(2:Int)^1252) (r:=5408823152471965696) (by rw[zPT,zGL,Int.natAbs_natCast]) ja mode;have v2:nrm ((2:Int)^1252) (-1074)≠none:=zBs j0 (by
  have:=zFq (z:=1) (k:=1) 1252 ja;rw[Int.one_mul]at this;omega)
 have v0:nrm 0 (-1074)≠none:=zBs j0 ja;have m1:=zFe M ((2:Int)^1252) 0 mode (by rw[←e0];exact hv) (by rw[←e0];exact v2) hM;have m0:=zFe 0 M 0 mode (by rw[←e0];exact v0) (by rw[←e0];exact hv) h0;have p:=(zCT M 0 mode (by rw[←e0];exact hv)).1;rw[←e0]at m1 m0 p;have hl:=(zSI hc.1).2.2;rw[zBY]at m0;have z0:zB3 0=0:=ja
 exact zSH p (by unfold TT at *;omega) j0
theorem zEO{M:Nat→Int} :∀n,(∀i,i<n→0≤M i)→0≤zDh M n:=by
 intro n
 induction n with
 | zero=>intro _;exact Int.le_refl _
 | succ n ih=>intro h;have h1:=ih fun i hi=>h i j0;have h2:=h n j0;show 0≤zDh M n+M n;omega
theorem zHR(S I F:Nat→Nat)(i t:Nat):0≤dM S I F i t:=by
 cases t with
 | zero=>show(0:Int)≤2^1074;exact Int.le_of_lt (Int.pow_pos ja)
 | succ t=>exact Int.natCast_nonneg _
theorem zOT(a b:Nat)(h:a≤b):(2:Nat)^a≤2^b:=Nat.pow_le_pow_right ja h
theorem zFm{r c q:Nat}{S I F:Nat→Nat}(h:Val r c q S I F)(hb:∀x,fM (F x)<4791830003522207744){n:Nat}(hn:n≤15)(i:Nat):zDS (zRW S I F i) n=nrm (zDh (dM S I F i) n) (-1074)∧nrm (zDh (dM S I F i) n) (-1074)≠none∧zAA (zEu n S I F i)=true:=by
 have hs:=zK3 (zRW S I F i) (dM S I F i) j0 n fun t _=>⟨(zGD h hb i t).1,(zGD h hb i t).2.1⟩;have hbl:=zLI (dM S I F i) hn (P:=1115) fun t _=>(zGD h hb i t).2.2;have hv:nrm (zDh (dM S I F i) n) (-1074)≠none:=zBs j0 j0;refine⟨hs,hv,?_⟩;unfold zEu;rw[hs];have h0:=zEO n fun t _=>zHR S I F i t;have h1:=zAz (zDh (dM S I F i) n).natAbs;have h2:=zOT _ _ (show zA4 (zDh (dM S I F i) n).natAbs≤1252 by omega);refine zM2 h0 ?_ hv 2;rw[zGL];generalize (2:Nat)^1252=D at *;omega
end Go.Proofs.YtmbkgapknoammaaGreatDoor
namespace Go.Proofs.YtmbkgapknoammaaGreatDoor
open Go.RowKit Sp
def zDo(f:Nat→Int):List Nat→Int
 | []=>0
 | x::l=>f x+zDo f l
theorem zHA(f:Nat→Int):∀l l',zDo f (l++l')=zDo f l+zDo f l'
 | [],_=>(Int.zero_add _).symm
 | x::l,l'=>by show f x+zDo f (l++l')=f x+zDo f l+zDo f l';rw[zHA f l l'];omega
theorem zL4(f:Nat→Int){l l':List Nat}(h:l.Perm l'):zDo f l=zDo f l':=by
 induction h with
 | nil=>rfl
 | cons x _ ih=>show f x+_=f x+_;rw[ih]
 | swap x y l=>show f y+(f x+zDo f l)=f x+(f y+zDo f l);omega
 | trans _ _ h1 h2=>exact h1.trans h2
theorem zJA(f:Nat→Int)(g:Nat→Nat):∀l,zDo f (l.map g)=zDo (fun x=>f (g x)) l
 | []=>rfl
 | x::l=>by show f (g x)+zDo f (l.map g)=f (g x)+_;rw[zJA f g l]
theorem zI9(f:Nat→Int):∀n,sI f n=zDo f (List.range n)
 | 0=>rfl
 | n+1=>by rw[List.range_succ,zHA,←zI9 f n];show sI f n+f n=sI f n+(f n+0);omega
theorem zP4(l:List Nat):(List.range l.length).map (fun k=>l.getD k 0)=l:=by
 refine List.ext_getElem jz fun i h1 h2=>?_;rw[List.getElem_map,List.getElem_range,List.getD_eq_getElem?_getD,List.getElem?_eq_getElem h2];rfl
theorem zQJ(f:Nat→Int){l:List Nat}{n:Nat}(h:l.Perm (List.range n)):sI (fun k=>f (l.getD k 0)) n=sI f n:=by
 have hl:l.length=n:=QK
 rw[zI9 f n,←zL4 f h,zI9]
 conv=>rhs;rw[←zP4 l]
 rw[zJA,hl]
theorem zBp{l:List Nat}{n k:Nat}(h:l.Perm (List.range n))(hk:k<n):l.getD k 0<n:=by
 have hl:l.length=n:=QK
 rw[List.getD_eq_getElem?_getD,List.getElem?_eq_getElem j0];exact List.mem_range.1 (h.mem_iff.1 (List.getElem_mem (show k<l.length by omega)))
theorem zEB{l:List Nat}{n i k:Nat}(h:l.Perm (List.range n))(hi:i<n)(hk:k<n)(e:l.getD i 0=l.getD k 0):i=k:=by
 have hl:l.length=n:=QK
 have hn:l.Nodup:=h.nodup_iff.2 List.nodup_range;rw[List.getD_eq_getElem?_getD,List.getD_eq_getElem?_getD,List.getElem?_eq_getElem (show i<l.length by omega),List.getElem?_eq_getElem (show k<l.length by omega)]at e;exact(List.getElem_inj hn).1 e
theorem zLP(f:Nat→Int):∀n,sI f n=zDh f n
 | 0=>rfl
 | n+1=>by show sI f n+f n=zDh f n+f n;rw[zLP f n]
theorem zLQ(f:Nat→Int)(r:Nat):∀m,r≤m→sI f (m+1)=sI (fun q=>f (skp r q)) m+f r
 | 0,h=>by
  obtain rfl:r=0:=j0
  rfl
 | m+1,h=>by
  show sI f (m+1)+f (m+1)=(sI (fun q=>f (skp r q)) m+f (skp r m))+f r
  by_cases c:r≤m
  · rw[zLQ f r m c,show skp r m=m+1 from if_neg j0];omega
  · obtain rfl:r=m+1:=j0;rw[show sI f (m+1)=sI f m+f m from rfl,zCt (f:=fun q=>f (skp (m+1) q)) (h:=f) m fun k hk=>congrArg f (if_pos j0),show skp (m+1) m=m from if_pos j0]
theorem zND{r c q:Nat}{S I F:Nat→Nat}(h:Val r c q S I F)(hb:∀x,fM (F x)<4791830003522207744){n:Nat}(hn:n≤15)(i:Nat):zDh (dM S I F i) n≤fz (zEu n S I F i):=by
 obtain⟨h1,h2,h3⟩:=zFm h hb hn i;have e0:(-1074:Int)= -1074-((0:Nat):Int):=j0
 unfold zEu at h3 ⊢;rw[h1]at h3 ⊢;rw[e0]at h2 h3 ⊢;have:=(zLd _ 0 h2).2.1.2 h3;rwa[Int.pow_zero,Int.mul_one]at this
theorem zNC{r c q:Nat}{S I F:Nat→Nat}(h:Val r c q S I F)(hb:∀x,fM (F x)<4791830003522207744){n:Nat}(hn:n≤15)(h0:0<n)(i:Nat):4503599627370496*fz (zEu n S I F i)≤4503599627370497*zDh (dM S I F i) n+4503599627370496:=by
 obtain⟨h1,h2,h3⟩:=zFm h hb hn i;have e0:(-1074:Int)= -1074-((0:Nat):Int):=j0
 have hpos:0<zDh (dM S I F i) n:=by
  obtain⟨m,rfl⟩:∃m,n=m+1:=⟨n-1,j0⟩;rw[Nat.add_comm m 1,zJ4];have a1:=zEO (M:=fun t=>dM S I F i (1+t)) m fun t _=>zHR S I F i _;have a2:0<dM S I F i 0:=Int.pow_pos ja;have a3:zDh (dM S I F i) 1=dM S I F i 0:=Int.zero_add _;omega
 unfold zEu at h3 ⊢;rw[h1]at h3 ⊢;rw[e0]at h2 h3 ⊢;obtain⟨cc,k1,k2⟩:=zBg _ 0 2 j0 h2;have a1:=cmpI_ge.1 k1.1;generalize zDh (dM S I F i) n=M at *;have b1:fzN cc≤M.natAbs:=by
  have h3:((2*fzN cc*2^0:Nat):Int)≤((2*M.natAbs:Nat):Int):=a1;have h4:2*fzN cc*1≤2*M.natAbs:=Int.ofNat_le.1 h3;omega
 have b2:=zGz cc;obtain⟨D,hD⟩:∃D,D=cc+(if awx (decide (M<0)) cc (cxQ M.natAbs (2^0)) 2 then 1 else 0):=⟨_,rfl⟩;have hD1:D≤cc+1:=by rw[hD];split <;> omega
 rw[k2,←hD,decide_eq_false (show ¬M<0 by omega)]at h3;rw[k2,←hD,decide_eq_false (show ¬M<0 by omega)];unfold zDt at h3 ⊢
 by_cases hc:zE9≤D
 · rw[if_pos hc]at h3;exact absurd h3 ja
 · rw[if_neg hc];have hl:D<9218868437227405312:=(by unfold zE9 at hc;omega);rw[(zD7 (s:=false) hl).2];have b3:fzN D≤fzN (cc+1):=fzN_le_iff.2 hD1;show 4503599627370496*((fzN D:Nat):Int)≤_;omega
def pAt(S I X:Nat→Nat)(l:List Nat)(i k:Nat):Nat:=atv S I X (max (l.getD i 0) (l.getD k 0)) (min (l.getD i 0) (l.getD k 0))
theorem zQU(S I X:Nat→Nat)(l:List Nat)(i k:Nat):pAt S I X l i k=pAt S I X l k i:=by unfold pAt;rw[Nat.max_comm,Nat.min_comm]
section
variable {n gq:Nat}{S I X GS GI GF:Nat→Nat}{l:List Nat}
theorem zPF(hE:∀i j,i<n→j<n→lk I X i (S j) (S (j+1)-S j)=dEN n GS GI GF i j){i:Nat}(hi:i<n):atv S I X i i=zEu n GS GI GF i:=by
 unfold atv;rw[hE i i hi hi];unfold dEN;rw[if_pos rfl];rfl
theorem zRs(hE:∀i j,i<n→j<n→lk I X i (S j) (S (j+1)-S j)=dEN n GS GI GF i j){i j:Nat}(hi:i<n)(hj:j<n)(h:i≠j):atv S I X i j=atv GS GI GF i j:=by
 unfold atv;rw[hE i j hi hj];unfold dEN;rw[if_neg h];unfold stv atv
 cases lk GI GF i (GS j) (GS (j+1)-GS j) <;> rfl
def zL1(GS GI GF:Nat→Nat)(r c:Nat):Int:=if c=r then 0 else aI (fz (atv GS GI GF (max r c) (min r c)))
theorem zNF(n:Nat){r:Nat}(hr:r<n):zDh (dM GS GI GF r) n=2^1074+sI (zL1 GS GI GF r) n:=by
 obtain⟨m,rfl⟩:∃m,n=m+1:=⟨n-1,j0⟩;rw[zLQ (zL1 GS GI GF r) r m j0,Nat.add_comm m 1,zJ4,show zL1 GS GI GF r r=0 from if_pos rfl,Int.add_zero,zLP];refine congr (congrArg HAdd.hAdd (Int.zero_add _)) (zKx fun q _=>?_);rw[Nat.add_comm 1 q];have hne:skp r q≠r:=by unfold skp;split <;> omega
 show((fz (atv GS GI GF (max r (skp r q)) (min r (skp r q)))).natAbs:Int)=if skp r q=r then 0 else _;rw[if_neg hne];rfl
theorem zOY(hB:∀x,fM (GF x)<4791830003522207744){p:Nat}(hp:p=2^1074)(r c:Nat):zL1 GS GI GF r c≤2199023255552*p:=by
 unfold zL1
 split
 · exact j0
 · have h1:fM (atv GS GI GF (max r c) (min r c))<4791830003522207744:=zKi (P:=fun y=>fM y<4791830003522207744) ja hB _ _;have h2:=zHC h1;have e1:=Nat.pow_add 2 41 1074;rw[←hp,show(2:Nat)^41=2199023255552 by decide,show 41+1074=1115 from rfl]at e1;rw[←zNa,zSl,e1]at h2;unfold aI;omega
theorem zRt(hV:Val n n gq GS GI GF)(hB:∀x,fM (GF x)<4791830003522207744)(hE:∀i j,i<n→j<n→lk I X i (S j) (S (j+1)-S j)=dEN n GS GI GF i j)(hn:n≤5)(hl:l.Perm (List.range n))(V:Nat→Nat→Nat){p:Nat}(hp:p=2^1074):Dom (AM (pAt S I X l) V 0) n 0 ((p:Int)*p) 32:=by
 have hpp:(2:Int)^1074=(p:Int):=by rw[zGL,hp]
 have hp0:(0:Int)<p:=by rw[←hpp];exact Int.pow_pos ja
 have e0:∀i k,AM (pAt S I X l) V 0 i k=fz (pAt S I X l i k)*p:=fun i k=>by show fz _*2^1074=_;rw[hpp]
 have ed:∀i,i<n→pAt S I X l i i=zEu n GS GI GF (l.getD i 0):=fun i hi=>by
  unfold pAt;rw[Nat.max_self,Nat.min_self];exact zPF hE (zBp hl hi)
 have eo:∀i k,i<n→k<n→i≠k→aI (fz (pAt S I X l i k))=zL1 GS GI GF (l.getD i 0) (l.getD k 0):=fun i k hi hk hne=>by
  have h1:=zBp hl hi;have h2:=zBp hl hk;have h3:l.getD k 0≠l.getD i 0:=fun e=>hne (zEB hl hi hk e.symm);unfold zL1 pAt;rw[if_neg h3,zRs hE j0 j0 j0]
 refine⟨fun i k _ _ _ _=>by rw[e0,e0,zQU],fun i _ hi=>?_,fun i _ hi=>?_⟩
 · have h1:=zND hV hB (n:=n) j0 (l.getD i 0);rw[zNF n (zBp hl hi),hpp]at h1;have h2:off (AM (pAt S I X l) V 0) n 0 i=p*sI (zL1 GS GI GF (l.getD i 0)) n:=by
    rw[←zQJ _ hl,←zHa];refine zCt n fun k hk=>?_
    by_cases c:k=i
    · subst c;rw[if_neg j0,show zL1 GS GI GF (l.getD k 0) (l.getD k 0)=0 from if_pos rfl,Int.mul_zero]
    · rw[if_pos ⟨Nat.zero_le _,c⟩,e0,zQu,eo i k hi hk (fun e=>c e.symm),show aI (p:Int)=p from by unfold aI;omega,Int.mul_comm]
   rw[h2,e0,ed i hi];have h3:=Int.mul_le_mul_of_nonneg_right h1 (Int.le_of_lt hp0);grind
 · have h1:=zNC hV hB (n:=n) j0 j0 (l.getD i 0);rw[zNF n (zBp hl hi),hpp]at h1;have h3:sI (zL1 GS GI GF (l.getD i 0)) n≤4*(2199023255552*p):=by
    have hr:=zBp hl hi;obtain⟨m,rfl⟩:∃m,n=m+1:=⟨n-1,j0⟩;rw[zLQ (zL1 GS GI GF (l.getD i 0)) (l.getD i 0) m j0,show zL1 GS GI GF (l.getD i 0) (l.getD i 0)=0 from if_pos rfl,Int.add_zero];have h4:=zOx (f:=fun q=>zL1 GS GI GF (l.getD i 0) (skp (l.getD i 0) q)) (h:=fun _=>2199023255552*(p:Int)) m fun k _=>zOY hB hp _ _;rw[zTh]at h4;have h5:(m:Int)*(2199023255552*p)≤4*(2199023255552*p):=Int.mul_le_mul_of_nonneg_right j0 j0;omega
   have hp1:1≤(p:Int):=hp0;rw[e0,ed i hi];have h6:fz (zEu n GS GI GF (l.getD i 0))≤17592186044416*p:=j0;have h7:=Int.mul_le_mul_of_nonneg_right h6 (Int.le_of_lt hp0);grind
end
end Go.Proofs.YtmbkgapknoammaaGreatDoor
namespace Go.Proofs.YtmbkgapknoammaaGreatDoor
open Go.RowKit Sp
def zBD(n:Nat)(P:Nat→Nat→Bool)(j i:Nat):Bool:=elG n P j j i
theorem zSy{b:Nat→Nat→Nat}{C:Nat→Nat→Bool}{n j m i:Nat}(hm:m<j)(hi:i<n)(h:zGQ b C n m):zAA (lp b C j m i)=true:=by
 obtain⟨d,rfl⟩:∃d,j=m+1+d:=⟨j-(m+1),j0⟩;rw[zE2 d (m+1) m j0]
 by_cases c:m≤i
 · exact h.fin i c hi
 · rw[zCQ];unfold zL5;rw[if_neg j0,if_neg j0];decide
theorem zMR{b:Nat→Nat→Nat}{P:Nat→Nat→Bool}{n:Nat}{W:Int}{p:Nat}(hn:n≤5)(hp:p=2^1074)(hW:W=(p:Int)*p)(hb:∀i k,zAA (b i k)=true)
 (hD:Dom (AM b (lp b (zBD n P) 0) 0) n 0 W 32) (hP:∀i k,i<n→k<n→i≠k→fz (b i k)≠0→P i k=true) :
 ∀j,j≤n→Dom (AM b (lp b (zBD n P) j) j) n j W (32-j)∧(∀m,m<j→zGQ b (zBD n P) n m) ∧
  ∀i k,j≤i→i<n→j≤k→k<n→i≠k→AM b (lp b (zBD n P) j) j i k≠0→elG n P j i k=true:=by
 intro j
 induction j with
 | zero=>
  intro _;refine⟨hD,fun m hm=>j0,fun i k _ hi _ hk hne h=>hP i k hi hk hne fun h0=>h ?_⟩;show fz (b i k)*2^1074=0;rw[h0,Int.zero_mul]
 | succ j ih=>
  intro hj;obtain⟨h1,h2,h3⟩:=ih j0;obtain⟨k1,k2⟩:=zMQ (C:=zBD n P) hn j0 hp hW j0 hb (fun m i hm hi=>zSy hm hi (h2 m hm)) h1 fun i a1 a2 a3=>by
   show elG n P j j i=true;refine h3 j i (Nat.le_refl _) j0 j0 a2 j0 fun e=>a3 ?_;rw[h1.sym i j j0 a2 (Nat.le_refl _) j0];exact e
  refine⟨by rw[show((32:Int)-((j+1:Nat):Int))=32-(j:Int)-1 by omega];exact k2,fun m hm=>?_,fun i k a1 a2 a3 a4 hne h=>?_⟩
  · rcases Nat.lt_succ_iff_lt_or_eq.1 hm with c | c
    · exact h2 m c
    · rw[c];exact k1
  · show(elG n P j i k||decide (i<n∧k<n∧i≠k)&&(elG n P j j i&&!decide (i<j)&&(elG n P j j k&&!decide (k<j))))=true;have e1:AM b (lp b (zBD n P) (j+1)) (j+1) i k=AM b (lp b (zBD n P) j) j i k-fz (lp b (zBD n P) (j+1) j i)*fz (lp b (zBD n P) (j+1) j k):=by
     show AM b (lp b (zBD n P) (j+1)) j i k-_=_;rw[zGR (V:=lp b (zBD n P) (j+1)) (V':=lp b (zBD n P) j) j fun m hm=>zE2 1 j m hm]
    have ez:∀t,j<t→t<n→fz (lp b (zBD n P) (j+1) j t)≠0→elG n P j j t=true:=fun t b1 b2 b3=>by
     cases hc:elG n P j j t with
     | true=>rfl
     | false=>
      refine absurd ?_ b3;rw[zCQ];unfold zL5;rw[if_neg j0,if_neg (fun hh=>by have:elG n P j j t=true:=hh.2;rw[hc]at this;cases this)];decide
    by_cases c:AM b (lp b (zBD n P) j) j i k=0
    · rw[e1,c]at h;have c1:fz (lp b (zBD n P) (j+1) j i)≠0:=fun e=>h (by rw[e,Int.zero_mul];rfl);have c2:fz (lp b (zBD n P) (j+1) j k)≠0:=fun e=>h (by rw[e,Int.mul_zero];rfl);rw[ez i j0 a2 c1,ez k j0 a4 c2,decide_eq_true (show i<n∧k<n∧i≠k from⟨a2,a4,hne⟩),decide_eq_false (show ¬i<j by omega),decide_eq_false (show ¬k<j by omega)];exact Bool.or_true _
    · rw[h3 i k j0 a2 j0 a4 hne c];rfl
theorem zRa{n gq:Nat}{S I X GS GI GF:Nat→Nat}{l:List Nat}{P:Nat→Nat→Bool}(hV:Val n n gq GS GI GF)(hB:∀x,fM (GF x)<4791830003522207744)(hE:∀i j,i<n→j<n→lk I X i (S j) (S (j+1)-S j)=dEN n GS GI GF i j)(hn:n≤5)(hl:l.Perm (List.range n))
 (hf:∀i k,zAA (pAt S I X l i k)=true) (hP:∀i k,i<n→k<n→i≠k→stv S I X (max (l.getD i 0) (l.getD k 0)) (min (l.getD i 0) (l.getD k 0))=true→P i k=true):∀j,j<n→zGQ (pAt S I X l) (zBD n P) n j:=by
 obtain⟨p,hp⟩:∃p:Nat,p=2^1074:=⟨_,rfl⟩;have h0:=zRt hV hB hE hn hl (lp (pAt S I X l) (zBD n P) 0) hp;intro j hj;refine(zMR hn hp rfl hf h0 (fun i k hi hk hne h=>?_) n (Nat.le_refl _)).2.1 j hj;refine hP i k hi hk hne ?_
 cases hc:stv S I X (max (l.getD i 0) (l.getD k 0)) (min (l.getD i 0) (l.getD k 0))with
 | true=>rfl
 | false=>
  refine absurd ?_ h;have e1:pAt S I X l i k=0:=by
   unfold stv at hc;unfold pAt atv
   cases hh:lk I X (max (l.getD i 0) (l.getD k 0)) (S (min (l.getD i 0) (l.getD k 0))) (S (min (l.getD i 0) (l.getD k 0)+1)-S (min (l.getD i 0) (l.getD k 0)))with
   | none=>rfl
   | some y=>rw[hh]at hc;cases hc
  rw[e1];decide
end Go.Proofs.YtmbkgapknoammaaGreatDoor
namespace Go.Proofs.YtmbkgapknoammaaGreatDoor
open Go.RowKit Sp
def sgd(minus:Bool)(d:Option (Int×Int)):Option (Int×Int):=if minus then zEt d else d
def uD(minus:Bool)(p q:Nat):Option (Int×Int):=zI2 (zAO (fof p) (fof p)) (sgd minus (zAO (fof q) (fof q)))
noncomputable def uG(minus:Bool)(p q:Nat):Nat:=zBc (uD minus p q) 0
noncomputable def uL(minus:Bool)(p q l y:Nat):Nat:=zEH (zI2 (zAO (fof p) (fof l)) (sgd minus (zAO (fof q) (fof y)))) (fof (uG minus p q)) 0
noncomputable def uY(minus:Bool)(p q l y:Nat):Nat:=zEH (zOf (zAO (fof p) (fof y)) (zAO (fof q) (fof l))) (fof (uG minus p q)) 0
section
variable (n:Nat)(S I V:Nat→Nat)(minus:Bool)(x0:Nat→Nat)
def uIn:Nat→Nat→Bool
 | 0,i=>!zB0 (x0 i)
 | k+1,i=>uIn k i||(uIn k k&&stv S I V i k)
noncomputable def uX:Nat→Nat→Nat
 | 0,i=>x0 i
 | k+1,i=>if uIn S I V x0 k k&&(decide (k<i)&&uIn S I V x0 (k+1) i)then uY minus (atv S I V k k) (uX k k) (atv S I V i k) (uX k i)else uX k i
noncomputable def uV(k i:Nat):Nat:=
 if i=k then uG minus (atv S I V k k) (uX S I V minus x0 k k)else uL minus (atv S I V k k) (uX S I V minus x0 k k) (atv S I V i k) (uX S I V minus x0 k i)
noncomputable def uC(k i:Nat):Int:=
 if i=k then
  if zA1 (uD minus (atv S I V k k) (uX S I V minus x0 k k))≤0∨zB0 (uV S I V minus x0 k k)=true then 290 else if zAA (uV S I V minus x0 k k)then 0 else 233
 else if uIn S I V x0 (k+1) i then if zAA (uV S I V minus x0 k i)&&zAA (uX S I V minus x0 (k+1) i)then 0 else 233 else 0
noncomputable def uE(k:Nat):Int:=if uIn S I V x0 k k then zAR (uC S I V minus x0 k) k (n-k)else 0
noncomputable def zS3:Int:=zAR (uE n S I V minus x0) 0 n
def zT1(k m:Nat):List Nat:=nb (fun _ i=>decide (k≤i)&&uIn S I V x0 (k+1) i) 0 m
def zI3(k:Nat):List Nat:=if uIn S I V x0 k k then zT1 S I V x0 k n else(List.range (S (k+1)-S k)).map fun t=>I (S k+t)
noncomputable def zNN(k:Nat):List Nat:=if uIn S I V x0 k k then(zT1 S I V x0 k n).map (uV S I V minus x0 k)else(List.range (S (k+1)-S k)).map fun t=>V (S k+t)
def zB7:Nat→List Nat
 | 0=> []
 | k+1=>zB7 k++zI3 n S I V x0 k
noncomputable def zJp:Nat→List Nat
 | 0=> []
 | k+1=>zJp k++zNN n S I V minus x0 k
end
section
variable {n:Nat}{S I V:Nat→Nat}{minus:Bool}{x0:Nat→Nat}
theorem zGH(k:Nat):(zNN n S I V minus x0 k).length=(zI3 n S I V x0 k).length:=by
 unfold zNN zI3;split <;> rw[List.length_map];rw[List.length_range,List.length_map,List.length_range]
theorem zGp:∀k,(zJp n S I V minus x0 k).length=(zB7 n S I V x0 k).length
 | 0=>rfl
 | k+1=>by show(zJp n S I V minus x0 k++_).length=(zB7 n S I V x0 k++_).length;rw[List.length_append,List.length_append,zGp k,zGH]
end
end Go.Proofs.YtmbkgapknoammaaGreatDoor
namespace Go.Proofs.YtmbkgapknoammaaGreatDoor
open Go.RowKit Sp
def cat(c:Nat→List Nat):Nat→List Nat
 | 0=> []
 | k+1=>cat c k++c k
theorem zFp(c:Nat→List Nat)(k:Nat):(cat c (k+1)).length=(cat c k).length+(c k).length:=by show(cat c k++c k).length=_;rw[List.length_append]
theorem zNT(c:Nat→List Nat)(k:Nat):∀d,∃r,cat c (k+d)=cat c k++r
 | 0=>⟨[],(List.append_nil _).symm⟩
 | d+1=>by
  obtain⟨r,hr⟩:=zNT c k d;exact⟨r++c (k+d),by show cat c (k+d)++c (k+d)=_;rw[hr,List.append_assoc]⟩
theorem zGJ(c:Nat→List Nat){n k t:Nat}(hk:k<n)(ht:t<(c k).length):(cat c n).getD ((cat c k).length+t) 0=(c k).getD t 0:=by
 obtain⟨d,rfl⟩:∃d,n=k+1+d:=⟨n-(k+1),j0⟩;obtain⟨r,hr⟩:=zNT c (k+1) d;rw[hr,show cat c (k+1)=cat c k++c k from rfl,List.getD_eq_getElem?_getD,List.getD_eq_getElem?_getD,List.append_assoc,List.getElem?_append_right (Nat.le_add_right _ _),Nat.add_sub_cancel_left,List.getElem?_append_left ht]
structure zTJ(n k:Nat)(l:List Nat):Prop where
 pos:0<l.length
 hd:l.getD 0 0=k
 asc:∀t,0<t→t<l.length→l.getD (t-1) 0<l.getD t 0
 lt:∀t,t<l.length→l.getD t 0<n
theorem zRE{n:Nat}{c:Nat→List Nat}(h:∀k,k<n→zTJ n k (c k)):FOK n (cat c n).length (fun k=>(((cat c k).length:Nat):Int)) (fun x=>(((cat c n).getD x 0:Nat):Int)) where
 z:=rfl
 e:=rfl
 m j hj:=by
  have:=(h j hj).pos;show((((cat c j).length:Nat):Int))<(((cat c (j+1)).length:Nat):Int);rw[zFp];omega
 d j hj:=by
  have h1:=zGJ c hj (h j hj).pos;rw[Nat.add_zero,(h j hj).hd]at h1;show(((cat c n).getD (((cat c j).length:Nat):Int).toNat 0:Nat):Int)=j;rw[Int.toNat_natCast,h1]
 a j x hj h1 h2:=by
  have h1:(((cat c j).length:Nat):Int).toNat≤x:=h1;have h2:x<(((cat c (j+1)).length:Nat):Int).toNat:=h2;show(((cat c n).getD x 0:Nat):Int)<n∧((((cat c j).length:Nat):Int).toNat<x→(((cat c n).getD (x-1) 0:Nat):Int)<(((cat c n).getD x 0:Nat):Int));rw[Int.toNat_natCast]at h1 h2 ⊢;rw[zFp]at h2;obtain⟨t,rfl⟩:∃t,x=(cat c j).length+t:=⟨x-(cat c j).length,j0⟩;have ht:t<(c j).length:=j0
  rw[zGJ c hj ht];refine⟨Int.ofNat_lt.2 ((h j hj).lt t ht),fun h0=>?_⟩;rw[show(cat c j).length+t-1=(cat c j).length+(t-1)by omega,zGJ c hj j0];exact Int.ofNat_lt.2 ((h j hj).asc t j0 ht)
end Go.Proofs.YtmbkgapknoammaaGreatDoor
namespace Go.Proofs.YtmbkgapknoammaaGreatDoor
open Go.RowKit Sp
structure FCK(n q:Nat)(O:Nat→Int)(S V:Nat→Nat):Prop where
 pm:∃l:List Nat,l.Perm (List.range n)∧∀k,k<n→O k=((l.getD k 0:Nat):Int)
 z:S 0=0
 e:S n=q
 m:∀j,j<n→S j<S (j+1)
 b:∀x,x<q→V x<18446744073709551616
 f:∀x,x<q→zAA (V x)=true
 d:∀j,j<n→0<zA1 (fof (V (S j)))
theorem zGm{L:Nat→Int}{n:Nat} :∀m,(∀i,i<m→0≤L i∧L i<n∧∀t,t<i→L t≠L i)→zDi L n m=true
 | 0,_=>rfl
 | m+1,h=>by
  show(zDi L n m&&decide _)=true;rw[zGm m fun i hi=>h i j0,decide_eq_true (h m j0)];rfl
theorem FCK.p{n q:Nat}{O:Nat→Int}{S V:Nat→Nat}(h:FCK n q O S V):zDi O n n=true:=by
 obtain⟨l,hl,hO⟩:=h.pm;refine zGm n fun i hi=>?_;have h1:=zBp hl hi;rw[hO i hi];refine⟨j0,j0,fun t ht e=>?_⟩;rw[hO t j0]at e;have:=zEB hl j0 hi (Int.ofNat.inj e);omega
theorem FCK.onto{n q:Nat}{O:Nat→Int}{S V:Nat→Nat}(h:FCK n q O S V){i:Nat}(hi:i<n):∃k,k<n∧O k=(i:Int):=by
 obtain⟨l,hl,hO⟩:=h.pm;obtain⟨k,hk,e⟩:=List.getElem_of_mem (hl.mem_iff.2 (List.mem_range.2 hi));have hlen:l.length=n:=by rw[hl.length_eq,List.length_range]
 refine⟨k,j0,?_⟩;rw[hO k j0,List.getD_eq_getElem?_getD,List.getElem?_eq_getElem hk,e];rfl
theorem FCK.le{n q:Nat}{O:Nat→Int}{S V:Nat→Nat}(h:FCK n q O S V):∀d t,t+d≤n→S t+d≤S (t+d)
 | 0,_,_=>Nat.le_refl _
 | d+1,t,ht=>by have h1:=h.le d t j0;have h2:=h.m (t+d) j0;rw[show t+(d+1)=t+d+1 by omega];omega
theorem FCK.lt{n q:Nat}{O:Nat→Int}{S V:Nat→Nat}(h:FCK n q O S V){t:Nat}(ht:t≤n):t≤S t∧S t≤q:=by
 have h1:=h.le t 0 j0;have h2:=h.le (n-t) t j0;rw[Nat.zero_add,h.z]at h1;rw[show t+(n-t)=n by omega,h.e]at h2;omega
structure Cok(n:Nat)(I:Nat→Int)(j a b:Nat):Prop where
 d:I a=j
 a:∀x,a≤x→x<b→I x<n∧(a<x→I (x-1)<I x)
def Iok(n:Nat)(S:Nat→Nat)(I:Nat→Int):Prop:=∀j,j<n→Cok n I j (S j) (S (j+1))
open Classical in
noncomputable def ckE(n:Nat)(S:Nat→Nat)(I:Nat→Int):Int:=if Iok n S I then 0 else 240
theorem zKc{n:Nat}{S:Nat→Nat}{I:Nat→Int}(h:Iok n S I):ckE n S I=0:=by unfold ckE;rw[if_pos h]
theorem zKd{n:Nat}{S:Nat→Nat}{I:Nat→Int}(h:¬Iok n S I):ckE n S I=240:=by unfold ckE;rw[if_neg h]
theorem Cok.ge{n j a b:Nat}{I:Nat→Int}(h:Cok n I j a b):∀d,a+d<b→(j:Int)+d≤I (a+d)
 | 0,_=>by rw[Nat.add_zero,h.d];omega
 | d+1,hd=>by
  have h1:=h.ge d j0;have h2:=(h.a (a+(d+1)) j0 hd).2 j0;rw[show a+(d+1)-1=a+d by omega]at h2;omega
theorem Iok.nat{n q:Nat}{S V:Nat→Nat}{O I:Nat→Int}(h:Iok n S I)(k:FCK n q O S V){x:Nat}(hx:x<q):0≤I x∧I x<n:=by
 have:∀m,m≤n→x<S m→∃j,j<m∧S j≤x∧x<S (j+1):=by
  intro m
  induction m with
  | zero=>intro _ h0;rw[k.z]at h0;omega
  | succ m ih=>
   intro hm h1
   by_cases h2:x<S m
   · obtain⟨j,h3,h4⟩:=ih j0 h2;exact⟨j,j0,h4⟩
   · exact⟨m,j0,j0,h1⟩
 obtain⟨j,h1,h2,h3⟩:=this n (Nat.le_refl _) (by rw[k.e];exact hx);have h4:=(h j h1).ge (x-S j) j0;rw[show S j+(x-S j)=x by omega]at h4;exact⟨j0,((h j h1).a x h2 h3).1⟩
def lkB(I V:Nat→Nat)(i a m:Nat):Bool:=(lk I V i a m).isSome
theorem zJF(I V:Nat→Nat)(i a:Nat):lkB I V i a 0=false:=rfl
theorem zJG(I V:Nat→Nat)(i a m:Nat):lkB I V i a (m+1)=(lkB I V i a m||decide (i=I (a+m))):=by
 unfold lkB;simp only[lk]
 cases h:lk I V i a m with
 | some y=>rfl
 | none=>
  by_cases e:I (a+m)=i
  · rw[if_pos e,decide_eq_true e.symm];rfl
  · rw[if_neg e,decide_eq_false (fun h=>e h.symm)];rfl
def zC4(S I V x0:Nat→Nat)(m:Nat):List Nat:=(List.range m).filter fun k=>uIn S I V x0 k k
theorem zGk{S I V x0:Nat→Nat}{k:Nat}(h:uIn S I V x0 k k=true):zC4 S I V x0 (k+1)=zC4 S I V x0 k++ [k]:=by
 unfold zC4;rw[List.range_succ,List.filter_append,List.filter_cons_of_pos (by exact h)];rfl
theorem zMn{S I V x0:Nat→Nat}{k:Nat}(h:uIn S I V x0 k k=false):zC4 S I V x0 (k+1)=zC4 S I V x0 k:=by
 unfold zC4;rw[List.range_succ,List.filter_append,List.filter_cons_of_neg (by rw[h];exact Bool.false_ne_true)];exact List.append_nil _
theorem zJm(S I V x0:Nat→Nat)(m:Nat):(zC4 S I V x0 m).length≤m:=by
 have:=List.length_filter_le (fun k=>uIn S I V x0 k k) (List.range m);rwa[List.length_range]at this
theorem zLw{S I V x0:Nat→Nat}{k i:Nat}(h:uIn S I V x0 k k=true):uIn S I V x0 (k+1) i=(uIn S I V x0 k i||lkB I V i (S k) (S (k+1)-S k)):=by
 show(uIn S I V x0 k i||(uIn S I V x0 k k&&stv S I V i k))=_;rw[h];rfl
theorem zLv{S I V x0:Nat→Nat}{k i:Nat}(h:uIn S I V x0 k k=false):uIn S I V x0 (k+1) i=uIn S I V x0 k i:=by
 show(uIn S I V x0 k i||(uIn S I V x0 k k&&stv S I V i k))=_;rw[h];exact Bool.or_false _
end Go.Proofs.YtmbkgapknoammaaGreatDoor
set_option maxRecDepth 100000
set_option maxHeartbeats 20000000
namespace Go.Proofs.YtmbkgapknoammaaGreatDoor
open Go.RowKit Sp
theorem zJx{P:Program}{t e:TypeId}{z:Value}{cs:Array Value}{s b:Nat}(hP:(P.info? e).map (fun i=>(i.zero,i.size,i.bytes))=some (some z,s,b))(ht:P.underlying t=some (.slice e))(hz:z.cells=cs)(hb:b≤64)(n:Nat)(hn:n≤1000000)(W:World):(Instr.makeSlice t (.int .i64 (n:Int)) (.int .i64 (n:Int))).run P W=.ok (.slice (some ⟨W.heap.size,0,none⟩) n n) (W.alloc (.cells (madeCells cs (n*s)) e)):=by
 have h64:(b:Int)*n≤64*1000000:=Int.mul_le_mul j0 j0 j0 j0;obtain⟨i0,hi,hz0,hz1,hz2⟩:=info_parts hP;have:=run_make (P:=P) W t e i0 _ ht hi hz0 .i64 .i64 n n j0 (Int.le_refl _) (by rw[hz2];exact Int.le_trans h64 ja) j0;rw[this,hz1,hz,Int.toNat_natCast]
theorem zE1{P:Program}{t e:TypeId}{z:Value}{b:Nat}(hP:(P.info? e).map (fun i=>(i.zero,i.size,i.bytes))=some (some z,1,b))(ht:P.underlying t=some (.slice e))(hz:z.cells=#[z])(hb:b≤64)(n:Nat)(hn:n≤1000000)(W:World):(Instr.makeSlice t (.int .i64 (n:Int)) (.int .i64 (n:Int))).run P W=.ok (.slice (some ⟨W.heap.size,0,none⟩) n n) (W.alloc (.cells (madeCells #[z] n) e)):=by
 rw[zJx hP ht hz hb n hn,Nat.mul_one]
theorem zT3(T:TypeId)(s:Nat)(b i n c:Nat)(hi:i<n)(W:World)(und:Tryz.prog.underlying T=some (.slice (Tryz.prog.elem T)):=by kernel_rfl)(siz:∀w,(Go.sizeOf (Tryz.prog.elem T)).run Tryz.prog w=.ok s w:=by exact fun _=>je):(Instr.indexAt T (.slice (some ⟨b,0,none⟩) n c) (.int .i64 (i:Int))).run Tryz.prog W=.ok (.pointer (some ⟨b,i*s,none⟩)) W:=by
 rw[run_indexAt_slice _ _ _ _ _ _ _ und,if_pos ⟨j0,j0⟩,siz];simp only[Result.andThen,Int.toNat_natCast,Addr.add_lit,Nat.zero_add]
theorem zCz(T:TypeId)(b i n c:Nat)(hi:i<n)(W:World)(und:Tryz.prog.underlying T=some (.slice (Tryz.prog.elem T)):=by kernel_rfl)(siz:∀w,(Go.sizeOf (Tryz.prog.elem T)).run Tryz.prog w=.ok 1 w:=by exact fun _=>je):(Instr.indexAt T (.slice (some ⟨b,0,none⟩) n c) (.int .i64 (i:Int))).run Tryz.prog W=.ok (.pointer (some ⟨b,i,none⟩)) W:=by
 rw[zT3 T 1 b i n c hi W und siz,Nat.mul_one]
def zDv(L:Nat→Int)(k i:Nat):Bool:=decide (∃t,t<k∧L t=(i:Int))
theorem zDX(L:Nat→Int)(i:Nat):zDv L 0 i=false:=decide_eq_false fun⟨t,h,_⟩=>j0
theorem zDY{L:Nat→Int}{k m:Nat}(h:L k=(m:Int))(i:Nat):zDv L (k+1) i=(if i=m then true else zDv L k i):=by
 unfold zDv
 by_cases e:i=m
 · rw[if_pos e,e];exact decide_eq_true ⟨k,j0,h⟩
 · rw[if_neg e];refine decide_eq_decide.2 ⟨fun⟨t,h1,h2⟩=>?_,fun⟨t,h1,h2⟩=>⟨t,j0,h2⟩⟩;rcases Nat.lt_succ_iff_lt_or_eq.1 h1 with c | c
   · exact⟨t,c,h2⟩
   · rw[c,h]at h2;omega
theorem zF0{L:Nat→Int}{n k:Nat}(h:zDi L n n=true)(hk:k<n):∃m:Nat,L k=(m:Int)∧m<n∧zDv L k m=false:=by
 obtain⟨h1,h2,h3⟩:=zEC h hk;refine⟨(L k).toNat,j0,j0,decide_eq_false fun⟨t,h4,h5⟩=>h3 t h4 ?_⟩;rw[h5];omega
attribute [local irreducible] Calls
theorem zES(w:World)(a:Option Addr)(n c:Nat)(hn:n≤10000)(L:Nat→Int)[hx:IZ w a n c L](hp:zDi L n n=true):Calls Tryz.prog 43 #[.slice a n c,.int .i64 n] w fun o w'=>o=.returned (.bool true)∧From w w':=by
 have l1:=hx.out.fits;have l2:=hx.out.lim;have HP:=Lib.hid hp;have hmk:=fun W=>zE1 (P:=Tryz.prog) (t:=23) (e:=4) (z:=.bool false) (b:=1) je je rfl j0 n j0 W;clear hp;go_enter Tryz.func43,Tryz.ntmps43;go_wp2_with fail;have B0:=(Bag.nil w).make 4 (.bool false) n (n:=w.heap.size) rfl
 go_loopw [6] (fun x wr=>∃k:Nat,k≤n∧x=.int .i64 k∧Bag w wr [arr w.heap.size 4 n (fun i=>.bool (zDv L k i))]) (fun x _=>n-(intOf x).toNat)
 case atStart=>exact⟨0,j0,rfl,B0.to 0 rfl (fun h=>h.congr fun i _=>by rw[zDX]) fun _ h=>h⟩
 case round=>
  obtain⟨k,hk,rfl,iB⟩:=hrel;haveI bw:=iB.fr';clear B0
  by_cases hlt:k<n
  · have k1:=(inferInstance:IZ wr a n c L).out;have y1:=k1.idx k hlt;obtain⟨m,hm,hmn,hs⟩:=zF0 HP.out hlt;have HM:=Lib.hid hm;haveI z1:CE wr (ab a) (ao a+k) (.int .i64 (m:Int)):=⟨Xi,k1.old j0⟩;haveI z2:WE wr w.heap.size m (.bool false):=Xc;have y2:=fun W=>zCz 23 w.heap.size m n n hmn W;have d0:decide ((m:Int)<0)=false:=decide_eq_false j0;have d1:decide ((n:Int)≤(m:Int))=false:=decide_eq_false j0;have hmn':¬n≤m:=j0;clear k1 hm hs;have B2:=iB.st 0 rfl m (.bool true);go_wp2_with fail;go_roundw
    case rel=>exact⟨k+1,j0,jm,B2.to 0 rfl (fun h=>h.congr fun i _=>by
     show(if i=m then Value.bool true else .bool (zDv L k i))=.bool (zDv L (k+1) i);rw[zDY HM.out];split <;> rfl) fun _ h=>h⟩
    case measure=>exact jb
  · obtain rfl:k=n:=j0;go_wp2_with fail;go_ret;exact⟨rfl,bw⟩
theorem zMT(w:World)(a:Option Addr)(n c:Nat)(hn:n≤10000)(L:Nat→Int)[hx:IZ w a n c L](hp:zDi L n n=true):Calls Tryz.prog 143 #[.slice a n c,.int .i64 n] w fun o w'=>o=.returned (.bool true)∧From w w':=by
 have l1:=hx.out.fits;have l2:=hx.out.lim;have HP:=Lib.hid hp;have hmk:=fun W=>zE1 (P:=Tryz.prog) (t:=23) (e:=4) (z:=.bool false) (b:=1) je je rfl j0 n j0 W;clear hp;go_enter Tryz.func143,Tryz.ntmps143;go_wp2_with fail;have B0:=(Bag.nil w).make 4 (.bool false) n (n:=w.heap.size) rfl
 go_loopw [6] (fun x wr=>∃k:Nat,k≤n∧x=.int .i64 k∧Bag w wr [arr w.heap.size 4 n (fun i=>.bool (zDv L k i))]) (fun x _=>n-(intOf x).toNat)
 case atStart=>exact⟨0,j0,rfl,B0.to 0 rfl (fun h=>h.congr fun i _=>by rw[zDX]) fun _ h=>h⟩
 case round=>
  obtain⟨k,hk,rfl,iB⟩:=hrel;haveI bw:=iB.fr';clear B0
  by_cases hlt:k<n
  · have k1:=(inferInstance:IZ wr a n c L).out;have y1:=k1.idx k hlt;obtain⟨m,hm,hmn,hs⟩:=zF0 HP.out hlt;have HM:=Lib.hid hm;haveI z1:CE wr (ab a) (ao a+k) (.int .i64 (m:Int)):=⟨Xi,k1.old j0⟩;haveI z2:WE wr w.heap.size m (.bool false):=Xc;have y2:=fun W=>zCz 23 w.heap.size m n n hmn W;have d0:decide ((m:Int)<0)=false:=decide_eq_false j0;have d1:decide ((n:Int)≤(m:Int))=false:=decide_eq_false j0;have hmn':¬n≤m:=j0;clear k1 hm hs;have B2:=iB.st 0 rfl m (.bool true);go_wp2_with fail;go_roundw
    case rel=>exact⟨k+1,j0,jm,B2.to 0 rfl (fun h=>h.congr fun i _=>by
     show(if i=m then Value.bool true else .bool (zDv L k i))=.bool (zDv L (k+1) i);rw[zDY HM.out];split <;> rfl) fun _ h=>h⟩
    case measure=>exact jb
  · obtain rfl:k=n:=j0;go_wp2_with fail;go_ret;exact⟨rfl,bw⟩
theorem zNL(w:World)(a:Option Addr)(n c:Nat)(hn:n≤10000)(L:Nat→Int)[hx:IZ w a n c L](hp:zDi L n n=true):Calls Tryz.prog 132 #[.slice a n c] w fun o w'=>o=.returned (.bool true)∧From w w':=by
 have l1:=hx.out.fits;have l2:=hx.out.lim;have HP:=Lib.hid hp;have hmk:=fun W=>zE1 (P:=Tryz.prog) (t:=23) (e:=4) (z:=.bool false) (b:=1) je je rfl j0 n j0 W;clear hp;go_enter Tryz.func132,Tryz.ntmps132;go_wp2_with fail;have B0:=(Bag.nil w).make 4 (.bool false) n (n:=w.heap.size) rfl
 go_loopw [5,11] (fun _ x wr=>∃k:Nat,k≤n∧x=.int .i64 k∧Bag w wr [arr w.heap.size 4 n (fun i=>.bool (zDv L k i))]) (fun _ x _=>n-(intOf x).toNat)
 case atStart=>exact⟨0,j0,rfl,B0.to 0 rfl (fun h=>h.congr fun i _=>by rw[zDX]) fun _ h=>h⟩
 case round=>
  obtain⟨k,hk,rfl,iB⟩:=hrel;haveI bw:=iB.fr';clear B0
  by_cases hlt:k<n
  · have k1:=(inferInstance:IZ wr a n c L).out;have y1:=k1.idx k hlt;obtain⟨m,hm,hmn,hs⟩:=zF0 HP.out hlt;have HM:=Lib.hid hm;haveI z1:CE wr (ab a) (ao a+k) (.int .i64 (m:Int)):=⟨Xi,k1.old j0⟩;haveI z2:WE wr w.heap.size m (.bool false):=Xc;have y2:=fun W=>zCz 23 w.heap.size m n n hmn W;have d0:decide ((m:Int)<0)=false:=decide_eq_false j0;have d1:decide ((n:Int)≤(m:Int))=false:=decide_eq_false j0;have hmn':¬n≤m:=j0;clear k1 hm hs;have B2:=iB.st 0 rfl m (.bool true);go_wp2_with fail;go_roundw
    case rel=>exact⟨k+1,j0,jm,B2.to 0 rfl (fun h=>h.congr fun i _=>by
     show(if i=m then Value.bool true else .bool (zDv L k i))=.bool (zDv L (k+1) i);rw[zDY HM.out];split <;> rfl) fun _ h=>h⟩
    case measure=>exact jb
  · obtain rfl:k=n:=j0;go_wp2_with fail;go_ret;exact⟨rfl,bw⟩
end Go.Proofs.YtmbkgapknoammaaGreatDoor

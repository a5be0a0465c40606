/-
  Plain: a symmetric matrix whose diagonal dominates stays so when a column goes, roundings and all. Whole numbers: entries in units of 2^-2148, floats in units of 2^-1074; W is 2^2148. No program in sight.
-/
import Derived.Test.YtmbkgapknoammaaGreatDoorZuGq
namespace Go.Proofs.YtmbkgapknoammaaGreatDoor
open Go.RowKit Sp
theorem zKF{x D d g a S W n:Int}(hx0:0≤x)(hD0:0≤D)(ha:0≤a)(hS:0≤S)(hg:0<g)(hW:0<W)
 (h1:4503599627370496*(a*g)≤4503599627370497*x+4503599627370496*g) (h2:4503599627370496*(S*g)≤4503599627370497*D+n*4503599627370496*g)
 (hxD:x≤D) (hDd:D≤d) (hg2:2251799813685247*d≤2251799813685248*(g*g)) (hgW:8192*g≤W) (hn0:0≤n) (hn:n≤5) (hxW:x≤17592186044416*W) :
 32*(a*S)≤32*x+W:=by
 have e1:0≤4503599627370496*(a*g):=Int.mul_nonneg ja (Int.mul_nonneg ha (Int.le_of_lt hg));have e2:0≤4503599627370497*D+n*4503599627370496*g:=by
  have:=Int.mul_nonneg (Int.mul_nonneg hn0 (show(0:Int)≤4503599627370496 by decide)) (Int.le_of_lt hg);omega
 have e3:0≤4503599627370496*(S*g):=Int.mul_nonneg ja (Int.mul_nonneg hS (Int.le_of_lt hg));have p1:(4503599627370496*(a*g))*(4503599627370496*(S*g))≤(4503599627370497*x+4503599627370496*g)*(4503599627370497*D+n*4503599627370496*g):=
  Int.mul_le_mul h1 h2 e3 j0
 have hgg:0<g*g:=Int.mul_pos hg hg;have d1:2251799813685247*D≤2251799813685248*(g*g):=j0
 have d2:x*(2251799813685247*D)≤x*(2251799813685248*(g*g)):=Int.mul_le_mul_of_nonneg_left d1 hx0;have d3:D≤2*(g*g):=j0
 have d4:g*D≤g*(2*(g*g)):=Int.mul_le_mul_of_nonneg_left d3 (Int.le_of_lt hg);have d5:x*g≤D*g:=Int.mul_le_mul_of_nonneg_right hxD (Int.le_of_lt hg);have d6:n*(x*g)≤5*(x*g):=Int.mul_le_mul_of_nonneg_right hn (Int.mul_nonneg hx0 (Int.le_of_lt hg));have d7:(g*g)*(8192*g)≤(g*g)*W:=Int.mul_le_mul_of_nonneg_left hgW (Int.le_of_lt hgg);have d8:(g*g)*x≤(g*g)*(17592186044416*W):=Int.mul_le_mul_of_nonneg_left hxW (Int.le_of_lt hgg);have d9:n*(g*g)≤5*(g*g):=Int.mul_le_mul_of_nonneg_right hn (Int.le_of_lt hgg);have d10:(g*g)*8192≤(g*g)*W:=Int.mul_le_mul_of_nonneg_left j0 (Int.le_of_lt hgg);refine Int.not_lt.1 fun hc=>?_;have c1:(g*g)*(32*x+W+1)≤(g*g)*(32*(a*S)):=Int.mul_le_mul_of_nonneg_left hc (Int.le_of_lt hgg);grind
def sI(f:Nat→Int):Nat→Int
 | 0=>0
 | m+1=>sI f m+f m
theorem zOx{f h:Nat→Int} :∀m,(∀k,k<m→f k≤h k)→sI f m≤sI h m
 | 0,_=>Int.le_refl _
 | m+1,H=>Int.add_le_add (zOx m fun k hk=>H k j0) (H m j0)
theorem zLR{f:Nat→Int}(m:Nat)(H:∀k,k<m→0≤f k):0≤sI f m:=by
 induction m with
 | zero=>exact Int.le_refl _
 | succ m ih=>have h1:=ih fun k hk=>H k j0;have h2:=H m j0;show 0≤sI f m+f m;omega
theorem zLS(f h:Nat→Int):∀m,sI (fun k=>f k+h k) m=sI f m+sI h m
 | 0=>rfl
 | m+1=>by show sI (fun k=>f k+h k) m+(f m+h m)=(sI f m+f m)+(sI h m+h m);rw[zLS f h m];omega
theorem zHa(c:Int)(f:Nat→Int):∀m,sI (fun k=>c*f k) m=c*sI f m
 | 0=>(Int.mul_zero c).symm
 | m+1=>by show sI (fun k=>c*f k) m+c*f m=c*(sI f m+f m);rw[zHa c f m,Int.mul_add]
theorem zCt{f h:Nat→Int} :∀m,(∀k,k<m→f k=h k)→sI f m=sI h m
 | 0,_=>rfl
 | m+1,H=>by show sI f m+f m=sI h m+h m;rw[zCt m fun k hk=>H k j0,H m j0]
theorem zH9{f:Nat→Int}{i:Nat} :∀m,i<m→sI f m=sI (fun k=>if k=i then 0 else f k) m+f i
 | 0,h=>j0
 | m+1,h=>by
  show sI f m+f m=(sI (fun k=>if k=i then 0 else f k) m+if m=i then 0 else f m)+f i
  by_cases e:m=i
  · subst e;rw[if_pos rfl,zCt (f:=fun k=>if k=m then 0 else f k) (h:=f) m fun k hk=>if_neg (Nat.ne_of_lt hk)];omega
  · rw[if_neg e,zH9 (f:=f) (i:=i) m j0];omega
theorem zTh(c:Int):∀m:Nat,sI (fun _=>c) m=m*c
 | 0=>(Int.zero_mul c).symm
 | m+1=>by show sI (fun _=>c) m+c=_;rw[zTh c m];grind
def aI(z:Int):Int:=(z.natAbs:Int)
theorem zGN(z:Int):0≤aI z:=Int.natCast_nonneg _
theorem zQu(x y:Int):aI (x*y)=aI x*aI y:=by unfold aI;rw[Int.natAbs_mul,Int.natCast_mul]
theorem zSX(x y:Int):aI (x-y)≤aI x+aI y:=by unfold aI;omega
theorem zO8(x:Int):aI x*aI x=x*x:=by unfold aI;rcases Int.natAbs_eq x with h | h <;> grind
def off(A:Nat→Nat→Int)(n j i:Nat):Int:=sI (fun k=>if j≤k∧k≠i then aI (A i k)else 0) n
structure Dom(A:Nat→Nat→Int)(n j:Nat)(W e:Int):Prop where
 sym:∀i k,j≤i→i<n→j≤k→k<n→A i k=A k i
 dom:∀i,j≤i→i<n→W*e≤32*(A i i-off A n j i)
 top:∀i,j≤i→i<n→A i i≤17592186044416*W
theorem Dom.step{A:Nat→Nat→Int}{n j:Nat}{W e g:Int}{l:Nat→Int}(h:Dom A n j W e)(hn:n≤5)(hj:j<n)(hW:0<W)(he:0≤e)(hg:0<g)(hgW:8192*g≤W)
 (hg2:2251799813685247*A j j≤2251799813685248*(g*g))
 (hl:∀i,j<i→i<n→4503599627370496*(aI (l i)*g)≤4503599627370497*aI (A i j)+4503599627370496*g) :
 Dom (fun i k=>A i k-l i*l k) n (j+1) W (e-1):=by
 have hd:=h.dom j j0 hj;have hWe:0≤W*e:=Int.mul_nonneg j0 he;have hD:off A n j j=sI (fun k=>if j<k then aI (A k j)else 0) n:=zCt n fun k hk=>by
  by_cases c:j<k
  · rw[if_pos c,if_pos ⟨j0,j0⟩,h.sym j k j0 hj j0 hk]
  · rw[if_neg c,if_neg j0]
 have hS2:4503599627370496*(sI (fun k=>if j<k then aI (l k)else 0) n*g)≤4503599627370497*off A n j j+(n:Int)*4503599627370496*g:=by
  rw[hD];have e1:4503599627370496*(sI (fun k=>if j<k then aI (l k)else 0) n*g)=sI (fun k=>(4503599627370496*g)*if j<k then aI (l k)else 0) n:=by rw[zHa];grind
  have e2:4503599627370497*sI (fun k=>if j<k then aI (A k j)else 0) n+(n:Int)*4503599627370496*g=sI (fun k=>(4503599627370497*if j<k then aI (A k j)else 0)+4503599627370496*g) n:=by
   rw[zLS,zHa,zTh];grind
  rw[e1,e2];refine zOx n fun k hk=>?_
  by_cases c:j<k
  · rw[if_pos c,if_pos c];have:=hl k c hk;grind
  · rw[if_neg c,if_neg c];omega
 have hDn:0≤off A n j j:=zLR n fun k _=>Xs
 have hSn:0≤sI (fun k=>if j<k then aI (l k)else 0) n:=zLR n fun k _=>Xs
 refine⟨fun i k h1 h2 h3 h4=>?_,fun i h1 h2=>?_,fun i h1 h2=>?_⟩
 · show A i k-l i*l k=A k i-l k*l i;rw[h.sym i k j0 h2 j0 h4,Int.mul_comm]
 · have hx:aI (A i j)≤off A n j j:=by
    rw[hD,zH9 n h2,if_pos j0];have:=zLR (f:=fun k=>if k=i then 0 else if j<k then aI (A k j)else 0) n fun k _=>by split <;> (try split) <;> first | exact zGN _ | exact Int.le_refl _
    omega
   have key:=zKF (x:=aI (A i j)) (D:=off A n j j) (d:=A j j) (g:=g) (a:=aI (l i)) (S:=sI (fun k=>if j<k then aI (l k)else 0) n) (W:=W) (n:=n)
    (zGN _) hDn (zGN _) hSn hg hW (hl i j0 h2) hS2 hx j0 hg2 hgW j0 j0 (by have:=h.top j j0 hj;omega)
   have o1:off A n j i=sI (fun k=>if j<k∧k≠i then aI (A i k)else 0) n+aI (A i j):=by
    unfold off;rw[zH9 n hj,if_pos ⟨j0,j0⟩];refine congrArg (· +aI (A i j)) (zCt n fun k hk=>?_)
    by_cases c:k=j
    · rw[if_pos c,if_neg j0]
    · rw[if_neg c]
      by_cases c2:j<k∧k≠i
      · rw[if_pos c2,if_pos ⟨j0,c2.2⟩]
      · rw[if_neg c2,if_neg j0]
   have o2:off (fun i k=>A i k-l i*l k) n (j+1) i≤sI (fun k=>if j<k∧k≠i then aI (A i k)else 0) n+aI (l i)*sI (fun k=>if j<k∧k≠i then aI (l k)else 0) n:=by
    rw[←zHa,←zLS];refine zOx n fun k hk=>?_
    by_cases c:j<k∧k≠i
    · rw[if_pos c,if_pos c,if_pos ⟨j0,c.2⟩,←zQu];exact zSX _ _
    · rw[if_neg c,if_neg c,if_neg j0];omega
   have o3:sI (fun k=>if j<k then aI (l k)else 0) n=sI (fun k=>if j<k∧k≠i then aI (l k)else 0) n+aI (l i):=by
    rw[zH9 n h2,if_pos j0];refine congrArg (· +aI (l i)) (zCt n fun k hk=>?_)
    by_cases c:k=i
    · rw[if_pos c,if_neg j0]
    · rw[if_neg c]
      by_cases c2:j<k
      · rw[if_pos c2,if_pos ⟨c2,c⟩]
      · rw[if_neg c2,if_neg j0]
   have o4:=zO8 (l i);have o5:=h.dom i j0 h2;rw[o3]at key;show W*(e-1)≤32*((A i i-l i*l i)-_);grind
 · show A i i-l i*l i≤_;have h3:=h.top i j0 h2;have h4:=zO8 (l i);have h5:=Int.mul_nonneg (zGN (l i)) (zGN (l i));omega
end Go.Proofs.YtmbkgapknoammaaGreatDoor
namespace Go.Proofs.YtmbkgapknoammaaGreatDoor
open Go.RowKit Sp
theorem zLg(z z':Int)(mode:Int)(h0:z≠0)(h0':z'≠0)(h:nrm z (-2148)≠none)(h':nrm z' (-1074)≠none):∃c,IsLo (cxQ (z.natAbs*2^0) z'.natAbs) c∧zEH (nrm z (-2148)) (nrm z' (-1074)) mode=zDt (decide (z<0) != decide (z'<0)) (c+if awx (decide (z<0) != decide (z'<0)) c (cxQ (z.natAbs*2^0) z'.natAbs) mode then 1 else 0) mode:=by
 cases hd:nrm z (-2148)with
 | none=>exact absurd hd h
 | some p=>
 cases hd':nrm z' (-1074)with
 | none=>exact absurd hd' h'
 | some p'=>
  obtain⟨m,e⟩:=p;obtain⟨m',e'⟩:=p';obtain⟨t,ht,he,hodd,_,_⟩:=zB5 h0 hd;obtain⟨u,hu,he',hodd',_,_⟩:=zB5 h0' hd';have hm0:m≠0:=j0
  have hm0':m'≠0:=j0
  have hsg:decide (m<0)=decide (z<0):=by rw[ht];exact decide_eq_decide.2 (zBf m t).1.symm
  have hsg':decide (m'<0)=decide (z'<0):=by rw[hu];exact decide_eq_decide.2 (zBf m' u).1.symm
  have hab:z.natAbs=m.natAbs*2^t:=by rw[ht];exact zAr m t
  have hab':z'.natAbs=m'.natAbs*2^u:=by rw[hu];exact zAr m' u
  have hmp:0<m.natAbs:=j0
  have hmp':0<m'.natAbs:=j0
  show∃c,_∧(if m'=0 then zK1 else if m=0 then 0 else zCg (decide (m<0) != decide (m'<0)) (m.natAbs*2^qsh m m' 56/m'.natAbs) (e-qsh m m' 56-e') (decide (m.natAbs*2^qsh m m' 56%m'.natAbs≠0)) mode)=_;rw[if_neg hm0',if_neg hm0,hsg,hsg'];have h58:=zQ8 hm0' hm0;obtain⟨n,hn⟩:∃n,n=qsh m m' 56:=⟨_,rfl⟩;rw[←hn]at h58 ⊢;obtain⟨E,hE⟩:∃E:Int,E=e-n-e':=⟨_,rfl⟩;rw[←hE];have hD:0<z'.natAbs:=j0
  have hcut:zPZ (m.natAbs*2^n/m'.natAbs) E (decide (m.natAbs*2^n%m'.natAbs≠0)) (cxQ (z.natAbs*2^0) z'.natAbs):=by
   intro j Y hj;rw[←zTq (P:=m.natAbs*2^n) (Q:=m'.natAbs) (Y:=Y) hmp' rfl rfl];obtain⟨a,ha⟩:∃a:Nat,a=(-1075-min E (-1075)).toNat:=⟨_,rfl⟩;obtain⟨b,hb⟩:∃b:Nat,b=(E-min E (-1075)).toNat:=⟨_,rfl⟩;rw[←ha,←hb]at hj;unfold cxQ;rw[hab,hab'];refine zCq (p:=2^(n+a)) (q:=2^(b+u+n)) (zAx _) (zAx _) ?_ ?_
   · exact pw3 (t:=t) (g:=0) m.natAbs j0
   · have e1:j*(m'.natAbs*2^u)*2^(n+a)=(j*2^a)*(m'.natAbs*(2^u*2^n)):=(by rw[Nat.pow_add];ac_rfl);have e2:Y*m'.natAbs*2^(b+u+n)=(Y*2^b)*(m'.natAbs*(2^u*2^n)):=(by rw[Nat.pow_add,Nat.pow_add];ac_rfl);rw[e1,e2,hj]
  have hXp:0<m.natAbs*2^n/m'.natAbs:=by
   rcases Nat.eq_zero_or_pos (m.natAbs*2^n/m'.natAbs)with h | h
   · rw[h]at h58;exact absurd h58 ja
   · exact h
  obtain⟨c,h1,h2⟩:=zE6 (decide (z<0) != decide (z'<0)) hXp E _ mode (zFS (z.natAbs*2^0) hD) hcut (fun _=>by unfold rlg;omega);exact⟨c,h1,by unfold zCg;rw[h2]⟩
theorem zGz(c:Nat):4503599627370496*fzN (c+1)≤4503599627370497*fzN c+4503599627370496:=by
 by_cases hc:c<4503599627370496
 · have h1:=zEG (k:=0) (n:=c) j0 (Or.inr rfl);rw[Nat.zero_mul,Nat.zero_add]at h1;rw[h1];omega
 · obtain⟨k,n,e,h1,h2⟩:∃k n,c=k*4503599627370496+n∧4503599627370496≤n∧n<9007199254740992:=
    ⟨c/4503599627370496-1,c%4503599627370496+4503599627370496,j0,j0,j0⟩
   subst e;rw[zEG h2 (Or.inl h1),zBL k n j0 (Or.inl h1)];have:=Nat.mul_le_mul_right (2^k) h1;omega
theorem zNJ{s:Bool}{c:Nat}{b:Bool}(hc:c+1<9218868437227405312)(mode:Int):∃d,(d=c∨d=c+1)∧zDt s (c+if b then 1 else 0) mode=zBE s d∧d<9218868437227405312:=by
 refine⟨c+if b then 1 else 0,by cases b <;> simp,?_,by cases b <;> simp <;> omega⟩;unfold zDt;rw[if_neg (by unfold zE9;cases b <;> simp <;> omega)]
theorem zNb{c:Nat}{k:Nat}(h:fzN c≤2^k)(hk:k≤1200):c+1<9218868437227405312:=by
 refine Nat.lt_of_not_le fun hh=>?_;have h1:fzN 9218868437227405311≤fzN c:=fzN_le_iff.2 j0;have h2:fzN 9218868437227405311=9007199254740991*2^2045:=by
  have:=zBL 2045 9007199254740991 ja (Or.inl ja);rwa[show 2045*4503599627370496+9007199254740991=9218868437227405311 from rfl]at this
 rw[h2]at h1;have h3:=Nat.pow_le_pow_right (n:=2) ja (show k≤2045 by omega);have h4:=Nat.pow_pos (n:=2045) (show 0<2 by decide);generalize (2:Nat)^2045=p at *;omega
theorem zJ5{x y:Nat}(h:x*x≤y*y):x≤y:=by
 refine Nat.le_of_not_lt fun hh=>?_;have:=Nat.mul_le_mul (show y+1≤x from hh) (show y+1≤x from hh);rw[Nat.add_mul,Nat.mul_add]at this;omega
theorem zOH{V lo hi:Nat}(h1:lo*lo≤V)(h2:V<hi*hi)(h3:4503599627370496*hi≤4503599627370497*lo+4503599627370496)(h4:649037107316853453566312041152512≤lo):2251799813685247*V≤2251799813685248*(lo*lo)∧hi*hi≤2*V:=by
 have h5:4503599627370496*4503599627370496*hi≤(4503599627370496*4503599627370497+1)*lo:=j0
 have h6:=Nat.mul_le_mul h5 h5;constructor
 · have h7:2251799813685247*(4503599627370496*4503599627370496*(4503599627370496*4503599627370496)*(hi*hi))≤2251799813685247*(((4503599627370496*4503599627370497+1)*(4503599627370496*4503599627370497+1))*(lo*lo)):=by
    refine Nat.mul_le_mul_left _ ?_;grind
   omega
 · grind
theorem zOG{Z:Int}{k:Nat}(hZ:0<Z)(hv:nrm Z (-2148)≠none)(hlo:700000000000000000000000000000000*700000000000000000000000000000000≤Z.natAbs)(hk:k≤1200)(hb:Z.natAbs≤2^k*2^k):∃g:Nat,zAA (zBc (nrm Z (-2148)) 0)=true∧fz (zBc (nrm Z (-2148)) 0)=(g:Int)∧0<g∧2251799813685247*Z.natAbs≤2251799813685248*(g*g)∧g*g≤2*Z.natAbs:=by
 obtain⟨c,h1,h2⟩:=zIu Z 0 hZ hv;have a1:=cmpI_ge.1 h1.1;have a2:=cmpI_m1.1 h1.2;obtain⟨V,hV⟩:∃V,V=Z.natAbs:=⟨_,rfl⟩;rw[←hV]at a1 a2 hlo hb ⊢;have b1:fzN c*fzN c≤V:=by
  have:2*fzN c*(2*fzN c)≤4*V:=j0
  grind
 have b2:V<fzN (c+1)*fzN (c+1):=by
  have:4*V<2*fzN (c+1)*(2*fzN (c+1)):=j0
  grind
 have b3:=zGz c;have b4:fzN c≤2^k:=zJ5 (Nat.le_trans b1 hb);obtain⟨d,e1,e2,e3⟩:=zNJ (s:=false) (b:=awx false c (cxS Z.natAbs) 0) (zNb b4 hk) 0;rw[e2]at h2;obtain⟨f1,f2⟩:=zD7 (s:=false) e3;have b5:700000000000000000000000000000000<fzN (c+1):=by
  refine Nat.lt_of_not_le fun hh=>?_;have:=Nat.mul_le_mul hh hh;omega
 obtain⟨n1,n2⟩:=zOH b1 b2 b3 j0;refine⟨fzN d,by rw[h2];exact f1,by rw[h2,f2];rfl,?_,?_,?_⟩
 · rcases e1 with rfl | rfl <;> omega
 · rcases e1 with rfl | rfl
   · exact n1
   · exact j0
 · rcases e1 with rfl | rfl
   · have:=Nat.mul_le_mul (Nat.le_of_lt (zBw d)) (Nat.le_of_lt (zBw d));omega
   · exact n2
theorem zQP{X:Int}{g k:Nat}(hv:nrm X (-2148)≠none)(hg:0<g)(hgv:nrm (g:Int) (-1074)≠none)(hk:k≤1200)(hb:X.natAbs≤2^k*g):zAA (zEH (nrm X (-2148)) (nrm (g:Int) (-1074)) 0)=true∧4503599627370496*((fz (zEH (nrm X (-2148)) (nrm (g:Int) (-1074)) 0)).natAbs*g)≤4503599627370497*X.natAbs+4503599627370496*g:=by
 by_cases h0:X=0
 · subst h0;rw[zBr]
   cases hd:nrm (g:Int) (-1074)with
   | none=>exact absurd hd hgv
   | some p=>
    obtain⟨m,e⟩:=p;obtain⟨t,ht,he,hodd,_,_⟩:=zB5 j0 hd;have hm:m≠0:=(by intro e0;rw[e0,Int.zero_mul]at ht;omega);have e1:zEH (some (0,0)) (some (m,e)) 0=0:=by
     show(if m=0 then zK1 else if(0:Int)=0 then 0 else _)=0;rw[if_neg hm,if_pos rfl]
    rw[e1];exact⟨ja,by show 4503599627370496*((fz 0).natAbs*g)≤_;rw[show fz 0=0 by decide];simp⟩
 · obtain⟨c,h1,h2⟩:=zLg X (g:Int) 0 h0 j0 hv hgv;have a1:=cmpI_ge.1 h1.1;rw[Int.natAbs_natCast]at a1;have b1:fzN c*g≤X.natAbs:=by
    have h3:((2*fzN c*g:Nat):Int)≤((2*(X.natAbs*2^0):Nat):Int):=a1;have h4:2*fzN c*g≤2*(X.natAbs*1):=Int.ofNat_le.1 h3;grind
   have b3:=zGz c;have b4:fzN c≤2^k:=Nat.le_of_mul_le_mul_right (Nat.le_trans b1 hb) hg;obtain⟨d,e1,e2,e3⟩:=zNJ (s:=decide (X<0) != decide ((g:Int)<0)) (b:=awx (decide (X<0) != decide ((g:Int)<0)) c (cxQ (X.natAbs*2^0) (g:Int).natAbs) 0) (zNb b4 hk) 0;rw[e2]at h2;obtain⟨f1,f2⟩:=zD7 (s:=decide (X<0) != decide ((g:Int)<0)) e3;rw[h2];refine⟨f1,?_⟩;rw[f2,zAg];have b5:fzN d≤fzN (c+1):=fzN_le_iff.2 (by rcases e1 with rfl | rfl <;> omega);have b6:=Nat.mul_le_mul_right g b5;have b7:=Nat.mul_le_mul_right g b3;grind
end Go.Proofs.YtmbkgapknoammaaGreatDoor
namespace Go.Proofs.YtmbkgapknoammaaGreatDoor
open Go.RowKit Sp
def lT(b:Nat→Nat→Nat)(V:Nat→Nat→Nat)(i j:Nat):Nat→Option (Int×Int)
 | 0=>fof (b i j)
 | m+1=>zEt (zAO (fof (V m i)) (fof (V m j)))
def lD(b:Nat→Nat→Nat)(V:Nat→Nat→Nat)(i j:Nat):Option (Int×Int):=zDS (lT b V i j) (j+1)
noncomputable def zL5(b:Nat→Nat→Nat)(C:Nat→Nat→Bool)(V:Nat→Nat→Nat)(j i:Nat):Nat:=
 if i=j then zBc (lD b V j j) 0 else if j<i∧C j i=true then zEH (lD b V i j) (fof (zBc (lD b V j j) 0)) 0 else 0
noncomputable def lp(b:Nat→Nat→Nat)(C:Nat→Nat→Bool):Nat→Nat→Nat→Nat
 | 0,_,_=>0
 | j+1,m,i=>if m=j then zL5 b C (lp b C j) j i else lp b C j m i
def AM(b:Nat→Nat→Nat)(V:Nat→Nat→Nat):Nat→Nat→Nat→Int
 | 0,i,k=>fz (b i k)*2^1074
 | j+1,i,k=>AM b V j i k-fz (V j i)*fz (V j k)
theorem zGR{b V V':Nat→Nat→Nat} :∀j,(∀m,m<j→V m=V' m)→AM b V j=AM b V' j
 | 0,_=>rfl
 | j+1,h=>by funext i k;show AM b V j i k-fz (V j i)*fz (V j k)=_;rw[zGR j fun m hm=>h m j0,h j j0];rfl
theorem zE2{b:Nat→Nat→Nat}{C:Nat→Nat→Bool} :∀d j m,m<j→lp b C (j+d) m=lp b C j m
 | 0,_,_,_=>rfl
 | d+1,j,m,h=>by
  funext i
  show(if m=j+d then _ else lp b C (j+d) m i)=_;rw[if_neg j0,zE2 d j m h]
theorem zCQ(b:Nat→Nat→Nat)(C:Nat→Nat→Bool)(j i:Nat):lp b C (j+1) j i=zL5 b C (lp b C j) j i:=if_pos rfl
def lM(b:Nat→Nat→Nat)(V:Nat→Nat→Nat)(i j:Nat):Nat→Int
 | 0=>fz (b i j)*2^1074
 | m+1=> -(fz (V m i)*fz (V m j))
theorem zQv(b V:Nat→Nat→Nat)(i k:Nat):∀j,zDh (lM b V i k) (j+1)=AM b V j i k
 | 0=>by show 0+_=_;rw[Int.zero_add];rfl
 | j+1=>by
  show zDh (lM b V i k) (j+1)+ -(fz (V j i)*fz (V j k))=AM b V j i k-fz (V j i)*fz (V j k);rw[zQv b V i k j];omega
theorem zQh{b V:Nat→Nat→Nat}{i j:Nat}(hb:zAA (b i j)=true)(hV:∀m,m<j→zAA (V m i)=true∧zAA (V m j)=true):lD b V i j=nrm (AM b V j i j) (-2148):=by
 unfold lD;rw[zK3 (lT b V i j) (lM b V i j) (E:= -2148) ja (j+1) ?_,zQv];intro t ht
 cases t with
 | zero=>
  have h1:=zCl (fz (b i j)) (-2148) 1074;have e1:fof (b i j)=nrm (fz (b i j)*2^1074) (-2148):=by rw[h1,zCA hb];rfl
  refine⟨e1,?_⟩;show nrm (fz (b i j)*2^1074) (-2148)≠none;rw[←e1,zCA hb];exact zDG hb
 | succ m=>
  obtain⟨h1,h2⟩:=hV m j0;have v:nrm (fz (V m i)*fz (V m j)) (-1074+ -1074)≠none:=zBs j0 (by
   have a1:=zIO h1;have a2:=zIO h2;have:=zDs (fz (V m i)).natAbs (fz (V m j)).natAbs;rw[←Int.natAbs_mul]at this;omega)
  have e1:lT b V i j (m+1)=nrm (-(fz (V m i)*fz (V m j))) (-2148):=by
   show zEt (zAO (fof (V m i)) (fof (V m j)))=_;rw[zCA h1,zCA h2,zPC _ _ _ _ (zDG h1) (zDG h2),zGE _ _ v];rfl
  exact⟨e1,zDA v⟩
theorem zRO:aI 0=0:=rfl
theorem zO9{A:Nat→Nat→Int}{n j i k:Nat}(hk:k<n)(hj:j≤k)(hi:k≠i):aI (A i k)≤off A n j i:=by
 unfold off;rw[zH9 n hk,if_pos ⟨hj,hi⟩];have:=zLR (f:=fun t=>if t=k then 0 else if j≤t∧t≠i then aI (A i t)else 0) n fun t _=>by
  show 0≤if t=k then 0 else if j≤t∧t≠i then aI (A i t)else 0
  split
  · exact Int.le_refl _
  · split
    · exact zGN _
    · exact Int.le_refl _
 omega
theorem zSp(A:Nat→Nat→Int)(n j i:Nat):0≤off A n j i:=zLR n fun k _=>by
 show 0≤if j≤k∧k≠i then aI (A i k)else 0
 split
 · exact zGN _
 · exact Int.le_refl _
structure zGQ(b:Nat→Nat→Nat)(C:Nat→Nat→Bool)(n j:Nat):Prop where
 pos:0<zA1 (lD b (lp b C j) j j)
 nz:zB0 (lp b C (j+1) j j)=false
 fin:∀i,j≤i→i<n→zAA (lp b C (j+1) j i)=true
 dp:0<zA1 (fof (lp b C (j+1) j j))
theorem zMQ{b:Nat→Nat→Nat}{C:Nat→Nat→Bool}{n j:Nat}{W:Int}{p:Nat}{e:Int}(hn:n≤5)(hj:j<n)(hp:p=2^1074)(hW:W=(p:Int)*p)(he:16≤e)
 (hb:∀i k,zAA (b i k)=true) (hf:∀m i,m<j→i<n→zAA (lp b C j m i)=true) (h:Dom (AM b (lp b C j) j) n j W e)
 (hC:∀i,j<i→i<n→AM b (lp b C j) j i j≠0→C j i=true) :
 zGQ b C n j∧Dom (AM b (lp b C (j+1)) (j+1)) n (j+1) W (e-1):=by
 have hp1:=Nat.pow_le_pow_right (n:=2) (show 0<2 by decide) (show 200≤1074 by decide);rw[←hp]at hp1;have hp2:(1606938044258990275541962092341162602522202993782792835301376:Int)≤p:=by
  have:(2:Nat)^200=1606938044258990275541962092341162602522202993782792835301376:=ja
  omega
 have hpp:(1606938044258990275541962092341162602522202993782792835301376:Int)*p≤(p:Int)*p:=Int.mul_le_mul_of_nonneg_right hp2 j0;have hWp:0<W:=by rw[hW];omega
 have hdom:=h.dom j (Nat.le_refl _) hj;have htop:=h.top j (Nat.le_refl _) hj;have hoff:=zSp (AM b (lp b C j) j) n j j;have hd1:lD b (lp b C j) j j=nrm (AM b (lp b C j) j j j) (-2148):=zQh (hb j j) fun m hm=>⟨hf m j hm hj,hf m j hm hj⟩;obtain⟨Z,hZ⟩:∃Z,Z=AM b (lp b C j) j j j:=⟨_,rfl⟩;rw[←hZ]at hdom htop hd1;have hWe:W*16≤W*e:=Int.mul_le_mul_of_nonneg_left he (Int.le_of_lt hWp);have hZ0:W≤2*Z:=j0
 obtain⟨K,hK⟩:∃K,K=22+1074:=⟨_,rfl⟩;have hZb:Z.natAbs≤2^K*2^K:=by
  have e1:=Nat.pow_add 2 22 1074;rw[←hp,←hK,show(2:Nat)^22=4194304 by decide]at e1;rw[e1];have:(Z.natAbs:Int)≤((4194304*p*(4194304*p):Nat):Int):=by
   rw[Int.natCast_mul,Int.natCast_mul];have:(Z.natAbs:Int)=Z:=j0;rw[this];rw[hW]at htop;grind
  exact Int.ofNat_le.1 this
 have vZ:nrm Z (-2148)≠none:=zBs j0 (by
  have h1:Z.natAbs≤2^(K+K):=by rw[Nat.pow_add];exact hZb
  have h2:=zFr h1;omega)
 obtain⟨g,g1,g2,g3,g4,g5⟩:=zOG (Z:=Z) (k:=K) j0 vZ (by
  have:(490000000000000000000000000000000000000000000000000000000000000000:Int)≤Z:=j0
  omega) j0 hZb
 have hroot:lp b C (j+1) j j=zBc (nrm Z (-2148)) 0:=by rw[zCQ];unfold zL5;rw[if_pos rfl,hd1]
 have hzz:(Z.natAbs:Int)=Z:=j0
 have g4':2251799813685247*Z≤2251799813685248*((g:Int)*g):=by
  have:=Int.ofNat_le.2 g4;rw[Int.natCast_mul,Int.natCast_mul,Int.natCast_mul,hzz]at this;exact this
 have g5':(g:Int)*g≤2*Z:=by
  have:=Int.ofNat_le.2 g5;rw[Int.natCast_mul,Int.natCast_mul,hzz]at this;exact this
 have hgp:g≤8388608*p:=by
  refine zJ5 ?_;have:((g*g:Nat):Int)≤((8388608*p*(8388608*p):Nat):Int):=by
   rw[Int.natCast_mul,Int.natCast_mul,Int.natCast_mul];rw[hW]at htop;grind
  exact Int.ofNat_le.1 this
 have hgW:8192*(g:Int)≤W:=by rw[hW];omega
 have hgz:fof (zBc (nrm Z (-2148)) 0)=nrm (g:Int) (-1074):=by rw[zCA g1,g2]
 have hgv:nrm (g:Int) (-1074)≠none:=by rw[←hgz,zCA g1];exact zDG g1
 have hent:∀i,j<i→i<n→zAA (lp b C (j+1) j i)=true∧4503599627370496*(aI (fz (lp b C (j+1) j i))*g)≤4503599627370497*aI (AM b (lp b C j) j i j)+4503599627370496*g:=by
  intro i h1 h2;rw[zCQ];unfold zL5;rw[if_neg j0]
  by_cases hc:C j i=true
  · rw[if_pos ⟨h1,hc⟩,hd1,hgz,zQh (hb i j) fun m hm=>⟨hf m i hm h2,hf m j hm hj⟩];have hX:aI (AM b (lp b C j) j i j)≤Z:=by
     rw[h.sym i j j0 h2 (Nat.le_refl _) hj];have:=zO9 (A:=AM b (lp b C j) j) (j:=j) (i:=j) h2 j0 j0;omega
    have hXb:(AM b (lp b C j) j i j).natAbs≤2^1100*g:=by
     have e1:=Nat.pow_add 2 26 1074;rw[←hp,show(2:Nat)^26=67108864 by decide,show 26+1074=1100 from rfl]at e1;have hgg:(g:Int)*g≤8388608*(p*g):=by
      have:=Int.mul_le_mul_of_nonneg_right (Int.ofNat_le.2 hgp) (show(0:Int)≤g by omega);grind
     rw[e1];have:((AM b (lp b C j) j i j).natAbs:Int)≤((67108864*p*g:Nat):Int):=by
      rw[Int.natCast_mul,Int.natCast_mul];have hX':((AM b (lp b C j) j i j).natAbs:Int)≤Z:=hX;grind
     exact Int.ofNat_le.1 this
    have vX:nrm (AM b (lp b C j) j i j) (-2148)≠none:=zBs j0 (by
     have h1:(AM b (lp b C j) j i j).natAbs≤2^(K+K):=by
      have hX':((AM b (lp b C j) j i j).natAbs:Int)≤Z:=hX;rw[Nat.pow_add];exact Nat.le_trans j0 hZb
     have h2:=zFr h1;omega)
    obtain⟨q1,q2⟩:=zQP (k:=1100) vX g3 hgv ja hXb;refine⟨q1,?_⟩;have:=Int.ofNat_le.2 q2;unfold aI;rw[Int.natCast_add,Int.natCast_mul,Int.natCast_mul,Int.natCast_mul,Int.natCast_mul]at this;exact this
  · rw[if_neg fun h=>hc h.2];have h0:AM b (lp b C j) j i j=0:=Classical.byContradiction fun hh=>hc (hC i h1 h2 hh);refine⟨ja,?_⟩;rw[h0,show fz 0=0 by decide,zRO];omega
 refine⟨⟨?_,?_,fun i h1 h2=>?_,?_⟩,?_⟩
 · rw[hd1]
   cases hc:nrm Z (-2148)with
   | none=>exact absurd hc vZ
   | some q=>
    obtain⟨m,f⟩:=q;obtain⟨t,ht,_⟩:=zB5 j0 hc;show 0<m;refine Int.not_le.1 fun hm=>?_;have:=Int.mul_le_mul_of_nonneg_right hm (show(0:Int)≤2^t from Int.le_of_lt (Int.pow_pos ja));rw[←ht,Int.zero_mul]at this;omega
 · rw[hroot]
   cases hc:zB0 (zBc (nrm Z (-2148)) 0)with
   | false=>rfl
   | true=>
    have:fz (zBc (nrm Z (-2148)) 0)=0:=by
     unfold zB0 at hc;unfold fz;rw[of_decide_eq_true hc];unfold sgn;cases fS _ <;> rfl
    omega
 · rcases Nat.lt_or_eq_of_le h1 with h3 | h3
   · exact(hent i h3 h2).1
   · subst h3;rw[hroot];exact g1
 · rw[hroot,hgz]
   cases hc:nrm (g:Int) (-1074)with
   | none=>exact absurd hc hgv
   | some q=>
    obtain⟨m,f⟩:=q;obtain⟨t,ht,_⟩:=zB5 j0 hc;show 0<m;refine Int.not_le.1 fun hm=>?_;have:=Int.mul_le_mul_of_nonneg_right hm (show(0:Int)≤2^t from Int.le_of_lt (Int.pow_pos ja));rw[←ht,Int.zero_mul]at this;omega
 · have hstep:=h.step (l:=fun i=>fz (lp b C (j+1) j i)) (g:=g) hn hj hWp j0 j0 hgW (by rw[←hZ];exact g4') fun i h1 h2=>(hent i h1 h2).2;have e1:AM b (lp b C (j+1)) (j+1)=fun i k=>AM b (lp b C j) j i k-fz (lp b C (j+1) j i)*fz (lp b C (j+1) j k):=by
    funext i k
    show AM b (lp b C (j+1)) j i k-_=_;rw[zGR (V:=lp b C (j+1)) (V':=lp b C j) j fun m hm=>zE2 1 j m hm]
   rw[e1];exact hstep
end Go.Proofs.YtmbkgapknoammaaGreatDoor
set_option maxHeartbeats 1000000
namespace Go.Proofs.YtmbkgapknoammaaGreatDoor
open Go.RowKit Sp
set_option linter.unusedSimpArgs false
theorem zLc(d:Option (Int×Int))(mode:Int):zAu d mode<18446744073709551616:=by
 unfold zAu;split
 · exact ja
 · split
   · exact ja
   · exact zGA _ _ _
theorem zJW(d d':Option (Int×Int))(mode:Int):zEH d d' mode<18446744073709551616:=by
 unfold zEH;split
 · split
   · exact ja
   · split
     · exact ja
     · exact zGA _ _ _
 · exact ja
theorem zNg(d:Option (Int×Int))(mode:Int):zBc d mode<18446744073709551616:=by
 unfold zBc;split
 · exact ja
 · split
   · exact ja
   · split
     · exact ja
     · exact zGA _ _ _
def TT:Int:=9218868437227405312
theorem zHq{f:Nat}(h:zLh f=false):zAA f=true↔(-TT<zB3 f∧zB3 f<TT):=by
 have h1:fM f≤9218868437227405312:=by unfold zLh at h;simpa using h
 unfold zAA;rw[zCn];unfold TT;rw[decide_eq_true_eq];constructor
 · intro k;split <;> omega
 · intro k;split at k <;> omega
theorem zSH{f:Nat}(h:zLh f=false)(h1: -TT<zB3 f)(h2:zB3 f<TT):zAA f=true:=(zHq h).2 ⟨h1,h2⟩
theorem zSI{f:Nat}(h:zAA f=true):zLh f=false∧ -TT<zB3 f∧zB3 f<TT:=⟨(zNn h).1,(zHq (zNn h).1).1 h⟩
theorem zLd(M:Int)(g:Nat)(h:nrm M (-1074-(g:Int))≠none):(zB3 (zAu (nrm M (-1074-(g:Int))) 1)<TT∧(zAA (zAu (nrm M (-1074-(g:Int))) 1)=true→fz (zAu (nrm M (-1074-(g:Int))) 1)*2^g≤M)) ∧
 (-TT<zB3 (zAu (nrm M (-1074-(g:Int))) 2)∧(zAA (zAu (nrm M (-1074-(g:Int))) 2)=true→M≤fz (zAu (nrm M (-1074-(g:Int))) 2)*2^g)) ∧
 zB3 (zAu (nrm M (-1074-(g:Int))) 1)≤zB3 (zAu (nrm M (-1074-(g:Int))) 2):=by
 by_cases h0:M=0
 · subst h0;rw[zBY,zBY,zIy,show fz 0=0 by decide,Int.zero_mul];unfold TT;exact⟨⟨ja,fun _=>Int.le_refl _⟩,⟨ja,fun _=>Int.le_refl _⟩,Int.le_refl _⟩
 · obtain⟨c,k1,k2⟩:=zBg M g 1 h0 h;obtain⟨c',k1',k2'⟩:=zBg M g 2 h0 h;obtain rfl:=IsLo.uniq (zFS _ (zAx g)) k1 k1';clear k1';have q1:=cmpI_ge.1 k1.1;have q2:=cmpI_m1.1 k1.2;have hz:cxQ M.natAbs (2^g) (2*fzN c)=0↔fzN c*2^g=M.natAbs:=(by unfold cxQ;rw[cmpI_eq0,Nat.mul_assoc];omega);rw[Nat.mul_assoc]at q1 q2;have q3:fzN c*2^g≤M.natAbs:=j0;have q4:M.natAbs<fzN (c+1)*2^g:=j0;clear q1 q2 h;rw[k2,k2'];clear k2 k2' k1;have hpow:=zJn g;have P:=zI8;have vN:∀ {N:Nat},N=min (c+if(if cxQ M.natAbs (2^g) (2*fzN c)=0 then false else true)=true then 1 else 0) 9218868437227405312→N<9218868437227405312→M.natAbs≤fzN N*2^g:=by
    intro N hN hlt
    by_cases hh:cxQ M.natAbs (2^g) (2*fzN c)=0
    · simp only[hh,if_true,Bool.false_eq_true,if_false,Nat.add_zero]at hN;have e:N=c:=j0;rw[e];have:=hz.1 hh;omega
    · simp only[hh,if_false,if_true]at hN;have e:N=c+1:=j0;rw[e];omega
   rcases Int.lt_trichotomy M 0 with hM | hM | hM
   · have e1:decide (M<0)=true:=(by simpa using hM);rw[e1];have a1:awx true c (cxQ M.natAbs (2^g)) 2=false:=(by unfold awx;split <;> rfl);have a2:awx true c (cxQ M.natAbs (2^g)) 1=if cxQ M.natAbs (2^g) (2*fzN c)=0 then false else true:=(by unfold awx;split <;> rfl);rw[a1,a2,(zEI _).2.2.2.1,(zEI _).2.2.2.2.1];have l1:min (c+if(if cxQ M.natAbs (2^g) (2*fzN c)=0 then false else true)=true then 1 else 0) 9218868437227405312<9223372036854775808:=Nat.lt_of_le_of_lt (Nat.min_le_right _ _) ja;have l2:min (c+if false=true then 1 else 0) 9218868437227405311<9218868437227405312:=Nat.lt_of_le_of_lt (Nat.min_le_right _ _) ja;obtain⟨N,hN⟩:∃N,N=min (c+if(if cxQ M.natAbs (2^g) (2*fzN c)=0 then false else true)=true then 1 else 0) 9218868437227405312:=⟨_,rfl⟩;obtain⟨K,hK⟩:∃K,K=min (c+if false=true then 1 else 0) 9218868437227405311:=⟨_,rfl⟩;rw[←hN]at l1 ⊢;rw[←hK]at l2 ⊢;simp only[Bool.false_eq_true,if_false,Nat.add_zero]at hK;have bN:N≤9218868437227405312:=(by rw[hN];exact Nat.min_le_right _ _);have KN:K≤N:=(by rw[hK,hN];clear hN hK bN q3 q4 hz P;omega);have HN:=Lib.hid hN;have HK:=Lib.hid hK;clear hN hK;have p1:zB3 (zBE true N)= -(N:Int):=(by unfold zB3;rw[zE8 l1,zDp l1];rfl);have p2:zB3 (zBE true K)= -(K:Int):=(by unfold zB3;rw[zE8 j0,zDp j0];rfl);rw[p1,p2];unfold TT;refine⟨⟨j0,fun hf=>?_⟩,⟨j0,fun _=>?_⟩,?_⟩
     · have hlt:N<9218868437227405312:=(by unfold zAA at hf;rw[zDp l1]at hf;simpa using hf);rw[(zD7 hlt).2,P];have hM2:M.natAbs≤fzN N*2^g:=vN HN.out hlt;show -((fzN N*2^g:Nat):Int)≤M;omega
     · rw[(zD7 l2).2,P];have hM2:fzN K*2^g≤M.natAbs:=Nat.le_trans (Nat.mul_le_mul_right _ (fzN_le_iff.2 (by rw[HK.out];exact Nat.min_le_left _ _))) q3;show M≤ -((fzN K*2^g:Nat):Int);omega
     · exact j0
   · exact absurd hM h0
   · have e1:decide (M<0)=false:=jq;rw[e1];rw[(zO2 c _).1,(zO2 c _).2,(zEI _).1,(zEI _).2.1];obtain⟨N,hN⟩:∃N,N=min (c+if(if cxQ M.natAbs (2^g) (2*fzN c)=0 then false else true)=true then 1 else 0) 9218868437227405312:=⟨_,rfl⟩;obtain⟨K,hK⟩:∃K,K=min (c+if false=true then 1 else 0) 9218868437227405311:=⟨_,rfl⟩;rw[←hN,←hK];simp only[Bool.false_eq_true,if_false,Nat.add_zero]at hK;have bN:N≤9218868437227405312:=(by rw[hN];exact Nat.min_le_right _ _);have bK:K≤9218868437227405311:=(by rw[hK];exact Nat.min_le_right _ _);have KN:K≤N:=(by rw[hK,hN];clear hN hK bN bK q3 q4 hz P;omega);have HN:=Lib.hid hN;have HK:=Lib.hid hK;clear hN hK;have pl:∀q:Nat,q<9223372036854775808→zB3 q=(q:Int):=fun q hq=>by
      have hs:fS q=false:=(by unfold fS;simp;omega);rw[zCn,hs];unfold fM;simp;omega
     rw[pl N j0,pl K j0];unfold TT;refine⟨⟨j0,fun _=>?_⟩,⟨j0,fun hf=>?_⟩,?_⟩
     · rw[(zJZ (c:=K) j0).2];have hM2:fzN K*2^g≤M.natAbs:=Nat.le_trans (Nat.mul_le_mul_right _ (fzN_le_iff.2 (by rw[HK.out];exact Nat.min_le_left _ _))) q3;rw[←hpow,←Int.natCast_mul];omega
     · have hlt:N<9218868437227405312:=(by unfold zAA fM at hf;simp only[decide_eq_true_eq]at hf;omega);rw[(zJZ hlt).2];have hM2:M.natAbs≤fzN N*2^g:=vN HN.out hlt;rw[←hpow,←Int.natCast_mul];omega
     · exact j0
set_option linter.unusedSimpArgs false
set_option linter.unusedSimpArgs false
set_option linter.unusedSimpArgs false
set_option linter.unusedSimpArgs false
set_option linter.unusedSimpArgs false
theorem g1:(-1074:Int)-1= -1074-((1:Nat):Int):=ja
set_option linter.unusedSimpArgs false
end Go.Proofs.YtmbkgapknoammaaGreatDoor

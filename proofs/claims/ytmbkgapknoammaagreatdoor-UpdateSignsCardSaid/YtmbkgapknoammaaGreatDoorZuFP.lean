/-
  Plain law: floats of 64 bits as numbers: kinds, values on the grid of 2^-1074, rounding. No program in sight.
  Plain law: how a real number is rounded to a float. No program in sight.
  Plain law: roundings of dyads, quotients and roots to floats, by comparisons. No program in sight.
  Plain law: roundings to floats keep the order, enclose, and are exact where they can. No program in sight.
  Plain law: the statements about floats, of numbers. No program in sight.
  Plain law: the statements about floats (Special, Neighbours, Commutes, Mirrors), of numbers. No program in sight.
  Plain law: the statements about floats (Sterbenz, Halves), of numbers. No program in sight.
  Plain law: the bits of a float of 64 bits, in the machine's words. No program in sight.
  Plain law: a rounded number depends on the number alone, not on how many bits of it are given. No program in sight.
-/
import Derived.Test.YtmbkgapknoammaaGreatDoorZuBL
namespace Go.Proofs.YtmbkgapknoammaaGreatDoor
open Go.RowKit Sp
def fS(f:Nat):Bool:=decide (9223372036854775808≤f)
def fM(f:Nat):Nat:=f%9223372036854775808
def fE(f:Nat):Nat:=f/4503599627370496%2048
def fR(f:Nat):Nat:=f%4503599627370496
def zLh(f:Nat):Bool:=decide (9218868437227405312<fM f)
def zRV(f:Nat):Bool:=decide (fM f=9218868437227405312)
def zB0(f:Nat):Bool:=decide (fM f=0)
def zAA(f:Nat):Bool:=decide (fM f<9218868437227405312)
def zK1:Nat:=9221120237041090560
def zE9:Nat:=9218868437227405312
def zK2:Nat:=9218868437227405311
def zFi(f:Nat):Int:=if zLh f then 3 else if zRV f then 2 else if zB0 f then 0 else 1
def zBE(s:Bool)(c:Nat):Nat:=if s then c+9223372036854775808 else c
theorem zNe{s:Bool}{c:Nat}(h:c<9223372036854775808):zBE s c<18446744073709551616:=by unfold zBE;split <;> omega
theorem zE8{s:Bool}{c:Nat}(h:c<9223372036854775808):fS (zBE s c)=s:=by
 unfold zBE fS;cases s <;> simp <;> omega
theorem zDp{s:Bool}{c:Nat}(h:c<9223372036854775808):fM (zBE s c)=c:=by
 unfold zBE fM;cases s <;> simp <;> omega
theorem zNq(f:Nat):fM f=fE f*4503599627370496+fR f:=by unfold fM fE fR;omega
theorem zHK(f:Nat):fR f<4503599627370496:=Nat.mod_lt _ ja
theorem zHL(f:Nat):fE f<2048:=Nat.mod_lt _ ja
theorem zDI(f:Nat):zAA f=decide (fE f≠2047):=by
 have:=zNq f;have:=zHK f;have:=zHL f;unfold zAA;exact decide_eq_decide.2 j0
theorem zQj(f:Nat):zLh f=decide (fE f=2047∧fR f≠0):=by
 have:=zNq f;have:=zHK f;have:=zHL f;unfold zLh;exact decide_eq_decide.2 j0
theorem zQk(f:Nat):zRV f=decide (fE f=2047∧fR f=0):=by
 have:=zNq f;have:=zHK f;have:=zHL f;unfold zRV;exact decide_eq_decide.2 j0
theorem zN9(f:Nat):zB0 f=decide (fE f=0∧fR f=0):=by
 have:=zNq f;have:=zHK f;have:=zHL f;unfold zB0;exact decide_eq_decide.2 j0
def fzN(c:Nat):Nat:=if c<4503599627370496 then c else(c%4503599627370496+4503599627370496)*2^(c/4503599627370496-1)
def fz(f:Nat):Int:=sgn (fS f) (fzN (fM f))
def fof(f:Nat):Option (Int×Int):=if zAA f then nrm (fz f) (-1074)else none
theorem zBL(k n:Nat)(hn:n≤9007199254740992)(h:4503599627370496≤n∨k=0):fzN (k*4503599627370496+n)=n*2^k:=by
 unfold fzN;rcases Nat.lt_or_ge n 4503599627370496 with h1 | h1
 · have hk:k=0:=j0;subst hk;simp;omega
 · rw[if_neg j0];rcases Nat.lt_or_ge n 9007199254740992 with h2 | h2
   · have e1:(k*4503599627370496+n)%4503599627370496=n-4503599627370496:=j0;have e2:(k*4503599627370496+n)/4503599627370496-1=k:=j0;rw[e1,e2];congr 1;omega
   · have hn2:n=9007199254740992:=j0;subst hn2;have e1:(k*4503599627370496+9007199254740992)%4503599627370496=0:=j0;have e2:(k*4503599627370496+9007199254740992)/4503599627370496-1=k+1:=j0;rw[e1,e2,Nat.pow_succ];omega
theorem zLl(c:Nat):∃k n,c=k*4503599627370496+n∧n<9007199254740992∧(4503599627370496≤n∨k=0):=by
 by_cases h:c<4503599627370496
 · exact⟨0,c,j0,j0,Or.inr rfl⟩
 · exact⟨c/4503599627370496-1,c%4503599627370496+4503599627370496,j0,j0,Or.inl j0⟩
theorem zEG{k n:Nat}(hn:n<9007199254740992)(h:4503599627370496≤n∨k=0):fzN (k*4503599627370496+n+1)=fzN (k*4503599627370496+n)+2^k:=by
 rw[zBL k n j0 h,Nat.add_assoc,zBL k (n+1) j0 j0,Nat.add_mul,Nat.one_mul]
theorem zBw(c:Nat):fzN c<fzN (c+1):=by
 obtain⟨k,n,rfl,hn,h⟩:=zLl c;rw[zEG hn h];have:=Nat.pow_pos (n:=k) (show 0<2 by omega);omega
theorem zNc(c:Nat):∀d,fzN c+d≤fzN (c+d)
 | 0=>Nat.le_refl _
 | d+1=>by have:=zNc c d;have:=zBw (c+d);show _≤fzN (c+d+1);omega
theorem zHC{a b:Nat}(h:a<b):fzN a<fzN b:=by
 have:=zNc (a+1) (b-(a+1));rw[show a+1+(b-(a+1))=b by omega]at this;have:=zBw a;omega
theorem fzN_le_iff{a b:Nat} :fzN a≤fzN b↔a≤b:=by
 constructor
 · intro h;by_cases h1:b<a
   · have:=zHC h1;omega
   · exact j0
 · intro h;rcases Nat.lt_or_eq_of_le h with h | h
   · exact Nat.le_of_lt (zHC h)
   · subst h;exact Nat.le_refl _
theorem zRg:fzN 9218868437227405312=9007199254740992*2^2045:=by
 have:=zBL 2045 9007199254740992 j0 j0;rwa[show 2045*4503599627370496+9007199254740992=9218868437227405312 by decide]at this
theorem p53(k n:Nat)(h:53+k=n):9007199254740992*2^k=2^n:=by subst h;rw[Nat.pow_add]
theorem p52(k n:Nat)(h:52+k=n):4503599627370496*2^k=2^n:=by subst h;rw[Nat.pow_add]
theorem zKg{c:Nat}(h:c<9218868437227405312):zA4 (fzN c)≤2098:=by
 refine zAC ?_;have:=zHC h;rw[zRg,p53 2045 2098 ja]at this;exact this
theorem zNa(f:Nat):(fz f).natAbs=fzN (fM f):=by unfold fz sgn;cases fS f <;> simp
theorem zIO{f:Nat}(h:zAA f=true):zA4 (fz f).natAbs≤2098:=by
 rw[zNa];exact zKg (by unfold zAA at h;simpa using h)
theorem zDG{f:Nat}(h:zAA f=true):nrm (fz f) (-1074)≠none:=zBs j0 (by have:=zIO h;omega)
theorem zCA{f:Nat}(h:zAA f=true):fof f=nrm (fz f) (-1074):=by unfold fof;rw[if_pos h]
theorem zNi{f:Nat}(h:zAA f=false):fof f=none:=by unfold fof;rw[if_neg (by rw[h];decide)]
theorem zBv(f:Nat):IsN (fof f):=by
 unfold fof;split
 · exact zCR _ _
 · exact zCx
theorem zJV(f:Nat):nrm (fz f) (-1074)=nrm (sgn (fS f) (if fE f=0 then fR f else fR f+4503599627370496)) (if fE f=0 then -1074 else(fE f:Int)-1075):=by
 have h1:=zNq f;have h2:=zHK f;unfold fz
 by_cases h:fE f=0
 · rw[if_pos h,if_pos h];congr 2;rw[h1,h];unfold fzN;rw[if_pos j0];omega
 · rw[if_neg h,if_neg h];have e1:fzN (fM f)=(fR f+4503599627370496)*2^(fE f-1):=by
    have:=zBL (fE f-1) (fR f+4503599627370496) j0 j0;rw[←this];refine congrArg fzN ?_;rw[h1];obtain⟨j,hj⟩:∃j,fE f=j+1:=⟨fE f-1,j0⟩;rw[hj,Nat.add_sub_cancel];omega
   have e2:sgn (fS f) (fzN (fM f))=sgn (fS f) (fR f+4503599627370496)*2^(fE f-1):=by
    rw[e1];unfold sgn;cases fS f <;> simp[Int.neg_mul]
   rw[e2,zCl];congr 1;omega
def zNp(s:Bool)(X:Nat)(E:Int)(more:Bool)(mode:Int):Nat:=
 (max (rlg X E-52) (-1074)+1074).toNat*4503599627370496+zGh s X E more (max (rlg X E-52) (-1074)) mode
def zCd(s:Bool)(mode:Int):Nat:=
 if mode=3∨mode=1∧s=false∨mode=2∧s=true then zBE s zK2 else zBE s zE9
def zDt(s:Bool)(c:Nat)(mode:Int):Nat:=if zE9≤c then zCd s mode else zBE s c
def zCg(s:Bool)(X:Nat)(E:Int)(more:Bool)(mode:Int):Nat:=zDt s (zNp s X E more mode) mode
def zAu(d:Option (Int×Int))(mode:Int):Nat:=
 match d with
 | none=>zK1
 | some (m,e)=>if m=0 then 0 else zCg (decide (m<0)) m.natAbs e false mode
def zEH(d d':Option (Int×Int))(mode:Int):Nat:=
 match d,d' with
 | some (a,e),some (b,f)=>
  if b=0 then zK1 else if a=0 then 0 else
  zCg (decide (a<0) != decide (b<0)) (a.natAbs*2^qsh a b 56/b.natAbs) (e-qsh a b 56-f) (decide (a.natAbs*2^qsh a b 56%b.natAbs≠0)) mode
 | _,_=>zK1
noncomputable def zBc(d:Option (Int×Int))(mode:Int):Nat:=
 match d with
 | none=>zK1
 | some (m,e)=>if m<0 then zK1 else if m=0 then 0 else
  zCg false (isq (m.natAbs*2^rsh m e 56)) ((e-rsh m e 56)/2) (decide (isq (m.natAbs*2^rsh m e 56)*isq (m.natAbs*2^rsh m e 56)≠m.natAbs*2^rsh m e 56)) mode
def zB3(f:Nat):Int:=sgn (fS f) (fM f)
structure Cx(cx:Nat→Int):Prop where
 range:∀j,cx j= -1∨cx j=0∨cx j=1
 strict:∀j j',j<j'→0≤cx j'→cx j=1
def IsLo(cx:Nat→Int)(c:Nat):Prop:=0≤cx (2*fzN c)∧cx (2*fzN (c+1))= -1
def awx(s:Bool)(c:Nat)(cx:Nat→Int)(mode:Int):Bool:=
 if cx (2*fzN c)=0 then false else if mode=1 then s else if mode=2 then !s else if mode=3 then false else decide (0<cx (fzN c+fzN (c+1)))||(decide (cx (fzN c+fzN (c+1))=0)&&decide (c%2=1))
def zPZ(X:Nat)(E:Int)(more:Bool)(cx:Nat→Int):Prop:=
 ∀j Y:Nat,j*2^(-1075-min E (-1075)).toNat=Y*2^(E-min E (-1075)).toNat→cx j=if X<Y then -1 else if X=Y then(if more then 1 else 0)else 1
theorem IsLo.uniq{cx:Nat→Int}(hc:Cx cx){c d:Nat}(h:IsLo cx c)(k:IsLo cx d):c=d:=by
 rcases Nat.lt_trichotomy c d with h1 | h1 | h1
 · have h2:fzN (c+1)≤fzN d:=fzN_le_iff.2 h1;rcases Nat.lt_or_eq_of_le h2 with h3 | h3
   · have:=hc.strict (2*fzN (c+1)) (2*fzN d) j0 k.1;have:=h.2;omega
   · have:=h.2;have:=k.1;rw[←h3]at this;omega
 · exact h1
 · have h2:fzN (d+1)≤fzN c:=fzN_le_iff.2 h1;rcases Nat.lt_or_eq_of_le h2 with h3 | h3
   · have:=hc.strict (2*fzN (d+1)) (2*fzN c) j0 h.1;have:=k.2;omega
   · have:=k.2;have:=h.1;rw[←h3]at this;omega
theorem zEV{X:Nat}(hX:0<X)(E:Int)(q:Int)(hq:q=max (rlg X E-52) (-1074)):rdn X E q<9007199254740992∧(4503599627370496≤rdn X E q∨(q+1074).toNat=0):=by
 have hb:=zCE hX;have hlt:=zAz X;have hge:=zAT hX;unfold rdn
 by_cases h:q≤E
 · rw[if_pos h];have h1:=zAc hX (E-q).toNat;have hx1:0<X*2^(E-q).toNat:=Nat.mul_pos hX (Nat.pow_pos ja);have h2:=zAz (X*2^(E-q).toNat);have h3:=zAT hx1;generalize hW:X*2^(E-q).toNat=V at h1 h2 h3 ⊢;have hle:zA4 V≤53:=Qy;refine⟨Nat.lt_of_lt_of_le h2 (Nat.le_trans (Nat.pow_le_pow_right ja hle) ja),?_⟩
   by_cases hk:(q+1074).toNat=0
   · exact Or.inr hk
   · have he:zA4 V=53:=Qy;rw[he]at h3;exact Or.inl h3
 · rw[if_neg h];have h0:=zEq X (q-E).toNat;have h2:=zAz (X/2^(q-E).toNat);have hle:zA4 (X/2^(q-E).toNat)≤53:=Qy;refine⟨Nat.lt_of_lt_of_le h2 (Nat.le_trans (Nat.pow_le_pow_right ja hle) ja),?_⟩
   by_cases hk:(q+1074).toNat=0
   · exact Or.inr hk
   · refine Or.inl ?_;have he:zA4 X-1=52+(q-E).toNat:=Qy;rw[he,Nat.pow_add]at hge;exact(Nat.le_div_iff_mul_le (Nat.pow_pos ja)).2 hge
theorem pw{k p t r:Nat}(a:Nat)(h:k+p=t+r):a*2^k*2^p=a*2^t*2^r:=by
 rw[Nat.mul_assoc,Nat.mul_assoc,←Nat.pow_add,←Nat.pow_add,h]
theorem pw2{k p t r:Nat}(a:Nat)(h:k+p+1=t+r):2*(a*2^k)*2^p=a*2^t*2^r:=by
 rw[←pw (k:=k+1) (p:=p) a j0,Nat.pow_succ,Nat.mul_comm 2,Nat.mul_assoc a]
theorem zKX{a b:Nat}{k m:Nat}(h:k=m)(hab:a=b):a*2^k=b*2^m:=by subst h hab;rfl
theorem zE6(s:Bool){X:Nat}(hX:0<X)(E:Int)(more:Bool)(mode:Int){cx:Nat→Int}(hc:Cx cx)(hcut:zPZ X E more cx)(hm:more=true→E<max (rlg X E-52) (-1074)):∃c,IsLo cx c∧zNp s X E more mode=c+if awx s c cx mode then 1 else 0:=by
 obtain⟨q,hq⟩:∃q,q=max (rlg X E-52) (-1074):=⟨_,rfl⟩;obtain⟨k,hk⟩:∃k:Nat,k=(q+1074).toNat:=⟨_,rfl⟩;have hp:=zEV hX E q hq;obtain⟨n0,hn0⟩:∃n0,n0=rdn X E q:=⟨_,rfl⟩;rw[←hn0,←hk]at hp;have hqk:q=(k:Int)-1074:=j0
 have e0:=zBL k n0 j0 hp.2;have e1:=zEG hp.1 hp.2;have hpar:(k*4503599627370496+n0)%2=n0%2:=j0
 rw[←hq]at hm;obtain⟨c,hcd⟩:∃c,c=k*4503599627370496+n0:=⟨_,rfl⟩;rw[←hcd]at e0 e1 hpar;refine⟨c,?_⟩;unfold zNp zGh;rw[←hq,←hk,←hn0,←Nat.add_assoc,←hcd];rw[e0]at e1
 by_cases h:q≤E
 · have hmf:more=false:=by cases more with | false=>rfl | true=>exact absurd (hm rfl) j0
   have hr:rdn X E q=X*2^(E-q).toNat:=(by unfold rdn;rw[if_pos h]);have hz:cx (2*fzN c)=0:=by
    have:=hcut (2*fzN c) X (by
     rw[e0,hn0,hr,show min E (-1075)= -1075 by omega,show(-1075 - -1075:Int).toNat=0 by decide,Nat.pow_zero,Nat.mul_one,Nat.mul_assoc,←Nat.pow_add,Nat.mul_comm 2,Nat.mul_assoc,←Nat.pow_succ];exact zKX j0 rfl)
    rw[this,if_neg j0,if_pos rfl,hmf];rfl
   have hlt:=zBw c;refine⟨⟨j0,?_⟩,?_⟩
   · rcases hc.range (2*fzN (c+1))with h1 | h1 | h1
     · exact h1
     · have:=hc.strict (2*fzN c) (2*fzN (c+1)) j0 j0;omega
     · have:=hc.strict (2*fzN c) (2*fzN (c+1)) j0 j0;omega
   · have hax:rax s X E more q mode=false:=(by unfold rax;rw[if_pos h]);unfold awx;rw[hax,if_pos hz]
 · obtain⟨t,ht⟩:∃t:Nat,t=(q-E).toNat:=⟨_,rfl⟩;have ht1:1≤t:=j0;have hr:rdn X E q=X/2^t:=(by unfold rdn;rw[if_neg h,←ht]);have hpt:0<2^t:=Nat.pow_pos ja;have hdm:=Nat.div_add_mod X (2^t);have hmod:=Nat.mod_lt X hpt;rw[←hr,←hn0]at hdm;obtain⟨r,hrr⟩:∃r,r=X%2^t:=⟨_,rfl⟩;rw[←hrr]at hdm hmod;have hpt2:2^t=2*2^(t-1):=(by obtain⟨u,rfl⟩:∃u,t=u+1:=⟨t-1,j0⟩;rw[Nat.add_sub_cancel,Nat.pow_succ,Nat.mul_comm]);have hXe:X=n0*2^t+r:=by rw[Nat.mul_comm];exact hdm.symm
   -- the three places that matter
   have g (a:Nat):cx (2*(a*2^k))=if X<a*2^t then -1 else if X=a*2^t then(if more then 1 else 0)else 1:=by
    refine hcut _ _ ?_;exact pw2 a j0
   have gm (a:Nat):cx (a*2^k)=if X<a*2^(t-1)then -1 else if X=a*2^(t-1)then(if more then 1 else 0)else 1:=by
    refine hcut _ _ ?_;exact pw a j0
   have c0:=g n0;rw[←e0,if_neg j0]at c0;have c1:=g (n0+1);have e2:fzN (c+1)=(n0+1)*2^k:=(by rw[e1,Nat.add_mul,Nat.one_mul]);rw[←e2,if_pos (by rw[Nat.add_mul,Nat.one_mul];omega)]at c1;have c2:=gm (2*n0+1);have e3:(2*n0+1)*2^k=fzN c+fzN (c+1):=(by rw[e1,e0,Nat.add_mul,Nat.one_mul,Nat.mul_assoc];omega);have e4:(2*n0+1)*2^(t-1)=n0*2^t+2^(t-1):=(by rw[hpt2,Nat.add_mul,Nat.one_mul,Nat.mul_comm 2 n0,Nat.mul_assoc]);rw[e3,e4,hXe]at c2;refine⟨⟨?_,c1⟩,?_⟩
   · rw[c0];split
     · exact QV
     · exact j0
   · have hax:rax s X E more q mode=awx s c cx mode:=by
      unfold rax awx;rw[if_neg h,←hn0,←ht];unfold raw rex rcm;rw[←hrr,c0,c2,hpar];unfold zAq;have hp1:0<2^(t-1):=Nat.pow_pos ja;generalize 2^(t-1)=P at *
      cases more <;> cases s <;> by_cases m1:mode=1 <;> by_cases m2:mode=2 <;> by_cases m3:mode=3 <;> by_cases hr0:r=0 <;> simp[m1,m2,m3,hr0,hXe] <;> (repeat' split) <;> simp <;> omega
     rw[hax]
theorem zFU(x y:Int):zAq x y= -1∨zAq x y=0∨zAq x y=1:=K2
theorem cmpI_ge{m n:Int} :0≤zAq m n↔n≤m:=K3
theorem cmpI_one{m n:Int} :zAq m n=1↔n<m:=K3
theorem cmpI_m1{m n:Int} :zAq m n= -1↔m<n:=K3
def cxQ(A D:Nat)(j:Nat):Int:=zAq ((2*A:Nat):Int) ((j*D:Nat):Int)
theorem zFS(A:Nat){D:Nat}(hD:0<D):Cx (cxQ A D):=by
 refine⟨fun j=>zFU _ _,fun j j' h h'=>?_⟩;have h1:=cmpI_ge.1 h';refine cmpI_one.2 ?_;have h2:j*D+1*D≤j'*D:=by rw[←Nat.add_mul];exact Nat.mul_le_mul_right _ h
 omega
theorem zTq{P Q X Y:Nat}{more:Bool}(hQ:0<Q)(hX:X=P/Q)(hm:more=decide (P%Q≠0)):zAq ((P:Nat):Int) ((Y*Q:Nat):Int)=if X<Y then -1 else if X=Y then(if more then 1 else 0)else 1:=by
 have h1:=Nat.div_add_mod P Q;have h2:=Nat.mod_lt P hQ;rw[←hX]at h1;rw[Nat.mul_comm]at h1
 by_cases hlt:X<Y
 · rw[if_pos hlt];have:=Nat.mul_le_mul_right Q (show X+1≤Y by omega);rw[Nat.add_mul,Nat.one_mul]at this;exact cmpI_m1.2 j0
 · rw[if_neg hlt]
   by_cases he:X=Y
   · subst he;rw[if_pos rfl,hm]
     by_cases h0:P%Q=0
     · simp only[h0,ne_eq,not_true_eq_false,decide_false,Bool.false_eq_true,if_false];exact cmpI_eq0.2 j0
     · simp only[ne_eq,h0,not_false_eq_true,decide_true,if_true];exact cmpI_one.2 j0
   · rw[if_neg he];have:=Nat.mul_le_mul_right Q (show Y+1≤X by omega);rw[Nat.add_mul,Nat.one_mul]at this;exact cmpI_one.2 j0
theorem zCq{x y x' y':Nat}{p q:Nat}(hp:0<p)(hq:0<q)(h1:x*p=x'*q)(h2:y*p=y'*q):zAq (x:Int) (y:Int)=zAq (x':Int) (y':Int):=by
 have e1:=zKb (m:=(x:Int)) (n:=(y:Int)) (p:=(p:Int)) j0;have e2:=zKb (m:=(x':Int)) (n:=(y':Int)) (p:=(q:Int)) j0;rw[←e1,←e2,←Int.natCast_mul,←Int.natCast_mul,h1,h2,Int.natCast_mul,Int.natCast_mul]
theorem zAx(k:Nat):0<2^k:=Nat.pow_pos ja
theorem pw3{t g k b r:Nat}(a:Nat)(h:t+g+k+1=b+r):2*(a*2^t*2^g)*2^k=a*2^b*2^r:=by
 rw[Nat.mul_assoc a (2^t),←Nat.pow_add];exact pw2 _ h
theorem zBg(M:Int)(g:Nat)(mode:Int)(h0:M≠0)(h:nrm M (-1074-(g:Int))≠none):∃c,IsLo (cxQ M.natAbs (2^g)) c∧zAu (nrm M (-1074-(g:Int))) mode=zDt (decide (M<0)) (c+if awx (decide (M<0)) c (cxQ M.natAbs (2^g)) mode then 1 else 0) mode:=by
 cases hd:nrm M (-1074-(g:Int))with
 | none=>exact absurd hd h
 | some p=>
  obtain⟨m,e⟩:=p;obtain⟨t,ht,he,hodd,_,_⟩:=zB5 h0 hd;have hm0:m≠0:=j0
  have hsg:decide (m<0)=decide (M<0):=by rw[ht];exact decide_eq_decide.2 (zBf m t).1.symm
  have hab:M.natAbs=m.natAbs*2^t:=by rw[ht];exact zAr m t
  have hmp:0<m.natAbs:=j0
  show∃c,_∧(if m=0 then 0 else zCg (decide (m<0)) m.natAbs e false mode)=_;rw[if_neg hm0,hsg];have hcut:zPZ m.natAbs e false (cxQ M.natAbs (2^g)):=by
   intro j Y hj;have h3:=zTq (P:=m.natAbs) (Q:=1) (X:=m.natAbs) (Y:=Y) (more:=false) ja jz (by simp[Nat.mod_one]);rw[←h3];obtain⟨a,ha⟩:∃a:Nat,a=(-1075-min e (-1075)).toNat:=⟨_,rfl⟩;obtain⟨b,hb⟩:∃b:Nat,b=(e-min e (-1075)).toNat:=⟨_,rfl⟩;rw[←ha,←hb]at hj;refine zCq (p:=2^a) (q:=2^(b+g)) (zAx _) (zAx _) ?_ ?_
   · rw[hab,pw2 _ (show t+a+1=(b+g)+0 by omega)];simp
   · rw[Nat.mul_assoc,Nat.mul_comm (2^g),←Nat.mul_assoc,hj,Nat.mul_one,Nat.pow_add,Nat.mul_assoc]
  obtain⟨c,h1,h2⟩:=zE6 (decide (M<0)) hmp e false mode (zFS M.natAbs (zAx g)) hcut (fun h=>KM);exact⟨c,h1,by unfold zCg;rw[h2]⟩
theorem zQ8{a b:Int}(h:b≠0)(ha:a≠0):58≤zA4 (a.natAbs*2^qsh a b 56/b.natAbs):=by
 have ha':0<a.natAbs:=j0
 have hb':0<b.natAbs:=j0
 have h1:=zAc ha' (qsh a b 56);have h2:=zAT (show 0<a.natAbs*2^qsh a b 56 from Nat.mul_pos ha' (zAx _));have h3:=zAz b.natAbs;have h4:zA4 a.natAbs+qsh a b 56≥59+zA4 b.natAbs:=QH
 refine zMS ((Nat.le_div_iff_mul_le hb').2 ?_);rw[h1]at h2;refine Nat.le_trans ?_ h2;refine Nat.le_trans (Nat.mul_le_mul_left _ (Nat.le_of_lt h3)) ?_;rw[←Nat.pow_add];exact Nat.pow_le_pow_right ja j0
theorem zGB(s:Bool)(mode:Int):fS (zCd s mode)=s∧(fM (zCd s mode)=zK2∨fM (zCd s mode)=zE9):=by
 unfold zCd
 split
 · exact⟨zE8 ja,Or.inl (zDp ja)⟩
 · exact⟨zE8 ja,Or.inr (zDp ja)⟩
theorem zK0(s:Bool)(c:Nat)(mode:Int):fS (zDt s c mode)=s:=by
 unfold zDt
 split
 · exact(zGB s mode).1
 · rename_i h;exact zE8 (by unfold zE9 at h;omega)
theorem zFQ{s:Bool}{c:Nat}{mode:Int}(h:c<9218868437227405312):zDt s c mode=zBE s c:=by
 unfold zDt;rw[if_neg QG]
theorem zC7{s:Bool}{c:Nat}{mode:Int}(h:c<9218868437227405312):fM (zDt s c mode)=c:=by
 rw[zFQ h];exact zDp j0
theorem zNo(s:Bool)(c:Nat)(mode:Int):fM (zDt s c mode)≤9218868437227405312:=by
 by_cases h:c<9218868437227405312
 · rw[zC7 h];omega
 · have:=(zGB s mode).2;unfold zDt;rw[if_pos QG];unfold zK2 zE9 at this;omega
theorem zPt(s:Bool)(c:Nat)(mode:Int):zLh (zDt s c mode)=false:=by
 have:=zNo s c mode;unfold zLh;exact decide_eq_false j0
theorem zGA(s:Bool)(c:Nat)(mode:Int):zDt s c mode<18446744073709551616:=by
 unfold zDt zCd
 split
 · split <;> exact zNe ja
 · rename_i h;exact zNe (by unfold zE9 at h;omega)
theorem zHJ(s:Bool){c d:Nat}(mode:Int)(h:c≤d):fM (zDt s c mode)≤fM (zDt s d mode):=by
 by_cases h1:d<9218868437227405312
 · rw[zC7 h1,zC7 j0];exact h
 · by_cases h2:c<9218868437227405312
   · have:=(zGB s mode).2;rw[zC7 h2];unfold zDt;rw[if_pos QG];unfold zK2 zE9 at this;omega
   · unfold zDt;rw[if_pos QG,if_pos QG];exact Nat.le_refl _
theorem zHS{cx cx':Nat→Int}(hc':Cx cx')(hle:∀j,cx j≤cx' j){c c':Nat}(h:IsLo cx c)(h':IsLo cx' c')(s:Bool)(mode:Int):(c+if awx s c cx mode then 1 else 0)≤(c'+if awx s c' cx' mode then 1 else 0):=by
 have h1:c≤c':=by
  by_cases h2:c≤c'
  · exact h2
  · have h3:fzN (c'+1)≤fzN c:=fzN_le_iff.2 j0;have h4:=h.1;have h5:=hle (2*fzN c);have h6:=h'.2;rcases Nat.lt_or_eq_of_le h3 with h7 | h7
    · have:=hc'.strict (2*fzN (c'+1)) (2*fzN c) j0 j0;omega
    · rw[h7]at h6;omega
 rcases Nat.lt_or_eq_of_le h1 with h2 | h2
 · split <;> split <;> omega
 · subst h2;have e1:=hle (2*fzN c);have e2:=hle (fzN c+fzN (c+1));have k1:=h.1;have k1':=h'.1;have hi:awx s c cx mode=true→awx s c cx' mode=true:=by
    unfold awx
    by_cases z:cx (2*fzN c)=0
    · rw[if_pos z];intro h;cases h
    · have z':¬cx' (2*fzN c)=0:=j0;rw[if_neg z,if_neg z']
      by_cases m1:mode=1
      · simp[m1]
      · by_cases m2:mode=2
        · simp[m2]
        · by_cases m3:mode=3
          · simp[m3]
          · simp only[m1,m2,m3,if_false,Bool.or_eq_true,Bool.and_eq_true,decide_eq_true_eq];omega
   cases ha:awx s c cx mode with
   | false=>simp
   | true=>rw[hi ha];simp
theorem zCn(f:Nat):zB3 f=if fS f then -(fM f:Int)else(fM f:Int):=by unfold zB3 sgn;cases fS f <;> rfl
theorem zBY(e mode:Int):zAu (nrm 0 e) mode=0:=by rw[zBr];rfl
theorem zIy:zB3 0=0:=ja
theorem zQn{A A':Nat}(D:Nat)(h:A≤A')(j:Nat):cxQ A D j≤cxQ A' D j:=by
 unfold cxQ zAq;split <;> split <;> (try split) <;> (try split) <;> omega
theorem zCT(M:Int)(g:Nat)(mode:Int)(h:nrm M (-1074-(g:Int))≠none):zLh (zAu (nrm M (-1074-(g:Int))) mode)=false∧(0≤M→0≤zB3 (zAu (nrm M (-1074-(g:Int))) mode))∧(M≤0→zB3 (zAu (nrm M (-1074-(g:Int))) mode)≤0):=by
 by_cases h0:M=0
 · subst h0;rw[zBY];decide
 · obtain⟨c,h1,h2⟩:=zBg M g mode h0 h;rw[h2];refine⟨zPt _ _ _,?_,?_⟩
   · intro h3;rw[zCn,zK0,show decide (M<0)=false by simp;omega];simp
   · intro h3;rw[zCn,zK0,show decide (M<0)=true by simp;omega];simp
theorem zFe(M N:Int)(g:Nat)(mode:Int)(hM:nrm M (-1074-(g:Int))≠none)(hN:nrm N (-1074-(g:Int))≠none)(h:M≤N):zB3 (zAu (nrm M (-1074-(g:Int))) mode)≤zB3 (zAu (nrm N (-1074-(g:Int))) mode):=by
 have p1:=zCT M g mode hM;have p2:=zCT N g mode hN
 by_cases h1:M≤0∧0≤N
 · have:=p1.2.2 h1.1;have:=p2.2.1 h1.2;omega
 · have hM0:M≠0:=j0;have hN0:N≠0:=j0;obtain⟨c,k1,k2⟩:=zBg M g mode hM0 hM;obtain⟨d,l1,l2⟩:=zBg N g mode hN0 hN;rw[k2,l2,zCn,zCn,zK0,zK0]
   by_cases hs:M<0
   · have e1:decide (M<0)=true:=(by simpa using hs);have e2:decide (N<0)=true:=jq;rw[e1,e2];have:=zHJ true mode (zHS (cx:=cxQ N.natAbs (2^g)) (cx':=cxQ M.natAbs (2^g)) (zFS M.natAbs (zAx g)) (fun j=>zQn (A:=N.natAbs) (A':=M.natAbs) (2^g) j0 j) l1 k1 true mode);simp only[if_true];omega
   · have e1:decide (M<0)=false:=(by simpa using hs);have e2:decide (N<0)=false:=jq;rw[e1,e2];have:=zHJ false mode (zHS (cx:=cxQ M.natAbs (2^g)) (cx':=cxQ N.natAbs (2^g)) (zFS N.natAbs (zAx g)) (fun j=>zQn (A:=M.natAbs) (A':=N.natAbs) (2^g) j0 j) k1 l1 false mode);simp only[Bool.false_eq_true,if_false];omega
theorem g0:(-1074:Int)= -1074-((0:Nat):Int):=ja
theorem zHD{M:Int}{c:Nat}(h0:M≠0)(h:M.natAbs=fzN c)(hc:c<9218868437227405312)(mode:Int):zAu (nrm M (-1074)) mode=zBE (decide (M<0)) c:=by
 have hn:nrm M (-1074-((0:Nat):Int))≠none:=by
  rw[←g0];exact zBs j0 (by rw[h];have:=zKg hc;omega)
 obtain⟨d,k1,k2⟩:=zBg M 0 mode h0 hn;rw[←g0]at k2;have hz:cxQ M.natAbs (2^0) (2*fzN c)=0:=by unfold cxQ;rw[h];exact cmpI_eq0.2 jz
 have hlt:=zBw c;have h1:cxQ M.natAbs (2^0) (2*fzN (c+1))= -1:=by unfold cxQ;rw[h];exact cmpI_m1.2 jq
 have hdc:d=c:=IsLo.uniq (zFS _ (zAx 0)) k1 ⟨j0,h1⟩;subst hdc;have ha:awx (decide (M<0)) d (cxQ M.natAbs (2^0)) mode=false:=by unfold awx;rw[if_pos hz]
 rw[k2,ha];exact zFQ hc
theorem zD7{s:Bool}{c:Nat}(h:c<9218868437227405312):zAA (zBE s c)=true∧fz (zBE s c)=sgn s (fzN c):=by
 have h1:fM (zBE s c)=c:=zDp j0;have h2:fS (zBE s c)=s:=zE8 j0;refine⟨by unfold zAA;rw[h1];simpa using h,by unfold fz;rw[h1,h2]⟩
theorem zNn{f:Nat}(h:zAA f=true):zLh f=false∧zRV f=false:=by
 have hlt:fM f<9218868437227405312:=by unfold zAA at h;simpa using h
 exact⟨by unfold zLh;simp;omega,by unfold zRV;simp;omega⟩
theorem g3:(-3000:Int)= -1074-((1926:Nat):Int):=ja
theorem zJX(s:Bool):zCd s 1=(if s then zBE true zE9 else zK2)∧zCd s 2=(if s then zBE true zK2 else zE9)∧zCd s 0=zBE s zE9:=by cases s <;> decide
theorem zI8(s:Bool)(x:Nat)(k:Nat):sgn s x*2^k=sgn s (x*2^k):=by cases s <;> simp[sgn,Int.neg_mul]
theorem zEI(d:Nat):zDt false d 1=min d 9218868437227405311∧zDt false d 2=min d 9218868437227405312∧zDt false d 0=min d 9218868437227405312 ∧
 zDt true d 1=zBE true (min d 9218868437227405312)∧zDt true d 2=zBE true (min d 9218868437227405311)∧zDt true d 0=zBE true (min d 9218868437227405312):=by
 have e1:=zJX false;have e2:=zJX true;unfold zDt;rw[e1.1,e1.2.1,e1.2.2,e2.1,e2.2.1,e2.2.2];unfold zK2 zE9 zBE;simp only[if_true,Bool.false_eq_true,if_false];refine⟨?_,?_,?_,?_,?_,?_⟩ <;> split <;> omega
theorem zPo{c:Nat}(h:c<9223372036854775808):fz c=(fzN c:Int):=by
 unfold fz;have h1:fS c=false:=by unfold fS;simp;omega
 have h2:fM c=c:=by unfold fM;omega
 rw[h1,h2];rfl
theorem dbad_nn{d:Option (Int×Int)} :zAj d=false↔d≠none:=by cases d <;> simp[zAj]
theorem zJZ{c:Nat}(h:c<9218868437227405312):zAA c=true∧fz c=(fzN c:Int):=by
 refine⟨?_,zPo j0⟩;unfold zAA fM;simp;omega
theorem zO2(c:Nat)(cx:Nat→Int):awx false c cx 1=false∧awx false c cx 2=if cx (2*fzN c)=0 then false else true:=by
 unfold awx;refine⟨?_,?_⟩
 · split <;> rfl
 · split <;> rfl
theorem ofNat_le{x y:Nat}(h:x≤y):zAq (x:Int) (y:Int)≤0:=cmpI_le.2 j0
theorem zRK(n:Int):Go.bits .and .u64 n 2047=n%2048:=by
 have h1:(BitVec.ofInt 64 2047).toNat=2047:=ja
 have h2:(BitVec.ofInt 64 n).toNat=(n%18446744073709551616).toNat:=Qi
 have h3:(n%18446744073709551616).toNat &&& 2047=(n%18446744073709551616).toNat%2048:=Nat.and_two_pow_sub_one_eq_mod _ 11;show IntKind.u64.wrap ((BitVec.ofInt 64 n &&& BitVec.ofInt 64 2047).toNat:Int)=_;rw[BitVec.toNat_and,h1,h2,h3,IntKind.wrap_u64];omega
theorem zRJ(n:Int):Go.bits .and .u64 n 4503599627370495=n%4503599627370496:=by
 have h1:(BitVec.ofInt 64 4503599627370495).toNat=4503599627370495:=ja
 have h2:(BitVec.ofInt 64 n).toNat=(n%18446744073709551616).toNat:=Qi
 have h3:(n%18446744073709551616).toNat &&& 4503599627370495=(n%18446744073709551616).toNat%4503599627370496:=Nat.and_two_pow_sub_one_eq_mod _ 52;show IntKind.u64.wrap ((BitVec.ofInt 64 n &&& BitVec.ofInt 64 4503599627370495).toNat:Int)=_;rw[BitVec.toNat_and,h1,h2,h3,IntKind.wrap_u64];omega
theorem zKh(f:Nat):Go.bits .and .u64 ((f:Int)/4503599627370496) 2047=((fE f:Nat):Int):=by rw[zRK];unfold fE;omega
theorem zNZ(f:Nat):Go.bits .and .u64 (f:Int) 4503599627370495=((fR f:Nat):Int):=by rw[zRJ];unfold fR;omega
theorem zSs(f:Nat)(h:f<18446744073709551616):f &&& 9223372036854775808=if fS f then 9223372036854775808 else 0:=by
 have e:(9223372036854775808:Nat)=2^63:=ja
 by_cases hs:9223372036854775808≤f
 · have hS:fS f=true:=(by unfold fS;simpa using hs);rw[hS,if_pos rfl,e];obtain⟨g,rfl⟩:∃g,f=2^63+g:=⟨f-2^63,j0⟩;apply Nat.eq_of_testBit_eq;intro i;rw[Nat.testBit_and,Nat.testBit_two_pow]
   by_cases hi:63=i
   · subst hi;rw[Nat.testBit_two_pow_add_eq,Nat.testBit_lt_two_pow (show g<2^63 by omega)];rfl
   · simp[hi]
 · have hS:fS f=false:=(by unfold fS;simpa using hs);rw[hS,if_neg ja,e];apply Nat.eq_of_testBit_eq;intro i;rw[Nat.testBit_and,Nat.testBit_two_pow,Nat.zero_testBit]
   by_cases hi:63=i
   · subst hi;rw[Nat.testBit_lt_two_pow (show f<2^63 by omega)];rfl
   · simp[hi]
theorem zHY{f:Nat}(h:f<18446744073709551616):Go.bits .and .u64 (f:Int) 9223372036854775808=if fS f then 9223372036854775808 else 0:=by
 have:=u64_and_nat f 9223372036854775808 h ja;rw[zSs f h]at this
 cases hs:fS f <;> (rw[hs]at this;exact this)
theorem zEr{c:Nat}(h:c<9223372036854775808):Go.bits .or .u64 (c:Int) 9223372036854775808=((zBE true c:Nat):Int):=by
 have h1:=u64_or_nat c 9223372036854775808 j0 ja;have h2:c ||| 9223372036854775808=c+9223372036854775808:=by
  have:=zEl (p:=63) (z:=c) (u:=9223372036854775808) h ⟨1,rfl⟩;exact this
 rw[h2]at h1;exact h1
theorem zDN{E m:Nat}(hE:E<2048)(hm:m<4503599627370496):Go.bits .or .u64 ((E:Int)*4503599627370496) (m:Int)=((E*4503599627370496+m:Nat):Int):=by
 have e:(E:Int)*4503599627370496=((4503599627370496*E:Nat):Int):=j0
 rw[e,u64_or_nat _ _ j0 j0,Nat.or_comm,zEl (p:=52) hm ⟨E,rfl⟩];congr 1;omega
theorem zFu{m:Nat}(hm:m<4503599627370496):Go.bits .or .u64 (m:Int) 4503599627370496=((m+4503599627370496:Nat):Int):=by
 have h1:=u64_or_nat m 4503599627370496 j0 ja;have h2:m ||| 4503599627370496=m+4503599627370496:=zEl (p:=52) (z:=m) (u:=4503599627370496) hm ⟨1,rfl⟩
 rw[h2]at h1;exact h1
theorem zFs{x c:Nat}(h:0<zA4 (x/2^c)):zA4 x=zA4 (x/2^c)+c:=by
 have h1:=zEq x c;have h2:x<2^(zA4 (x/2^c)+c):=by
  rw[Nat.pow_add];exact(Nat.div_lt_iff_lt_mul (Nat.pow_pos ja)).1 (zAz (x/2^c))
 have h3:=zAC h2;generalize zA4 (x/2^c)=b at *;generalize zA4 x=y at *;omega
def cxX(X:Nat)(more:Bool)(k j:Nat):Int:=if X<j*2^(k-1)then -1 else if X=j*2^(k-1)then(if more then 1 else 0)else 1
def awc(s:Bool)(n:Nat)(cx:Nat→Int)(mode:Int):Bool:=
 if cx (2*n)=0 then false else if mode=1 then s else if mode=2 then !s else if mode=3 then false else decide (0<cx (2*n+1))||(decide (cx (2*n+1)=0)&&decide (n%2=1))
theorem zJS{k:Nat}(hk:1≤k):2*2^(k-1)=2^k:=by
 obtain⟨j,rfl⟩:∃j,k=j+1:=⟨k-1,j0⟩;rw[Nat.add_sub_cancel,Nat.pow_succ,Nat.mul_comm]
theorem zDU{k:Nat}(hk:1≤k)(n:Nat):2*n*2^(k-1)=n*2^k:=by
 rw[←zJS hk];ac_rfl
theorem zQ6(s:Bool)(X:Nat)(more:Bool){k:Nat}(hk:1≤k)(mode:Int):raw s (X/2^k) (rcm X more k) (rex X more k) mode=awc s (X/2^k) (cxX X more k) mode:=by
 have hd:=Nat.div_add_mod X (2^k);have hm:=Nat.mod_lt X (Nat.pow_pos (n:=k) (show 0<2 by decide));have hh:=zJS hk;have e0:2*(X/2^k)*2^(k-1)=2^k*(X/2^k):=by rw[zDU hk,Nat.mul_comm]
 have e1:(2*(X/2^k)+1)*2^(k-1)=2^k*(X/2^k)+2^(k-1):=by rw[Nat.add_mul,e0,Nat.one_mul]
 have c0:cxX X more k (2*(X/2^k))=0↔rex X more k=true:=by
  unfold cxX rex;rw[e0]
  cases more
  · simp only[Bool.not_false,Bool.and_true,decide_eq_true_eq];constructor
    · intro h;split at h
      · cases h
      · split at h
        · exact j0
        · cases h
    · intro h;rw[if_neg j0,if_pos j0];rfl
  · simp only[Bool.not_true,Bool.and_false,Bool.false_eq_true,iff_false];intro h;split at h
    · cases h
    · split at h <;> cases h
 have c1:cxX X more k (2*(X/2^k)+1)=rcm X more k:=by
  unfold cxX rcm;rw[e1];rcases Nat.lt_trichotomy (X%2^k) (2^(k-1))with h | h | h
  · have:zAq ((X%2^k:Nat):Int) ((2^(k-1):Nat):Int)= -1:=zAS j0;rw[this,if_pos j0,if_neg jz]
  · have:zAq ((X%2^k:Nat):Int) ((2^(k-1):Nat):Int)=0:=zCf j0;rw[this,if_neg j0,if_pos j0]
    cases more <;> simp
  · have:zAq ((X%2^k:Nat):Int) ((2^(k-1):Nat):Int)=1:=zAW j0;rw[this,if_neg j0,if_neg j0,if_neg jz]
 unfold raw awc;rw[c1]
 by_cases h:rex X more k=true
 · rw[if_pos h,if_pos (c0.2 h)]
 · rw[if_neg h,if_neg (fun h1=>h (c0.1 h1))]
theorem zSO(X:Nat)(more:Bool){k:Nat}(hk:1≤k):0≤cxX X more k (2*(X/2^k))∧cxX X more k (2*(X/2^k+1))= -1:=by
 have hd:=Nat.div_add_mod X (2^k);have hm:=Nat.mod_lt X (Nat.pow_pos (n:=k) (show 0<2 by decide));unfold cxX;rw[zDU hk,zDU hk,Nat.add_mul,Nat.one_mul,Nat.mul_comm];refine⟨?_,by rw[if_pos j0]⟩;rw[if_neg j0]
 split
 · cases more <;> decide
 · exact ja
theorem zNG{X:Nat}{more:Bool}{k i j:Nat}(h:i≤j)(hj:0≤cxX X more k j):0≤cxX X more k i:=by
 have hm:i*2^(k-1)≤j*2^(k-1):=Nat.mul_le_mul_right _ h;unfold cxX at *
 split at hj
 · exact absurd hj ja
 · rw[if_neg j0]
   split
   · cases more <;> decide
   · exact ja
theorem zMJ(s:Bool){X X':Nat}{more more':Bool}{k k':Nat}(hk:1≤k)(hk':1≤k')(h:∀j,cxX X more k j=cxX X' more' k' j)(mode:Int):X/2^k+(if raw s (X/2^k) (rcm X more k) (rex X more k) mode then 1 else 0)=X'/2^k'+(if raw s (X'/2^k') (rcm X' more' k') (rex X' more' k') mode then 1 else 0):=by
 have hc:cxX X more k=cxX X' more' k':=funext h;rw[zQ6 s X more hk,zQ6 s X' more' hk',hc];have l1:=zSO X more hk;have l2:=zSO X' more' hk';rw[hc]at l1;have hn:X/2^k=X'/2^k':=by
  rcases Nat.lt_trichotomy (X/2^k) (X'/2^k')with h1 | h1 | h1
  · have:=zNG (i:=2*(X/2^k+1)) j0 l2.1;omega
  · exact h1
  · have:=zNG (i:=2*(X'/2^k'+1)) j0 l1.1;omega
 rw[hn]
theorem zJg(s:Bool)(X:Nat)(E:Int)(more:Bool)(q:Int)(k:Nat)(hk:1≤k)(hq:q=E+k)(mode:Int):zGh s X E more q mode=X/2^k+if raw s (X/2^k) (rcm X more k) (rex X more k) mode then 1 else 0:=by
 have e:(q-E).toNat=k:=j0
 have h1:¬q≤E:=j0
 unfold zGh rax rdn;simp only[if_neg h1,e]
theorem zNH{P Q X:Nat}{more:Bool}(hQ:0<Q)(hX:X=P/Q)(hm:more=decide (P%Q≠0))(k j:Nat):cxX X more k j=zAq (P:Int) ((j*2^(k-1)*Q:Nat):Int):=(zTq hQ hX hm).symm
theorem zOQ{A B k i:Nat} :A*2^(k+i)/B/2^i=A*2^k/B:=by
 rw[Nat.pow_add,←Nat.mul_assoc,Nat.div_div_eq_div_mul,Nat.mul_div_mul_right _ _ (Nat.pow_pos ja)]
theorem zPg{M t:Nat}(h1:t*t≤M)(h2:M<(t+1)*(t+1)):isq M=t:=by
 have k1:=zDE M;have k2:=zDD M;rcases Nat.lt_trichotomy (isq M) t with h | h | h
 · have:=zH0 (show isq M+1≤t by omega);omega
 · exact h
 · have:=zH0 (show t+1≤isq M by omega);omega
theorem zK9{M:Nat}(k j:Nat):cxX (isq M) (decide (isq M*isq M≠M)) k j=zAq (M:Int) ((j*2^(k-1)*(j*2^(k-1)):Nat):Int):=by
 have k1:=zDE M;have k2:=zDD M;unfold cxX;generalize j*2^(k-1)=Y;rcases Nat.lt_trichotomy (isq M) Y with h | h | h
 · have:=zH0 (show isq M+1≤Y by omega);rw[if_pos h,zAS j0]
 · subst h;rw[if_neg j0,if_pos rfl]
   by_cases he:isq M*isq M=M
   · rw[zCf j0];simp[he]
   · rw[zAW j0];simp[he]
 · have:=zOt h;rw[if_neg j0,if_neg j0,zAW j0]
theorem zPh(M i:Nat):isq (M*2^(2*i))/2^i=isq M:=by
 have k1:=zDE (M*2^(2*i));have k2:=zDD (M*2^(2*i));have hp:0<2^i:=Nat.pow_pos ja;have e:2^(2*i)=2^i*2^i:=by rw[←Nat.pow_add];congr 1;omega
 rw[e]at k1 k2 ⊢;have hd:=Nat.div_add_mod (isq (M*(2^i*2^i))) (2^i);have hm:=Nat.mod_lt (isq (M*(2^i*2^i))) hp;generalize isq (M*(2^i*2^i))=r at *;generalize 2^i=D at *;refine(zPg ?_ ?_).symm
 · refine Nat.le_of_mul_le_mul_right (c:=D*D) ?_ (Nat.mul_pos hp hp);refine Nat.le_trans ?_ k1;have:=zH0 (show D*(r/D)≤r by omega);refine Nat.le_trans (Nat.le_of_eq ?_) this
   ac_rfl
 · refine Nat.lt_of_mul_lt_mul_right (a:=D*D) ?_;refine Nat.lt_of_lt_of_le k2 ?_;have h3:r+1≤D*(r/D+1):=(by rw[Nat.mul_add,Nat.mul_one];omega);have:=zH0 h3;refine Nat.le_trans this (Nat.le_of_eq ?_)
   ac_rfl
theorem zFP(s:Bool){X X':Nat}{E E':Int}{more more':Bool}(mode:Int)(hb:53<zA4 X)(hb':53<zA4 X')(hq:E+zA4 X=E'+zA4 X')
 (h:∀k k' j:Nat,1≤k→1≤k'→E+(k:Int)=E'+(k':Int)→cxX X more k j=cxX X' more' k' j):zCg s X E more mode=zCg s X' E' more' mode:=by
 have hr:rlg X E=rlg X' E':=by unfold rlg;omega
 obtain⟨q,hqq⟩:∃q,q=max (rlg X' E'-52) (-1074):=⟨_,rfl⟩;have h1:E+1≤q:=by rw[hqq,←hr];unfold rlg;omega
 have h2:E'+1≤q:=by rw[hqq];unfold rlg;omega
 have k1:1≤(q-E).toNat:=j0
 have k2:1≤(q-E').toNat:=j0
 have k3:q=E+((q-E).toNat:Int):=j0
 have k4:q=E'+((q-E').toNat:Int):=j0
 unfold zCg zNp;rw[hr,←hqq,zJg s X E more q (q-E).toNat k1 k3 mode,zJg s X' E' more' q (q-E').toNat k2 k4 mode,
  zMJ s k1 k2 (fun j=>h _ _ j k1 k2 j0) mode]
theorem zHF(s:Bool){A B k i:Nat}(E:Int)(mode:Int)(hB:0<B)(hb:53<zA4 (A*2^k/B)):zCg s (A*2^(k+i)/B) (E-((k+i:Nat):Int)) (decide (A*2^(k+i)%B≠0)) mode=zCg s (A*2^k/B) (E-(k:Nat)) (decide (A*2^k%B≠0)) mode:=by
 have hg:=@zOQ A B k i;have hl1:zA4 (A*2^(k+i)/B)=zA4 (A*2^k/B)+i:=by
  have hl:=@zFs (A*2^(k+i)/B) i;rw[hg]at hl;exact hl j0
 refine zFP s mode (by rw[hl1];omega) hb (by rw[hl1];omega) fun a b j ha hb2 hab=>?_;rw[zNH hB rfl rfl,zNH hB rfl rfl];refine zCq (p:=1) (q:=2^i) ja (Nat.pow_pos ja) ?_ ?_
 · rw[Nat.mul_one,Nat.pow_add,Nat.mul_assoc]
 · have e:a-1=(b-1)+i:=j0;rw[e,Nat.pow_add];simp only[Nat.mul_one];ac_rfl
theorem zLf(s:Bool){A B k k':Nat}(E:Int)(mode:Int)(hB:0<B)(hb:53<zA4 (A*2^k/B))(hb':53<zA4 (A*2^k'/B)):zCg s (A*2^k/B) (E-(k:Nat)) (decide (A*2^k%B≠0)) mode=zCg s (A*2^k'/B) (E-(k':Nat)) (decide (A*2^k'%B≠0)) mode:=by
 rcases Nat.le_total k k' with h | h
 · obtain⟨i,rfl⟩:∃i,k'=k+i:=⟨k'-k,j0⟩;exact(zHF s E mode hB hb).symm
 · obtain⟨i,rfl⟩:∃i,k=k'+i:=⟨k-k',j0⟩;exact zHF s E mode hB hb'
theorem zLe(M i:Nat)(E:Int)(mode:Int)(hb:53<zA4 (isq M)):zCg false (isq (M*2^(2*i))) (E-(i:Nat)) (decide (isq (M*2^(2*i))*isq (M*2^(2*i))≠M*2^(2*i))) mode=zCg false (isq M) E (decide (isq M*isq M≠M)) mode:=by
 have hg:=zPh M i;have hl1:zA4 (isq (M*2^(2*i)))=zA4 (isq M)+i:=by
  have hl:=@zFs (isq (M*2^(2*i))) i;rw[hg]at hl;exact hl j0
 refine zFP false mode j0 hb j0 fun a b j ha hb2 hab=>?_;rw[zK9,zK9];refine zCq (p:=1) (q:=2^(2*i)) ja (Nat.pow_pos ja) (by rw[Nat.mul_one]) ?_;have e:a-1=(b-1)+i:=j0
 have e2:2^(2*i)=2^i*2^i:=by rw[←Nat.pow_add];congr 1;omega
 rw[e,Nat.pow_add,e2];simp only[Nat.mul_one];ac_rfl
theorem zIt{m k k':Nat}(e:Int)(mode:Int)(h1:(e-(k:Nat))%2=0)(h2:(e-(k':Nat))%2=0)(hb:53<zA4 (isq (m*2^k)))(hb':53<zA4 (isq (m*2^k'))):zCg false (isq (m*2^k)) ((e-(k:Nat))/2) (decide (isq (m*2^k)*isq (m*2^k)≠m*2^k)) mode=zCg false (isq (m*2^k')) ((e-(k':Nat))/2) (decide (isq (m*2^k')*isq (m*2^k')≠m*2^k')) mode:=by
 have key:∀(a b:Nat),a≤b→(e-(a:Nat))%2=0→(e-(b:Nat))%2=0→53<zA4 (isq (m*2^a)) →
  zCg false (isq (m*2^b)) ((e-(b:Nat))/2) (decide (isq (m*2^b)*isq (m*2^b)≠m*2^b)) mode=zCg false (isq (m*2^a)) ((e-(a:Nat))/2) (decide (isq (m*2^a)*isq (m*2^a)≠m*2^a)) mode:=by
  intro a b hab ha hb' hbl;obtain⟨i,rfl⟩:∃i,b=a+2*i:=⟨(b-a)/2,j0⟩;have h:=zLe (m*2^a) i ((e-(a:Nat))/2) mode hbl;have e1:m*2^(a+2*i)=m*2^a*2^(2*i):=by rw[Nat.pow_add,Nat.mul_assoc]
  have e2:(e-((a+2*i:Nat):Int))/2=(e-(a:Nat))/2-(i:Nat):=j0
  rw[e1,e2];exact h
 rcases Nat.le_total k k' with h | h
 · exact(key k k' h h1 h2 hb).symm
 · exact key k' k h h2 h1 hb'
end Go.Proofs.YtmbkgapknoammaaGreatDoor

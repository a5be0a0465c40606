/-
  Plain law: numbers as lists of limbs of 32 bits. No program in sight.
  dig x i: limb i of x. nl x: how many limbs x has (none if x is zero). zD1: one limb put in another's place.
  Plain law: the number of bits, the number of zeros at the end. No program in sight.
  How numbers lie in memory: a slice of limbs that reads as a number (Mag); a row of limbs of the call's own (Row, Acc). No program in sight.
-/
import Derived.Test.YtmbkgapknoammaaGreatDoorZuAU
import Derived.WalkKit
import Derived.Lib.Hide
import Derived.Deep.QuietTactic
import Derived.Laws.CopyOwn
namespace Sp
def B:Nat:=4294967296
theorem zAX:B=4294967296:=rfl
theorem zCZ:0<B:=ja
theorem zQ0:B=2^32:=ja
theorem zAo(n:Nat):0<B^n:=Nat.pow_pos zCZ
theorem zA9(n:Nat):B^(n+1)=B^n*B:=Nat.pow_succ ..
theorem zBt{m n:Nat}(h:m≤n):B^m≤B^n:=Nat.pow_le_pow_right zCZ h
theorem zAw(m n:Nat):B^(m+n)=B^m*B^n:=Nat.pow_add ..
def dig(x i:Nat):Nat:=x/B^i%B
theorem zA5(x i:Nat):dig x i<4294967296:=Nat.mod_lt _ zCZ
theorem zDc(i:Nat):dig 0 i=0:=by simp[dig]
theorem zAJ{x n i:Nat}(h:x<B^n)(hi:n≤i):dig x i=0:=by
 unfold dig;rw[Nat.div_eq_of_lt (Nat.lt_of_lt_of_le h (zBt hi))];rfl
theorem zAi(x n:Nat):x%B^(n+1)=x%B^n+dig x n*B^n:=by
 rw[zA9,Nat.mod_mul,Nat.mul_comm];rfl
theorem zA8{x n:Nat}(h:x<B^n):x%B^n=x:=Nat.mod_eq_of_lt h
theorem zAE(x n:Nat):x%B^n<B^n:=Nat.mod_lt _ (zAo n)
theorem zAe(x:Nat):x%B^0=0:=by simp[Nat.mod_one]
theorem zFl{x n i:Nat}(h:i<n):dig (x%B^n) i=dig x i:=by
 unfold dig;obtain⟨k,rfl⟩:∃k,n=i+(k+1):=⟨n-i-1,j0⟩;rw[zAw,Nat.mod_mul_right_div_self,zA9,Nat.mul_comm (B^k) B,Nat.mod_mul_right_mod]
theorem zD0(x i:Nat):x=x%B^i+dig x i*B^i+x/B^(i+1)*B^(i+1):=by
 have h:=Nat.div_add_mod x (B^(i+1));rw[zAi,Nat.mul_comm]at h;omega
theorem zEo{l d h i:Nat}(hl:l<B^i)(hd:d<B):dig (l+d*B^i+h*B^(i+1)) i=d:=by
 unfold dig;have e:l+d*B^i+h*B^(i+1)=l+(d+h*B)*B^i:=by
  rw[zA9,Nat.add_mul,Nat.mul_assoc,Nat.mul_comm B (B^i),Nat.add_assoc]
 rw[e,Nat.add_mul_div_right _ _ (zAo i),Nat.div_eq_of_lt hl,Nat.zero_add,Nat.add_mul_mod_self_right,Nat.mod_eq_of_lt hd]
theorem zNB{l h i k:Nat}(hk:k<i):dig (l+h*B^i) k=dig l k:=by
 rw[←zFl (x:=l+h*B^i) hk,Nat.add_mul_mod_self_right,zFl hk]
theorem zDk{l h i k:Nat}(hl:l<B^i):dig (l+h*B^i) (i+k)=dig h k:=by
 unfold dig;rw[zAw,←Nat.div_div_eq_div_mul,Nat.add_mul_div_right _ _ (zAo i),Nat.div_eq_of_lt hl,Nat.zero_add]
def zD1(x i d:Nat):Nat:=x%B^i+d*B^i+x/B^(i+1)*B^(i+1)
theorem zBn(x i d:Nat):zD1 x i d+dig x i*B^i=x+d*B^i:=by
 have:=zD0 x i;unfold zD1;omega
theorem zDK(x i d:Nat)(hd:d<B):dig (zD1 x i d) i=d:=zEo (zAE x i) hd
theorem zCe{x i d k:Nat}(hd:d<B)(hk:k≠i):dig (zD1 x i d) k=dig x k:=by
 rcases Nat.lt_or_gt_of_ne hk with h | h
 · have e:zD1 x i d=x%B^i+(d+x/B^(i+1)*B)*B^i:=by
    unfold zD1;rw[zA9,Nat.add_mul,Nat.mul_assoc,Nat.mul_comm B (B^i),Nat.add_assoc]
   rw[e,zNB h,zFl h]
 · obtain⟨j,rfl⟩:∃j,k=(i+1)+j:=⟨k-i-1,j0⟩;have hl:x%B^i+d*B^i<B^(i+1):=by
    rw[zA9];have h1:=zAE x i;have h2:(d+1)*B^i≤B*B^i:=Nat.mul_le_mul_right _ hd;rw[Nat.add_mul,Nat.one_mul,Nat.mul_comm B]at h2;omega
   have hx:=zD0 x i;have hl':x%B^i+dig x i*B^i<B^(i+1):=(by rw[←zAi];exact zAE x (i+1));unfold zD1;rw[zDk hl]
   conv=>rhs;rw[hx]
   rw[zDk hl']
theorem zCL{x i d n:Nat}(hd:d<B)(hi:i<n)(hx:x<B^n):zD1 x i d<B^n:=by
 have hl:x%B^i+d*B^i<B^(i+1):=by
  rw[zA9];have h1:=zAE x i;have h2:(d+1)*B^i≤B*B^i:=Nat.mul_le_mul_right _ hd;rw[Nat.add_mul,Nat.one_mul,Nat.mul_comm B]at h2;omega
 obtain⟨j,rfl⟩:∃j,n=(i+1)+j:=⟨n-i-1,j0⟩;have hq:x/B^(i+1)<B^j:=by
  rw[Nat.div_lt_iff_lt_mul (zAo _),Nat.mul_comm,←zAw];exact hx
 have:(x/B^(i+1)+1)*B^(i+1)≤B^j*B^(i+1):=Nat.mul_le_mul_right _ hq;rw[Nat.add_mul,Nat.one_mul,Nat.mul_comm (B^j),←zAw]at this;unfold zD1;omega
theorem zKE{Z i:Nat}(h:Z<B^i):dig Z i=0:=zAJ h (Nat.le_refl i)
theorem zKD{Z i d s q:Nat}(e:q=0)(t:s+q*B^i=Z+d*B^i):s=Z+d*B^i:=by
 subst e;simpa using t
theorem zDu{Z i d:Nat}(h:Z<B^i):zD1 Z i d=Z+d*B^i:=
 zKD (zKE h) (zBn Z i d)
theorem zDW{L W o k d:Nat}(hL:L<B^o):zD1 (L+W*B^o) (o+k) d=L+zD1 W k d*B^o:=by
 have h1:=zBn (L+W*B^o) (o+k) d;have h2:=zBn W k d;rw[zDk hL]at h1;generalize zD1 (L+W*B^o) (o+k) d=x at *;generalize zD1 W k d=y at *;generalize dig W k=t at *;rw[zAw]at h1;have e1:y*B^o+t*(B^o*B^k)=(y+t*B^k)*B^o:=by generalize B^o=p;generalize B^k=q;grind
 have e2:W*B^o+d*(B^o*B^k)=(W+d*B^k)*B^o:=by generalize B^o=p;generalize B^k=q;grind
 rw[h2]at e1;omega
def nl(x:Nat):Nat:=if x=0 then 0 else x.log2/32+1
theorem zIl:nl 0=0:=rfl
theorem zBz{x:Nat}(h:0<x):0<nl x:=by unfold nl;rw[if_neg j0];omega
theorem zB6(n:Nat):B^n=2^(32*n):=by rw[zQ0,←Nat.pow_mul]
theorem zFy(x:Nat):x<B^nl x:=by
 rcases Nat.eq_zero_or_pos x with h | h
 · subst h;simp[nl]
 · unfold nl;rw[if_neg j0,zB6];refine Nat.lt_of_lt_of_le (Nat.lt_log2_self (n:=x)) (Nat.pow_le_pow_right j0 ?_);omega
theorem zL2{x:Nat}(h:0<x):B^(nl x-1)≤x:=by
 unfold nl;rw[if_neg j0,zB6];refine Nat.le_trans (Nat.pow_le_pow_right j0 ?_) (Nat.log2_self_le j0);omega
theorem zAH{x n:Nat}(h:x<B^n):nl x≤n:=by
 rcases Nat.eq_zero_or_pos x with h' | h'
 · subst h';simp[nl]
 · have h1:=zL2 h';have h2:B^(nl x-1)<B^n:=Nat.lt_of_le_of_lt h1 h;have:=(Nat.pow_lt_pow_iff_right (a:=B) ja).1 h2;omega
theorem zSq{x n:Nat}(h:x<B^(n+1))(h':B^n≤x):nl x=n+1:=by
 have h1:=zAH h;have h2:B^n<B^nl x:=Nat.lt_of_le_of_lt h' (zFy x);have:=(Nat.pow_lt_pow_iff_right (a:=B) ja).1 h2;omega
theorem zAN{x y:Nat}(h:x≤y):nl x≤nl y:=zAH (Nat.lt_of_le_of_lt h (zFy y))
theorem zCc{x k:Nat}(h:x<B^(k+1))(hd:dig x k=0):x<B^k:=by
 have e:=zAi x k;rw[zA8 h,hd,Nat.zero_mul,Nat.add_zero]at e;rw[e];exact zAE x k
theorem zHt{x k:Nat}(h:x<B^(k+1))(hd:dig x k≠0):nl x=k+1:=by
 apply zSq h;have e:=zAi x k;rw[zA8 h]at e;have:1*B^k≤dig x k*B^k:=Nat.mul_le_mul_right _ j0;have h0:0≤x%B^k:=Nat.zero_le _;generalize x%B^k=u at *;omega
theorem zIE{x:Nat}(h:0<x):dig x (nl x-1)≠0:=by
 intro hd;have hn:=zBz h;obtain⟨k,hk⟩:∃k,nl x=k+1:=⟨nl x-1,j0⟩;have hl:=zFy x;rw[hk]at hl;rw[hk,Nat.add_sub_cancel]at hd;have:=zAH (zCc hl hd);omega
def car(x y k:Nat):Nat:=(x%B^k+y%B^k)/B^k
theorem zDd(x y:Nat):car x y 0=0:=by simp[car,Nat.mod_one]
theorem zC9(x y k:Nat):car x y k≤1:=by
 unfold car;have h1:=zAE x k;have h2:=zAE y k;have:(x%B^k+y%B^k)/B^k<2:=by
  rw[Nat.div_lt_iff_lt_mul (zAo k)];omega
 omega
theorem zC8(x y k:Nat):car x y (k+1)=(dig x k+dig y k+car x y k)/B:=by
 unfold car;rw[zAi,zAi,zA9,←Nat.div_div_eq_div_mul];congr 1;rw[show x%B^k+dig x k*B^k+(y%B^k+dig y k*B^k)=x%B^k+y%B^k+(dig x k+dig y k)*B^k by rw[Nat.add_mul];omega];rw[Nat.add_mul_div_right _ _ (zAo k),Nat.add_comm]
theorem zCB(x y k:Nat):dig (x+y) k=(dig x k+dig y k+car x y k)%B:=by
 unfold car;have hx:=zD0 x k;have hy:=zD0 y k;have e:x+y=(x%B^k+y%B^k)+(dig x k+dig y k)*B^k+(x/B^(k+1)+y/B^(k+1))*B^(k+1):=by
  rw[Nat.add_mul,Nat.add_mul];omega
 have d1:dig (x+y) k=((x+y)/B^k)%B:=rfl;rw[d1,e,zA9,←Nat.mul_assoc,Nat.mul_right_comm,Nat.add_assoc,←Nat.add_mul,Nat.add_mul_div_right _ _ (zAo k)];rw[←Nat.add_assoc,Nat.add_mul_mod_self_right,Nat.add_comm]
theorem add_lt{x y n m:Nat}(hx:x<B^n)(hy:y<B^m)(h:m≤n):x+y<B^(n+1):=by
 have:=zBt h;have h2:2*B^n≤B*B^n:=Nat.mul_le_mul_right _ ja;rw[zA9,Nat.mul_comm (B^n)];omega
theorem zIM{x y n:Nat}(hx:x<B^n)(hy:y<B^n):dig (x+y) n=car x y n:=by
 rw[zCB,zAJ hx (Nat.le_refl _),zAJ hy (Nat.le_refl _),Nat.zero_add,Nat.mod_eq_of_lt];have:=zC9 x y n;have:1<B:=ja
 omega
theorem zG6(y d k:Nat):((dig d k:Nat):Int)=((dig (y+d) k:Int)-car y d k-dig y k)%4294967296 ∧
 ((car y d (k+1):Nat):Int)=if(dig (y+d) k:Int)-car y d k-dig y k<0 then 1 else 0:=by
 have h1:=zCB y d k;have h2:=zC8 y d k;have h3:=zC9 y d k;have h4:=zA5 d k;have h5:=zA5 y k;have h6:=zA5 (y+d) k;rw[zAX]at h1 h2;constructor
 · exact j0
 · exact QV
theorem zBN{z Z k:Nat}(h:Z=z%B^k):zD1 Z k (dig z k)=z%B^(k+1):=by
 rw[zAi,←h];exact zDu (by rw[h];exact zAE z k)
theorem zP3{b Z z x0 xi y0 yj c t P Pi Pj:Nat}(hP:P=Pi*Pj)(hinv:Z+c*P=x0+xi*y0*Pi)(ht:t=xi*yj+z+c){Z':Nat}(hz:Z'+z*P=Z+t%b*P):Z'+t/b*(P*b)=x0+xi*(y0+yj*Pj)*Pi:=by
 have h:=Nat.div_add_mod t b;generalize t/b=q at *;generalize t%b=r at *;subst hP;have:Z'+z*(Pi*Pj)+q*(Pi*Pj*b)=Z+t*(Pi*Pj):=by rw[hz,←h];grind
 have h2:(xi*yj+z+c)*(Pi*Pj)=xi*yj*(Pi*Pj)+z*(Pi*Pj)+c*(Pi*Pj):=by grind
 rw[ht,h2]at this;have h3:xi*(y0+yj*Pj)*Pi=xi*y0*Pi+xi*yj*(Pi*Pj):=by grind
 rw[h3];generalize z*(Pi*Pj)=u1 at *;generalize c*(Pi*Pj)=u2 at *;generalize xi*yj*(Pi*Pj)=u3 at *;omega
theorem zHx{x y k q Z cc T:Nat}(hT:T=dig x k*dig y q+dig Z (k+q)+cc)(hinv:Z+cc*B^(k+q)=x%B^k*y+dig x k*(y%B^q)*B^k):zD1 Z (k+q) (T%B)+T/B*B^(k+(q+1))=x%B^k*y+dig x k*(y%B^(q+1))*B^k:=by
 rw[zAi y q,show k+(q+1)=(k+q)+1 from rfl,zA9];exact zP3 (zAw k q) hinv hT (zBn Z (k+q) (T%B))
theorem zMH{x y k Z cc m:Nat}(hy:y<B^m)(hinv:Z+cc*B^(k+m)=x%B^k*y+dig x k*(y%B^m)*B^k)(hZ:Z<B^(k+m)):zD1 Z (k+m) cc=x%B^(k+1)*y:=by
 rw[zDu hZ,hinv,zA8 hy,zAi,Nat.add_mul,Nat.mul_right_comm]
theorem zDC{x y z c:Nat}(hx:x<4294967296)(hy:y<4294967296)(hz:z<4294967296)(hc:c<4294967296):x*y+z+c<18446744073709551616∧x*y≤18446744065119617025:=by
 have h:∀m:Nat,x≤m→y≤m→x*y≤m*m:=fun m a b=>Nat.mul_le_mul a b;have h:=h 4294967295 j0 j0;have e:(4294967295:Nat)*4294967295=18446744065119617025:=jz
 rw[e]at h;omega
theorem zB9(s:Nat):2^s=2^(s%32)*B^(s/32):=by
 rw[zB6,←Nat.pow_add,show s%32+32*(s/32)=s by omega]
theorem pow_part{s:Nat} :2^(s%32)*2^(32-s%32)=B:=by
 rw[←Nat.pow_add,zQ0,show s%32+(32-s%32)=32 by omega]
theorem zEl{z u p:Nat}(hz:z<2^p)(hu:2^p ∣ u):z ||| u=z+u:=by
 obtain⟨c,rfl⟩:=hu;rw[Nat.or_comm,←Nat.two_pow_add_eq_or_of_lt hz,Nat.add_comm]
theorem zEv{x k s Z:Nat}(hZ:Z=x%B^k*2^s):dig Z (s/32+k)<2^(s%32)∧Z<B^(s/32+k+1):=by
 have h1:=zAE x k;have e:Z=x%B^k*2^(s%32)*B^(s/32):=by rw[hZ,zB9 s,Nat.mul_assoc]
 have h2:x%B^k*2^(s%32)<2^(s%32)*B^k:=by
  rw[Nat.mul_comm (2^(s%32))];exact Nat.mul_lt_mul_of_pos_right h1 (Nat.pow_pos j0)
 have h3:2^(s%32)≤B:=by
  rw[zQ0];exact Nat.pow_le_pow_right j0 j0
 constructor
 · unfold dig;rw[e,zAw,←Nat.div_div_eq_div_mul,Nat.mul_div_cancel _ (zAo _)];refine Nat.lt_of_le_of_lt (Nat.mod_le _ _) ?_;rw[Nat.div_lt_iff_lt_mul (zAo k)];exact h2
 · rw[e,zA9,zAw,Nat.mul_assoc (B^(s/32)),Nat.mul_comm (B^(s/32))];refine Nat.mul_lt_mul_of_pos_right (Nat.lt_of_lt_of_le h2 ?_) (zAo _);rw[Nat.mul_comm];exact Nat.mul_le_mul_left _ h3
theorem zG2{x k s:Nat} :dig x k*2^(s%32)<18446744073709551616∧dig x k*2^(s%32)/B<4294967296∧2^(s%32) ∣ dig x k*2^(s%32)%B:=by
 have h1:=zA5 x k;have h3:2^(s%32)≤2147483648:=Nat.pow_le_pow_right (n:=2) j0 (show s%32≤31 by omega);have h4:dig x k*2^(s%32)≤4294967295*2147483648:=Nat.mul_le_mul j0 h3;refine⟨j0,?_,?_⟩
 · exact Q9
 · refine(Nat.dvd_mod_iff ?_).2 ⟨dig x k,Nat.mul_comm _ _⟩;exact⟨_,pow_part.symm⟩
theorem zOi{x k s Z:Nat}(hZ:Z=x%B^k*2^s):dig Z (s/32+k)+dig x k*2^(s%32)%B<4294967296 ∧
 zD1 (zD1 Z (s/32+k) (dig Z (s/32+k)+dig x k*2^(s%32)%B)) (s/32+k+1) (dig x k*2^(s%32)/B)=x%B^(k+1)*2^s:=by
 obtain⟨h1,h2⟩:=zEv hZ;obtain⟨h3,h4,c,h5⟩:=zG2 (x:=x) (k:=k) (s:=s);have hb:dig x k*2^(s%32)%B<4294967296:=Nat.mod_lt _ zCZ;have hsum:dig Z (s/32+k)+dig x k*2^(s%32)%B<4294967296:=by
  have hp:=pow_part (s:=s);have hc:c<2^(32-s%32):=by
   rcases Nat.lt_or_ge c (2^(32-s%32))with h | h
   · exact h
   · have:=Nat.mul_le_mul_left (2^(s%32)) h;rw[hp,←h5,zAX]at this;omega
  have:2^(s%32)*(c+1)≤2^(s%32)*2^(32-s%32):=Nat.mul_le_mul_left _ hc;rw[hp,Nat.mul_add,←h5]at this;generalize dig x k*2^(s%32)%B=r at *;rw[zAX]at this;omega
 refine⟨hsum,?_⟩;rw[zDu (zCL hsum j0 h2)];have v:=zBn Z (s/32+k) (dig Z (s/32+k)+dig x k*2^(s%32)%B);have m:=Nat.div_add_mod (dig x k*2^(s%32)) B;have e:x%B^(k+1)*2^s=Z+dig x k*2^(s%32)*B^(s/32+k):=by
  rw[zAi,Nat.add_mul,←hZ,zAw,zB9 s];grind
 rw[e,zA9];generalize dig x k*2^(s%32)/B=q at *;generalize dig x k*2^(s%32)%B=r at *;rw[←m];generalize zD1 Z (s/32+k) (dig Z (s/32+k)+r)=S at *;generalize B^(s/32+k)=P at *;generalize B=b at *;rw[Nat.add_mul]at v;have:q*(P*b)=b*q*P:=by grind
 rw[this,Nat.add_mul];omega
theorem zKz{X q x0 d b:Nat}(hd:0<d)(e:X=q*b+x0):X%d=(q%d*b+x0)%d∧X/d=q/d*b+(q%d*b+x0)/d:=by
 have h:=Nat.div_add_mod q d;generalize q/d=k at *;generalize q%d=r at *;have e2:X=r*b+x0+d*(k*b):=by rw[e,←h];grind
 constructor
 · rw[e2,Nat.add_mul_mod_self_left]
 · rw[e2,Nat.add_mul_div_left _ _ hd];omega
theorem zKA{r d b x0:Nat}(hr:r<d)(hx:x0<b):(r*b+x0)/d<b:=by
 rw[Nat.div_lt_iff_lt_mul j0];have:(r+1)*b≤d*b:=Nat.mul_le_mul_right _ hr;rw[Nat.add_mul,Nat.one_mul]at this;rw[Nat.mul_comm b];omega
theorem zNA(Q j:Nat):dig (Q*B^(j+1)) j=0:=by
 have:=zEo (l:=0) (d:=0) (h:=Q) (i:=j) (zAo j) zCZ;simpa using this
theorem zDV{Q j v:Nat} :zD1 (Q*B^(j+1)) j v=(Q*B+v)*B^j:=by
 have h:=zBn (Q*B^(j+1)) j v;rw[zNA,Nat.zero_mul,Nat.add_zero]at h;rw[h,zA9,Nat.add_mul,Nat.mul_comm (B^j),Nat.mul_assoc]
theorem zQY(x s:Nat):x%2^s=x%B^(s/32)+dig x (s/32)%2^(s%32)*B^(s/32):=by
 rw[zB9 s,Nat.mul_comm (2^(s%32)),Nat.mod_mul,Nat.mul_comm (B^(s/32))];unfold dig;rw[Nat.mod_mod_of_dvd _ ⟨_,pow_part.symm⟩]
theorem zGt(x s:Nat):x%2^s≠0↔x%B^(s/32)≠0∨dig x (s/32)%2^(s%32)≠0:=by
 rw[zQY];have hp:=zAo (s/32);constructor
 · intro h
   by_cases h1:x%B^(s/32)=0
   · refine .inr fun h2=>h ?_;rw[h1,h2,Nat.zero_mul]
   · exact .inl h1
 · rintro h h0;obtain⟨ha,hb⟩:=Nat.add_eq_zero_iff.1 h0;rcases h with h | h
   · exact h ha
   · rcases Nat.mul_eq_zero.1 hb with h' | h'
     · exact h h'
     · exact j0
theorem zDr(x s i:Nat):dig (x/2^s) i=(dig x (s/32+i)+dig x (s/32+i+1)*B)/2^(s%32)%B:=by
 have h1:x/2^s/B^i=x/B^(s/32+i)/2^(s%32):=by
  rw[Nat.div_div_eq_div_mul,Nat.div_div_eq_div_mul,zB9 s,zAw];congr 1;grind
 have h2:(dig x (s/32+i)+dig x (s/32+i+1)*B)=x/B^(s/32+i)%B^2:=by
  have:=zAi (x/B^(s/32+i)) 1;rw[Nat.pow_one]at this;rw[show(2:Nat)=1+1 from rfl,this];unfold dig;rw[Nat.pow_one,Nat.div_div_eq_div_mul,←zA9]
 unfold dig at h2 ⊢;rw[h1,h2];generalize x/B^(s/32+i)=y;have hp:=pow_part (s:=s);have e:B^2=2^(s%32)*(B*2^(32-s%32)):=by
  rw[Nat.pow_two];conv=>lhs;lhs;rw[←hp]
  grind
 rw[e,Nat.mod_mul_right_div_self,Nat.mod_mul_right_mod]
def zAq(m n:Int):Int:=if m<n then -1 else if n<m then 1 else 0
theorem zAS{m n:Int}(h:m<n):zAq m n= -1:=by unfold zAq;rw[if_pos h]
theorem zAW{m n:Int}(h:n<m):zAq m n=1:=by unfold zAq;rw[if_neg j0,if_pos h]
theorem zCf{m n:Int}(h:m=n):zAq m n=0:=by unfold zAq;rw[if_neg j0,if_neg j0]
theorem zC0{m n:Int}(h:n≤m):0≤zAq m n:=by unfold zAq;rw[if_neg j0];split <;> decide
theorem zJz{x y:Nat}(h:nl x<nl y):x<y:=by
 rcases Nat.lt_or_ge x y with h' | h'
 · exact h'
 · have:=zAN h';omega
theorem zQo{x y:Nat}(h:nl x≠nl y):zAq (nl x) (nl y)=zAq x y:=by
 rcases Nat.lt_or_gt_of_ne h with h | h
 · have:=zJz h;rw[zAS j0,zAS j0]
 · have:=zJz h;rw[zAW j0,zAW j0]
theorem zDJ(x j:Nat):x/B^j=x/B^(j+1)*B+dig x j:=by
 rw[zA9,←Nat.div_div_eq_div_mul];have:=Nat.div_add_mod (x/B^j) B;unfold dig;rw[Nat.mul_comm];omega
theorem zHz{x y j:Nat}(h:x/B^j<y/B^j):x<y:=by
 rcases Nat.lt_or_ge x y with h' | h'
 · exact h'
 · have:=Nat.div_le_div_right (c:=B^j) h';omega
theorem zNR{x y j:Nat}(h:x/B^(j+1)=y/B^(j+1))(hd:dig x j≠dig y j):zAq (dig x j) (dig y j)=zAq x y:=by
 have ex:=zDJ x j;have ey:=zDJ y j;rw[h]at ex;rcases Nat.lt_or_gt_of_ne hd with h' | h'
 · have:x<y:=zHz (j:=j) j0;rw[zAS j0,zAS j0]
 · have:y<x:=zHz (j:=j) j0;rw[zAW j0,zAW j0]
theorem zNx{x y j:Nat}(h:x/B^(j+1)=y/B^(j+1))(hd:dig x j=dig y j):x/B^j=y/B^j:=by
 rw[zDJ x j,zDJ y j,h,hd]
end Sp
namespace Sp
def zA4(x:Nat):Nat:=if x=0 then 0 else x.log2+1
theorem zAz(x:Nat):x<2^zA4 x:=by
 unfold zA4;split
 · subst_vars;decide
 · exact Nat.lt_log2_self
theorem zAT{x:Nat}(h:0<x):2^(zA4 x-1)≤x:=by
 unfold zA4;rw[if_neg j0];exact Nat.log2_self_le j0
theorem zCE{x:Nat}(h:0<x):0<zA4 x:=by unfold zA4;rw[if_neg j0];omega
theorem zAC{x n:Nat}(h:x<2^n):zA4 x≤n:=by
 rcases Nat.eq_zero_or_pos x with h' | h'
 · subst h';simp[zA4]
 · have h1:=zAT h';have h2:2^(zA4 x-1)<2^n:=Nat.lt_of_le_of_lt h1 h;have:=(Nat.pow_lt_pow_iff_right (a:=2) ja).1 h2;omega
theorem zNY{x n:Nat}(h:x<2^(n+1))(h':2^n≤x):zA4 x=n+1:=by
 have h1:=zAC h;have h2:2^n<2^zA4 x:=Nat.lt_of_le_of_lt h' (zAz x);have:=(Nat.pow_lt_pow_iff_right (a:=2) ja).1 h2;omega
theorem zBC{x y:Nat}(h:x≤y):zA4 x≤zA4 y:=zAC (Nat.lt_of_le_of_lt h (zAz y))
theorem zMS{x n:Nat}(h:2^n≤x):n<zA4 x:=by
 have h2:2^n<2^zA4 x:=Nat.lt_of_le_of_lt h (zAz x);exact(Nat.pow_lt_pow_iff_right (a:=2) ja).1 h2
theorem zAc{x:Nat}(h:0<x)(k:Nat):zA4 (x*2^k)=zA4 x+k:=by
 have h1:=zAz x;have h2:=zAT h;have h3:=zCE h;have:zA4 (x*2^k)=(zA4 x-1+k)+1:=by
  apply zNY
  · rw[show zA4 x-1+k+1=zA4 x+k by omega,Nat.pow_add];exact Nat.mul_lt_mul_of_pos_right h1 (Nat.pow_pos ja)
  · rw[Nat.pow_add];exact Nat.mul_le_mul_right _ h2
 omega
theorem zGM{x:Nat}(h:0<x):zA4 x=(nl x-1)*32+zA4 (dig x (nl x-1)):=by
 have hn:=zBz h;obtain⟨k,hk⟩:∃k,nl x=k+1:=⟨nl x-1,j0⟩;have hx:=zFy x;have ht:=zIE h;rw[hk]at hx ht ⊢;rw[Nat.add_sub_cancel]at ht ⊢;have e:=zAi x k;rw[zA8 hx]at e;have hl:=zAE x k;generalize dig x k=d at *;generalize x%B^k=l at *;have h1:=zAz d;have h2:=zAT (Nat.pos_of_ne_zero ht);have h3:=zCE (Nat.pos_of_ne_zero ht);have:zA4 x=(k*32+(zA4 d-1))+1:=by
  apply zNY
  · rw[show k*32+(zA4 d-1)+1=zA4 d+32*k by omega,Nat.pow_add,←zB6];have:(d+1)*B^k≤2^zA4 d*B^k:=Nat.mul_le_mul_right _ h1;rw[Nat.add_mul,Nat.one_mul]at this;omega
  · rw[show k*32+(zA4 d-1)=(zA4 d-1)+32*k by omega,Nat.pow_add,←zB6,e];have:2^(zA4 d-1)*B^k≤d*B^k:=Nat.mul_le_mul_right _ h2;omega
 omega
theorem zHu{a r x:Nat}(hr:r*r≤a)(hx:0<x):r≤(x+a/x)/2:=by
 have h0:=Nat.zero_le (a/x);have:2*r≤x+a/x:=by
  rcases Nat.lt_or_ge (2*r) x with h | h
  · exact j0
  · have h1:2*r-x≤a/x:=by
     rw[Nat.le_div_iff_mul_le hx];refine Nat.le_trans ?_ hr;obtain⟨k,hk⟩:∃k,2*r=x+k:=⟨2*r-x,j0⟩;have e:2*r-x=k:=j0;rw[e];rcases Nat.le_total r x with h2 | h2
     · obtain⟨d,rfl⟩:∃d,x=r+d:=⟨x-r,j0⟩;obtain⟨f,rfl⟩:∃f,r=k+f:=⟨d,j0⟩;obtain rfl:f=d:=j0;grind
     · obtain⟨d,rfl⟩:∃d,r=x+d:=⟨r-x,j0⟩;obtain rfl:k=x+2*d:=j0;grind
    omega
 omega
theorem zF3{a r x:Nat}(hr:a<(r+1)*(r+1))(hrx:r≤x)(hx:0<x)(hs:x≤(x+a/x)/2):x=r:=by
 have h1:x≤a/x:=j0
 rw[Nat.le_div_iff_mul_le hx]at h1;rcases Nat.lt_or_ge r x with h | h
 · have:(r+1)*(r+1)≤x*x:=Nat.mul_le_mul h h;omega
 · exact j0
theorem zKK{a r:Nat}(hr:r*r≤a):r≤2^((zA4 a+1)/2):=by
 rcases Nat.lt_or_ge (2^((zA4 a+1)/2)) r with h | h
 · exfalso;have h1:=zAz a;have h2:2^zA4 a≤2^((zA4 a+1)/2)*2^((zA4 a+1)/2):=by
    rw[←Nat.pow_add];exact Nat.pow_le_pow_right ja j0
   have h3:=Nat.mul_le_mul (Nat.le_of_lt h) (Nat.le_of_lt h);omega
 · exact h
def tzf:Nat→Nat→Nat
 | 0,_=>0
 | n+1,x=>if x%2=1∨x=0 then 0 else tzf n (x/2)+1
def tz(x:Nat):Nat:=tzf x x
theorem zIY:∀(n x:Nat),0<x→x≤n→∃m,x=2^tzf n x*(2*m+1)
 | 0,x,h,h'=>j0
 | n+1,x,h,h'=>by
  unfold tzf
  by_cases hx:x%2=1∨x=0
  · rw[if_pos hx];exact⟨x/2,j0⟩
  · rw[if_neg hx];obtain⟨m,hm⟩:=zIY n (x/2) j0 j0;refine⟨m,?_⟩;rw[Nat.pow_succ,Nat.mul_comm (2^_) 2,Nat.mul_assoc,←hm];omega
theorem zDl{x:Nat}(h:0<x):∃m,x=2^tz x*(2*m+1):=zIY x x h (Nat.le_refl _)
theorem zJr:∀(j k m n:Nat),2^j*(2*m+1)=2^k*(2*n+1)→j=k
 | 0,0,_,_,_=>rfl
 | 0,k+1,m,n,h=>by rw[Nat.pow_succ,Nat.mul_comm (2^k) 2,Nat.mul_assoc]at h;omega
 | j+1,0,m,n,h=>by rw[Nat.pow_succ,Nat.mul_comm (2^j) 2,Nat.mul_assoc]at h;omega
 | j+1,k+1,m,n,h=>by
  rw[Nat.pow_succ,Nat.mul_comm (2^j) 2,Nat.mul_assoc,Nat.pow_succ,Nat.mul_comm (2^k) 2,Nat.mul_assoc]at h;have:=zJr j k m n j0;omega
theorem zQy{x k m:Nat}(h:x=2^k*(2*m+1)):tz x=k:=by
 have hx:0<x:=by rw[h];exact Nat.mul_pos (Nat.pow_pos ja) j0
 obtain⟨n,hn⟩:=zDl hx;rw[hn]at h;exact zJr _ _ _ _ h
theorem zLy{x:Nat}(h:0<x):2^tz x ∣ x:=by obtain⟨m,hm⟩:=zDl h;exact⟨_,hm⟩
theorem zEN{x:Nat}(h:0<x):2^tz x≤x:=Nat.le_of_dvd h (zLy h)
theorem zKu{x:Nat}(h:0<x):tz x<zA4 x:=zMS (zEN h)
theorem zLx{x:Nat}(h:x%2=1):tz x=0:=zQy (m:=x/2) j0
theorem zMw{x:Nat}(h:0<x):x/2^tz x%2=1:=by
 obtain⟨m,hm⟩:=zDl h;have:x/2^tz x=2*m+1:=by
  conv=>lhs;lhs;rw[hm]
  exact Nat.mul_div_cancel_left _ (Nat.pow_pos ja)
 omega
theorem zKt{x:Nat}(h:0<x)(k:Nat):tz (x*2^k)=tz x+k:=by
 obtain⟨m,hm⟩:=zDl h;refine zQy (m:=m) ?_
 conv=>lhs;rw[hm]
 rw[Nat.pow_add];grind
theorem zQ1{x k:Nat}(h:x%B^k=0)(hd:dig x k≠0):tz x=k*32+tz (dig x k):=by
 obtain⟨m,hm⟩:=zDl (Nat.pos_of_ne_zero hd);have hs:=zD0 x k;rw[h,Nat.zero_add]at hs;have hlt:tz (dig x k)<32:=by
  have h1:=zEN (Nat.pos_of_ne_zero hd);have h2:=zA5 x k;have:2^tz (dig x k)<2^32:=j0
  exact(Nat.pow_lt_pow_iff_right (a:=2) ja).1 this
 generalize dig x k=d at *;generalize x/B^(k+1)=q at *;generalize tz d=t at *;refine zQy (m:=m+q*2^(31-t)) ?_;have hB:B=2^t*(2*2^(31-t)):=by
  rw[←Nat.pow_succ',←Nat.pow_add,zQ0];congr 1;omega
 rw[hs,hm,Nat.pow_add 2 (k*32) t,Nat.mul_comm k 32,←zB6,zA9];generalize B^k=P;generalize B=b at *;subst hB;generalize 2^t=u;generalize 2^(31-t)=v;grind
theorem zO5(n m:Nat)(h:m<2^n):m &&& (2^n-(m+1))=0:=by
 apply Nat.eq_of_testBit_eq;intro i;rw[Nat.testBit_and,Nat.testBit_two_pow_sub_succ h]
 cases m.testBit i <;> simp
theorem zIk(a b:Nat)(h:a &&& b=0):(2*a+1) &&& (2*b+1)=1:=by
 apply Nat.eq_of_testBit_eq;intro i;rw[Nat.testBit_and]
 cases i with
 | zero=>simp[Nat.testBit_zero,Nat.add_mod]
 | succ i=>
  have h':=congrArg (fun z=>z.testBit i) h;simp only[Nat.testBit_and,Nat.zero_testBit]at h';rw[Nat.testBit_succ,Nat.testBit_succ,Nat.testBit_succ,show(2*a+1)/2=a by omega,show(2*b+1)/2=b by omega,h'];simp
theorem zLL(k a b:Nat):(2^k*a) &&& (2^k*b)=2^k*(a &&& b):=by
 apply Nat.eq_of_testBit_eq;intro i;rw[Nat.testBit_and,Nat.testBit_two_pow_mul,Nat.testBit_two_pow_mul,Nat.testBit_two_pow_mul,Nat.testBit_and]
 cases decide (k≤i) <;> simp
theorem zIR{x:Nat}(h:0<x)(hx:x<4294967296):x &&& (4294967296-x)=2^tz x∧tz x<32:=by
 obtain⟨m,hm⟩:=zDl h;have hlt:tz x<32:=by
  have h1:=zEN h;have:2^tz x<2^32:=j0
  exact(Nat.pow_lt_pow_iff_right (a:=2) ja).1 this
 refine⟨?_,hlt⟩;generalize tz x=k at *;have e1:(4294967296:Nat)=2^k*(2*2^(31-k)):=by
  rw[←Nat.pow_succ',←Nat.pow_add,show k+(31-k).succ=32 by omega]
 have hm2:m<2^(31-k):=by
  have:2^k*(2*m+1)<2^k*(2*2^(31-k)):=by rw[←hm,←e1];exact hx
  have:=Nat.lt_of_mul_lt_mul_left this;omega
 have e2:4294967296-x=2^k*(2*(2^(31-k)-(m+1))+1):=by
  rw[hm,e1,←Nat.mul_sub];congr 1;omega
 rw[e2,hm,zLL,zIk _ _ (zO5 _ _ hm2),Nat.mul_one]
end Sp
namespace Sp
open Go Go.RowKit
def ab(a:Option Addr):Nat:=(a.getD default).block
def ao(a:Option Addr):Nat:=(a.getD default).off
theorem zAF(b o:Nat):ab (some ⟨b,o,none⟩)=b:=rfl
theorem zB8(b o:Nat):ao (some ⟨b,o,none⟩)=o:=rfl
structure Mag(w:World)(a:Option Addr)(n cap x:Nat):Prop where
 lt:x<B^n
 fits:n≤cap
 lim:cap≤9223372036854775807
 addr:0<n→a=some ⟨ab a,ao a,none⟩
 cell:∀i,i<n→w.cell? ⟨ab a,ao a+i,none⟩=some (.int .u32 (dig x i))
 old:0<n→ab a<w.heap.size
theorem Mag.nil(w:World):Mag w none 0 0 0:=⟨jz,Nat.le_refl _,j0,j0,j0,j0⟩
theorem Mag.empty(w:World)(a:Option Addr)(cap:Nat)(h:cap≤9223372036854775807):Mag w a 0 cap 0:=⟨jz,Nat.zero_le _,h,j0,j0,j0⟩
theorem Mag.zero{w:World}{a:Option Addr}{cap x:Nat}(h:Mag w a 0 cap x):x=0:=by
 have:=h.lt;simp at this;exact this
theorem Mag.below{w w':World}{a:Option Addr}{n cap x:Nat}(h:Mag w a n cap x)(hb:Below w.heap.size w w'):Mag w' a n cap x:=
 ⟨h.lt,h.fits,h.lim,h.addr,fun i hi=>jN,fun hn=>Nat.lt_of_lt_of_le (h.old hn) hb.size⟩
theorem Mag.below'{B':Nat}{w w':World}{a:Option Addr}{n cap x:Nat}(h:Mag w a n cap x)(hb:Below B' w w')(hl:0<n→ab a<B'):Mag w' a n cap x:=
 ⟨h.lt,h.fits,h.lim,h.addr,fun i hi=>by rw[hb.cell (p:=⟨ab a,ao a+i,none⟩) (hl j0)];exact h.cell i hi,fun hn=>Nat.lt_of_lt_of_le (h.old hn) hb.size⟩
theorem Mag.idx{P:Program}{w:World}{a:Option Addr}{n cap x:Nat}(h:Mag w a n cap x)(t:TypeId)(hu:P.underlying t=some (.slice (P.elem t)))
 (hs:∀w,(Go.sizeOf (P.elem t)).run P w=.ok 1 w) (i:Nat) (hi:i<n) (w':World) :
 (Instr.indexAt t (.slice a n cap) (.int .i64 i)).run P w'=.ok (.pointer (some ⟨ab a,ao a+i,none⟩)) w':=by
 have ha:=h.addr j0;generalize ab a=b at *;generalize ao a=o at *;subst ha;rw[run_indexAt_slice _ _ _ _ _ _ _ hu,if_pos ⟨j0,j0⟩,hs];simp only[Result.andThen,Int.toNat_natCast,Nat.mul_one,Addr.add_lit]
theorem Mag.idx'{P:Program}{w:World}{a:Option Addr}{n cap x:Nat}(h:Mag w a n cap x)(t:TypeId)(hu:P.underlying t=some (.slice (P.elem t)))
 (hs:∀w,(Go.sizeOf (P.elem t)).run P w=.ok 1 w) (i:Nat) (hi:i<n) (j:Int) (hj:j=i) (w':World) :
 (Instr.indexAt t (.slice a n cap) (.int .i64 j)).run P w'=.ok (.pointer (some ⟨ab a,ao a+i,none⟩)) w':=by
 subst hj;exact h.idx t hu hs i hi w'
theorem Mag.take{w:World}{a:Option Addr}{n cap x:Nat}(h:Mag w a n cap x)(i:Nat)(hi:i≤n):Mag w a i cap (x%B^i):=
 ⟨zAE x i,Nat.le_trans hi h.fits,h.lim,fun h0=>h.addr j0,fun j hj=>by rw[zFl hj];exact h.cell j j0,fun h0=>h.old j0⟩
theorem Mag.trim{w:World}{a:Option Addr}{n cap x:Nat}(h:Mag w a n cap x):Mag w a (nl x) cap x:=by
 have hn:=zAH h.lt;exact⟨zFy x,Nat.le_trans hn h.fits,h.lim,fun h0=>h.addr j0,fun i hi=>h.cell i j0,fun h0=>h.old j0⟩
def zCX(w:World)(z:Nat)(e:Ending)(w':World):Prop:=
 ∃a cap,e=.returned (.slice a (nl z) cap)∧Mag w' a (nl z) cap z∧Below w.heap.size w w'∧(0<nl z→w.heap.size≤ab a)
theorem nl0{g:Nat}{a:Option Addr} :0<nl 0→g≤ab a:=fun h=>absurd h ja
structure Row(w:World)(g n:Nat)(e:TypeId)(z:Nat):Prop where
 lt:z<B^n
 lim:n≤9223372036854775807
 row:∃cur:Array Value,w.heap[g]? =some (.cells cur e (0,0))∧cur.size=n∧∀i,i<n→cur[i]? =some (.int .u32 (dig z i))
theorem Row.old{w:World}{g n:Nat}{e:TypeId}{z:Nat}(h:Row w g n e z):g<w.heap.size:=by
 obtain⟨cur,hc,_⟩:=h.row;exact(Array.getElem?_eq_some_iff.1 hc).1
theorem Row.cell{w:World}{g n:Nat}{e:TypeId}{z:Nat}(h:Row w g n e z)(i:Nat)(hi:i<n):w.cell? ⟨g,i,none⟩=some (.int .u32 (dig z i)):=by
 obtain⟨cur,hc,hs,hd⟩:=h.row;rw[cell_of_row w g i cur e (0,0) hc];exact hd i hi
theorem Row.free{w:World}{g n:Nat}{e:TypeId}{z:Nat}(h:Row w g n e z)(i:Nat):w.frozen? ⟨g,i,none⟩=false:=by
 obtain⟨cur,hc,hs,hd⟩:=h.row;exact frozen_of_row w g i cur e hc
theorem Row.store{w:World}{g n:Nat}{e:TypeId}{z:Nat}(h:Row w g n e z)(i d:Nat)(hi:i<n)(hd:d<4294967296):Row (w.setCell ⟨g,i,none⟩ (.int .u32 d)) g n e (zD1 z i d):=by
 obtain⟨cur,hc,hs,hdig⟩:=h.row;refine⟨zCL hd hi h.lt,h.lim,cur.setIfInBounds i (.int .u32 d),heap_setCell_same w g i cur e _ hc,by simpa using hs,fun k hk=>?_⟩
 by_cases hki:k=i
 · subst hki;rw[zDK _ _ _ hd];simp[hs,hk]
 · exact Qb
theorem Row.below{B':Nat}{w w':World}{g n:Nat}{e:TypeId}{z:Nat}(h:Row w g n e z)(hb:Below B' w w')(hg:g<B'):Row w' g n e z:=by
 obtain⟨cur,hc,hs,hd⟩:=h.row;exact⟨h.lt,h.lim,cur,by rw[hb.block g hg];exact hc,hs,hd⟩
theorem Row.mag{w:World}{g n:Nat}{e:TypeId}{z:Nat}(h:Row w g n e z):Mag w (some ⟨g,0,none⟩) n n z:=
 ⟨h.lt,Nat.le_refl _,h.lim,fun _=>rfl,fun i hi=>by rw[zAF,zB8,Nat.zero_add];exact h.cell i hi,fun _=>h.old⟩
theorem Row.made(w:World)(n:Nat)(e:TypeId)(hn:n≤9223372036854775807):Row (w.alloc (.cells (madeCells #[.int .u32 0] n) e)) w.heap.size n e 0:=by
 refine⟨zAo n,hn,_,heap_alloc_new w _,size_madeCells _ _,fun i hi=>?_⟩;rw[zDc];have:=toList_madeCells_one (.int .u32 0) n;rw[←Array.getElem?_toList,this];simp[hi]
def zDq(z k:Nat):List Value:=(List.range k).map fun i=>.int .u32 (dig z i)
theorem zAB(z k:Nat):(zDq z k).length=k:=by simp[zDq]
theorem zNy(z k:Nat):zDq z (k+1)=zDq z k++ [.int .u32 (dig z k)]:=by simp[zDq,List.range_succ]
theorem zDb{z k i:Nat}(h:i<k):(zDq z k)[i]? =some (.int .u32 (dig z i)):=by simp[zDq,h]
theorem zAU{w:World}{base:Nat}{e:TypeId}{v:Value}{n z:Nat}(h:w.ownsRow base e 1 v n (zDq z n))(hz:z<B^n):∃a cap,v=.slice a n cap∧Mag w a n cap z∧(0<n→base≤ab a):=by
 rcases h.2 with⟨rfl,rfl⟩ | ⟨g,cap,cur,rfl,hbg,hg,hnc,hcm,hcs,htake⟩
 · have:z=0:=Qh;subst this;exact⟨none,0,rfl,Mag.nil w,j0⟩
 · refine⟨some ⟨g,0,none⟩,cap,rfl,⟨hz,hnc,by simp only[maxLen]at hcm;omega,fun _=>rfl,fun i hi=>?_,fun _=>(Array.getElem?_eq_some_iff.1 hg).1⟩,fun _=>hbg⟩;rw[zAF,zB8,Nat.zero_add,cell_of_row w g i cur e (0,0) hg];have h1:(zDq z n)[i]? =some (.int .u32 (dig z i)):=zDb hi;rw[←htake,List.getElem?_take,if_pos j0]at h1;simpa using h1
section
variable {P:Program}{f:FuncId}{args:Array Value}{w:World}{v:Value}
theorem may(h:Calls P f args w fun e w'=>e=.returned v∧w=w'):Calls P f args w fun e w'=>e=.returned v∧∃m,w'=w.drewN m:=
 h.mono fun _ _ ⟨he,hw⟩=>⟨he,0,hw.symm⟩
theorem zDy{n:Nat}(h:Calls P f args (w.drewN n) fun e w'=>e=.returned v∧∃m,w'=(w.drewN n).drewN m):Calls P f args (w.drewN n) fun e w'=>e=.returned v∧∃m,w'=w.drewN m:=
 h.mono fun _ _ ⟨he,m,hm⟩=>⟨he,n+m,by rw[hm,World.drewN_drewN]⟩
theorem zGi{a n:Nat}(h:Calls P f args (w.drewN (a+n)) fun e w'=>e=.returned v∧∃m,w'=(w.drewN (a+n)).drewN m):Calls P f args (w.drewN (a+n)) fun e w'=>e=.returned v∧∃m,w'=w.drewN (a+m):=
 h.mono fun _ _ ⟨he,m,hm⟩=>⟨he,n+m,by rw[hm,World.drewN_drewN,Nat.add_assoc]⟩
end
theorem Mag.drewN{w:World}{a:Option Addr}{n cap x:Nat}(h:Mag w a n cap x)(q:Nat):Mag (w.drewN q) a n cap x:=
 ⟨h.lt,h.fits,h.lim,h.addr,h.cell,h.old⟩
theorem zHZ{d:Nat}(h:((d:Int)==0)=true):d=0:=KT
theorem zFX{d:Nat}(h:((d:Int)==0)=false):d≠0:=KT
@[go_sem] theorem zTu (n:Int):Go.bits .and .u64 n 4294967295=n%4294967296:=by
 have h1:(BitVec.ofInt 64 4294967295).toNat=4294967295:=ja
 have h2:(BitVec.ofInt 64 n).toNat=(n%18446744073709551616).toNat:=Qi
 have h3:(n%18446744073709551616).toNat &&& 4294967295=(n%18446744073709551616).toNat%4294967296:=Nat.and_two_pow_sub_one_eq_mod _ 32;show IntKind.u64.wrap ((BitVec.ofInt 64 n &&& BitVec.ofInt 64 4294967295).toNat:Int)=_;rw[BitVec.toNat_and,h1,h2,h3,IntKind.wrap_u64];omega
@[go_sem] theorem zTt (n:Int):Go.bits .and .u64 n 1=n%2:=by
 have h1:(BitVec.ofInt 64 1).toNat=1:=ja
 have h2:(BitVec.ofInt 64 n).toNat=(n%18446744073709551616).toNat:=Qi
 have h3:(n%18446744073709551616).toNat &&& 1=(n%18446744073709551616).toNat%2:=Nat.and_two_pow_sub_one_eq_mod _ 1;show IntKind.u64.wrap ((BitVec.ofInt 64 n &&& BitVec.ofInt 64 1).toNat:Int)=_;rw[BitVec.toNat_and,h1,h2,h3,IntKind.wrap_u64];omega
theorem zG5(x y d k:Nat)(h:y+d=x):IntKind.u64.wrap (IntKind.u64.wrap ((dig x k:Int)-(car y d k:Nat))-(dig y k:Nat))%4294967296=((dig d k:Nat):Int) ∧
 IntKind.u64.wrap (IntKind.u64.wrap ((dig x k:Int)-(car y d k:Nat))-(dig y k:Nat))/4294967296%2=((car y d (k+1):Nat):Int):=by
 subst h;obtain⟨h1,h2⟩:=zG6 y d k;have h3:=zC9 y d k;have h5:=zA5 y k;have h6:=zA5 (y+d) k;simp only[IntKind.wrap_u64];rw[h1,h2];constructor
 · exact j0
 · exact QV
theorem zGZ(x y d k:Nat)(h:y+d=x)(h0:dig y k=0):IntKind.u64.wrap ((dig x k:Int)-(car y d k:Nat))%4294967296=((dig d k:Nat):Int) ∧
 IntKind.u64.wrap ((dig x k:Int)-(car y d k:Nat))/4294967296%2=((car y d (k+1):Nat):Int):=by
 subst h;obtain⟨h1,h2⟩:=zG6 y d k;have h3:=zC9 y d k;have h6:=zA5 (y+d) k;rw[h0]at h1 h2;simp only[IntKind.wrap_u64];rw[h1,h2];constructor
 · exact j0
 · exact QV
theorem zBy{t:Nat}(h:t<18446744073709551616):IntKind.u64.wrap (t:Int)=t:=jG
theorem zOh{x k s Z:Nat}(hZ:Z=x%B^k*2^s):Go.bits .or .u32 (dig Z (s/32+k):Nat) (IntKind.u64.wrap ((dig x k:Nat)*2^(s%32))%4294967296)=((dig Z (s/32+k)+dig x k*2^(s%32)%B:Nat):Int) ∧
 IntKind.u64.wrap ((dig x k:Nat)*2^(s%32))/4294967296%4294967296=((dig x k*2^(s%32)/B:Nat):Int):=by
 obtain⟨h1,h2⟩:=zEv hZ;obtain⟨h3,h4,h5⟩:=zG2 (x:=x) (k:=k) (s:=s);have e:((dig x k:Nat):Int)*2^(s%32)=((dig x k*2^(s%32):Nat):Int):=jz
 rw[e,zBy h3];have hr:dig x k*2^(s%32)%B<4294967296:=Nat.mod_lt _ zCZ;have e2:((dig x k*2^(s%32):Nat):Int)%4294967296=((dig x k*2^(s%32)%B:Nat):Int):=by rw[zAX];rfl
 constructor
 · rw[e2,u32_or_nat _ _ (zA5 _ _) hr,zEl h1 h5]
 · have e3:((dig x k*2^(s%32):Nat):Int)/4294967296=((dig x k*2^(s%32)/B:Nat):Int):=(by rw[zAX];rfl);rw[e3];omega
theorem zEz(p:Nat):((2^p:Nat):Int)=(2:Int)^p:=jz
theorem zJB{d p:Nat}(hd:d<4294967296)(hp:p<32):Go.bits .and .u32 (d:Int) ((2^p-1)%4294967296)=((d%2^p:Nat):Int):=by
 have h1:2^p≤2147483648:=Nat.pow_le_pow_right (n:=2) j0 (show p≤31 by omega);have h2:0<2^p:=Nat.pow_pos ja;have e:((2:Int)^p-1)%4294967296=((2^p-1:Nat):Int):=by rw[←zEz];omega
 rw[e,u32_and_nat _ _ hd j0,Nat.and_two_pow_sub_one_eq_mod]
theorem zFj(x s k:Nat):Go.bits .or .u64 (dig x (s/32+k):Nat) ((dig x (s/32+k+1):Nat)*4294967296)/2^(s%32)%4294967296=((dig (x/2^s) k:Nat):Int):=by
 have h1:=zA5 x (s/32+k);have h2:=zA5 x (s/32+k+1);have e:((dig x (s/32+k+1):Nat):Int)*4294967296=((4294967296*dig x (s/32+k+1):Nat):Int):=jq
 have e2:dig x (s/32+k) ||| 4294967296*dig x (s/32+k+1)=dig x (s/32+k)+4294967296*dig x (s/32+k+1):=
  zEl (p:=32) h1 ⟨_,rfl⟩
 rw[e,u64_or_nat _ _ j0 j0,e2,zDr,←zEz,zAX,Nat.mul_comm 4294967296];rfl
theorem zEc(x s k:Nat)(h:dig x (s/32+k+1)=0):((dig x (s/32+k):Nat):Int)/2^(s%32)%4294967296=((dig (x/2^s) k:Nat):Int):=by
 rw[zDr,h,←zEz,zAX,Nat.zero_mul,Nat.add_zero];rfl
theorem zGq{r d:Nat}(hr:r<4294967296)(hd:d<4294967296):Go.bits .or .u64 ((r:Int)*4294967296) (d:Int)=(r:Int)*4294967296+d:=by
 have e:((r:Nat):Int)*4294967296=((4294967296*r:Nat):Int):=jq
 have e2:d ||| 4294967296*r=d+4294967296*r:=zEl (p:=32) hd ⟨_,rfl⟩
 rw[e,u64_or_nat _ _ j0 j0,Nat.or_comm,e2];simp;omega
theorem zI6{r d t:Nat}(hq:(r*B+t)/d<B):((r:Int)*4294967296+t)%d=(((r*B+t)%d:Nat):Int)∧((r:Int)*4294967296+t)/d%4294967296=(((r*B+t)/d:Nat):Int):=by
 have e:((r:Nat):Int)*4294967296+t=((r*B+t:Nat):Int):=by rw[zAX];simp
 rw[e];refine⟨rfl,?_⟩;have:((r*B+t:Nat):Int)/(d:Int)=(((r*B+t)/d:Nat):Int):=rfl;rw[this];generalize (r*B+t)/d=q at *;rw[zAX]at hq;omega
theorem zIU{t r s:Int}(ht0:0≤t)(ht:t<4294967296)(hr0:0≤r)(hr:r<4294967296)(hs0:0≤s)(hs:s≤1):IntKind.u64.wrap (IntKind.u64.wrap (t-r)-s)%4294967296=(t-r-s)%4294967296∧IntKind.u64.wrap (IntKind.u64.wrap (t-r)-s)/4294967296%2=if t-r-s<0 then 1 else 0:=by
 simp only[IntKind.wrap_u64];constructor
 · exact j0
 · exact QV
theorem zCP(w:World)(g:Nat):w.grownBy w (some g):=⟨rfl,rfl,rfl,Nat.le_refl _,fun _ _ _=>rfl⟩
theorem zBO{a b c:World}{g:Nat}(h:a.grownBy b (some g))(k:b.grownBy c (some g)):a.grownBy c (some g):=
 ⟨k.os.trans h.os,k.tape.trans h.tape,k.output.trans h.output,Nat.le_trans h.size k.size,fun i hi hn=>(k.block i (Nat.lt_of_lt_of_le hi h.size) hn).trans (h.block i hi hn)⟩
theorem zFK{a w:World}{g:Nat}(h:a.grownBy w (some g))(n:Nat):a.grownBy (w.drewN n) (some g):=⟨h.os,h.tape,h.output,h.size,h.block⟩
theorem zBK{a w:World}{g:Nat}(h:a.grownBy w (some g))(i:Nat)(u:Value):a.grownBy (w.setCell ⟨g,i,none⟩ u) (some g):=
 zBO h ⟨rfl,rfl,rfl,by simp[World.setCell],fun k _ hk=>Below.heap_setCell _ _ _ _ (fun e=>hk (by rw[e]))⟩
theorem Mag.only{w w':World}{a:Option Addr}{n cap x g:Nat}(h:Mag w a n cap x)(hg:w.grownBy w' (some g))(hne:ab a≠g):Mag w' a n cap x:=
 ⟨h.lt,h.fits,h.lim,h.addr,fun i hi=>by
  rw[World.cell?_of_block (a:=⟨ab a,ao a+i,none⟩) (hg.block (ab a) (h.old j0) (by simpa using hne))];exact h.cell i hi,
  fun hn=>Nat.lt_of_lt_of_le (h.old hn) hg.size⟩
theorem Mag.set{w:World}{a:Option Addr}{n cap x g:Nat}(h:Mag w a n cap x)(hne:0<n→ab a≠g)(i:Nat)(u:Value):Mag (w.setCell ⟨g,i,none⟩ u) a n cap x:=
 ⟨h.lt,h.fits,h.lim,h.addr,fun j hj=>by
  rw[World.cell?_of_block (a:=⟨ab a,ao a+j,none⟩) (Below.heap_setCell _ _ _ _ (hne j0))];exact h.cell j hj,
  fun hn=>by simp only[World.size_setCell];exact h.old hn⟩
theorem Row.drewN{w:World}{g n:Nat}{e:TypeId}{z:Nat}(h:Row w g n e z)(q:Nat):Row (w.drewN q) g n e z:=⟨h.lt,h.lim,h.row⟩
theorem Below.of_only{B':Nat}{a w w':World}{g:Nat}(h:Below B' a w)(hg:w.grownBy w' (some g))(hb:B'≤w.heap.size)(hB:B'≤g):Below B' a w':=
 h.trans ⟨hg.os,hg.tape,hg.output,hg.size,fun k hk=>hg.block k j0 (fun e=>by injection e;omega)⟩
theorem Row.only{w w':World}{g h n:Nat}{e:TypeId}{z:Nat}(hr:Row w h n e z)(hg:w.grownBy w' (some g))(hne:h≠g):Row w' h n e z:=by
 obtain⟨cur,hc,hs,hd⟩:=hr.row;exact⟨hr.lt,hr.lim,cur,by rw[hg.block h hr.old (by simpa using hne)];exact hc,hs,hd⟩
theorem zK7(z k:Nat):∀u∈zDq z k,u.oneCell'=true:=by
 intro u hu;simp only[zDq,List.mem_map]at hu;obtain⟨i,_,rfl⟩:=hu;rfl
theorem Mag.news{w:World}{a:Option Addr}{n cap x:Nat}(h:Mag w a n cap x){ad:Addr}(ha:a=some ad):∀j u,(zDq x n)[j]? =some u→w.cell? (ad.add j)=some u:=by
 intro j u hu;have hj:j<n:=by
  rcases Nat.lt_or_ge j n with h' | h'
  · exact h'
  · rw[List.getElem?_eq_none (by rw[zAB];exact h')]at hu;cases hu
 rw[zDb hj]at hu;have hc:=h.cell j hj;have h2:=h.addr j0;subst ha;injection h2 with h2
 rw[h2,Addr.add_lit,hc];exact hu
theorem zLk{P:Program}{ops:Array Oper}{rest:List Oper}{o:Oper}{a:Act}{Q:Exit→Act→World→Prop}{w:World}(hgd:o.guard=none)(d s:Operand)(t e:TypeId)
 (ho:o.op=.call { callee:=.builtin .copy,args:=#[d,s],argTypes:=#[t,t] }) (hu:P.underlying t=some (.slice e)) (hP:(P.info? e).map (fun i=>(i.zero,i.size,i.bytes))=some (some (.int .u32 0),1,4))
 (g N:Nat) (hd:a.eval d=.slice (some ⟨g,0,none⟩) N N) (ad:Option Addr) (n cap x:Nat) (hs:a.eval s=.slice ad n cap) (hx:Mag w ad n cap x) (hrow:Row w g N e 0) (hn:n≤N) (B':Nat) (w0:World)
 (hb:Below B' w0 w) (hB:B'≤g) (h:∀v w',Row w' g N e x→Below B' w0 w'→wpList P ops Q rest (a.put o.dst v) w'):wpList P ops Q (o::rest) a w:=by
 obtain⟨i0,hi,hz0,hz1,hz2⟩:=info_parts hP;obtain⟨cur,hc,hsz,hdig⟩:=hrow.row;have hmin:Nat.min n N=n:=Nat.min_eq_left hn;refine wpList_copy_splice hgd d s t t ho e hu (by rw[hi];simp[hz1]) _ _ _ _ _ _ hd hs g 0 cur.toList e (by simpa using hc) (zDq x n) (by rw[zAB,hmin]) ?_ (by rw[zAB];simp;omega) (zK7 x n) B' w0 hb hB ?_
 · intro h0;rw[zAB]at h0;refine⟨rfl,⟨ab ad,ao ad,none⟩,hx.addr h0,hx.news (hx.addr h0)⟩
 · intro w' hw' hb';refine h _ w' ⟨?_,hrow.lim,_,hw'.out,?_,?_⟩ hb'
   · exact Nat.lt_of_lt_of_le hx.lt (zBt hn)
   · simp[splice,zAB,hsz];omega
   · intro i hi';simp only[splice,List.take_zero,List.nil_append,Nat.zero_add,zAB];rw[List.getElem?_toArray];rcases Nat.lt_or_ge i n with h' | h'
     · rw[List.getElem?_append_left (by rw[zAB];exact h'),zDb h']
     · rw[List.getElem?_append_right (by rw[zAB];exact h'),zAB,List.getElem?_drop,show n+(i-n)=i by omega,zAJ hx.lt h'];have:=hdig i hi';rw[zDc]at this;simpa using this
theorem Mag.one(w:World)(e:TypeId)(d:Nat)(hd:d<4294967296):Mag (w.alloc (.cells #[.int .u32 d] e)) (some ⟨w.heap.size,0,none⟩) 1 1 d:=by
 refine⟨by rw[Nat.pow_one,zAX];exact hd,Nat.le_refl _,j0,fun _=>rfl,fun i hi=>?_,fun _=>by rw[zAF,World.size_alloc];omega⟩;obtain rfl:i=0:=j0
 rw[zAF,zB8,World.cell?_alloc_new];have:dig d 0=d:=by unfold dig;rw[Nat.pow_zero,Nat.div_one,Nat.mod_eq_of_lt (by rw[zAX];exact hd)]
 rw[this];rfl
theorem Mag.two(w:World)(e:TypeId)(d0 d1:Nat)(h0:d0<4294967296)(h1:d1<4294967296):Mag (w.alloc (.cells #[.int .u32 d0,.int .u32 d1] e)) (some ⟨w.heap.size,0,none⟩) 2 2 (d0+d1*B):=by
 refine⟨?_,Nat.le_refl _,j0,fun _=>rfl,fun i hi=>?_,fun _=>by rw[zAF,World.size_alloc];omega⟩
 · rw[Nat.pow_succ,Nat.pow_one,zAX];omega
 · rw[zAF,zB8,World.cell?_alloc_new];have e0:dig (d0+d1*B) 0=d0:=by
    unfold dig;rw[Nat.pow_zero,Nat.div_one,Nat.add_mul_mod_self_right,Nat.mod_eq_of_lt (by rw[zAX];exact h0)]
   have e1:dig (d0+d1*B) 1=d1:=by
    unfold dig;rw[Nat.pow_one,Nat.add_mul_div_right _ _ zCZ,Nat.div_eq_of_lt (by rw[zAX];exact h0),Nat.zero_add,Nat.mod_eq_of_lt (by rw[zAX];exact h1)]
   rcases(show i=0∨i=1 by omega)with rfl | rfl
   · rw[e0];rfl
   · rw[e1];rfl
theorem zNW{d:Nat}(h:((d:Int) != 0)=true):d≠0:=by rw[bne_iff_ne]at h;omega
theorem zLp{d:Nat}(h:((d:Int) != 0)=false):d=0:=by
 have:¬((d:Int) != 0)=true:=by rw[h];simp
 rw[bne_iff_ne]at this;omega
theorem zKf{d e:Nat}(h:((d:Int) != (e:Int))=true):d≠e:=by rw[bne_iff_ne]at h;omega
theorem zHX{d e:Nat}(h:((d:Int) != (e:Int))=false):d=e:=by
 have:¬((d:Int) != (e:Int))=true:=by rw[h];simp
 rw[bne_iff_ne]at this;omega
section
variable {P:Program}(t e:TypeId)
theorem zJy(hP:(P.info? e).map (fun i=>(i.zero,i.size,i.bytes))=some (some (.int .u32 0),1,4))(ht:P.underlying t=some (.slice e))(c:Int)(h0:0≤c)(hc:c≤4398046511104)(W:World):(Instr.makeSlice t (.int .i64 0) (.int .i64 c)).run P W=.ok (.slice (some ⟨W.heap.size,0,none⟩) 0 c.toNat) (W.alloc (.cells (madeCells #[.int .u32 0] c.toNat) e)):=by
 obtain⟨i0,hi,hz0,hz1,hz2⟩:=info_parts hP;have:=run_make (P:=P) W t e i0 _ ht hi hz0 .i64 .i64 0 c (Int.le_refl _) h0 (by rw[hz2];omega) j0;rw[this,hz1,Nat.mul_one];rfl
theorem zBd(hP:(P.info? e).map (fun i=>(i.zero,i.size,i.bytes))=some (some (.int .u32 0),1,4))(ht:P.underlying t=some (.slice e))(c:Int)(h0:0≤c)(hc:c≤4398046511104)(W:World):(Instr.makeSlice t (.int .i64 c) (.int .i64 c)).run P W=.ok (.slice (some ⟨W.heap.size,0,none⟩) c.toNat c.toNat) (W.alloc (.cells (madeCells #[.int .u32 0] c.toNat) e)):=by
 obtain⟨i0,hi,hz0,hz1,hz2⟩:=info_parts hP;have:=run_make (P:=P) W t e i0 _ ht hi hz0 .i64 .i64 c c h0 (Int.le_refl _) (by rw[hz2];omega) j0;rw[this,hz1,Nat.mul_one];rfl
end
theorem zAt{w w':World}{base:Nat}{e:TypeId}{size:Nat}{v:Value}{n:Nat}{xs:List Value}(h:w.ownsRow base e size v n xs)(hg:w.grownBy w' v.ownBlock)(hb:base≤w.heap.size):Below base w w':=
 (Below.refl _ _).grown hg hb fun k hk=>(h.lt k hk).1
theorem zAK{P:Program}{ops:Array Oper}{rest:List Oper}{o:Oper}{a:Act}{Q:Exit→Act→World→Prop}{w:World}(t e:TypeId)
 (hP:(P.info? e).map (fun i=>(i.zero,i.size,i.bytes))=some (some (.int .u32 0),1,4)) (ht:P.underlying t=some (.slice e)) (hgd:o.guard=none) (s x:Operand)
 (ho:o.op=.call { callee:=.builtin .append,args:=#[s,x],argTypes:=#[t,t] }) (base:Nat) (v:Value) (n z:Nat) (hs:a.eval s=v) (g:Nat) (d:Int)
 (hx:a.eval x=.slice (some ⟨g,0,none⟩) 1 1) (hown:w.ownsRow base e 1 v n (zDq z n)) (hcell:w.cell? ⟨g,0,none⟩=some (.int .u32 d)) (hd:d=dig z n) (hn:n≤4398046511104)
 (hbase:base≤w.heap.size) (h:∀v' w',w'.ownsRow base e 1 v' (n+1) (zDq z (n+1))→Below base w w'→wpList P ops Q rest (a.put o.dst v') w'):wpList P ops Q (o::rest) a w:=by
 obtain⟨i0,hi,hz0,hz1,hz2⟩:=info_parts hP;refine wpList_append_own w hgd s x t ho base e i0 (.int .u32 0) 1 4 ht hi hz0 hz1 hz2 rfl ja v n _ hs hown ⟨g,0,none⟩ 1 1 [.int .u32 d] hx rfl ?_ ?_ ?_ ?_ hbase ?_
 · intro j u hu;have:j=0:=by
    rcases Nat.eq_zero_or_pos j with h | h
    · exact h
    · rw[List.getElem?_eq_none jq]at hu;cases hu
   subst this;simp at hu;subst hu;rw[Addr.add_zero'];exact hcell
 · exact Ks
 · exact jJ
 · exact j0
 · intro v' w' h1 h2 _;refine h v' w' ?_ (zAt hown h2 hbase);rw[zNy,←hd];exact h1
theorem zA6{W w1:World}{n:Nat}(hb:Below n W w1):(∀b o,b<n→w1.cell? ⟨b,o,none⟩=W.cell? ⟨b,o,none⟩)∧(∀b o,b<n→w1.frozen? ⟨b,o,none⟩=W.frozen? ⟨b,o,none⟩):=
 ⟨fun b o h=>hb.cell (p:=⟨b,o,none⟩) h,fun b o h=>hb.frozen (p:=⟨b,o,none⟩) h⟩
class Beh(w w':World):Prop where out:Below w.heap.size w w'
class Abv(w:World)(b:Nat):Prop where out:w.heap.size≤b
instance Beh.rf(w:World):Beh w w:=⟨Below.refl _ _⟩
instance Beh.dr(w w':World)[h:Beh w w']:Beh w w'.drew:=⟨h.out.drew⟩
instance Beh.dn(w w':World)(q:Nat)[h:Beh w w']:Beh w (w'.drewN q):=⟨h.out.trans ⟨rfl,rfl,rfl,Nat.le_refl _,fun _ _=>rfl⟩⟩
instance Beh.al(w w':World)(o:Obj)[h:Beh w w']:Beh w (w'.alloc o):=⟨h.out.alloc h.out.size _⟩
instance Beh.se(w w':World)(b i:Nat)(v:Value)[h:Beh w w'][a:Abv w b]:Beh w (w'.setCell ⟨b,i,none⟩ v):=⟨h.out.setCell a.out _⟩
instance Abv.of(w w':World)[h:Beh w w']:Abv w w'.heap.size:=⟨h.out.size⟩
instance Abv.s(w:World)(b:Nat)[h:Abv w b]:Abv w (b+1):=⟨Nat.le_succ_of_le h.out⟩
theorem zbh{w w':World}[h:Beh w w']:Below w.heap.size w w':=h.out
theorem Mag.on{w w':World}{a:Option Addr}{n cap x:Nat}(h:Mag w a n cap x)[b:Beh w w']:Mag w' a n cap x:=h.below b.out
end Sp

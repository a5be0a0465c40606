/-
  Plain law: Knuth's algorithm D, one limb of a quotient. No program in sight.
  Walk: integer.digit, one limb of a quotient.
  Walks: slices.Clone, integer.divide.
  Walk: integer.root.
-/
import Derived.Test.YtmbkgapknoammaaGreatDoorZuBa
import Derived.Test.YtmbkgapknoammaaGreatDoorZuBb
import Derived.Deep.DeepCutAuto
import Derived.Deep.CutBlock
import Derived.Deep.LoopGhost
set_option maxRecDepth 100000
set_option maxHeartbeats 4000000
namespace Sp
section
variable {b U V top v1 v2 v0 u2 u0 P1 P2 q rest:Nat}
theorem zSJ(hV:v1*P1≤V)(hU:U<(top+1)*P1)(h1:0<v1):U/V≤top/v1:=by
 rw[Nat.le_div_iff_mul_le h1];have h:=Nat.div_mul_le_self U V;have h2:U/V*(v1*P1)≤U/V*V:=Nat.mul_le_mul_left _ hV;have h3:U/V*v1*P1<(top+1)*P1:=by rw[Nat.mul_assoc];omega
 have:=Nat.lt_of_mul_lt_mul_right h3;omega
theorem zRj(hV:V=v1*P1+v2*P2+v0)(hU:U=top*P1+u2*P2+u0)(hu:u0<P2)(hP:P1=b*P2)(hi:q*v1+rest=top)
 (ht:rest*b+u2<q*v2):U/V<q:=by
 have hV0:0<V:=by
  rcases Nat.eq_zero_or_pos V with h | h
  · have:v2*P2=0:=j0;rcases Nat.mul_eq_zero.1 this with h' | h'
    · rw[h']at ht;omega
    · exact j0
  · exact h
 rw[Nat.div_lt_iff_lt_mul hV0,hU,hV];have e:q*(v1*P1+v2*P2+v0)=q*v1*P1+q*v2*P2+q*v0:=by grind
 have h1:(rest*b+u2+1)*P2≤q*v2*P2:=Nat.mul_le_mul_right _ ht;have e1:(rest*b+u2+1)*P2=rest*P1+u2*P2+P2:=by rw[hP];grind
 have e2:top*P1=q*v1*P1+rest*P1:=by rw[←hi,Nat.add_mul]
 rw[e,e2];omega
theorem zPu(hV:V=v1*P1+v2*P2+v0)(hv:v0<P2)(hU:U=top*P1+u2*P2+u0)(hP:P1=b*P2)(h1:0<v1)(hi:q*v1+rest=top)
 (ht:q*v2≤rest*b+u2) (hq:q≤b):q≤U/V+1:=by
 rcases Nat.eq_zero_or_pos q with h0 | h0
 · rw[h0];exact Nat.zero_le _
 have hP2:0<P2:=j0
 have hV1:P1≤v1*P1:=Nat.le_mul_of_pos_left _ h1;have hV0:0<V:=by
  have:0<v1*P1:=Nat.mul_pos h1 (by rw[hP];exact Nat.mul_pos j0 hP2);omega
 obtain⟨p,rfl⟩:∃p,q=p+1:=⟨q-1,j0⟩;have:p≤U/V:=by
  rw[Nat.le_div_iff_mul_le hV0];have e:(p+1)*V=(p+1)*v1*P1+(p+1)*v2*P2+(p+1)*v0:=by rw[hV];grind
  have h2:(p+1)*v2*P2≤(rest*b+u2)*P2:=Nat.mul_le_mul_right _ ht;have e1:(rest*b+u2)*P2=rest*P1+u2*P2:=by rw[hP];grind
  have e2:top*P1=(p+1)*v1*P1+rest*P1:=by rw[←hi,Nat.add_mul]
  have h3:(p+1)*v0≤b*P2:=Nat.le_trans (Nat.mul_le_mul_left _ (Nat.le_of_lt hv)) (Nat.mul_le_mul_right _ hq);rw[←hP]at h3;rw[Nat.add_mul,Nat.one_mul]at e;omega
 omega
end
structure zTx(U V un u1 u2 v1 v2:Nat):Prop where
 dec:∀Q R,Q*v1+R=un*B+u1→R*B+u2<Q*v2→U/V<Q
 exit:∀Q R,Q*v1+R=un*B+u1→Q*v2≤R*B+u2→Q≤B→Q≤U/V+1
 hi:U/V≤(un*B+u1)/v1
 cap:(un*B+u1)/v1≤B+1
 lt:U/V<B
theorem zTk{U V n:Nat}(hn:2≤n)(hV:V<B^n)(hUV:U<V*B)(htop:2147483648≤dig V (n-1)):zTx U V (dig U n) (dig U (n-1)) (dig U (n-2)) (dig V (n-1)) (dig V (n-2)):=by
 obtain⟨m,rfl⟩:∃m,n=m+2:=⟨n-2,j0⟩;have hU:U<B^(m+3):=by
  rw[zA9];exact Nat.lt_of_lt_of_le hUV (Nat.mul_le_mul_right _ (Nat.le_of_lt hV))
 rw[show m+2-1=m+1 from rfl,show m+2-2=m from rfl]at *;have ev:V=dig V (m+1)*B^(m+1)+dig V m*B^m+V%B^m:=by
  conv=>lhs;rw[←zA8 hV]
  rw[zAi,zAi];omega
 have eu:U=(dig U (m+2)*B+dig U (m+1))*B^(m+1)+dig U m*B^m+U%B^m:=by
  conv=>lhs;rw[←zA8 hU]
  rw[zAi,zAi,zAi,zA9 (m+1),Nat.add_mul,Nat.mul_assoc,Nat.mul_comm B];omega
 have hP:B^(m+1)=B*B^m:=by rw[zA9,Nat.mul_comm]
 have hv0:=zAE V m;have hu0:=zAE U m;have hv00:=Nat.zero_le (V%B^m);have hu00:=Nat.zero_le (U%B^m);have hv2:=zA5 V m;have hu2:=zA5 U m;have hu1:=zA5 U (m+1);have hV1:dig V (m+1)*B^(m+1)≤V:=by
  conv=>rhs;rw[ev]
  omega
 have hUt:U<(dig U (m+2)*B+dig U (m+1)+1)*B^(m+1):=by
  have:(dig U m+1)*B^m≤B*B^m:=Nat.mul_le_mul_right _ hu2;rw[←hP,Nat.add_mul,Nat.one_mul]at this;rw[Nat.add_mul _ 1,Nat.one_mul]
  conv=>lhs;rw[eu]
  omega
 have hvt:V<(dig V (m+1)+1)*B^(m+1):=by
  have:(dig V m+1)*B^m≤B*B^m:=Nat.mul_le_mul_right _ hv2;rw[←hP,Nat.add_mul,Nat.one_mul]at this;rw[Nat.add_mul,Nat.one_mul]
  conv=>lhs;rw[ev]
  omega
 have h1:0<dig V (m+1):=j0
 have hV0:0<V:=Nat.lt_of_lt_of_le (Nat.mul_pos h1 (zAo _)) hV1;refine⟨fun Q R hi ht=>zRj ev eu hu0 hP hi ht,fun Q R hi ht hq=>zPu ev hv0 eu hP h1 hi ht hq,zSJ hV1 hUt h1,?_,?_⟩
 · have hun:dig U (m+2)≤dig V (m+1):=by
    have a1:dig U (m+2)*B*B^(m+1)≤U:=by
     conv=>rhs;rw[eu,Nat.add_mul]
     omega
    have a2:V*B≤(dig V (m+1)+1)*B^(m+1)*B:=Nat.mul_le_mul_right _ (Nat.le_of_lt hvt);have a3:dig U (m+2)*(B*B^(m+1))<(dig V (m+1)+1)*(B*B^(m+1)):=by
     have:(dig V (m+1)+1)*B^(m+1)*B=(dig V (m+1)+1)*(B*B^(m+1)):=(by rw[Nat.mul_assoc,Nat.mul_comm (B^(m+1))]);rw[←Nat.mul_assoc];omega
    have:=Nat.lt_of_mul_lt_mul_right a3;omega
   have:(dig U (m+2)*B+dig U (m+1))/dig V (m+1)<B+2:=by
    rw[Nat.div_lt_iff_lt_mul h1,zAX];omega
   omega
 · rw[Nat.div_lt_iff_lt_mul hV0,Nat.mul_comm];exact hUV
theorem zLD{b q P W U Vl x c s p t W':Nat}{T:Int}(hinv:W+q*Vl=U+(c+s)*P)(hp:p=q*x+c)(hT:T=(t:Int)-(p%b:Nat)-s)
 (hW:(W':Int)+t*P=W+(T%b)*P) (hs:s≤1) (ht:t<b) {s':Nat} (hs':(s':Int)=if T<0 then 1 else 0) :
 W'+q*(Vl+x*P)=U+(p/b+s')*(P*b):=by
 have hpb:=Nat.div_add_mod p b;have hmod:p%b<b:=Nat.mod_lt _ j0;have hTb:T%b=T+s'*b:=by
  rw[hs']
  split
  · rw[show T+1*(b:Int)=T+b by omega];rw[←Int.add_emod_right,Int.emod_eq_of_lt j0 j0]
  · rw[Int.emod_eq_of_lt j0 j0];omega
 rw[hTb,hT]at hW;generalize p/b=k at *;generalize p%b=r at *;have h1:((W+q*Vl:Nat):Int)=((U+(c+s)*P:Nat):Int):=by rw[hinv]
 have h2:((b*k+r:Nat):Int)=((q*x+c:Nat):Int):=by rw[hpb,hp]
 apply Int.ofNat_inj.1;simp only[Int.natCast_add,Int.natCast_mul]at *;have e3:(r:Int)=q*x+c-b*k:=j0
 rw[e3]at hW;grind
theorem zKw{b q x c:Nat}(hq:q≤b)(hx:x<b)(hc:c<b):q*x+c<b*b∧(q*x+c)/b<b:=by
 have h1:q*x≤b*(b-1):=Nat.mul_le_mul hq j0;have h2:b*(b-1)=b*b-b:=by rw[Nat.mul_sub,Nat.mul_one]
 have h3:b≤b*b:=Nat.le_mul_of_pos_left _ j0;have h4:q*x+c<b*b:=j0
 exact⟨h4,by rw[Nat.div_lt_iff_lt_mul j0];exact h4⟩
theorem zLE{n q W U V un c s:Nat}(hW:W<B^(n+1))(hWn:dig W n=un)(hinv:W+q*V=U+(c+s)*B^n):(un<c+s↔U<q*V):=by
 have e:=zAi W n;rw[zA8 hW,hWn]at e;have hl:=zAE W n;have h0:=Nat.zero_le (W%B^n);generalize W%B^n=l at *;constructor
 · intro h;have:(un+1)*B^n≤(c+s)*B^n:=Nat.mul_le_mul_right _ h;rw[Nat.add_mul,Nat.one_mul]at this;omega
 · intro h;rcases Nat.lt_or_ge un (c+s)with h' | h'
   · exact h'
   · have:(c+s)*B^n≤un*B^n:=Nat.mul_le_mul_right _ h';omega
theorem zLG{n q W U V un c s W':Nat}(hinv:W+q*V=U+(c+s)*B^n)(h:c+s≤un)(hW':W'+un*B^n=W+(un-(c+s))*B^n)
 (hq:U/V≤q) (hle:q*V≤U) (hV:0<V):q=U/V∧W'=U%V:=by
 have hq2:q≤U/V:=(Nat.le_div_iff_mul_le hV).2 hle;have hqe:q=U/V:=j0
 refine⟨hqe,?_⟩;have e:(un-(c+s))*B^n+(c+s)*B^n=un*B^n:=by rw[←Nat.add_mul];congr 1;omega
 have hm:=Nat.div_add_mod U V;rw[←hqe,Nat.mul_comm]at hm;omega
theorem zLH{n q W U V un c s W' S cc dd:Nat}(hinv:W+q*V=U+(c+s)*B^n)(hdd:dd+(c+s)=un+B)(hW':W'+un*B^n=W+dd*B^n)
 (hq:q≤U/V+1) (hgt:U<q*V) (hV:0<V) (hVn:V<B^n) (hS:S+cc*B^n=W'+V) (hSn:S<B^(n+1)) :
 q=U/V+1∧zD1 S n ((dig S n+cc)%B)=U%V:=by
 have hqe:q=U/V+1:=by
  rcases Nat.lt_or_ge (U/V) q with h' | h'
  · exact j0
  · exfalso;have:=(Nat.le_div_iff_mul_le hV).1 h';omega
 refine⟨hqe,?_⟩;have hm:=Nat.div_add_mod U V;have hr:=Nat.mod_lt U hV;have e:dd*B^n+(c+s)*B^n=un*B^n+B*B^n:=by rw[←Nat.add_mul,←Nat.add_mul,hdd]
 have e2:q*V=V*(U/V)+V:=by rw[hqe,Nat.add_mul,Nat.one_mul,Nat.mul_comm]
 have e3:S+cc*B^n=U%V+B*B^n:=j0
 have hs:=zAi S n;rw[zA8 hSn]at hs;have hl:=zAE S n;have hl0:=Nat.zero_le (S%B^n);have v:=zBn S n ((dig S n+cc)%B);have hd:=zA5 S n;generalize zD1 S n ((dig S n+cc)%B)=T at *;generalize dig S n=d at *;generalize S%B^n=l at *;generalize U%V=r at *
 -- d + cc is B: then the last limb is 0
 have hdc:d+cc=B:=by
  have hP:=zAo n;have e4:l+(d+cc)*B^n=r+B*B^n:=by rw[Nat.add_mul];omega
  rcases Nat.lt_trichotomy (d+cc) B with h1 | h1 | h1
  · have:(d+cc+1)*B^n≤B*B^n:=Nat.mul_le_mul_right _ h1;rw[Nat.add_mul _ 1,Nat.one_mul]at this;omega
  · exact h1
  · have:(B+1)*B^n≤(d+cc)*B^n:=Nat.mul_le_mul_right _ h1;rw[Nat.add_mul _ 1,Nat.one_mul]at this;omega
 rw[hdc,Nat.mod_self,Nat.zero_mul,Nat.add_zero]at v;have e5:d*B^n+cc*B^n=B*B^n:=by rw[←Nat.add_mul,hdc]
 omega
theorem zO1{b P W S Vl x c t W' T:Nat}(hinv:W+c*P=S+Vl)(hT:T=t+x+c)(hW:W'+t*P=W+T%b*P):W'+T/b*(P*b)=S+(Vl+x*P):=by
 have h:=Nat.div_add_mod T b;generalize T/b=k at *;generalize T%b=r at *;have e:T*P=b*k*P+r*P:=by rw[←h,Nat.add_mul]
 have e2:T*P=t*P+x*P+c*P:=by rw[hT];grind
 have e3:k*(P*b)=b*k*P:=by grind
 rw[e3];omega
theorem zEP{y:Nat}(hy:0<y)(s:Nat)(hs:s+zA4 (dig y (nl y-1))=32):nl (y*2^s)=nl y∧2147483648≤dig (y*2^s) (nl y-1):=by
 have hn:=zBz hy;have hb:=zGM hy;obtain⟨k,hk⟩:∃k,nl y=k+1:=⟨nl y-1,j0⟩;rw[hk,Nat.add_sub_cancel]at hb hs ⊢;have hl:=zAc hy s;have h1:=zAz (y*2^s);have hpos:0<y*2^s:=Nat.mul_pos hy (Nat.pow_pos ja);have h2:=zAT hpos;have e:zA4 (y*2^s)=32*(k+1):=j0
 rw[e]at h1 h2;rw[←zB6]at h1;have e2:32*(k+1)-1=32*k+31:=j0
 rw[e2,Nat.pow_add,←zB6]at h2;have h3:B^k≤y*2^s:=Nat.le_trans (Nat.le_mul_of_pos_right _ ja) h2;refine⟨zSq h1 h3,?_⟩;unfold dig;have h4:2^31≤y*2^s/B^k:=by rw[Nat.le_div_iff_mul_le (zAo k),Nat.mul_comm];exact h2
 have h5:y*2^s/B^k<B:=by rw[Nat.div_lt_iff_lt_mul (zAo k),Nat.mul_comm B,←zA9];exact h1
 rw[Nat.mod_eq_of_lt h5];exact h4
theorem zH8{x m s v n:Nat}(hx:x<B^m)(hs:s≤31)(hv:2147483648≤dig v (n-1))(hn:0<n)(hm:n≤m+1):x*2^s<v*B^(m+1-n)∧x*2^s<B^(m+1):=by
 have h1:2147483648*B^(n-1)≤v:=by
  have:=zD0 v (n-1);have h:=Nat.mul_le_mul_right (B^(n-1)) hv;have h0:=Nat.zero_le (v%B^(n-1));generalize v%B^(n-1)=u at *;omega
 have hp:2^s≤2147483648:=Nat.pow_le_pow_right (n:=2) ja hs;have h2:x*2^s<2147483648*B^m:=by
  have a:=Nat.mul_lt_mul_of_pos_right hx (Nat.pow_pos (n:=s) (show 0<2 by decide));have b:=Nat.mul_le_mul_left (B^m) hp;rw[Nat.mul_comm (B^m) 2147483648]at b;omega
 constructor
 · have a:=Nat.mul_le_mul_right (B^(m+1-n)) h1;rw[Nat.mul_assoc,←zAw,show n-1+(m+1-n)=m by omega]at a;omega
 · rw[zA9,Nat.mul_comm];refine Nat.lt_of_lt_of_le (by rw[Nat.mul_comm]at h2;exact h2) ?_;rw[Nat.mul_comm (B^m)];exact Nat.mul_le_mul_right _ jR
theorem zHP{Z K v j:Nat}(hv:0<v)(hZ:Z<v*B^(j+1)):Z=Z%B^j+Z/B^j*B^j∧Z/B^j<v*B∧Z%B^j+Z/B^j%v*B^j<v*B^j ∧
 Z%B^j+Z/B^j%v*B^j+(K*B+Z/B^j/v)*B^j*v=Z+K*B^(j+1)*v:=by
 have h1:=Nat.div_add_mod Z (B^j);have h2:=Nat.div_add_mod (Z/B^j) v;have h3:=zAE Z j;have h4:=Nat.mod_lt (Z/B^j) hv;have hq:Z/B^j<v*B:=by rw[Nat.div_lt_iff_lt_mul (zAo j),Nat.mul_assoc,Nat.mul_comm B,←zA9];exact hZ
 refine⟨by rw[Nat.mul_comm];omega,hq,?_,?_⟩
 · have:(Z/B^j%v+1)*B^j≤v*B^j:=Nat.mul_le_mul_right _ h4;rw[Nat.add_mul,Nat.one_mul]at this;omega
 · rw[zA9];generalize Z/B^j/v=q at *;generalize Z/B^j%v=r at *;generalize Z/B^j=u at *;generalize Z%B^j=l at *;generalize B^j=p at *;generalize B=b at *;rw[←h1,←h2];grind
theorem zK6{Z K v x y s:Nat}(hv:v=y*2^s)(hZ:Z<v)(h:Z+K*v=x*2^s):K=x/y∧Z=x%y*2^s:=by
 have hp:0<2^s:=Nat.pow_pos ja;have h1:x*2^s/v=K:=by rw[←h,Nat.add_mul_div_right _ _ j0,Nat.div_eq_of_lt hZ,Nat.zero_add]
 have h2:x*2^s%v=Z:=by rw[←h,Nat.add_mul_mod_self_right,Nat.mod_eq_of_lt hZ]
 rw[hv,Nat.mul_div_mul_right _ _ hp]at h1;rw[hv,Nat.mul_mod_mul_right]at h2;exact⟨h1.symm,h2.symm⟩
end Sp
namespace Go.Proofs.YtmbkgapknoammaaGreatDoor
open Go.RowKit Sp
theorem zNz(w:World)(g o N n cap capv U V L:Nat)(a:Option Addr)(hrow:Row w g N 94 (L+U*B^o))(hL:L<B^o)(hN:o+n+1≤N)(hcap:n+1≤cap)(hlim:N≤4398046511104)(hcl:cap≤9223372036854775807)
 (hv:Mag w a n capv V) (hva:ab a≠g) (hn2:2≤n) (htop:2147483648≤dig V (n-1)) (hUV:U<V*B) :
 Calls Tryz.prog 206 #[.slice (some ⟨g,o,none⟩) (n+1) cap,.slice a n capv] w fun e w'=>
  e=.returned (.int .u32 (U/V))∧Row w' g N 94 (L+U%V*B^o)∧w.grownBy w' (some g):=by
 have l1:=hv.lim;have l2:=hv.fits;have hUn:U<B^(n+1):=by
  rw[zA9];exact Nat.lt_of_lt_of_le hUV (Nat.mul_le_mul_right _ (Nat.le_of_lt hv.lt))
 obtain⟨un,hun⟩:∃un,un=dig U n:=⟨_,rfl⟩;obtain⟨u1,hu1⟩:∃u1,u1=dig U (n-1):=⟨_,rfl⟩;obtain⟨u2,hu2⟩:∃u2,u2=dig U (n-2):=⟨_,rfl⟩;obtain⟨v1,hv1⟩:∃v1,v1=dig V (n-1):=⟨_,rfl⟩;obtain⟨v2,hv2⟩:∃v2,v2=dig V (n-2):=⟨_,rfl⟩;have bun:un<4294967296:=hun ▸ zA5 _ _;have bu1:u1<4294967296:=hu1 ▸ zA5 _ _;have bu2:u2<4294967296:=hu2 ▸ zA5 _ _;have bv1:v1<4294967296:=hv1 ▸ zA5 _ _;have bv2:v2<4294967296:=hv2 ▸ zA5 _ _;have cun:=hrow.cell (o+n) j0;have cu1:=hrow.cell (o+(n-1)) j0;have cu2:=hrow.cell (o+(n-2)) j0;rw[zDk hL]at cun cu1 cu2;have cv1:=hv.cell (n-1) j0;have cv2:=hv.cell (n-2) j0;rw[←hun]at cun;rw[←hu1]at cu1;rw[←hu2]at cu2;rw[←hv1]at cv1;rw[←hv2]at cv2;have iv1:=hv.idx' 49 und siz (n-1) j0 ((n:Int)-1) j0;have iv2:=hv.idx' 49 und siz (n-2) j0 ((n:Int)-2) j0;have hor1:=zGq (r:=un) (d:=u1) bun bu1;have b1:(1:Int)≤(v1:Int):=by rw[←hv1]at htop;omega
 have b2:(0:Int)≤(un:Int)*4294967296+(u1:Nat):=j0
 have b3:(un:Int)*4294967296+(u1:Nat)≤18446744073709551615:=j0
 have G:=zTk hn2 hv.lt hUV htop;rw[←hun,←hu1,←hu2,←hv1,←hv2]at G;have HF:=Lib.hid (And.intro hun (And.intro hu1 (And.intro hu2 (And.intro hv1 hv2))));have HG:=Lib.hid G;clear G;clear hun hu1 hu2 hv1 hv2;go_enter Tryz.func206,Tryz.ntmps206
 go_wp2
 go_quiet (fail)
 go_wp2
 go_quiet (fail)
 go_upto_block 0 with(fail)
 go_cut [7,8] (fun q r wx=>∃Q R z:Nat,q=.int .u64 Q∧r=.int .u64 R∧U/V≤Q∧Q≤U/V+1∧wx=w.drewN z)
 case first=>
  go_wp2
  go_loopw [7,8] (fun q r wr=>∃Q R z:Nat,q=.int .u64 Q∧r=.int .u64 R∧Q*v1+R=un*B+u1∧U/V≤Q∧Q≤4294967297∧R<4294967296∧wr=w.drewN z) (fun q _ _=>(intOf q).toNat)
  case atStart=>
   refine⟨(un*B+u1)/v1,(un*B+u1)%v1,_,?_,?_,by rw[Nat.mul_comm];exact Nat.div_add_mod _ _,HG.out.hi,HG.out.cap,?_,by rw[World.drewN_drewN]⟩
   · rw[zAX];simp
   · rw[zAX];simp
   · have:=Nat.mod_lt (un*B+u1) (show v1>0 by omega);omega
  case round=>
   obtain⟨Q,R,z,rfl,rfl,hi,hQ,hQ1,hR,rfl⟩:=hrel;have HI:=Lib.hid hi;have HQ:=Lib.hid hQ;clear hi hQ;have hdn:U/V<Q→(Q-1)*v1+(R+v1)=un*B+u1:=fun h=>by
    have:=HI.out;obtain⟨p,rfl⟩:∃p,Q=p+1:=⟨Q-1,by have:=Nat.lt_of_le_of_lt (Nat.zero_le _) h;omega⟩;rw[Nat.add_mul,Nat.one_mul]at this;rw[Nat.add_sub_cancel];omega
   have HDN:=Lib.hid hdn;clear hdn
   by_cases hbig:(4294967295:Int)<(Q:Int)
   · have hlt:U/V<Q:=(by have:=HG.out.lt;rw[zAX]at this;omega);have hQ0:0<Q:=Nat.lt_of_le_of_lt (Nat.zero_le _) hlt;have HLT:=Lib.hid hlt;clear hlt
     go_wp2
     go_quiet (fail)
     go_wp2
     · go_meet
       refine⟨Q-1,R+v1,z+nq,jm,jm,Nat.le_sub_one_of_lt HLT.out,?_,rfl⟩;refine HG.out.exit _ _ (HDN.out HLT.out) ?_ jR;have h1:(Q-1)*v2≤B*B:=Nat.mul_le_mul jR jR;have h2:B*B≤(R+v1)*B:=Nat.mul_le_mul_right _ jR;omega
     · go_roundw
       case rel=>exact⟨Q-1,R+v1,z+nq,jm,jm,HDN.out HLT.out,Nat.le_sub_one_of_lt HLT.out,j0,j0,rfl⟩
       case measure=>exact jb
   · have hbig':decide ((4294967295:Int)<(Q:Int))=false:=jq;have hor2:=zGq (r:=R) (d:=u2) hR bu2;have p0:(0:Int)≤(Q:Int)*(v2:Int):=Kd;have p1:(Q:Int)*(v2:Int)≤18446744065119617025:=by
      have:=(zDC (x:=Q) (y:=v2) (z:=0) (c:=0) j0 bv2 j0 j0).2;rw[←Int.natCast_mul];omega
     by_cases htest:(R:Int)*4294967296+(u2:Nat)<(Q:Int)*(v2:Int)
     · have hlt:U/V<Q:=HG.out.dec Q R HI.out (by
        rw[zAX];apply Int.ofNat_lt.1;simp only[Int.natCast_add,Int.natCast_mul];exact htest)
       have hQ0:0<Q:=Nat.lt_of_le_of_lt (Nat.zero_le _) hlt;have HLT:=Lib.hid hlt;clear hlt
       go_wp2
       go_quiet (fail)
       go_wp2
       · go_meet
         refine⟨Q-1,R+v1,z+nq,jm,jm,Nat.le_sub_one_of_lt HLT.out,?_,rfl⟩;refine HG.out.exit _ _ (HDN.out HLT.out) ?_ jR;have h1:(Q-1)*v2≤B*B:=Nat.mul_le_mul jR jR;have h2:B*B≤(R+v1)*B:=Nat.mul_le_mul_right _ jR;omega
       · go_roundw
         case rel=>exact⟨Q-1,R+v1,z+nq,jm,jm,HDN.out HLT.out,Nat.le_sub_one_of_lt HLT.out,j0,j0,rfl⟩
         case measure=>exact jb
     · have htest':decide ((R:Int)*4294967296+(u2:Nat)<(Q:Int)*(v2:Int))=false:=by simp;omega
       go_wp2
       go_quiet (fail)
       go_wp2
       go_meet
       refine⟨Q,R,z+nq,rfl,rfl,HQ.out,HG.out.exit _ _ HI.out ?_ jR,by rw[World.drewN_drewN]⟩;rw[zAX];apply Int.ofNat_le.1;simp only[Int.natCast_add,Int.natCast_mul];first | exact htest | exact Int.not_lt.1 htest
 case rest=>
  obtain⟨Q,R,z,rfl,rfl,hQ1,hQ2,rfl⟩:=hcut;have HQ1:=Lib.hid hQ1;have HQ2:=Lib.hid hQ2;have hQB:Q≤4294967296:=by have:=HG.out.lt;rw[zAX]at this;omega
  clear hQ1 hQ2 cu1 cu2 cv1 cv2 iv1 iv2 hor1 b1 b2 b3;have hrow0:=hrow.drewN z;have HC:=Lib.hid cun;clear cun
  go_wp2
  go_loopw [9,10,86] (fun c s i wr=>∃k W cc ss:Nat,k≤n∧i=.int .i64 k∧c=.int .u64 cc∧s=.int .u64 ss∧cc<4294967296∧ss≤1∧Row wr g N 94 (L+W*B^o)∧W<B^(n+1)∧dig W n=un ∧
   W+Q*(V%B^k)=U+(cc+ss)*B^k∧w.grownBy wr (some g)) (fun _ _ i _=>n-(intOf i).toNat)
  case atStart=>exact⟨0,U,0,0,j0,rfl,rfl,rfl,j0,j0,hrow0,hUn,HF.out.1.symm,by rw[zAe];simp,zFK (zCP _ _) _⟩
  case round=>
   clear hrow0;obtain⟨k,W,cc,ss,hk,rfl,rfl,rfl,hcc,hss,hroww,hW,hWn,hinv,hon⟩:=hrel;have HI:=Lib.hid hinv;have HWn:=Lib.hid hWn;clear hinv hWn;have hv':=hv.only hon hva
   by_cases hlt:k<n
   · have c1:=hv'.cell k hlt;have i1:=hv'.idx 49 und siz k hlt;have hd1:=zA5 V k;have hd2:=zA5 W k;have c3:=hroww.cell (o+k) j0;rw[zDk hL]at c3;have f3:=hroww.free (o+k);obtain⟨x,hx⟩:∃x,x=dig V k:=⟨_,rfl⟩;obtain⟨t,ht⟩:∃t,t=dig W k:=⟨_,rfl⟩;rw[←hx]at c1 hd1;rw[←ht]at c3 hd2;have HX:=Lib.hid hx;have HT:=Lib.hid ht;clear hx ht;obtain⟨tc1,tc2⟩:=zKw (b:=4294967296) hQB hd1 hcc;have p0:(0:Int)≤(Q:Int)*(x:Int):=Kd;have p1:(Q:Int)*(x:Int)+(cc:Nat)<18446744073709551616:=by
      rw[←Int.natCast_mul,←Int.natCast_add];omega
     have HTC:=Lib.hid tc2;clear tc1 tc2
     go_wp2
     obtain⟨p,hp⟩:∃p,p=Q*x+cc:=⟨_,rfl⟩;have hpI:(Q:Int)*(x:Int)+(cc:Nat)=((p:Nat):Int):=(by rw[hp];simp);have hpc:=HTC.out;rw[←hp]at hpc;have ws:=zIU (t:=(t:Int)) (r:=(p:Int)%4294967296) (s:=(ss:Int)) j0 j0 j0 j0 j0 j0;obtain⟨s2,hs2⟩:∃s2:Nat,(s2:Int)=if(t:Int)-(p:Int)%4294967296-(ss:Int)<0 then 1 else 0:=by
      split
      · exact⟨1,rfl⟩
      · exact⟨0,rfl⟩
     obtain⟨d,hd⟩:∃d:Nat,(d:Int)=((t:Int)-(p:Int)%4294967296-(ss:Int))%4294967296:=⟨(((t:Int)-(p:Int)%4294967296-(ss:Int))%4294967296).toNat,j0⟩;go_roundw
     case rel=>
      rw[hpI,ws.1,ws.2,←hs2,←hd];refine⟨k+1,zD1 W k d,p/4294967296,s2,j0,jm,rfl,rfl,hpc,j0,?_,zCL jR j0 hW,?_,?_,zBK hon _ _⟩
      · rw[←zDW hL];exact hroww.store (o+k) d j0 j0
      · rw[zCe jR j0];exact HWn.out
      · rw[zAi,zA9,←HX.out];refine zLD (b:=B) (t:=t) (T:=(t:Int)-(p:Int)%4294967296-(ss:Int)) HI.out hp (by rw[zAX];rfl) ?_ hss (by rw[zAX];exact hd2) hs2;have v:=zBn W k d;rw[←HT.out]at v;rw[show((B:Nat):Int)=4294967296 from rfl,←hd]
        exact_mod_cast v
     case measure=>exact jb
   · obtain rfl:k=n:=j0;have hI:=HI.out;rw[zA8 hv.lt]at hI;have c3:=hroww.cell (o+k) j0;rw[zDk hL,HWn.out]at c3;have f3:=hroww.free (o+k);have hlast:=zLE hW HWn.out hI;have hV0:0<V:=by
      rcases Nat.eq_zero_or_pos V with h | h
      · rw[h,Nat.zero_mul]at hUV;omega
      · exact h
     have HI:=Lib.hid hI;clear hI
     by_cases hneg:un<cc+ss
     · have hgt:U<Q*V:=hlast.1 hneg;have ws:=zIU (t:=(un:Int)) (r:=(cc:Int)) (s:=(ss:Int)) j0 j0 j0 j0 j0 j0;have tb:(IntKind.u64.wrap (IntKind.u64.wrap ((un:Int)-cc)-ss)/4294967296%2==0)=false:=by
        rw[ws.2,if_pos j0];rfl
       obtain⟨dd,hdd⟩:∃dd:Nat,dd+(cc+ss)=un+4294967296:=⟨un+4294967296-(cc+ss),j0⟩;have v:=zBn W k dd;rw[HWn.out]at v;have HV:=Lib.hid v;have hd:dd<4294967296:=j0;have hst:=hroww.store (o+k) dd j0 hd;rw[zDW hL]at hst;have ew:Hid (IntKind.u64.wrap (IntKind.u64.wrap ((un:Int)-cc)-ss)%4294967296=((dd:Nat):Int)):=by
        show _=_;rw[ws.1];omega
       have hW2:=zCL (x:=W) (i:=k) (d:=dd) hd j0 hW;have hon2:=zBK hon (o+k) (.int .u32 ((dd:Nat):Int));have HDD:=Lib.hid hdd;generalize zD1 W k dd=W2 at *;clear hdd;clear hlast v ws hd hroww
       go_wp2
       go_loopw [9,142] (fun c i wx=>∃j S c2:Nat,j≤k∧i=.int .i64 j∧c=.int .u64 c2∧c2≤1∧Row wx g N 94 (L+S*B^o)∧S<B^(k+1)∧S+c2*B^j=W2+V%B^j∧w.grownBy wx (some g)) (fun _ i _=>k-(intOf i).toNat)
       case atStart=>exact⟨0,W2,0,j0,rfl,rfl,j0,by rw[ew.out];exact hst,hW2,by rw[zAe,Nat.zero_mul],by rw[ew.out];exact hon2⟩
       case round=>
        clear hst hon2 c3 f3 hW2;obtain⟨j,S,c2,hj,rfl,rfl,hc2,hrs,hS,hiS,honS⟩:=hrel;have HIS:=Lib.hid hiS;clear hiS;have hvS:=hv.only honS hva
        by_cases hlt:j<k
        · have c1:=hvS.cell j hlt;have i1:=hvS.idx 49 und siz j hlt;have hd1:=zA5 V j;have hd2:=zA5 S j;have c3:=hrs.cell (o+j) j0;rw[zDk hL]at c3;have f3:=hrs.free (o+j)
          go_wp2
          obtain⟨T,hT⟩:∃T,T=dig S j+dig V j+c2:=⟨_,rfl⟩;have hTI:((dig S j:Nat):Int)+(dig V j:Nat)+(c2:Nat)=((T:Nat):Int):=(by rw[hT];simp);have hTB:T/B≤1:=jR;have hTm:T%B<4294967296:=Nat.mod_lt _ zCZ;have v:=zBn S j (T%B);go_roundw
          case rel=>
           rw[hTI];refine⟨j+1,zD1 S j (T%B),T/B,j0,jm,by rw[zAX];rfl,hTB,?_,zCL hTm j0 hS,?_,zBK honS _ _⟩
           · rw[←zDW hL];exact hrs.store (o+j) (T%B) j0 hTm
           · rw[zAi,zA9];exact zO1 HIS.out hT v
          case measure=>exact jb
        · obtain rfl:j=k:=j0;have hiS:=HIS.out;rw[zA8 hv.lt]at hiS;have hback:=zLH HI.out HDD.out HV.out HQ2.out hgt hV0 hv.lt hiS hS;have c3:=hrs.cell (o+j) j0;rw[zDk hL]at c3;have f3:=hrs.free (o+j);have hd2:=zA5 S j;have hQ1':1≤Q:=(by rw[hback.1];exact Nat.le_add_left _ _);have HB:=Lib.hid hback;clear hback hiS hgt
          go_wp2
          go_ret;have hb:=HB.out;have e1:(Q:Int)-1=((U/V:Nat):Int):=(by rw[hb.1];simp);have e2:(((dig S j:Nat):Int)+(c2:Nat))%4294967296=(((dig S j+c2)%B:Nat):Int):=(by rw[zAX];rfl);refine⟨congrArg (fun q:Int=>Ending.returned (.int .u32 q)) e1,?_,zBK honS _ _⟩;rw[e2,←hb.2,←zDW hL];exact hrs.store (o+j) _ j0 (Nat.mod_lt _ zCZ)
     · have hle:Q*V≤U:=Nat.not_lt.1 fun h=>hneg (hlast.2 h);have v:=zBn W k (un-(cc+ss));rw[HWn.out]at v;have hdone:=zLG HI.out (Nat.not_lt.1 hneg) v HQ1.out hle hV0;have hQs:Q≤4294967295:=by
        have:=HG.out.lt;rw[←hdone.1,zAX]at this;omega
       have HD:=Lib.hid hdone;clear hlast v hdone hle;have tb:((((un:Int)-cc-ss)/4294967296%2)==0)=true:=Q6
       go_wp2
       go_ret;refine⟨congrArg (fun q:Nat=>Ending.returned (.int .u32 q)) HD.out.1,?_,zBK hon _ _⟩;have e:((un:Int)-cc-ss)%4294967296=((un-(cc+ss):Nat):Int):=j0;rw[e,←HD.out.2,←zDW hL];exact hroww.store (o+k) _ j0 j0
end Go.Proofs.YtmbkgapknoammaaGreatDoor
namespace Go.Proofs.YtmbkgapknoammaaGreatDoor
open Go.RowKit Sp
theorem zDM(w:World)(a:Option Addr)(n cap x:Nat)(hx:Mag w a n cap x)(hlim:n≤1099511627776):Calls Tryz.prog 170 #[.slice a n cap] w fun e w'=>∃a' cap',e=.returned (.slice a' n cap')∧Mag w' a' n cap' x∧Below w.heap.size w w'∧(0<n→w.heap.size≤ab a'):=by
 cases a with
 | none=>
  have hn:n=0:=by
   rcases Nat.eq_zero_or_pos n with h | h
   · exact h
   · have:=hx.addr h;cases this
  subst hn;rw[hx.zero];have hnil:=fun w=>Lib.run_eql_slice_nil (P:=Tryz.prog) w 49 94 none 0 cap 0 0 zCh;go_enter Tryz.func170,Tryz.ntmps170
  go_wp2
  go_ret;exact⟨none,0,rfl,Mag.nil w,Below.refl _ _,j0⟩
 | some ad=>
  have hnil:=fun w=>Lib.run_eql_slice_nil (P:=Tryz.prog) w 49 94 (some ad) n cap 0 0 zCh;obtain⟨i0,hi,hz0,hz1,hz2⟩:=info_parts zCy;have hown0:=World.ownsRow_made (base:=w.heap.size) (e:=94) (size:=1) w #[] 0 (Nat.le_refl _) jJ rfl;go_enter Tryz.func170,Tryz.ntmps170;go_wp2_with (at_builtin;(refine wpList_append_own _ rfl _ _ 49 rfl w.heap.size 94 i0 (.int .u32 0) 1 4 zCh hi hz0 hz1 hz2 rfl ja _ _ _ rfl hown0 ad n cap (zDq x n) rfl (by rw[zAB,Nat.mul_one]) ((hx.below ((Below.refl _ _).alloc (Nat.le_refl _) _)).news rfl) (zK7 x n) jJ j0 jr ?_);intro v1 w1 hown1 hgr1 _);go_ret;rw[List.nil_append,Nat.zero_add]at hown1;obtain⟨a1,c1,hv,hm1,hfr⟩:=zAU hown1 hx.lt;exact⟨a1,c1,congrArg Ending.returned hv,hm1,((Below.refl _ _).alloc (Nat.le_refl _) _).trans (zAt hown0 hgr1 jr),hfr⟩
def zGP(w:World)(z r:Nat)(e:Ending)(w':World):Prop:=
 ∃a cap a' cap',e=.returned (.tuple #[.slice a (nl z) cap,.slice a' (nl r) cap'])∧Mag w' a (nl z) cap z∧Mag w' a' (nl r) cap' r∧Below w.heap.size w w'∧(0<nl z→w.heap.size≤ab a)∧(0<nl r→w.heap.size≤ab a')
theorem zID(w:World)(a a':Option Addr)(n m cap cap' x y:Nat)(hx:Mag w a n cap x)(hy:Mag w a' m cap' y)(hn:n=nl x)(hm:m=nl y)(hlim:n≤1099511627776)(hxy:x<y):Calls Tryz.prog 197 #[.slice a n cap,.slice a' m cap'] w (zGP w (x/y) (x%y)):=by
 have hcmp:=zAS (m:=(x:Int)) (n:=(y:Int)) j0;have cc:=zBi w a a' n m cap cap' x y hx hy hn hm;rw[hcmp]at cc;have HC:=Lib.hid cc;have HN:=Lib.hid hn;have HM:=Lib.hid hm;clear cc hcmp hn hm;go_enter Tryz.func197,Tryz.ntmps197;go_wp2_with (first | (go_at_call 174;refine HC.out.mono ?_;rintro e w' ⟨rfl,q,rfl⟩) | (go_at_call 170;refine(zDM _ _ _ _ _ (hx.drewN _) hlim).mono ?_;rintro e w1 ⟨a1,c1,rfl,hm1,hb1,hf1⟩))
 go_ret2
 rw[Nat.div_eq_of_lt hxy,Nat.mod_eq_of_lt hxy];have e:n=nl x:=HN.out;subst e;exact⟨none,0,a1,c1,rfl,Mag.nil _,hm1,((below_drewN (Below.refl _ _) q).trans hb1),nl0,hf1⟩
theorem zHO(w:World)(a a':Option Addr)(n m cap cap' x y:Nat)(hx:Mag w a n cap x)(hy:Mag w a' m cap' y)(hn:n=nl x)(hm:m=nl y)(hlim:n≤1099511627776)(hxy:y≤x)(hm1:m=1):Calls Tryz.prog 197 #[.slice a n cap,.slice a' m cap'] w (zGP w (x/y) (x%y)):=by
 have cc:=zBi w a a' n m cap cap' x y hx hy hn hm;have hy0:0<y:=by
  rcases Nat.eq_zero_or_pos y with h | h
  · rw[h]at hm;rw[hm]at hm1;cases hm1
  · exact h
 subst hm1;have hd:dig y 0=y:=by
  have:=hy.lt;unfold dig;rw[Nat.pow_one]at this;rw[Nat.pow_zero,Nat.div_one,Nat.mod_eq_of_lt this]
 have hyl:y<4294967296:=by have:=hy.lt;rw[Nat.pow_one,zAX]at this;exact this
 obtain⟨k,hk,hk0⟩:∃k:Int,zAq x y=k∧0≤k:=⟨_,rfl,zC0 j0⟩;rw[hk]at cc;have hkd:decide (k<0)=false:=jq
 have c1:=hy.cell 0 j0;rw[hd,Nat.add_zero]at c1;have i1:=hy.idx' (P:=Tryz.prog) 49 und siz 0 j0 0 rfl;simp only[Nat.add_zero]at i1;have HC:=Lib.hid cc;have HN:=Lib.hid hn;have HM:=Lib.hid hm;clear cc hk hn hm hd;go_enter Tryz.func197,Tryz.ntmps197;go_wp2_with (first | (go_at_call 174;refine HC.out.mono ?_;rintro e w' ⟨rfl,q,rfl⟩) | (go_at_call 205;refine(zLK _ _ _ _ _ _ (hx.drewN _) hlim hy0 hyl).mono ?_;rintro e w1 ⟨a1,c1,rfl,hm1,hb1,hf1⟩) | (go_at_call 172;refine(zAa _ _ _ _ _ (Mag.one _ _ _ (Nat.lt_trans (Nat.mod_lt _ hy0) hyl))).mono ?_;rintro e w' ⟨rfl,rfl⟩))
 go_ret2
 have hrl:x%y<4294967296:=Nat.lt_trans (Nat.mod_lt _ hy0) hyl;have hbl:Below w1.heap.size w1 (w1.alloc (.cells #[.int .u32 ((x%y:Nat):Int)] 94)):=(Below.refl _ _).alloc (Nat.le_refl _) _;refine⟨a1,c1,some ⟨w1.heap.size,0,none⟩,1,rfl,hm1.below hbl,(Mag.one w1 94 (x%y) hrl).trim,?_,hf1,fun _=>hb1.size⟩;exact((below_drewN (Below.refl _ _) q).trans hb1).trans (hbl.mono hb1.size)
theorem zIC(w:World)(a a':Option Addr)(n m cap cap' x y:Nat)(hx:Mag w a m cap x)(hy:Mag w a' n cap' y)(hm:m=nl x)(hn:n=nl y)(hlim:m≤1099511627776)(hxy:y≤x)(hn2:2≤n):Calls Tryz.prog 197 #[.slice a m cap,.slice a' n cap'] w (zGP w (x/y) (x%y)):=by
 have cc:=zBi w a a' m n cap cap' x y hx hy hm hn;have hnm:n≤m:=by rw[hn,hm];exact zAN hxy
 have l1:=hx.lim;have l2:=hx.fits;have l3:=hy.lim;have l4:=hy.fits;have hy0:0<y:=by
  rcases Nat.eq_zero_or_pos y with h | h
  · rw[h]at hn;rw[hn]at hn2;exact absurd hn2 ja
  · exact h
 obtain⟨k,hk,hk0⟩:∃k:Int,zAq x y=k∧0≤k:=⟨_,rfl,zC0 j0⟩;rw[hk]at cc;have hkd:decide (k<0)=false:=jq
 have hn1:((n:Int)==1)=false:=ju
 have ct:=hy.cell (n-1) j0;have it:=hy.idx' (P:=Tryz.prog) 49 und siz (n-1) j0 ((n:Int)-1) j0;have hdt:=zA5 y (n-1);have htop:dig y (n-1)≠0:=by rw[hn];exact zIE hy0
 have hbt:zA4 (dig y (n-1))≤32:=zAC j0;have hbt1:1≤zA4 (dig y (n-1)):=zCE (Nat.pos_of_ne_zero htop);obtain⟨s,hs⟩:∃s,s+zA4 (dig y (n-1))=32:=⟨32-zA4 (dig y (n-1)),j0⟩;have hsI:(32:Int)-(zA4 (dig y (n-1)):Int)=((s:Nat):Int):=j0
 have hlead:=fun W=>zF7 W (dig y (n-1)) hdt;simp only[hsI]at hlead;have hs31:s≤31:=j0
 have hscale:=zEP hy0 s (by rw[←hn];exact hs);rw[←hn]at hscale;obtain⟨v,hv⟩:∃v,v=y*2^s:=⟨_,rfl⟩;rw[←hv]at hscale;have hlt:=zH8 hx.lt hs31 hscale.2 j0 (show n≤m+1 by omega);have HC:=Lib.hid cc;have HN:=Lib.hid hn;have HM:=Lib.hid hm;have HL:=Lib.hid hlead;have HV:=Lib.hid hv;have HS:=Lib.hid hscale;have HLT:=Lib.hid hlt;have hmk:=zBd 49 94 zCy zCh ((m:Int)+1) j0 j0;clear cc hk hn hm hlead hv hscale hlt hsI hs;go_enter Tryz.func197,Tryz.ntmps197;go_wp2_with (first | (go_at_call 174;refine HC.out.mono ?_;rintro e w' ⟨rfl,q,rfl⟩) | (go_at_call 198;refine(HL.out _).mono ?_;rintro e w' ⟨rfl,rfl⟩));refine(zIX _ _ _ _ _ _ (hy.drewN q) j0 j0 j0).mono ?_;rintro e w1 ⟨av,cv,rfl,hmv,hb1,_⟩;rw[Int.toNat_natCast,←HV.out]at hmv ⊢;rw[HS.out.1]at hmv ⊢;have hb1':=(below_drewN (Below.refl w.heap.size w) q).trans hb1;go_wp2_with fail;have hbm:Below w1.heap.size w1 (w1.alloc (.cells (madeCells #[.int .u32 0] (m+1)) 94)):=(Below.refl _ _).alloc (Nat.le_refl _) _;have hrow0:=Row.made w1 (m+1) 94 j0;have hx2:=(hx.below hb1').below hbm;refine(zIX _ _ _ _ _ _ hx2 j0 j0 j0).mono ?_;rintro e w2 ⟨au,cu,rfl,hmu,hb2,_⟩;rw[Int.toNat_natCast]at hmu ⊢;have hz1:=hb1'.size;have hz2:=hb2.size;rw[World.size_alloc]at hz2;have hrow2:=hrow0.below hb2 jr;have hmv2:=(hmv.below hbm).below hb2;have hb2':=hb1'.trans ((hbm.trans (hb2.mono jr)).mono hz1);have hva:ab av≠w1.heap.size:=by have:=hmv.old j0;omega
 have hnu:=zAH HLT.out.2;have hmk2:=zBd 49 94 zCy zCh ((m:Int)+1-n) j0 j0;go_wp2_with (with_reducible refine zLk rfl (.tmp 48) (.tmp 51) 49 94 rfl zCh zCy w1.heap.size (m+1) rfl au _ cu (x*2^s) rfl hmu hrow2 hnu w1.heap.size w2 (Below.refl _ _) (Nat.le_refl _) ?_;intro cv0 w3 hrow3 hb3);clear hmk2 hrow0 hrow2 hmk;have hz3:=hb3.size;have hbq:Below w3.heap.size w3 (w3.alloc (.cells (madeCells #[.int .u32 0] (m+1-n)) 94)):=(Below.refl _ _).alloc (Nat.le_refl _) _;have hrq:=Row.made w3 (m+1-n) 94 j0;have hru:=hrow3.below hbq j0;have hmv3:=(hmv2.below' hb3 (fun h=>by have:=hmv.old h;omega)).below hbq;have hb4:=(hb2'.trans (hb3.mono hz1)).trans (hbq.mono j0);have hgq:w3.heap.size≠w1.heap.size:=j0
 have hav:=hmv.old j0;obtain⟨gq,hgq'⟩:∃gq,gq=w3.heap.size:=⟨_,rfl⟩;obtain⟨gu,hgu'⟩:∃gu,gu=w1.heap.size:=⟨_,rfl⟩
 go_loopw [12] (fun i wr=>∃k Z K:Nat,k≤m+1-n∧i=.int .i64 ((k:Int)-1)∧Row wr w1.heap.size (m+1) 94 Z∧Row wr w3.heap.size (m+1-n) 94 (K*B^k)∧Z+K*B^k*v=x*2^s∧Z<v*B^k∧Mag wr av n cv v∧Below w.heap.size w wr) (fun i _=>(intOf i+1).toNat)
 case atStart=>exact⟨m+1-n,x*2^s,0,Nat.le_refl _,rfl,hru,by rw[Nat.zero_mul];exact hrq,by rw[Nat.zero_mul,Nat.zero_mul,Nat.add_zero],HLT.out.1,hmv3,hb4⟩
 case round=>
  obtain⟨k,Z,K,hk,rfl,hru',hrq',hZ,hZv,hmv',hb'⟩:=hrel;have HZ:=Lib.hid hZ;have HZV:=Lib.hid hZv;clear hZ hZv hru hrq hmv3 hb4 hmv2 hrow3
  by_cases h0:0<k
  · obtain⟨j,rfl⟩:∃j,k=j+1:=⟨k-1,j0⟩;have hv0:0<v:=by
     rcases Nat.eq_zero_or_pos v with h | h
     · have:=HZV.out;rw[h,Nat.zero_mul]at this;omega
     · exact h
    have hR:=zHP (K:=K) hv0 HZV.out;have hru2:=hru';rw[hR.1]at hru2;have hqB:Z/B^j/v<4294967296:=(by rw[Nat.div_lt_iff_lt_mul hv0,Nat.mul_comm];exact hR.2.1);have HR:=Lib.hid hR;have HQB:=Lib.hid hqB;clear hR hqB;go_wp2_with fail;rw[show j+n+1-j=n+1 by omega];refine(zNz wr w1.heap.size j (m+1) n (m+1-j) cv (Z/B^j) v (Z%B^j) av hru2 (zAE Z j) j0 j0 j0 j0 hmv' hva j0 HS.out.2 HR.out.2.1).mono ?_;rintro e w5 ⟨rfl,hr5,hon⟩;have hrq5:=hrq'.only hon hgq;have cq:=hrq5.cell j j0;have fq:=hrq5.free j;obtain⟨qj,hqj⟩:∃qj:Nat,qj=Z/B^j/v:=⟨_,rfl⟩;have hqI:((Z/B^j:Nat):Int)/((v:Nat):Int)=((qj:Nat):Int):=(by rw[hqj];rfl);rw[hqI];have HQJ:=Lib.hid hqj;clear hqj hqI
    go_wp2
    go_roundw
    case rel=>
     have hb5:=Sp.Below.of_only hb' hon (by have:=hb'.size;omega) j0;refine⟨j,Z%B^j+Z/B^j%v*B^j,K*B+qj,j0,rfl,?_,?_,?_,?_,?_,hb5.setCell (by show _≤w3.heap.size;omega) _⟩
     · exact hr5.below ((Below.refl w3.heap.size w5).setCell (Nat.le_refl _) _) j0
     · rw[←zDV];exact hrq5.store j qj j0 (by rw[HQJ.out];exact HQB.out)
     · rw[HQJ.out,HR.out.2.2.2,HZ.out]
     · exact HR.out.2.2.1
     · exact(hmv'.only hon hva).below' ((Below.refl w3.heap.size w5).setCell (Nat.le_refl _) _) (fun _=>j0)
    case measure=>exact Q4
  · obtain rfl:k=0:=j0;rw[Nat.pow_zero,Nat.mul_one]at hrq';have hZ:=HZ.out;have hZv:=HZV.out;rw[Nat.pow_zero,Nat.mul_one]at hZ hZv;have hD:=zK6 HV.out hZv hZ;have hzl:Z<B^n:=Nat.lt_trans hZv hmv'.lt;have hmr:=hru'.mag.take n j0;rw[zA8 hzl]at hmr;have hnz:nl Z≤1099511627776:=(by have:=zAH hzl;omega);have HD:=Lib.hid hD;clear hZ hZv hD;go_wp2_with fail;refine(zAa _ _ _ _ _ hmr).mono ?_;rintro e w' ⟨rfl,rfl⟩;go_wp2_with fail;refine(zEJ _ _ _ _ _ _ hmr.trim rfl hnz j0 j0 _ rfl).mono ?_;rintro e w6 ⟨a6,c6,rfl,hm6,hb6,hf6⟩;rw[Int.toNat_natCast]at hm6 hf6 ⊢;have hq6:=hrq'.mag.below hb6;go_wp2_with fail;refine(zAa _ _ _ _ _ hq6).mono ?_;rintro e w' ⟨rfl,rfl⟩;go_wp2_with fail
    go_ret2
    have hd:=HD.out;have hz:Z/2^s=x%y:=(by rw[hd.2,Nat.mul_div_cancel _ (Nat.pow_pos ja)]);rw[hz]at hm6 hf6 ⊢;rw[hd.1]at hq6 ⊢;exact⟨some ⟨w3.heap.size,0,none⟩,m+1-n,a6,c6,rfl,hq6.trim,hm6,hb'.trans (hb6.mono hb'.size),fun _=>(by show w.heap.size≤w3.heap.size;omega),fun h=>Nat.le_trans hb'.size (hf6 h)⟩
theorem zFR(w:World)(a a':Option Addr)(n m cap cap' x y:Nat)(hx:Mag w a n cap x)(hy:Mag w a' m cap' y)(hn:n=nl x)(hm:m=nl y)(hlim:n≤1099511627776)(hy0:0<y):Calls Tryz.prog 197 #[.slice a n cap,.slice a' m cap'] w (zGP w (x/y) (x%y)):=by
 rcases Nat.lt_or_ge x y with h | h
 · exact zID w a a' n m cap cap' x y hx hy hn hm hlim h
 · have hm0:0<m:=by rw[hm];exact zBz hy0
   by_cases h1:m=1
   · exact zHO w a a' n m cap cap' x y hx hy hn hm hlim h h1
   · exact zIC w a a' m n cap cap' x y hx hy hn hm hlim h j0
end Go.Proofs.YtmbkgapknoammaaGreatDoor
namespace Go.Proofs.YtmbkgapknoammaaGreatDoor
open Go.RowKit Sp
theorem zOI(w:World)(a:Option Addr)(n cap x r:Nat)(hx:Mag w a n cap x)(hn:n=nl x)(hlim:n≤17179869184)(h1:r*r≤x)(h2:x<(r+1)*(r+1)):Calls Tryz.prog 196 #[.slice a n cap] w (zCX w r):=by
 have l1:=hx.lim;have l2:=hx.fits
 by_cases hn0:n=0
 · subst hn0;have hx0:=hx.zero;subst hx0;have:r=0:=by
    rcases Nat.eq_zero_or_pos r with h | h
    · exact h
    · have:=Nat.mul_pos h h;omega
   subst this;clear h1 h2 hlim hn;go_enter Tryz.func196,Tryz.ntmps196
   go_wp2
   go_ret;exact⟨none,0,rfl,Mag.nil w,Below.refl _ _,nl0⟩
 · have hn1:((n:Int)==0)=false:=ju;have hx0:0<x:=by
    rcases Nat.eq_zero_or_pos x with h | h
    · rw[h]at hn;exact absurd hn hn0
    · exact h
   have hbl:zA4 x≤549755813888:=by
    have:=zFy x;rw[←hn,zB6]at this;have:=zAC this;omega
   have hb0:zA4 x≤32*n:=by
    have:=zFy x;rw[←hn,zB6]at this;exact zAC this
   have hr1:0<r:=by
    rcases Nat.eq_zero_or_pos r with h | h
    · rw[h]at h2;omega
    · exact h
   have H1:=Lib.hid h1;have H2:=Lib.hid h2;have HN:=Lib.hid hn;clear h1 h2 hn;go_enter Tryz.func196,Tryz.ntmps196;go_wp2_with (go_at_call 194;refine(zFM _ _ _ _ _ (hx.below ((Below.refl _ _).alloc (Nat.le_refl _) _)) HN.out j0).mono ?_;rintro e w' ⟨rfl,rfl⟩);refine(zIX _ _ _ _ _ _ (Mag.one w 94 1 j0) j0 j0 j0).mono ?_;rintro e w1 ⟨a1,c1,rfl,hm1,hb1,hf1⟩;rw[Nat.one_mul,show(((zA4 x:Nat):Int)+1)/2=(((zA4 x+1)/2:Nat):Int)by omega,Int.toNat_natCast]at hm1 ⊢;have hbb:=((Below.refl w.heap.size w).alloc (Nat.le_refl _) (.cells #[.int .u32 1] 94)).trans (hb1.mono jr);go_wp2_with fail;have hX0:nl (2^((zA4 x+1)/2))≤n+1:=zAH (by rw[zB6];exact Nat.pow_lt_pow_right ja j0);obtain⟨X0,hX⟩:∃X0,X0=2^((zA4 x+1)/2):=⟨_,rfl⟩;have hr0:r≤X0:=(by rw[hX];exact zKK H1.out);have hp0:0<X0:=(by rw[hX];exact Nat.pow_pos ja);have hfr0:w.heap.size≤ab a1:=(by have:=hf1 (by rw[Nat.one_mul,show(((zA4 x:Nat):Int)+1)/2=(((zA4 x+1)/2:Nat):Int)by omega,Int.toNat_natCast];exact zBz (Nat.pow_pos ja));rw[World.size_alloc]at this;omega);rw[←hX]at hX0 hm1 ⊢;clear hX
   go_loopg [3] X0 (fun k v wr=>∃X a1 c1,v=.slice a1 (nl X) c1∧Mag wr a1 (nl X) c1 X∧r≤X∧0<X∧nl X≤n+1∧k=X∧Below w.heap.size w wr∧w.heap.size≤ab a1)
   case atStart=>exact⟨X0,a1,c1,rfl,hm1,hr0,hp0,hX0,rfl,hbb,hfr0⟩
   case round=>
    obtain⟨X,a2,c2,rfl,hm2,hrX,hX,hXl,rfl,hb2,hfr2⟩:=hrel;have hxw:=hx.below hb2;have hq:nl (x/gk)≤n:=(by rw[HN.out];exact zAN (Nat.div_le_self _ _));have hge:=zHu H1.out hX;have HGE:=Lib.hid hge;clear hge hm1 hbb hX0 hr0 hp0 hfr0;go_wp2_with fail;refine(zFR _ _ _ _ _ _ _ _ _ hxw hm2 HN.out rfl j0 hX).mono ?_;rintro e w3 ⟨a3,c3,a4,c4,rfl,hm3,hm4,hb3,_,_⟩;have hm2':=hm2.below hb3;have hz3:=hb3.size;have hz2:=hb2.size;go_wp2_with fail;refine(zGl _ _ _ _ _ _ _ _ _ hm2' hm3 j0 j0).mono ?_;rintro e w5 ⟨a5,c5,rfl,hm5,hb5,_⟩;have hz5:=hb5.size;have hs5:nl (gk+x/gk)≤n+2:=by
     refine zAH ?_;have i1:=zFy gk;have i2:=zFy (x/gk);have i3:=zBt (m:=nl gk) (n:=n+1) hXl;have i4:=zBt (m:=nl (x/gk)) (n:=n+1) j0;rw[zA9];have:B^(n+1)*2≤B^(n+1)*B:=Nat.mul_le_mul_left _ ja;generalize x/gk=u at *;omega
    go_wp2_with fail;refine(zEJ _ _ _ _ _ _ hm5 rfl j0 j0 j0 _ rfl).mono ?_;rintro e w6 ⟨a6,c6,rfl,hm6,hb6,hf6⟩;rw[show(1:Int).toNat=1 from rfl,Nat.pow_one]at hm6 hf6 ⊢;have hm2'':=(hm2'.below hb5).below hb6;have hz6:=hb6.size;go_wp2_with fail;refine(zBi _ _ _ _ _ _ _ _ _ hm6 hm2'' rfl rfl).mono ?_;rintro e w7 ⟨rfl,q,rfl⟩;have hball:=((hb2.trans (hb3.mono hz2)).trans (hb5.mono j0)).trans (hb6.mono j0);obtain⟨y,hy⟩:∃y,y=(gk+x/gk)/2:=⟨_,rfl⟩;rw[←hy]at hm6 ⊢;have HY:=Lib.hid hy;clear hy
    by_cases hlt:y<gk
    · rw[zAS j0];go_wp2_with fail
      go_roundg y
      case measure=>exact hlt
      case rel=>exact⟨y,a6,c6,rfl,hm6.drewN q,by rw[HY.out];exact HGE.out,Nat.lt_of_lt_of_le hr1 (by rw[HY.out];exact HGE.out),Nat.le_trans (zAN (Nat.le_of_lt hlt)) hXl,rfl,below_drewN hball q,by have:=hf6 (by rw[←HY.out];exact zBz (Nat.lt_of_lt_of_le hr1 (by rw[HY.out];exact HGE.out)));omega⟩
    · obtain⟨k,hk,hk0⟩:∃k:Int,zAq y gk=k∧0≤k:=⟨_,rfl,zC0 j0⟩;rw[hk];clear hk;go_wp2_with fail;go_ret;have hst:=zF3 H2.out hrX hX (by rw[←HY.out];omega);subst hst;exact⟨a2,c2,rfl,hm2''.drewN q,below_drewN hball q,fun _=>hfr2⟩
end Go.Proofs.YtmbkgapknoammaaGreatDoor

/-
  Walks: the reference's package sparseref01: trim, zE1, Norm, Abs, Neg.
  Walks: the reference's package sparseref01: shl, shr, Shift.
  Walks: the reference's Shift (to the left; to the right, a number that is not negative), sparseref02.down.
  Variables in memory: one that holds a dyad, one that holds an integer; they stay where nothing of theirs is stored.
-/
import Derived.Test.YtmbkgapknoammaaGreatDoorZuBd
import Derived.Test.YtmbkgapknoammaaGreatDoorZuBe
set_option maxRecDepth 100000
set_option maxHeartbeats 2000000
namespace Go.Proofs.YtmbkgapknoammaaGreatDoor
open Go.RowKit Sp
theorem zB1(w:World)(a:Option Addr)(n cap x:Nat)(hx:Mag w a n cap x)(hlim:n≤1099511627776):Calls Tryz.prog 91 #[.slice a n cap] w (zCX w x):=by
 have l1:=hx.lim;have l2:=hx.fits;have hlt0:=hx.lt;have HX:=Lib.hid hx;clear hx;go_enter Tryz.func91,Tryz.ntmps91
 go_wp2
 go_loop [3] (fun t=>∃k:Nat,k≤n∧x<B^k∧t=.int .i64 k) (fun t=>(intOf t).toNat)
 case atStart=>exact⟨n,Nat.le_refl _,hlt0,rfl⟩
 case round=>
  obtain⟨m,hk,htop,rfl⟩:=hrel;have HT:=Lib.hid htop;clear htop hlt0
  by_cases h0:0<m
  · obtain⟨j,rfl⟩:∃j,m=j+1:=⟨m-1,j0⟩;have c1:=HX.out.cell j j0;have i1:=HX.out.idx 49 und siz j j0
    go_wp2
    · have hd:=zHZ (by assumption:(((dig x j:Nat):Int)==0)=true)
      go_round
      case rel=>exact⟨j,j0,zCc HT.out hd,rfl⟩
      case measure=>exact Q4
    · have hd:=zFX (by assumption:(((dig x j:Nat):Int)==0)=false);have HN:=Lib.hid (zHt HT.out hd);clear c1 i1 hd;have hown0:=World.ownsRow_nil w w.heap.size 94 1
      go_loopw [4,5] (fun v i wr=>∃k:Nat,k≤j+1∧i=.int .i64 k∧wr.ownsRow w.heap.size 94 1 v k (zDq x k)∧Below w.heap.size w wr) (fun _ i _=>j+1-(intOf i).toNat)
      case atStart=>exact⟨0,j0,rfl,hown0,Below.refl _ _⟩
      case round=>
       clear hown0;obtain⟨k,hk',rfl,hown,hb⟩:=hrel;have hx':=HX.out.below hb
       by_cases hlt:k<j+1
       · have c1:=hx'.cell k j0;have i1:=hx'.idx 49 und siz k j0;have hz:=hb.size;go_wp2_with (at_builtin;refine zAK 49 94 zCy zCh rfl _ _ rfl w.heap.size _ k x rfl _ _ rfl (hown.alloc _) (World.cell?_alloc_new _ _ _ _) rfl j0 jr ?_;intro v1 w1 hown1 hb1);go_roundw
         case rel=>exact⟨k+1,j0,jm,hown1,(hb.alloc hz _).trans hb1⟩
         case measure=>exact jb
       · obtain rfl:k=j+1:=j0;obtain⟨a1,cp1,hv,hm1,hfr⟩:=zAU hown HT.out;subst hv
         go_wp2
         go_ret;unfold zCX;rw[HN.out];exact⟨a1,cp1,rfl,hm1,hb,hfr⟩
  · obtain rfl:m=0:=j0;have HN:=Lib.hid (show nl x=0 by have h1:=HT.out;simp at h1;rw[h1];rfl)
    go_wp2
    have hown0:=World.ownsRow_nil w w.heap.size 94 1
    go_loopw [4,5] (fun v i wr=>∃k:Nat,k≤0∧i=.int .i64 k∧wr.ownsRow w.heap.size 94 1 v k (zDq x k)∧Below w.heap.size w wr) (fun _ i _=>0-(intOf i).toNat)
    case atStart=>exact⟨0,j0,rfl,hown0,Below.refl _ _⟩
    case round=>
     clear hown0;obtain⟨k,hk',rfl,hown,hb⟩:=hrel;have hx':=HX.out.below hb
     by_cases hlt:k<0
     · exact absurd hlt (Nat.not_lt_zero k)
     · obtain rfl:k=0:=j0;obtain⟨a1,cp1,hv,hm1,hfr⟩:=zAU hown HT.out;subst hv
       go_wp2
       go_ret;unfold zCX;rw[HN.out];exact⟨a1,cp1,rfl,hm1,hb,hfr⟩
theorem zMC(x:Nat):decide (0<nl x)=decide (0<x):=
 decide_eq_decide.2 ⟨fun h=>Nat.pos_of_ne_zero (fun h0=>by rw[h0]at h;exact absurd h ja),zBz⟩
theorem zAG(w:World)(s:Bool)(a:Option Addr)(n cap x:Nat)(hx:Mag w a n cap x)(hlim:n≤1099511627776):Calls Tryz.prog 92 #[.bool s,.slice a n cap] w (zAl w (sgn s x)):=by
 have HR:=fun W h=>Lib.hid (zB1 W a n cap x h hlim);have hnl:=zMC x;have HNL:=Lib.hid hnl;clear hnl
 cases s
 all_goals(
  go_enter Tryz.func92,Tryz.ntmps92;go_wp2_with fail;refine(HR _ (hx.below zbh)).out.mono ?_;rintro e w1 ⟨a1,c1,rfl,hm1,hb,hf1⟩;obtain⟨hc1,hz1⟩:=zA6 (hb.mono (show w.heap.size+1≤_ by simp));have hfr1:0<nl x→w.heap.size+1≤ab a1:=fun h=>jB
  have hbw:=zA0 (w:=w) zbh hb;go_wp2_with fail)
 · refine bodyPost_ret (v:=.agg #[.bool (false&&decide (0<x)),.slice a1 (nl x) c1]) (by simp only[results,Tryz.results92];go_simp) rfl ?_;exact zBU hm1 (fun h=>jE) hbw (Nat.le_refl _)
 · refine bodyPost_ret (v:=.agg #[.bool (decide (0<nl x)),.slice a1 (nl x) c1]) (by simp only[results,Tryz.results92];go_simp) rfl ?_;rw[show decide (0<nl x)=(true&&decide (0<x))from HNL.out];exact zBU hm1 (fun h=>jE) hbw (Nat.le_refl _)
theorem zBo(w:World)(s:Bool)(a:Option Addr)(n cap x:Nat)(hx:Mag w a n cap x)(hlim:n≤1099511627776):Calls Tryz.prog 87 #[.agg #[.bool s,.slice a n cap]] w (zAl w (sgn s x)):=by
 have HR:=fun W h=>Lib.hid (zAG W s a n cap x h hlim);generalize sgn s x=z at HR ⊢;go_enter Tryz.func87,Tryz.ntmps87;go_wp2_with fail;refine(HR _ (hx.below zbh)).out.mono ?_;rintro e w1 ⟨a1,c1,rfl,hm1,hb,hf1⟩;obtain⟨hc1,hz1⟩:=zA6 (hb.mono (show w.heap.size+2≤_ by simp));have hfr1:0<nl z.natAbs→w.heap.size+2≤ab a1:=fun h=>jB
 have hbw:=zA0 (w:=w) zbh hb;go_wp2_with fail;refine bodyPost_ret (v:=.agg #[.bool (decide (z<0)),.slice a1 (nl z.natAbs) c1]) (by simp only[results,Tryz.results87];go_simp) rfl ?_;exact zBV hm1 (fun h=>jE) hbw j0
theorem zJk(w:World)(s:Bool)(a:Option Addr)(n cap x:Nat)(hx:Mag w a n cap x)(hlim:n≤1099511627776):Calls Tryz.prog 60 #[.agg #[.bool s,.slice a n cap]] w (zAl w (sgn false x)):=by
 have HR:=fun W h=>Lib.hid (zAG W false a n cap x h hlim);generalize sgn false x=z at HR ⊢;go_enter Tryz.func60,Tryz.ntmps60;go_wp2_with fail;refine(HR _ (hx.below zbh)).out.mono ?_;rintro e w1 ⟨a1,c1,rfl,hm1,hb,hf1⟩;obtain⟨hc1,hz1⟩:=zA6 (hb.mono (show w.heap.size+2≤_ by simp));have hfr1:0<nl z.natAbs→w.heap.size+2≤ab a1:=fun h=>jB
 have hbw:=zA0 (w:=w) zbh hb;go_wp2_with fail;refine bodyPost_ret (v:=.agg #[.bool (decide (z<0)),.slice a1 (nl z.natAbs) c1]) (by simp only[results,Tryz.results60];go_simp) rfl ?_;exact zBV hm1 (fun h=>jE) hbw j0
theorem zCi(w:World)(s:Bool)(a:Option Addr)(n cap x:Nat)(hx:Mag w a n cap x)(hlim:n≤1099511627776):Calls Tryz.prog 59 #[.agg #[.bool s,.slice a n cap]] w fun e w'=>e=.returned (.int .i64 (sg (sgn s x)))∧Below w.heap.size w w':=by
 have HR:=fun W h=>Lib.hid (zBo W s a n cap x h hlim);generalize sgn s x=z at HR ⊢;rcases Int.lt_trichotomy z 0 with hz | hz | hz
 · have hn1:(((nl z.natAbs:Nat):Int)==0)=false:=Ka;have hz1:decide (z<0)=true:=Qh;rw[zLN hz];go_enter Tryz.func59,Tryz.ntmps59;go_wp2_with fail;refine(HR _ (hx.below zbh)).out.mono ?_;rintro e w1 ⟨a1,c1,rfl,hm1,hb,hf1⟩;obtain⟨hc1,hzz1⟩:=zA6 (hb.mono (show w.heap.size+1≤_ by simp));have hbw:=zA0 (w:=w) zbh hb;go_wp2_with fail;go_ret;exact⟨rfl,(have:=Beh.mk hbw;zbh)⟩
 · have hn1:(((nl z.natAbs:Nat):Int)==0)=true:=(by rw[hz];rfl);rw[show sg z=0 by rw[hz];rfl];clear hz;go_enter Tryz.func59,Tryz.ntmps59;go_wp2_with fail;refine(HR _ (hx.below zbh)).out.mono ?_;rintro e w1 ⟨a1,c1,rfl,hm1,hb,hf1⟩;obtain⟨hc1,hzz1⟩:=zA6 (hb.mono (show w.heap.size+1≤_ by simp));have hbw:=zA0 (w:=w) zbh hb;go_wp2_with fail;go_ret;exact⟨rfl,(have:=Beh.mk hbw;zbh)⟩
 · have hn1:(((nl z.natAbs:Nat):Int)==0)=false:=Ka;have hz1:decide (z<0)=false:=jq;rw[zFF hz];go_enter Tryz.func59,Tryz.ntmps59;go_wp2_with fail;refine(HR _ (hx.below zbh)).out.mono ?_;rintro e w1 ⟨a1,c1,rfl,hm1,hb,hf1⟩;obtain⟨hc1,hzz1⟩:=zA6 (hb.mono (show w.heap.size+1≤_ by simp));have hbw:=zA0 (w:=w) zbh hb;go_wp2_with fail;go_ret;exact⟨rfl,(have:=Beh.mk hbw;zbh)⟩
theorem zBu(w:World)(s:Bool)(a:Option Addr)(n cap x:Nat)(hx:Mag w a n cap x)(hlim:n≤1099511627776):Calls Tryz.prog 90 #[.agg #[.bool s,.slice a n cap]] w fun e w'=>e=.returned (.int .i64 (zA4 x))∧Below w.heap.size w w':=by
 have HR:=fun W h=>Lib.hid (zB1 W a n cap x h hlim);have hnn:=zAH hx.lt
 by_cases hx0:x=0
 · have hn1:(((nl x:Nat):Int)==0)=true:=(by rw[hx0];rfl);rw[show zA4 x=0 by rw[hx0];rfl];clear hx0;go_enter Tryz.func90,Tryz.ntmps90;go_wp2_with fail;refine(HR _ (hx.below zbh)).out.mono ?_;rintro e w1 ⟨a1,c1,rfl,hm1,hb,hf1⟩;have hbw:=zA0 (w:=w) zbh hb;go_wp2_with fail;go_ret;exact⟨rfl,(have:=Beh.mk hbw;zbh)⟩
 · have hp:=Nat.pos_of_ne_zero hx0;have hnp:=zBz hp;obtain⟨j,hj⟩:∃j,nl x=j+1:=⟨nl x-1,j0⟩;have hbt:=zGM hp;rw[hj,Nat.add_sub_cancel]at hbt;have HBT:=Lib.hid hbt;have HJ:=Lib.hid hj;have hn1:(((j+1:Nat):Int)==0)=false:=ju;have hd:=zA5 x j;have HL:=fun W=>Lib.hid (zF6 W (dig x j) hd);have hbl:zA4 (dig x j)≤32:=zAC hd;rw[hj]at hnn;clear hbt hj hnp hp hx0;go_enter Tryz.func90,Tryz.ntmps90;go_wp2_with fail;refine(HR _ (hx.below zbh)).out.mono ?_;rintro e w1 ⟨a1,c1,rfl,hm1,hb,hf1⟩;rw[HJ.out]at hm1 ⊢;have l1:=hm1.lim;have l2:=hm1.fits;have k1:=hm1.cell j j0;have i1:=hm1.idx 49 und siz j j0;have hbw:=zA0 (w:=w) zbh hb;go_wp2_with fail;refine(HL _).out.mono ?_;rintro e w' ⟨rfl,rfl⟩;go_wp2_with fail;go_ret;refine⟨?_,(have:=Beh.mk hbw;zbh)⟩;rw[HBT.out];exact congrArg (fun q=>Ending.returned (.int .i64 q)) jc
theorem zCu(w:World)(ht:Tab w)(s:Bool)(a:Option Addr)(n cap x:Nat)(hx:Mag w a n cap x)(hlim:n≤1099511627776):Calls Tryz.prog 88 #[.agg #[.bool s,.slice a n cap]] w fun e w'=>e=.returned (.int .i64 (tz x))∧Below w.heap.size w w':=by
 have HR:=fun W h=>Lib.hid (zB1 W a n cap x h hlim);have hnn:nl x≤1099511627776:=Nat.le_trans (zAH hx.lt) hlim;go_enter Tryz.func88,Tryz.ntmps88;go_wp2_with fail;refine(HR _ (hx.below zbh)).out.mono ?_;rintro e w1 ⟨a1,c1,rfl,hx1,hb,hf1⟩;have hbw:=zA0 (w:=w) zbh hb;have ht1:=ht.below hbw;have HB:=Lib.hid hbw;have l1:=hx1.lim;have l2:=hx1.fits;clear hf1 hb hbw;generalize nl x=m at *
 go_wp2
 go_loop [4] (fun i=>∃k:Nat,k≤m∧i=.int .i64 k∧x%B^k=0) (fun i=>m-(intOf i).toNat)
 case atStart=>exact⟨0,j0,rfl,zAe x⟩
 case round=>
  obtain⟨k,hk,rfl,hz⟩:=hrel;have HZ:=Lib.hid hz;clear hz
  by_cases hlt:k<m
  · have k1:=hx1.cell k hlt;have i1:=hx1.idx 49 und siz k hlt;have hd1:=zA5 x k
    by_cases hd0:dig x k=0
    · have hd2:(((dig x k:Nat):Int) != 0)=false:=by rw[hd0];rfl
      go_wp2
      go_round
      case rel=>exact⟨k+1,j0,jm,by rw[zAi,HZ.out,hd0,Nat.zero_mul]⟩
      case measure=>exact jb
    · have hd2:(((dig x k:Nat):Int) != 0)=true:=Kq;have htz:tz (dig x k)<32:=(zIR (Nat.pos_of_ne_zero hd0) hd1).2;have HR:=Lib.hid (zQ1 HZ.out hd0);have HC:=Lib.hid (zJ0 _ (dig x k) ht1 (Nat.pos_of_ne_zero hd0) hd1);go_wp2_with (go_at_call 130;refine HC.out.mono ?_;rintro e w' ⟨rfl,rfl⟩);go_ret;refine⟨?_,HB.out⟩;rw[HR.out];exact congrArg (fun q=>Ending.returned (.int .i64 q)) jc
  · obtain rfl:k=m:=by omega
    go_wp2
    go_ret;have hx0:x=0:=(by rw[←zA8 hx1.lt];exact HZ.out);subst hx0;exact⟨rfl,HB.out⟩
def zDO(w:World)(z m:Nat)(e:Ending)(w':World):Prop:=
 ∃a n cap,e=.returned (.slice a n cap)∧Mag w' a n cap z∧n≤m∧Below w.heap.size w w'∧(0<n→w.heap.size≤ab a)
theorem zJ7{x k s:Nat}:(dig (x%B^k*2^s) (s/32+k)+dig x k*2^(s%32))%B=dig (x*2^s) (s/32+k) ∧
 (dig (x%B^k*2^s) (s/32+k)+dig x k*2^(s%32))/B=dig (x%B^(k+1)*2^s) (s/32+(k+1)) ∧
 dig (x%B^k*2^s) (s/32+k) ||| dig x k*2^(s%32)=dig (x%B^k*2^s) (s/32+k)+dig x k*2^(s%32) ∧
 dig (x%B^k*2^s) (s/32+k)+dig x k*2^(s%32)<18446744073709551616:=by
 obtain⟨Z,hZ⟩:∃Z,Z=x%B^k*2^s:=⟨_,rfl⟩;rw[←hZ];obtain⟨h1,h2⟩:=zEv hZ;obtain⟨h3,h4,h5⟩:=zG2 (x:=x) (k:=k) (s:=s);have hor:=zEl (z:=dig Z (s/32+k)) (u:=dig x k*2^(s%32)) h1 ⟨dig x k,Nat.mul_comm _ _⟩;have h6:2^(s%32)≤2147483648:=Nat.pow_le_pow_right (n:=2) j0 (show s%32≤31 by omega);have h7:dig x k*2^(s%32)≤4294967295*2147483648:=Nat.mul_le_mul (by have:=zA5 x k;omega) h6;have hT:dig Z (s/32+k)+dig x k*2^(s%32)<18446744073709551616:=j0
 have e1:x%B^(k+1)*2^s=Z+dig x k*2^(s%32)*B^(s/32+k):=by
  rw[zAi,Nat.add_mul,←hZ,zAw,zB9 s];grind
 have e2:Z=Z%B^(s/32+k)+dig Z (s/32+k)*B^(s/32+k):=by
  conv=>lhs;rw[←zA8 h2]
  exact zAi _ _
 have e3:x%B^(k+1)*2^s=Z%B^(s/32+k)+(dig Z (s/32+k)+dig x k*2^(s%32))*B^(s/32+k):=by
  rw[e1,Nat.add_mul];omega
 have e4:x*2^s=x%B^(k+1)*2^s+(x/B^(k+1)*2^(s%32))*B^(s/32+k+1):=by
  conv=>lhs;rw[←Nat.div_add_mod x (B^(k+1))]
  rw[Nat.add_mul,Nat.add_comm];congr 1;rw[zB9 s,show s/32+k+1=(k+1)+s/32 by omega,zAw];grind
 have hm:=zAE Z (s/32+k);have d0:=zDk (h:=dig Z (s/32+k)+dig x k*2^(s%32)) (k:=0) hm;have d1:=zDk (h:=dig Z (s/32+k)+dig x k*2^(s%32)) (k:=1) hm;rw[←e3]at d0 d1;generalize dig Z (s/32+k)+dig x k*2^(s%32)=T at *;refine⟨?_,?_,hor,?_⟩
 · rw[e4,zNB (show s/32+k<s/32+k+1 by omega),show s/32+k=s/32+k+0 by omega,d0];unfold dig;rw[Nat.pow_zero,Nat.div_one]
 · rw[show s/32+(k+1)=s/32+k+1 by omega,d1];unfold dig;rw[Nat.pow_one,Nat.mod_eq_of_lt];rw[Nat.div_lt_iff_lt_mul zCZ,zAX];omega
 · exact hT
theorem zJ6(x s i:Nat)(h:i<s/32):dig (x*2^s) i=0:=by
 have:x*2^s=0+x*2^(s%32)*B^(s/32):=by rw[zB9 s];grind
 rw[this,zNB h,zDc]
theorem zQ4{x n s:Nat}(h:x<B^n):x*2^s<B^(s/32+n+1):=by
 have:=(zEv (x:=x) (k:=n) (s:=s) rfl).2;rwa[zA8 h]at this
theorem zQ3{c d k:Nat}(h:c ||| d*2^k=c+d*2^k)(hlt:c+d*2^k<18446744073709551616):Go.bits .or .u64 (c:Int) (IntKind.u64.wrap ((d:Int)*2^k))=((c+d*2^k:Nat):Int):=by
 have e:((d:Nat):Int)*2^k=((d*2^k:Nat):Int):=jz
 rw[e,zBy j0,u64_or_nat _ _ j0 j0,h]
theorem zOB(w:World)(a:Option Addr)(n cap x s:Nat)(hx:Mag w a n cap x)(hlim:n≤1099511627776)(hs:s≤1048576):Calls Tryz.prog 127 #[.slice a n cap,.int .i64 s] w (zDO w (x*2^s) (s/32+n+1)):=by
 have l1:=hx.lim;have l2:=hx.fits;have hmk:=zBd 49 94 zCy zCh ((s:Int)/32) j0 j0;have HX:=Lib.hid hx;clear hx;go_enter Tryz.func127,Tryz.ntmps127
 go_wp2
 clear hmk;have hown0:(w.alloc (.cells (madeCells #[.int .u32 0] (s/32)) 94)).ownsRow w.heap.size 94 1 (.slice (some ⟨w.heap.size,0,none⟩) (s/32) (s/32)) (s/32) (zDq (x*2^s) (s/32)):=by
  have:=World.ownsRow_lit (base:=w.heap.size) (e:=94) (size:=1) w (madeCells #[.int .u32 0] (s/32)) (s/32) (Nat.le_refl _) jJ KV;have e:(madeCells #[.int .u32 0] (s/32)).toList=zDq (x*2^s) (s/32):=by
   rw[toList_madeCells_one];refine List.ext_getElem? fun i=>?_;rcases Nat.lt_or_ge i (s/32)with h | h
   · rw[zDb h,zJ6 _ _ _ h];simp[h]
   · rw[List.getElem?_eq_none KT,List.getElem?_eq_none (by rw[zAB];exact h)]
  rwa[e]at this
 go_loopw [5,6,7] (fun v c i wr=>∃k:Nat,k≤n∧i=.int .i64 k∧c=.int .u64 (dig (x%B^k*2^s) (s/32+k):Nat)∧wr.ownsRow w.heap.size 94 1 v (s/32+k) (zDq (x*2^s) (s/32+k))∧Below w.heap.size w wr) (fun _ _ i _=>n-(intOf i).toNat)
 case atStart=>exact⟨0,j0,rfl,by rw[zAe,Nat.zero_mul,zDc];rfl,hown0,(Below.refl _ _).alloc (Nat.le_refl _) _⟩
 case round=>
  clear hown0;obtain⟨k,hk,rfl,rfl,hown,hb⟩:=hrel;have hx':=HX.out.below hb;have hz:=hb.size
  by_cases hlt:k<n
  · have c1:=hx'.cell k hlt;have i1:=hx'.idx 49 und siz k hlt;obtain⟨w1,w2,w3,w4⟩:=zJ7 (x:=x) (k:=k) (s:=s);have hor:=zQ3 w3 w4;have hd1:=zA5 x k;obtain⟨T,hT⟩:∃T,T=dig (x%B^k*2^s) (s/32+k)+dig x k*2^(s%32):=⟨_,rfl⟩;rw[←hT]at w1 w2 hor w4;have H1:=Lib.hid w1;have H2:=Lib.hid w2;clear w1 w2 w3 hT;have HD:Hid (((T:Nat):Int)%4294967296=((dig (x*2^s) (s/32+k):Nat):Int)):=(by show _=_;rw[←H1.out,zAX];omega);go_wp2_with (at_builtin;refine zAK 49 94 zCy zCh rfl _ _ rfl w.heap.size _ (s/32+k) (x*2^s) rfl _ _ rfl (hown.alloc _) (World.cell?_alloc_new _ _ _ _) HD.out j0 jr ?_;intro v1 w1 hown1 hb1);go_roundw
    case rel=>exact⟨k+1,j0,jm,by rw[←H2.out,zAX];go_num,hown1,(hb.alloc hz _).trans hb1⟩
    case measure=>exact jb
  · obtain rfl:k=n:=j0;have hd1:=zA5 (x%B^k*2^s) (s/32+k);have HD:Hid (((dig (x%B^k*2^s) (s/32+k):Nat):Int)=((dig (x*2^s) (s/32+k):Nat):Int)):=(by show _=_;rw[zA8 HX.out.lt]);go_wp2_with (at_builtin;refine zAK 49 94 zCy zCh rfl _ _ rfl w.heap.size _ (s/32+k) (x*2^s) rfl _ _ rfl (hown.alloc _) (World.cell?_alloc_new _ _ _ _) HD.out j0 jr ?_;intro v1 w1 hown1 hb1);obtain⟨a1,cp1,hv,hm1,hfr⟩:=zAU hown1 (zQ4 HX.out.lt);subst hv;go_ret;exact⟨a1,_,cp1,rfl,hm1,Nat.le_refl _,(hb.alloc hz _).trans hb1,hfr⟩
def zSY(w:World)(z:Nat)(b:Bool)(m:Nat)(e:Ending)(w':World):Prop:=
 ∃a n cap,e=.returned (.tuple #[.slice a n cap,.bool b])∧Mag w' a n cap z∧n≤m∧Below w.heap.size w w'∧(0<n→w.heap.size≤ab a)
theorem zGd(w:World)(a:Option Addr)(n cap x s:Nat)(hx:Mag w a n cap x)(hlim:n≤1099511627776)(hs:s≤1048576)(b:Bool)(hb:b=decide (x%2^s≠0)):Calls Tryz.prog 128 #[.slice a n cap,.int .i64 s] w (zSY w (x/2^s) b n):=by
 have l1:=hx.lim;have l2:=hx.fits;obtain⟨q,hq⟩:∃q,q=s/32:=⟨_,rfl⟩;obtain⟨r,hr⟩:∃r,r=s%32:=⟨_,rfl⟩;have hr32:r<32:=j0
 have hq1:q≤32768:=j0
 have hqI:(s:Int)/32=(q:Int):=j0
 have hrI:(s:Int)%32=(r:Int):=j0
 have hlost:=zGt x s;have hword:=zFj x s;have hword0:=zEc x s;have hdd:=fun i=>zDr x s i;rw[←hq,←hr]at hlost;simp only[←hq,←hr]at hword hword0;have HLO:=Lib.hid hlost;have HW1:=Lib.hid hword;have HW0:=Lib.hid hword0;have HB:=Lib.hid hb;have hlt2:n≤q→x<2^s:=fun h=>by
  refine Nat.lt_of_lt_of_le hx.lt ?_;rw[zB6];exact Nat.pow_le_pow_right j0 j0
 have hdl:q<n→x/2^s<B^(n-q):=fun h=>by
  rw[Nat.div_lt_iff_lt_mul (Nat.pow_pos ja)];refine Nat.lt_of_lt_of_le hx.lt ?_;rw[zB9 s,←hq,←hr,Nat.mul_comm (2^r),←Nat.mul_assoc,←zAw,show n-q+q=n by omega];exact Nat.le_mul_of_pos_right _ (Nat.pow_pos ja)
 have HL2:=Lib.hid hlt2;have HDL:=Lib.hid hdl;have HX:=Lib.hid hx;clear hx hlost hword hword0 hdd hb hlt2 hdl hq hr;go_enter Tryz.func128,Tryz.ntmps128
 go_wp2
 go_loop [6,7] (fun l i=>∃(k:Nat) (L:Bool),k≤q∧k≤n∧i=.int .i64 k∧l=.bool L∧L=decide (x%B^k≠0)) (fun _ i=>n-(intOf i).toNat)
 case atStart=>exact⟨0,false,j0,j0,rfl,rfl,by rw[zAe];rfl⟩
 case round=>
  obtain⟨k,L,hkq,hkn,rfl,rfl,hL⟩:=hrel;have HL:=Lib.hid hL;clear hL
  by_cases hin:k<q∧k<n
  · obtain⟨hk1,hk2⟩:=hin;have c1:=HX.out.cell k hk2;have i1:=HX.out.idx 49 und siz k hk2
    cases L with
    | true=>
     go_wp2
     go_round
     case rel=>exact⟨k+1,true,j0,j0,jm,rfl,by
      have h0:x%B^k≠0:=(by have:=HL.out;simpa using this.symm);rw[zAi];symm;rw[decide_eq_true_eq];exact Nat.ne_of_gt (Nat.lt_of_lt_of_le (Nat.pos_of_ne_zero h0) (Nat.le_add_right _ _))⟩
     case measure=>exact jb
    | false=>
     go_wp2
     go_round
     case rel=>exact⟨k+1,_,j0,j0,jm,rfl,by
      have h0:x%B^k=0:=(by have:=HL.out;simpa using this.symm);have hp:=zAo k;rw[zAi,h0,Nat.zero_add]
      by_cases hd:dig x k=0
      · rw[hd];simp
      · have:dig x k*B^k≠0:=Nat.mul_ne_zero hd j0;rw[decide_eq_true this,bne_iff_ne];omega⟩
     case measure=>exact jb
  · by_cases hA:n≤q
    · obtain rfl:k=n:=j0;have hAI:decide ((q:Int)<(k:Int))=false:=jq;have hbL:L=b:=by
       have h1:=HL.out;have h2:=HX.out.lt;rw[zA8 h2]at h1;rw[h1,HB.out,Nat.mod_eq_of_lt (HL2.out hA)]
      subst hbL
      go_wp2
      all_goals(
       go_loopw [6,8,10] (fun l v i wr=>l=.bool L∧v=.slice none 0 0∧i=.int .i64 q∧wr=w) (fun _ _ i _=>(intOf i).toNat)
       case atStart=>exact⟨rfl,rfl,rfl,rfl⟩
       case round=>
        obtain⟨rfl,rfl,rfl,rfl⟩:=hrel
        go_wp2
        go_ret2
        rw[Nat.div_eq_of_lt (HL2.out hA)];exact⟨none,0,0,rfl,Mag.nil _,j0,Below.refl _ _,j0⟩)
    · obtain rfl:k=q:=j0;have hBI:decide ((k:Int)<(n:Int))=true:=jq;have hown0:=World.ownsRow_nil w w.heap.size 94 1;have HH:=Lib.hid hA;clear hA hin
      go_wp2
      go_loopw [6,8,10] (fun l v i wr=>∃(j t:Nat) (L':Bool),t=k+j∧t≤n∧i=.int .i64 t∧l=.bool L'∧L'=(if j=0 then L else b)∧wr.ownsRow w.heap.size 94 1 v j (zDq (x/2^s) j)∧Below w.heap.size w wr) (fun _ _ i _=>n-(intOf i).toNat)
      case atStart=>exact⟨0,k,L,j0,j0,rfl,rfl,rfl,hown0,Below.refl _ _⟩
      case round=>
       clear hown0;obtain⟨j,t,L',ht,htn,rfl,rfl,hL',hown,hb⟩:=hrel;have HT:=Lib.hid ht;have HL':=Lib.hid hL';clear ht hL';have hx':=HX.out.below hb;have hz:=hb.size
       by_cases hlt:t<n
       · have c1:=hx'.cell t hlt;have i1:=hx'.idx 49 und siz t hlt;have hd1:=zA5 x t
         by_cases hj:j=0
         · subst hj;have hlb:=zJB hd1 hr32;obtain⟨u,hu⟩:∃u,u=dig x t%2^r:=⟨_,rfl⟩;rw[←hu]at hlb;have HU:=Lib.hid hu;have hll:L'=L:=(by have:=HL'.out;rwa[if_pos rfl]at this);subst hll;have hlo:x%2^s≠0↔x%B^k≠0∨u≠0:=(by have h1:=HLO.out;have h2:=HT.out;rw[Nat.add_zero]at h2;rw[hu,h2];exact h1);have HLL:=Lib.hid hlo;clear hu hlo;have htk:((t:Int)==(k:Int))=true:=by rw[beq_iff_eq];have:=HT.out;omega
           by_cases hu0:u=0
           · have hu1:((u:Int) != 0)=false:=(by subst hu0;rfl);have hlb':Hid (L'=b):=by
              show _=_;have h1:=HL.out;rw[h1,HB.out];exact decide_eq_decide.2 ⟨fun h=>HLL.out.2 (.inl h),fun h=>(HLL.out.1 h).elim id (fun h2=>absurd hu0 h2)⟩
             clear hu0
             by_cases hnx:t+1<n
             · have c2:=hx'.cell (t+1) hnx;have i2:=hx'.idx' 49 und siz (t+1) hnx ((t:Int)+1) j0;have hd2:=zA5 x (t+1);have HD:Hid (Go.bits .or .u64 (dig x t:Nat) ((dig x (t+1):Nat)*4294967296)/2^r%4294967296=((dig (x/2^s) 0:Nat):Int)):=by
                have h1:=HW1.out 0;rw[←HT.out]at h1;exact h1
               go_wp2
               go_quiet (fail)
               go_wp2_with (at_builtin;refine zAK 49 94 zCy zCh rfl _ _ rfl w.heap.size _ 0 (x/2^s) rfl _ _ rfl (World.ownsRow.alloc (w:=wr.drewN nq) hown _) (World.cell?_alloc_new _ _ _ _) HD.out jX (Nat.le_trans hz K5) ?_;intro v1 w1 hown1 hb1);go_roundw
               case rel=>exact⟨1,t+1,L',jX,j0,jm,rfl,Ke,hown1,((below_drewN hb nq).alloc hz _).trans hb1⟩
               case measure=>exact jb
             · have HD:Hid (((dig x t:Nat):Int)/2^r%4294967296=((dig (x/2^s) 0:Nat):Int)):=by
                have h1:=HW0.out 0;rw[←HT.out]at h1;exact h1 (zAJ HX.out.lt j0)
               go_wp2
               go_quiet (fail)
               go_wp2_with (at_builtin;refine zAK 49 94 zCy zCh rfl _ _ rfl w.heap.size _ 0 (x/2^s) rfl _ _ rfl (World.ownsRow.alloc (w:=wr.drewN nq) hown _) (World.cell?_alloc_new _ _ _ _) HD.out jX (Nat.le_trans hz K5) ?_;intro v1 w1 hown1 hb1);go_roundw
               case rel=>exact⟨1,t+1,L',jX,j0,jm,rfl,Ke,hown1,((below_drewN hb nq).alloc hz _).trans hb1⟩
               case measure=>exact jb
           · have hu1:((u:Int) != 0)=true:=Kq;have hlb':Hid (true=b):=(by show _=_;rw[HB.out];symm;exact decide_eq_true (HLL.out.2 (.inr hu0)));clear hu0
             by_cases hnx:t+1<n
             · have c2:=hx'.cell (t+1) hnx;have i2:=hx'.idx' 49 und siz (t+1) hnx ((t:Int)+1) j0;have hd2:=zA5 x (t+1);have HD:Hid (Go.bits .or .u64 (dig x t:Nat) ((dig x (t+1):Nat)*4294967296)/2^r%4294967296=((dig (x/2^s) 0:Nat):Int)):=by
                have h1:=HW1.out 0;rw[←HT.out]at h1;exact h1
               go_wp2
               go_quiet (fail)
               go_wp2_with (at_builtin;refine zAK 49 94 zCy zCh rfl _ _ rfl w.heap.size _ 0 (x/2^s) rfl _ _ rfl (World.ownsRow.alloc (w:=wr.drewN nq) hown _) (World.cell?_alloc_new _ _ _ _) HD.out jX (Nat.le_trans hz K5) ?_;intro v1 w1 hown1 hb1);go_roundw
               case rel=>exact⟨1,t+1,true,jX,j0,jm,rfl,Ke,hown1,((below_drewN hb nq).alloc hz _).trans hb1⟩
               case measure=>exact jb
             · have HD:Hid (((dig x t:Nat):Int)/2^r%4294967296=((dig (x/2^s) 0:Nat):Int)):=by
                have h1:=HW0.out 0;rw[←HT.out]at h1;exact h1 (zAJ HX.out.lt j0)
               go_wp2
               go_quiet (fail)
               go_wp2_with (at_builtin;refine zAK 49 94 zCy zCh rfl _ _ rfl w.heap.size _ 0 (x/2^s) rfl _ _ rfl (World.ownsRow.alloc (w:=wr.drewN nq) hown _) (World.cell?_alloc_new _ _ _ _) HD.out jX (Nat.le_trans hz K5) ?_;intro v1 w1 hown1 hb1);go_roundw
               case rel=>exact⟨1,t+1,true,jX,j0,jm,rfl,Ke,hown1,((below_drewN hb nq).alloc hz _).trans hb1⟩
               case measure=>exact jb
         · have hne:((t:Int)==(k:Int))=false:=(by rw[beq_eq_false_iff_ne];have:=HT.out;omega);have hlb':Hid (L'=b):=by show _=_;have h1:=HL'.out;rwa[if_neg hj]at h1
           by_cases hnx:t+1<n
           · have c2:=hx'.cell (t+1) hnx;have i2:=hx'.idx' 49 und siz (t+1) hnx ((t:Int)+1) j0;have hd2:=zA5 x (t+1);have HD:Hid (Go.bits .or .u64 (dig x t:Nat) ((dig x (t+1):Nat)*4294967296)/2^r%4294967296=((dig (x/2^s) j:Nat):Int)):=by
              have h1:=HW1.out j;rw[←HT.out]at h1;exact h1
             go_wp2
             go_quiet (fail)
             go_wp2_with (at_builtin;refine zAK 49 94 zCy zCh rfl _ _ rfl w.heap.size _ j (x/2^s) rfl _ _ rfl (World.ownsRow.alloc (w:=wr.drewN nq) hown _) (World.cell?_alloc_new _ _ _ _) HD.out jX (Nat.le_trans hz K5) ?_;intro v1 w1 hown1 hb1);go_roundw
             case rel=>exact⟨j+1,t+1,L',jX,j0,jm,rfl,Ke,hown1,((below_drewN hb nq).alloc hz _).trans hb1⟩
             case measure=>exact jb
           · have HD:Hid (((dig x t:Nat):Int)/2^r%4294967296=((dig (x/2^s) j:Nat):Int)):=by
              have h1:=HW0.out j;rw[←HT.out]at h1;exact h1 (zAJ HX.out.lt j0)
             go_wp2
             go_quiet (fail)
             go_wp2_with (at_builtin;refine zAK 49 94 zCy zCh rfl _ _ rfl w.heap.size _ j (x/2^s) rfl _ _ rfl (World.ownsRow.alloc (w:=wr.drewN nq) hown _) (World.cell?_alloc_new _ _ _ _) HD.out jX (Nat.le_trans hz K5) ?_;intro v1 w1 hown1 hb1);go_roundw
             case rel=>exact⟨j+1,t+1,L',jX,j0,jm,rfl,Ke,hown1,((below_drewN hb nq).alloc hz _).trans hb1⟩
             case measure=>exact jb
       · obtain rfl:t=n:=j0;have hbL:L'=b:=by
          have h1:=HL'.out;have h2:=HT.out;have h3:=HH.out;rwa[if_neg j0]at h1
         subst hbL;have hlim2:=HDL.out (by have:=HH.out;omega);rw[show t-k=j by have:=HT.out;omega]at hlim2;obtain⟨a1,cp1,hv,hm1,hfr⟩:=zAU hown hlim2;subst hv
         go_wp2
         go_ret2
         exact⟨a1,j,cp1,rfl,hm1,jX,hb,hfr⟩
theorem zQG(z:Int)(k:Nat):sgn (decide (z<0)) (z.natAbs*2^k)=z*2^k:=by
 have h:((z.natAbs*2^k:Nat):Int)=(z.natAbs:Int)*2^k:=jz
 unfold sgn
 by_cases hz:z<0
 · rw[decide_eq_true hz];show -((z.natAbs*2^k:Nat):Int)=_;rw[h,←Int.neg_mul,show -(z.natAbs:Int)=z by omega]
 · rw[decide_eq_false hz];show((z.natAbs*2^k:Nat):Int)=_;rw[h,show(z.natAbs:Int)=z by omega]
theorem zCj(w:World)(s:Bool)(a:Option Addr)(n cap x k:Nat)(hx:Mag w a n cap x)(hlim:n≤549755813888)(hk:k≤1048576):Calls Tryz.prog 86 #[.agg #[.bool s,.slice a n cap],.int .i64 k] w (zAl w (sgn s x*2^k)):=by
 have HR:=fun W h=>Lib.hid (zBo W s a n cap x h j0);obtain⟨z,hz⟩:∃z,z=sgn s x:=⟨_,rfl⟩;have hnz:nl z.natAbs≤n:=by rw[hz,zAg];exact zAH hx.lt
 rw[←hz]at HR ⊢;clear hz;have HS:=fun W b c h=>Lib.hid (zOB W b (nl z.natAbs) c z.natAbs k h j0 hk);have HM:=fun W b m c h (hm:m≤k/32+nl z.natAbs+1)=>Lib.hid (zAG W (decide (z<0)) b m c (z.natAbs*2^k) h j0);rw[zQG]at HM;generalize k/32+nl z.natAbs+1=N at HS HM;generalize hX:z.natAbs*2^k=X at HS HM;generalize hV:z*2^k=v at HM ⊢;have t3:decide ((0:Int)≤(k:Int))=true:=jz
 have e2:¬w.heap.size+1=w.heap.size:=j0
 clear hX hV hk hlim hnz;go_enter Tryz.func86,Tryz.ntmps86;go_wp2_with fail;refine(HR _ (hx.below zbh)).out.mono ?_;rintro e w1 ⟨a1,c1,rfl,hm1,hb,hf1⟩;obtain⟨hc1,hz1⟩:=zA6 (hb.mono (show w.heap.size+2≤_ by simp));have hg1:w.heap.size+2≤w1.heap.size:=jK
 have hfr1:0<nl z.natAbs→w.heap.size+2≤ab a1:=fun h=>jB
 have hbw:=zA0 (w:=w) zbh hb;go_wp2_with fail
 first
 | go_region_held3 (fun w'=>w'.cell? ⟨w.heap.size,0,none⟩=some (.bool (decide (z<0)))∧w'.cell? ⟨w.heap.size,1,none⟩=some (.slice a1 (nl z.natAbs) c1)) (first | (go_keep;done) | (go_simp;done))
  (first
   | (go_at_call 127;refine(HS _ a1 c1 jd).out.mono ?_;rintro e w2 ⟨a2,n2,c2,rfl,hm2,hn2,hb2,hf2⟩;obtain⟨hc2,hz2⟩:=zA6 (hb2.mono (show w.heap.size+2≤_ by first | (simp;done) | (simp;omega) | omega));have hbw2:=zA0 (w:=w) j7 hb2;have hg2:w.heap.size+2≤w2.heap.size:=(by have:=hb2.size;(try simp at this);omega))
   | (go_at_call 92;refine(HM _ a2 n2 c2 (hm2.below Kb) hn2).out.mono ?_;rintro e w3 ⟨a3,c3,rfl,hm3,hb3,hf3⟩;obtain⟨hc3,hz3⟩:=zA6 (hb3.mono (show w.heap.size+2≤_ by first | exact hg2 | (simp;omega)));have hbw3:=zA0 (w:=w) jF hb3;have hg3:w.heap.size+2≤w3.heap.size:=(by have:=hb3.size;(try simp at this);omega);have hfr3:0<nl v.natAbs→w.heap.size+2≤ab a3:=(fun h=>by have:=hf3 h;(try simp at this);omega))
   | fail)
 | fail "region"
 all_goals go_wp2_with fail
 all_goals(
  refine bodyPost_ret (v:=.agg #[.bool (decide (v<0)),.slice a3 (nl v.natAbs) c3]) (by simp only[results,Tryz.results86];go_simp) rfl ?_;exact zBV hm3 (fun h=>by have:=hfr3 h;omega) hbw3 j0)
theorem zHd(w:World)(a:Option Addr)(n cap x k:Nat)(m:Int)(hx:Mag w a n cap x)(hlim:n≤549755813888)(hk0:1≤k)(hk:k≤1048576)(hmk:m= -(k:Int)):Calls Tryz.prog 86 #[.agg #[.bool false,.slice a n cap],.int .i64 m] w (zAl w ((x/2^k:Nat):Int)):=by
 have HR:=fun W h=>Lib.hid (zBo W false a n cap x h j0);have hnz:nl x≤n:=zAH hx.lt;obtain⟨z,hz⟩:∃z,z=sgn false x:=⟨_,rfl⟩;have hzx:z.natAbs=x:=by rw[hz,zAg]
 have hz0:decide (z<0)=false:=by rw[hz];simp[sgn]
 rw[←hz]at HR;rw[←hzx]at hnz ⊢;clear hz hzx;have HS:=fun W b c h=>Lib.hid (zGd W b (nl z.natAbs) c z.natAbs k h j0 hk _ rfl);generalize decide (z.natAbs%2^k≠0)=lb at HS;have HM:=fun W b m c h (hm:m≤nl z.natAbs)=>Lib.hid (zAG W false b m c (z.natAbs/2^k) h j0);rw[show sgn false (z.natAbs/2^k)=((z.natAbs/2^k:Nat):Int)from rfl]at HM;generalize z.natAbs/2^k=X at HS HM ⊢;generalize hV:(X:Int)=v at HM ⊢;have t3:decide ((0:Int)≤m)=false:=jq
 have t4:IntKind.i64.wrap (-m)=(k:Int):=jg
 have e2:¬w.heap.size+1=w.heap.size:=j0
 clear hV hk hlim hmk hk0;go_enter Tryz.func86,Tryz.ntmps86;go_wp2_with fail;refine(HR _ (hx.below zbh)).out.mono ?_;rintro e w1 ⟨a1,c1,rfl,hm1,hb,hf1⟩;obtain⟨hc1,hz1⟩:=zA6 (hb.mono (show w.heap.size+2≤_ by simp));have hg1:w.heap.size+2≤w1.heap.size:=jK
 have hfr1:0<nl z.natAbs→w.heap.size+2≤ab a1:=fun h=>jB
 have hbw:=zA0 (w:=w) zbh hb;go_wp2_with fail;refine(HS _ a1 c1 jd).out.mono ?_;rintro e w2 ⟨a2,n2,c2,rfl,hm2,hn2,hb2,hf2⟩;obtain⟨hc2,hz2⟩:=zA6 (hb2.mono (show w.heap.size+2≤_ by simp;omega));have hbw2:=zA0 (w:=w) (have:=Beh.mk hbw;zbh) hb2;have hg2:w.heap.size+2≤w2.heap.size:=by have:=hb2.size;(try simp at this);omega
 obtain⟨q0,q1,q2,q3,q4⟩:w2.cell? ⟨w.heap.size,0,none⟩=some (.bool false)∧w2.cell? ⟨w.heap.size+1,0,none⟩=some (.bool false)∧w2.cell? ⟨w.heap.size+1,1,none⟩=some (.slice none 0 0)∧(∀i,w2.frozen? ⟨w.heap.size+1,i,none⟩=false)∧w.heap.size<w2.heap.size:=⟨jj,jj,jj,fun i=>jj,j0⟩;clear hc1 hz1 hc2 hz2 hb hb2 hbw hf2;go_wp2_with fail;refine(HM _ a2 n2 c2 (hm2.below zbh) hn2).out.mono ?_;rintro e w3 ⟨a3,c3,rfl,hm3,hb3,hf3⟩;obtain⟨hc3,hz3⟩:=zA6 (hb3.mono (show w.heap.size+2≤_ by first | exact hg2 | (simp;omega)));have hbw3:=zA0 (w:=w) (have:=Beh.mk hbw2;zbh) hb3;have hg3:w.heap.size+2≤w3.heap.size:=by have:=hb3.size;(try simp at this);omega
 have hfr3:0<nl v.natAbs→w.heap.size+2≤ab a3:=fun h=>by have:=hf3 h;(try simp at this);omega
 have o3:=hm3.old;obtain⟨y0,y1,y2,y3,y4⟩:w3.cell? ⟨w.heap.size,0,none⟩=some (.bool false)∧w3.cell? ⟨w.heap.size+1,0,none⟩=some (.bool false)∧w3.cell? ⟨w.heap.size+1,1,none⟩=some (.slice none 0 0)∧(∀i,w3.frozen? ⟨w.heap.size+1,i,none⟩=false)∧w.heap.size<w3.heap.size:=⟨jj,jj,jj,fun i=>jj,j0⟩;have n1:¬w.heap.size=w3.heap.size:=j0
 have n2':¬w.heap.size+1=w3.heap.size:=j0
 have n3:¬w3.heap.size=w.heap.size+1:=j0
 have n4:w.heap.size+1<w3.heap.size:=j0
 clear hc3 hz3 q0 q1 q2 q3 q4;go_wp2_with fail;refine bodyPost_ret (v:=.agg #[.bool (decide (v<0)),.slice a3 (nl v.natAbs) c3]) (by simp only[results,Tryz.results86];go_simp) rfl ?_;exact⟨a3,c3,rfl,(by repeat(with_reducible first | refine Mag.set ?_ (fun h=>by have:=hfr3 h;omega) _ _ | refine Mag.drew ?_ | refine Mag.alloc ?_ _ | refine Mag.drewN ?_ _ | refine Mag.below ?_ (Below.drew (Below.refl _ _)) | refine Mag.below ?_ ((Below.refl _ _).alloc (Nat.le_refl _) _) | exact hm3)),(by have hszw:=(hbw3).size;repeat(with_reducible first | refine Below.setCell ?_ j8 _ | refine Below.alloc ?_ j8 _ | refine Below.drew ?_ | refine below_drewN ?_ _ | exact hbw3)),fun h=>by have:=hfr3 h;omega⟩
theorem zLW(w:World)(a:Option Addr)(n cap x k:Nat)(m:Int)(hx:Mag w a n cap x)(hlim:n≤549755813888)(hk:k≤1048576)(hmk:m= -(k:Int)):Calls Tryz.prog 86 #[.agg #[.bool false,.slice a n cap],.int .i64 m] w (zAl w ((x/2^k:Nat):Int)):=by
 rcases Nat.eq_zero_or_pos k with h0 | h0
 · subst h0;have:=zCj w false a n cap x 0 hx hlim j0;rw[show sgn false x*2^0=((x/2^0:Nat):Int)by simp[sgn]]at this;rw[hmk];exact this
 · exact zHd w a n cap x k m hx hlim h0 hk hmk
theorem zEU(w:World)(a:Option Addr)(n cap x k:Nat)(hx:Mag w a n cap x)(hlim:n≤549755813888)(hk:k≤1048576):Calls Tryz.prog 89 #[.agg #[.bool false,.slice a n cap],.int .i64 k] w (zAl w ((x/2^k:Nat):Int)):=by
 obtain⟨m,hmk⟩:∃m:Int,m= -(k:Int):=⟨_,rfl⟩;have HS:=fun W h=>Lib.hid (zLW W a n cap x k m h hlim hk hmk);generalize ((x/2^k:Nat):Int)=v at HS ⊢;have t4: -(k:Int)=m:=hmk.symm;have t3:decide ((1048576:Int)<(k:Int))=false:=jq
 clear hmk;go_enter Tryz.func89,Tryz.ntmps89;go_wp2_with fail
 go_loopw [1] (fun t wr=>t=.int .i64 k∧wr=((w.alloc (.cells #[.bool false,.slice a n cap] 51)).alloc (.cells #[.bool false,.slice none 0 0] 51))) (fun t _=>(intOf t).toNat)
 case atStart=>exact⟨rfl,rfl⟩
 case round=>
  obtain⟨rfl,rfl⟩:=hrel;go_wp2_with fail;refine(HS _ (hx.below zbh)).out.mono ?_;rintro e w1 ⟨a1,c1,rfl,hm1,hb,hf1⟩;obtain⟨hc1,hz1⟩:=zA6 (hb.mono (show w.heap.size+2≤_ by simp));have hfr1:0<nl v.natAbs→w.heap.size+2≤ab a1:=fun h=>jB
  have hbw:=zA0 (w:=w) zbh hb;go_wp2_with fail;refine bodyPost_ret (v:=.agg #[.bool (decide (v<0)),.slice a1 (nl v.natAbs) c1]) (by simp only[results,Tryz.results89];go_simp) rfl ?_;exact zBV hm1 (fun h=>jE) hbw j0
theorem zAm{W:World}{b g:Nat}(h:b≠g)(i j:Nat)(v:Value):(W.setCell ⟨g,j,none⟩ v).cell? ⟨b,i,none⟩=W.cell? ⟨b,i,none⟩:=
 World.cell?_of_block (a:=⟨b,i,none⟩) (Below.heap_setCell _ _ _ _ h)
theorem zAs{W:World}{b g:Nat}(i j:Nat)(v:Value):(W.setCell ⟨g,j,none⟩ v).frozen? ⟨b,i,none⟩=W.frozen? ⟨b,i,none⟩:=KY
structure BgV(W:World)(b:Nat)(s:Bool)(sl:Value):Prop where
 c0:W.cell? ⟨b,0,none⟩=some (.bool s)
 c1:W.cell? ⟨b,1,none⟩=some sl
 z:∀i,W.frozen? ⟨b,i,none⟩=false
 lt:b<W.heap.size
theorem BgV.below{W W':World}{b:Nat}{s:Bool}{sl:Value}(h:BgV W b s sl)(hb:Below W.heap.size W W'):BgV W' b s sl:=by
 obtain⟨h1,h2⟩:=zA6 hb;exact⟨(h1 _ _ h.lt).trans h.c0,(h1 _ _ h.lt).trans h.c1,fun i=>(h2 _ _ h.lt).trans (h.z i),Nat.lt_of_lt_of_le h.lt hb.size⟩
theorem BgV.alloc{W:World}{b:Nat}{s:Bool}{sl:Value}(h:BgV W b s sl)(o:Obj):BgV (W.alloc o) b s sl:=h.below ((Below.refl _ _).alloc (Nat.le_refl _) _)
theorem BgV.drew{W:World}{b:Nat}{s:Bool}{sl:Value}(h:BgV W b s sl):BgV W.drew b s sl:=⟨h.c0,h.c1,h.z,h.lt⟩
theorem BgV.set{W:World}{b g:Nat}{s:Bool}{sl:Value}(h:BgV W b s sl)(hne:b≠g)(j:Nat)(v:Value):BgV (W.setCell ⟨g,j,none⟩ v) b s sl:=
 ⟨(zAm hne _ _ _).trans h.c0,(zAm hne _ _ _).trans h.c1,fun i=>(zAs i _ _).trans (h.z i),jW⟩
theorem BgV.made(W:World)(t:TypeId)(s:Bool)(sl:Value):BgV (W.alloc (.cells #[.bool s,sl] t)) W.heap.size s sl:=
 ⟨jx,jx,fun i=>KY,jr⟩
structure DyV(W:World)(b:Nat)(v s:Bool)(sl:Value)(f:Int):Prop where
 c0:W.cell? ⟨b,0,none⟩=some (.bool v)
 c1:W.cell? ⟨b,1,none⟩=some (.bool s)
 c2:W.cell? ⟨b,2,none⟩=some sl
 c3:W.cell? ⟨b,3,none⟩=some (.int .i64 f)
 z:∀i,W.frozen? ⟨b,i,none⟩=false
 lt:b<W.heap.size
theorem DyV.below{W W':World}{b:Nat}{v s:Bool}{sl:Value}{f:Int}(h:DyV W b v s sl f)(hb:Below W.heap.size W W'):DyV W' b v s sl f:=by
 obtain⟨h1,h2⟩:=zA6 hb;exact⟨(h1 _ _ h.lt).trans h.c0,(h1 _ _ h.lt).trans h.c1,(h1 _ _ h.lt).trans h.c2,(h1 _ _ h.lt).trans h.c3,fun i=>(h2 _ _ h.lt).trans (h.z i),Nat.lt_of_lt_of_le h.lt hb.size⟩
theorem DyV.alloc{W:World}{b:Nat}{v s:Bool}{sl:Value}{f:Int}(h:DyV W b v s sl f)(o:Obj):DyV (W.alloc o) b v s sl f:=h.below ((Below.refl _ _).alloc (Nat.le_refl _) _)
theorem DyV.drew{W:World}{b:Nat}{v s:Bool}{sl:Value}{f:Int}(h:DyV W b v s sl f):DyV W.drew b v s sl f:=⟨h.c0,h.c1,h.c2,h.c3,h.z,h.lt⟩
theorem DyV.set{W:World}{b g:Nat}{v s:Bool}{sl:Value}{f:Int}(h:DyV W b v s sl f)(hne:b≠g)(j:Nat)(u:Value):DyV (W.setCell ⟨g,j,none⟩ u) b v s sl f:=
 ⟨(zAm hne _ _ _).trans h.c0,(zAm hne _ _ _).trans h.c1,(zAm hne _ _ _).trans h.c2,(zAm hne _ _ _).trans h.c3,fun i=>(zAs i _ _).trans (h.z i),jW⟩
theorem DyV.made(W:World)(t:TypeId)(v s:Bool)(sl:Value)(f:Int):DyV (W.alloc (.cells #[.bool v,.bool s,sl,.int .i64 f] t)) W.heap.size v s sl f:=
 ⟨jx,jx,jx,jx,fun i=>KY,jr⟩
theorem DyV.made'(W:World)(t:TypeId)(v s:Bool)(sl:Value)(f:Int){n:Nat}(hn:n=W.heap.size):DyV (W.alloc (.cells #[.bool v,.bool s,sl,.int .i64 f] t)) n v s sl f:=by subst hn;exact DyV.made ..
theorem BgV.made'(W:World)(t:TypeId)(s:Bool)(sl:Value){n:Nat}(hn:n=W.heap.size):BgV (W.alloc (.cells #[.bool s,sl] t)) n s sl:=by subst hn;exact BgV.made ..
theorem BgV.drewN{W:World}{b:Nat}{s:Bool}{sl:Value}(h:BgV W b s sl)(q:Nat):BgV (W.drewN q) b s sl:=⟨h.c0,h.c1,h.z,h.lt⟩
theorem DyV.drewN{W:World}{b:Nat}{v s:Bool}{sl:Value}{f:Int}(h:DyV W b v s sl f)(q:Nat):DyV (W.drewN q) b v s sl f:=⟨h.c0,h.c1,h.c2,h.c3,h.z,h.lt⟩
theorem DyV.on{W W':World}{b:Nat}{v s:Bool}{sl:Value}{f:Int}(h:DyV W b v s sl f)[k:Beh W W']:DyV W' b v s sl f:=h.below k.out
theorem BgV.on{W W':World}{b:Nat}{s:Bool}{sl:Value}(h:BgV W b s sl)[k:Beh W W']:BgV W' b s sl:=h.below k.out
end Go.Proofs.YtmbkgapknoammaaGreatDoor

/-
  Walks: package float: the parts of a float and the functions of its bits.
-/
import Derived.Test.YtmbkgapknoammaaGreatDoorZuFP
import Derived.Test.YtmbkgapknoammaaGreatDoorZuBf
import Derived.Test.YtmbkgapknoammaaGreatDoorZuBd
import Derived.Test.YtmbkgapknoammaaGreatDoorZuBe
set_option maxHeartbeats 400000
namespace Go.Proofs.YtmbkgapknoammaaGreatDoor
open Go.RowKit Sp
theorem zE3(w:World)(f:Nat):Calls Tryz.prog 134 #[.int .u64 f] w fun e w'=>e=.returned (.tuple #[.int .i64 (fE f:Nat),.int .u64 (fR f:Nat)])∧w=w':=by
 have h1:=zKh f;have h2:=zNZ f;have h3:=zHL f;have h4:IntKind.i64.wrap ((fE f:Nat):Int)=(fE f:Nat):=jg
 generalize ((fE f:Nat):Int)=E at *;generalize ((fR f:Nat):Int)=R at *;go_enter Tryz.func134,Tryz.ntmps134
 go_wp2
 refine bodyPost_ret (v:=.tuple #[.int .i64 E,.int .u64 R]) (by simp only[results,Tryz.results134];go_simp) rfl ?_;exact⟨rfl,rfl⟩
theorem zNd(w:World)(f:Nat)(hf:f<18446744073709551616):Calls Tryz.prog 148 #[.int .u64 f] w fun e w'=>e=.returned (.bool (fS f))∧w=w':=by
 have h1:=zHY hf
 cases hs:fS f <;> rw[hs]at h1 <;>
 · simp only[if_true,Bool.false_eq_true,if_false]at h1;go_enter Tryz.func148,Tryz.ntmps148
   go_wp2
   go_ret;exact⟨jz,rfl⟩
theorem zBX(w:World)(c:Nat)(s:Bool)(hc:c<9223372036854775808):Calls Tryz.prog 185 #[.int .u64 c,.bool s] w fun e w'=>e=.returned (.int .u64 (zBE s c:Nat))∧w=w':=by
 have h1:=zEr hc
 cases s
 · go_enter Tryz.func185,Tryz.ntmps185
   go_wp2
   go_ret;exact⟨rfl,rfl⟩
 · generalize ((zBE true c:Nat):Int)=v at *;go_enter Tryz.func185,Tryz.ntmps185
   go_wp2
   go_ret;exact⟨jz,rfl⟩
theorem zJY(f:Nat):zFi f=if fE f=2047 then(if fR f=0 then 2 else 3)else if fE f=0 then(if fR f=0 then 0 else 1)else 1:=by
 have h1:=zQj f;have h2:=zQk f;have h3:=zN9 f;unfold zFi;rw[h1,h2,h3]
 by_cases a:fE f=2047 <;> by_cases b:fR f=0 <;> by_cases c:fE f=0 <;> simp[a,b,c] <;> omega
theorem zHH(w:World)(f:Nat):Calls Tryz.prog 101 #[.int .u64 f] w fun e w'=>e=.returned (.int .i64 (zFi f))∧w=w':=by
 have HP:=fun W=>Lib.hid (zE3 W f);have hk:=zJY f;have a1:(((fE f:Nat):Int)==2047)=decide (fE f=2047):=by rw[Bool.eq_iff_iff];simp;omega
 have a2:(((fE f:Nat):Int)==0)=decide (fE f=0):=by rw[Bool.eq_iff_iff];simp
 have a3:(((fR f:Nat):Int)==0)=decide (fR f=0):=by rw[Bool.eq_iff_iff];simp
 have a4:(((fR f:Nat):Int) != 0)=!decide (fR f=0):=by unfold bne;rw[a3]
 generalize zFi f=k at *;generalize ((fE f:Nat):Int)=E at *;generalize ((fR f:Nat):Int)=R at *
 by_cases a:fE f=2047
 · rw[decide_eq_true a]at a1;rw[if_pos a]at hk
   by_cases b:fR f=0
   · rw[decide_eq_true b]at a3 a4;rw[if_pos b]at hk;subst hk;clear a b a2 a3;go_enter Tryz.func101,Tryz.ntmps101;go_wp2_with fail;refine(HP _).out.mono ?_;rintro e w1 ⟨rfl,rfl⟩;go_wp2_with fail;go_ret;exact⟨rfl,rfl⟩
   · rw[decide_eq_false b]at a3 a4;rw[if_neg b]at hk;subst hk;clear a b a2 a3;go_enter Tryz.func101,Tryz.ntmps101;go_wp2_with fail;refine(HP _).out.mono ?_;rintro e w1 ⟨rfl,rfl⟩;go_wp2_with fail;go_ret;exact⟨rfl,rfl⟩
 · rw[decide_eq_false a]at a1;rw[if_neg a]at hk
   by_cases c:fE f=0
   · rw[decide_eq_true c]at a2;rw[if_pos c]at hk
     by_cases b:fR f=0
     · rw[decide_eq_true b]at a3;rw[if_pos b]at hk;subst hk;clear a b c a4;go_enter Tryz.func101,Tryz.ntmps101;go_wp2_with fail;refine(HP _).out.mono ?_;rintro e w1 ⟨rfl,rfl⟩;go_wp2_with fail;go_ret;exact⟨rfl,rfl⟩
     · rw[decide_eq_false b]at a3;rw[if_neg b]at hk;subst hk;clear a b c a4;go_enter Tryz.func101,Tryz.ntmps101;go_wp2_with fail;refine(HP _).out.mono ?_;rintro e w1 ⟨rfl,rfl⟩;go_wp2_with fail;go_ret;exact⟨rfl,rfl⟩
   · rw[decide_eq_false c]at a2;rw[if_neg c]at hk;subst hk;clear a c a3 a4;go_enter Tryz.func101,Tryz.ntmps101;go_wp2_with fail;refine(HP _).out.mono ?_;rintro e w1 ⟨rfl,rfl⟩;go_wp2_with fail;go_ret;exact⟨rfl,rfl⟩
theorem zFh(f:Nat):(zFi f==3)=zLh f∧(zFi f==2)=zRV f∧(zFi f==0)=zB0 f:=by
 have h1:=zQj f;have h2:=zQk f;have h3:=zN9 f;rw[zJY,h1,h2,h3]
 by_cases a:fE f=2047 <;> by_cases b:fR f=0 <;> by_cases c:fE f=0 <;> simp[a,b,c] <;> omega
theorem zDH(w:World)(f:Nat):Calls Tryz.prog 100 #[.int .u64 f] w fun e w'=>e=.returned (.bool (zAA f))∧w=w':=by
 have HP:=fun W=>Lib.hid (zE3 W f);have hk:(((fE f:Nat):Int) != 2047)=zAA f:=by rw[zDI,Bool.eq_iff_iff];simp;omega
 generalize ((fE f:Nat):Int)=E at *;go_enter Tryz.func100,Tryz.ntmps100;go_wp2_with fail;refine(HP _).out.mono ?_;rintro e w1 ⟨rfl,rfl⟩;go_wp2_with fail;go_ret;exact⟨jz,rfl⟩
end Go.Proofs.YtmbkgapknoammaaGreatDoor
set_option maxRecDepth 100000
set_option maxHeartbeats 2000000
namespace Go.Proofs.YtmbkgapknoammaaGreatDoor
open Go.RowKit Sp
def FRow(w:World)(g n:Nat)(L:Nat→Nat):Prop:=∀i,i<n→w.cell? ⟨g,i,none⟩=some (.int .u64 (L i:Nat))
theorem FRow.drewN{w:World}{g n:Nat}{L:Nat→Nat}(h:FRow w g n L)(q:Nat):FRow (w.drewN q) g n L:=h
theorem zJv(mode:Int)(s:Bool):zCd s mode=if(mode==3||(mode==1&&!s)||(mode==2&&s))then zBE s zK2 else zBE s zE9:=by
 unfold zCd
 by_cases h3:mode=3
 · subst h3;simp
 · by_cases h1:mode=1
   · subst h1;cases s <;> simp
   · by_cases h2:mode=2
     · subst h2;cases s <;> simp
     · cases s <;> simp[h1,h2,h3]
theorem zHG(w:World)(mode:Int)(s:Bool):Calls Tryz.prog 186 #[.bool s,.int .i64 mode] w fun e w'=>e=.returned (.int .u64 (zCd s mode:Nat))∧w=w':=by
 have hv:=zJv mode s;have HM:=fun W=>Lib.hid (show Calls Tryz.prog 185 #[.int .u64 9218868437227405311,.bool s] W fun e w'=>e=.returned (.int .u64 (zBE s zK2:Nat))∧W=w' from zBX W zK2 s ja);have HI:=fun W=>Lib.hid (show Calls Tryz.prog 185 #[.int .u64 9218868437227405312,.bool s] W fun e w'=>e=.returned (.int .u64 (zBE s zE9:Nat))∧W=w' from zBX W zE9 s ja);rw[hv];clear hv
 cases hb:(mode==3||(mode==1&&!s)||(mode==2&&s))with
 | true=>
  simp only[if_true];generalize ((zBE s zK2:Nat):Int)=v at *
  cases h3:(mode==3) <;> cases h1:(mode==1) <;> cases h2:(mode==2) <;> cases s <;> rw[h3,h1,h2]at hb <;> first
  | (exfalso;revert hb;decide)
  | (clear hb
     go_enter Tryz.func186,Tryz.ntmps186;go_wp2_with fail;refine(HM _).out.mono ?_;rintro e w1 ⟨rfl,rfl⟩;go_wp2_with fail;go_ret;exact⟨rfl,rfl⟩)
 | false=>
  simp only[Bool.false_eq_true,if_false];generalize ((zBE s zE9:Nat):Int)=v at *
  cases h3:(mode==3) <;> cases h1:(mode==1) <;> cases h2:(mode==2) <;> cases s <;> rw[h3,h1,h2]at hb <;> first
  | (exfalso;revert hb;decide)
  | (clear hb
     go_enter Tryz.func186,Tryz.ntmps186;go_wp2_with fail;refine(HI _).out.mono ?_;rintro e w1 ⟨rfl,rfl⟩;go_wp2_with fail;go_ret;exact⟨rfl,rfl⟩)
end Go.Proofs.YtmbkgapknoammaaGreatDoor
set_option maxRecDepth 100000
set_option maxHeartbeats 2000000
namespace Go.Proofs.YtmbkgapknoammaaGreatDoor
open Go.RowKit Sp
theorem zMj(w:World)(a a':Option Addr)(n m cap cap' x y N:Nat)(hx:Mag w a n cap x)(hy:Mag w a' m cap' y)(hN:N=max n m)(hlim:N≤1099511627776):Calls Tryz.prog 93 #[.slice a n cap,.slice a' m cap'] w (zDO w (x+y) (N+1)):=by
 have hmx:max (n:Int) (m:Int)=(N:Int):=j0
 have hxN:x<B^N:=Nat.lt_of_lt_of_le hx.lt (zBt j0);have hyN:y<B^N:=Nat.lt_of_lt_of_le hy.lt (zBt j0);have lx1:=hx.lim;have lx2:=hx.fits;have ly1:=hy.lim;have ly2:=hy.fits;have HX:=Lib.hid hx;have HY:=Lib.hid hy;have HXN:=Lib.hid hxN;have HYN:=Lib.hid hyN;have HNN:=Lib.hid hN;clear hx hy hxN hyN hN;go_enter Tryz.func93,Tryz.ntmps93
 go_wp2
 have hown0:=World.ownsRow_nil w w.heap.size 94 1
 go_loopw [5,6,7] (fun v c i wr=>∃k:Nat,k≤N∧i=.int .i64 k∧c=.int .u64 (car x y k)∧wr.ownsRow w.heap.size 94 1 v k (zDq (x+y) k)∧Below w.heap.size w wr) (fun _ _ i _=>N-(intOf i).toNat)
 case atStart=>exact⟨0,j0,rfl,Xd,hown0,Below.refl _ _⟩
 case round=>
  clear hown0;obtain⟨k,hk,rfl,rfl,hown,hb⟩:=hrel;have hx':=HX.out.below hb;have hy':=HY.out.below hb;have hz:=hb.size;have hc1:=zC9 x y k
  by_cases hlt:k<N
  · have hlt':decide ((k:Int)<(N:Int))=true:=by simpa using hlt
    by_cases hxk:k<n
    · by_cases hyk:k<m
      · have c1:=hx'.cell k hxk;have i1:=hx'.idx 49 und siz k hxk;have hd1:=zA5 x k;have c2:=hy'.cell k hyk;have i2:=hy'.idx 49 und siz k hyk;have hd2:=zA5 y k;have HD:Hid ((((car x y k:Nat):Int)+dig x k+dig y k)%4294967296=((dig (x+y) k:Nat):Int)):=Xl;have HC:Hid (car x y (k+1)=(car x y k+dig x k+dig y k)/B):=(by show _=_;rw[zC8];congr 1;omega);go_wp2_with (at_builtin;refine zAK 49 94 zCy zCh rfl _ _ rfl w.heap.size _ k (x+y) rfl _ _ rfl (hown.alloc _) (World.cell?_alloc_new _ _ _ _) HD.out j0 jr ?_;intro v1 w1 hown1 hb1);go_roundw
        case rel=>exact⟨k+1,j0,jm,Q1,hown1,(hb.alloc hz _).trans hb1⟩
        case measure=>exact jb
      · have c1:=hx'.cell k hxk;have i1:=hx'.idx 49 und siz k hxk;have hd1:=zA5 x k;have hy2:dig y k=0:=zAJ HY.out.lt j0;have HD:Hid ((((car x y k:Nat):Int)+dig x k)%4294967296=((dig (x+y) k:Nat):Int)):=X4;have HC:Hid (car x y (k+1)=(car x y k+dig x k)/B):=(by show _=_;rw[zC8,hy2];congr 1;omega);clear hy2;go_wp2_with (at_builtin;refine zAK 49 94 zCy zCh rfl _ _ rfl w.heap.size _ k (x+y) rfl _ _ rfl (hown.alloc _) (World.cell?_alloc_new _ _ _ _) HD.out j0 jr ?_;intro v1 w1 hown1 hb1);go_roundw
        case rel=>exact⟨k+1,j0,jm,Q1,hown1,(hb.alloc hz _).trans hb1⟩
        case measure=>exact jb
    · have hyk:k<m:=(by have:=HNN.out;omega);have hx2:dig x k=0:=zAJ HX.out.lt j0;have c2:=hy'.cell k hyk;have i2:=hy'.idx 49 und siz k hyk;have hd2:=zA5 y k;have HD:Hid ((((car x y k:Nat):Int)+dig y k)%4294967296=((dig (x+y) k:Nat):Int)):=(by show _=_;rw[zCB,hx2,zAX];omega);have HC:Hid (car x y (k+1)=(car x y k+dig y k)/B):=(by show _=_;rw[zC8,hx2];congr 1;omega);clear hx2;go_wp2_with (at_builtin;refine zAK 49 94 zCy zCh rfl _ _ rfl w.heap.size _ k (x+y) rfl _ _ rfl (hown.alloc _) (World.cell?_alloc_new _ _ _ _) HD.out j0 jr ?_;intro v1 w1 hown1 hb1);go_roundw
      case rel=>exact⟨k+1,j0,jm,Q1,hown1,(hb.alloc hz _).trans hb1⟩
      case measure=>exact jb
  · obtain rfl:k=N:=j0;have HD:Hid (((car x y k:Nat):Int)=((dig (x+y) k:Nat):Int)):=by
     show _=_;rw[zIM HXN.out HYN.out]
    have hlt':decide ((k:Int)<(k:Int))=false:=jz;go_wp2_with (at_builtin;refine zAK 49 94 zCy zCh rfl _ _ rfl w.heap.size _ k (x+y) rfl _ _ rfl (hown.alloc _) (World.cell?_alloc_new _ _ _ _) HD.out j0 jr ?_;intro v1 w1 hown1 hb1);obtain⟨a1,cp1,hv,hm1,hfr⟩:=zAU hown1 (Sp.add_lt HXN.out HYN.out (Nat.le_refl _));subst hv;go_ret;exact⟨a1,_,cp1,rfl,hm1,Nat.le_refl _,(hb.alloc hz _).trans hb1,hfr⟩
theorem zHc(x y d k:Nat)(h:y+d=x):IntKind.u64.wrap (IntKind.u64.wrap ((dig x k:Int)-(car y d k:Nat))-(dig y k:Nat))/9223372036854775808=((car y d (k+1):Nat):Int):=by
 subst h;obtain⟨h1,h2⟩:=zG6 y d k;have h3:=zC9 y d k;have h5:=zA5 y k;have h6:=zA5 (y+d) k;simp only[IntKind.wrap_u64];rw[h2]
 split <;> omega
theorem zKH(x y d k:Nat)(h:y+d=x)(h0:dig y k=0):IntKind.u64.wrap ((dig x k:Int)-(car y d k:Nat))/9223372036854775808=((car y d (k+1):Nat):Int):=by
 subst h;obtain⟨h1,h2⟩:=zG6 y d k;have h3:=zC9 y d k;have h6:=zA5 (y+d) k;rw[h0]at h2;simp only[IntKind.wrap_u64];rw[h2]
 split <;> omega
theorem zHb(w:World)(a a':Option Addr)(n m cap cap' x y d:Nat)(hx:Mag w a n cap x)(hy:Mag w a' m cap' y)(hd:y+d=x)(hlim:n≤1099511627776):Calls Tryz.prog 95 #[.slice a n cap,.slice a' m cap'] w (zDO w d n):=by
 have HX:=Lib.hid hx;have HY:=Lib.hid hy;have HDD:=Lib.hid hd;have ly1:=hy.lim;have ly2:=hy.fits;clear hx hy hd;go_enter Tryz.func95,Tryz.ntmps95
 go_wp2
 have hown0:=World.ownsRow_nil w w.heap.size 94 1
 go_loopw [5,6,7] (fun v c i wr=>∃k:Nat,k≤n∧i=.int .i64 k∧c=.int .u64 (car y d k)∧wr.ownsRow w.heap.size 94 1 v k (zDq d k)∧Below w.heap.size w wr) (fun _ _ i _=>n-(intOf i).toNat)
 case atStart=>exact⟨0,j0,rfl,Xd,hown0,Below.refl _ _⟩
 case round=>
  clear hown0;obtain⟨k,hk,rfl,rfl,hown,hb⟩:=hrel;have hx':=HX.out.below hb;have hy':=HY.out.below hb;have hz:=hb.size;have hc1:=zC9 y d k
  by_cases hlt:k<n
  · have c1:=hx'.cell k hlt;have i1:=hx'.idx 49 und siz k hlt;have hd1:=zA5 x k
    by_cases hkm:k<m
    · have c2:=hy'.cell k hkm;have i2:=hy'.idx 49 und siz k hkm;have hd2:=zA5 y k;have HD:=Lib.hid (zG5 x y d k HDD.out).1;have HC:=Lib.hid (zHc x y d k HDD.out);go_wp2_with (at_builtin;refine zAK 49 94 zCy zCh rfl _ _ rfl w.heap.size _ k (d) rfl _ _ rfl (hown.alloc _) (World.cell?_alloc_new _ _ _ _) HD.out j0 jr ?_;intro v1 w1 hown1 hb1);go_roundw
      case rel=>exact⟨k+1,j0,jm,by rw[HC.out],hown1,(hb.alloc hz _).trans hb1⟩
      case measure=>exact jb
    · have hy2:dig y k=0:=zAJ HY.out.lt j0;have HD:=Lib.hid (zGZ x y d k HDD.out hy2).1;have HC:=Lib.hid (zKH x y d k HDD.out hy2);clear hy2;go_wp2_with (at_builtin;refine zAK 49 94 zCy zCh rfl _ _ rfl w.heap.size _ k (d) rfl _ _ rfl (hown.alloc _) (World.cell?_alloc_new _ _ _ _) HD.out j0 jr ?_;intro v1 w1 hown1 hb1);go_roundw
      case rel=>exact⟨k+1,j0,jm,by rw[HC.out],hown1,(hb.alloc hz _).trans hb1⟩
      case measure=>exact jb
  · obtain rfl:k=n:=j0;have hdl:d<B^k:=Nat.lt_of_le_of_lt (by have:=HDD.out;omega) HX.out.lt;obtain⟨a1,cp1,hv,hm1,hfr⟩:=zAU hown hdl;subst hv
    go_wp2
    go_ret;exact⟨a1,k,cp1,rfl,hm1,Nat.le_refl _,hb,hfr⟩
theorem zEX(w:World)(a a':Option Addr)(n m cap cap' x y:Nat)(hx:Mag w a n cap x)(hy:Mag w a' m cap' y)(hn:n=nl x)(hm:m=nl y):Calls Tryz.prog 94 #[.slice a n cap,.slice a' m cap'] w fun e w'=>e=.returned (.int .i64 (zAq x y))∧∃q,w'=w.drewN q:=by
 have l1:=hx.lim;have l2:=hy.lim;have l3:=hx.fits;have l4:=hy.fits
 by_cases hnm:n=m
 · subst hnm;clear hn hm;go_enter Tryz.func94,Tryz.ntmps94
   go_wp2
   go_loopw [5] (fun t wr=>∃k:Nat,k≤n∧x/B^k=y/B^k∧t=.int .i64 ((k:Int)-1)∧∃q,wr=w.drewN q) (fun t _=>(intOf t+1).toNat)
   case atStart=>exact⟨n,Nat.le_refl _,by rw[Nat.div_eq_of_lt hx.lt,Nat.div_eq_of_lt hy.lt],rfl,0,rfl⟩
   case round=>
    obtain⟨k,hk,hq,rfl,q,rfl⟩:=hrel;have HQ:=Lib.hid hq;clear hq
    by_cases h0:0<k
    · obtain⟨j,rfl⟩:∃j,k=j+1:=⟨k-1,j0⟩;have c1:=hx.cell j j0;have c2:=hy.cell j j0;have i1:=hx.idx 49 und siz j j0;have i2:=hy.idx 49 und siz j j0
      go_wp2
      go_quiet (fail)
      go_wp2
      · have hd:=zKf (by assumption:(((dig x j:Nat):Int) != ((dig y j:Nat):Int))=true);have hcd:=zNR HQ.out hd;have HCD:=Lib.hid hcd;clear hcd
        go_quiet (fail)
        go_wp2
        · go_ret;refine⟨?_,_,Q8⟩;rw[←HCD.out,zAS (by first | assumption | omega)];rfl
        · go_ret;refine⟨?_,_,Q8⟩;rw[←HCD.out,zAW j0];rfl
      · have hd:=zHX (by assumption:(((dig x j:Nat):Int) != ((dig y j:Nat):Int))=false);go_roundw
        case rel=>exact⟨j,j0,zNx HQ.out hd,rfl,_,rfl⟩
        case measure=>exact Q4
    · obtain rfl:k=0:=by omega
      go_wp2
      go_ret;refine⟨?_,_,rfl⟩;have:x=y:=(by have:=HQ.out;simpa using this);rw[this,zCf rfl];rfl
 · have hnm':((n:Int) != (m:Int))=true:=Kq;have hc:=zQo (x:=x) (y:=y) j0;rw[←hn,←hm]at hc;have HC:=Lib.hid hc;clear hn hm hc
   by_cases hlt:n<m
   · have hl:decide ((n:Int)<(m:Int))=true:=(by simpa using hlt);go_enter Tryz.func94,Tryz.ntmps94
     go_wp2
     go_ret;refine⟨?_,0,rfl⟩;rw[←HC.out,zAS j0];rfl
   · have hl:decide ((n:Int)<(m:Int))=false:=jq;go_enter Tryz.func94,Tryz.ntmps94
     go_wp2
     go_ret;refine⟨?_,0,rfl⟩;rw[←HC.out,zAW j0];rfl
end Go.Proofs.YtmbkgapknoammaaGreatDoor
namespace Go.Proofs.YtmbkgapknoammaaGreatDoor
open Go.RowKit Sp
class From(L:outParam World)(w':World):Prop where out:Below L.heap.size L w'
instance Beh.fr(w L w':World)[f:From L w'][h:Beh w L]:Beh w w':=⟨h.out.trans (f.out.mono h.out.size)⟩
class Tb(w:World):Prop where out:Tab w
instance Tb.dr(w:World)[h:Tb w]:Tb w.drew:=⟨h.out⟩
instance Tb.dn(w:World)(q:Nat)[h:Tb w]:Tb (w.drewN q):=⟨h.out⟩
instance Tb.al(w:World)(o:Obj)[h:Tb w]:Tb (w.alloc o):=⟨h.out.below ((Below.refl _ _).alloc (Nat.le_refl _) _)⟩
instance Tb.fr(L w':World)[f:From L w'][h:Tb L]:Tb w':=⟨h.out.below f.out⟩
theorem tb{w:World}[h:Tb w]:Tab w:=h.out
class FV(W:World)(b:Nat)(x y:outParam Value):Prop where
 c0:W.cell? ⟨b,0,none⟩=some x
 c1:W.cell? ⟨b,1,none⟩=some y
 z:∀i,W.frozen? ⟨b,i,none⟩=false
 lt:b<W.heap.size
theorem FV.below{W W':World}{b:Nat}{x y:Value}(h:FV W b x y)(hb:Below W.heap.size W W'):FV W' b x y:=by
 obtain⟨h1,h2⟩:=zA6 hb;exact⟨(h1 _ _ h.lt).trans h.c0,(h1 _ _ h.lt).trans h.c1,fun i=>(h2 _ _ h.lt).trans (h.z i),Nat.lt_of_lt_of_le h.lt hb.size⟩
instance FV.dr(W:World)(b:Nat)(x y:Value)[h:FV W b x y]:FV W.drew b x y:=⟨h.c0,h.c1,h.z,h.lt⟩
instance FV.dn(W:World)(b:Nat)(x y:Value)(q:Nat)[h:FV W b x y]:FV (W.drewN q) b x y:=⟨h.c0,h.c1,h.z,h.lt⟩
instance FV.al(W:World)(b:Nat)(x y:Value)(o:Obj)[h:FV W b x y]:FV (W.alloc o) b x y:=FV.below h ((Below.refl _ _).alloc (Nat.le_refl _) _)
instance FV.fr(L w':World)(b:Nat)(x y:Value)[f:From L w'][h:FV L b x y]:FV w' b x y:=FV.below h f.out
theorem FV.made(W:World)(t:TypeId)(x y:Value){n:Nat}(hn:n=W.heap.size):FV (W.alloc (.cells #[x,y] t)) n x y:=by
 subst hn;exact⟨jx,jx,fun i=>KY,jr⟩
class Sz(W:World)(n:Nat):Prop where out:n=W.heap.size
instance Sz.rf(W:World):Sz W W.heap.size:=⟨rfl⟩
instance Sz.dr(W:World)(n:Nat)[h:Sz W n]:Sz W.drew n:=⟨h.out⟩
instance Sz.dn(W:World)(n q:Nat)[h:Sz W n]:Sz (W.drewN q) n:=⟨h.out⟩
instance Sz.al(W:World)(n:Nat)(o:Obj)[h:Sz W n]:Sz (W.alloc o) (n+1):=⟨by rw[World.size_alloc,←h.out]⟩
instance Sz.se(W:World)(n:Nat)(p:Addr)(v:Value)[h:Sz W n]:Sz (W.setCell p v) n:=⟨by rw[World.size_setCell];exact h.out⟩
instance FV.mk'(W:World)(t:TypeId)(x y:Value)(n:Nat)[h:Sz W n]:FV (W.alloc (.cells #[x,y] t)) n x y:=FV.made W t x y h.out
@[go_sem] theorem FV.r0 (W:World) (b:Nat) {x y:Value} [h:FV W b x y]:W.cell? ⟨b,0,none⟩=some x:=h.c0
@[go_sem] theorem FV.r1 (W:World) (b:Nat) {x y:Value} [h:FV W b x y]:W.cell? ⟨b,1,none⟩=some y:=h.c1
@[go_sem] theorem FV.rz (W:World) (b i:Nat) {x y:Value} [h:FV W b x y]:W.frozen? ⟨b,i,none⟩=false:=h.z i
@[go_sem] theorem FV.rs (W:World) (b:Nat) {x y:Value} [h:FV W b x y]:b<W.heap.size:=h.lt
class DB(W:World)(b:Nat)(v s:outParam Bool)(sl:outParam Value)(f:outParam Int):Prop where out:DyV W b v s sl f
instance DB.dr(W:World)(b:Nat)(v s:Bool)(sl:Value)(f:Int)[h:DB W b v s sl f]:DB W.drew b v s sl f:=⟨h.out.drew⟩
instance DB.dn(W:World)(b:Nat)(v s:Bool)(sl:Value)(f:Int)(q:Nat)[h:DB W b v s sl f]:DB (W.drewN q) b v s sl f:=⟨h.out.drewN q⟩
instance DB.al(W:World)(b:Nat)(v s:Bool)(sl:Value)(f:Int)(o:Obj)[h:DB W b v s sl f]:DB (W.alloc o) b v s sl f:=⟨h.out.alloc o⟩
instance DB.fr(L w':World)(b:Nat)(v s:Bool)(sl:Value)(f:Int)[k:From L w'][h:DB L b v s sl f]:DB w' b v s sl f:=⟨h.out.below k.out⟩
instance DB.mk'(W:World)(t:TypeId)(v s:Bool)(sl:Value)(f:Int)(n:Nat)[h:Sz W n]:DB (W.alloc (.cells #[.bool v,.bool s,sl,.int .i64 f] t)) n v s sl f:=⟨DyV.made' W t v s sl f h.out⟩
@[go_sem] theorem DB.r0 (W:World) (b:Nat) {v s:Bool} {sl:Value} {f:Int} [h:DB W b v s sl f]:W.cell? ⟨b,0,none⟩=some (.bool v):=h.out.c0
@[go_sem] theorem DB.r1 (W:World) (b:Nat) {v s:Bool} {sl:Value} {f:Int} [h:DB W b v s sl f]:W.cell? ⟨b,1,none⟩=some (.bool s):=h.out.c1
@[go_sem] theorem DB.r2 (W:World) (b:Nat) {v s:Bool} {sl:Value} {f:Int} [h:DB W b v s sl f]:W.cell? ⟨b,2,none⟩=some sl:=h.out.c2
@[go_sem] theorem DB.r3 (W:World) (b:Nat) {v s:Bool} {sl:Value} {f:Int} [h:DB W b v s sl f]:W.cell? ⟨b,3,none⟩=some (.int .i64 f):=h.out.c3
@[go_sem] theorem DB.rz (W:World) (b i:Nat) {v s:Bool} {sl:Value} {f:Int} [h:DB W b v s sl f]:W.frozen? ⟨b,i,none⟩=false:=h.out.z i
class DI(w:World)(v s:Bool)(a:Option Addr)(n cap:Nat)(e:Int)(d:outParam (Option (Int×Int))):Prop where out:DyIn w v s a n cap e d
section
variable {W:World}{v s:Bool}{a:Option Addr}{n cap:Nat}{e:Int}{d:Option (Int×Int)}
instance DI.dr[h:DI W v s a n cap e d]:DI W.drew v s a n cap e d:=⟨h.out.below (Below.refl _ _).drew⟩
instance DI.dn(q:Nat)[h:DI W v s a n cap e d]:DI (W.drewN q) v s a n cap e d:=⟨h.out.below (below_drewN (Below.refl _ _) _)⟩
instance DI.al(o:Obj)[h:DI W v s a n cap e d]:DI (W.alloc o) v s a n cap e d:=⟨h.out.below ((Below.refl _ _).alloc (Nat.le_refl _) _)⟩
instance DI.fr(L:World)[k:From L W][h:DI L v s a n cap e d]:DI W v s a n cap e d:=⟨h.out.below k.out⟩
end
theorem frd{P:Program}{f:FuncId}{args:Array Value}{W:World}{d:Option (Int×Int)}(hd:IsN d)(h:Calls P f args W (zAM W d)):Calls P f args W fun e w'=>∃a c,e=.returned (.agg #[.bool (zAj d),.bool (decide (zA1 d<0)),.slice a (nl (zA1 d).natAbs) c,.int .i64 (zA7 d)]) ∧
  DI w' (zAj d) (decide (zA1 d<0)) a (nl (zA1 d).natAbs) c (zA7 d) d∧From W w':=
 h.mono fun _ _ ⟨a,c,he,hm,hb,_⟩=>⟨a,c,he,⟨zAp hd hm⟩,⟨hb⟩⟩
theorem frm{P:Program}{f:FuncId}{args:Array Value}{W:World}{v:Value}(h:Calls P f args W fun e w'=>e=.returned v∧Below W.heap.size W w'):Calls P f args W fun e w'=>e=.returned v∧From W w':=h.mono fun _ _ ⟨he,hb⟩=>⟨he,⟨hb⟩⟩
end Go.Proofs.YtmbkgapknoammaaGreatDoor
namespace Go.Proofs.YtmbkgapknoammaaGreatDoor
open Go.RowKit Sp
class BI(W:World)(a:Option Addr)(n c:Nat)(x:outParam Nat):Prop where out:Mag W a n c x
section
variable {W:World}{a:Option Addr}{n c x:Nat}
instance BI.dr[h:BI W a n c x]:BI W.drew a n c x:=⟨h.out.drew⟩
instance BI.dn(q:Nat)[h:BI W a n c x]:BI (W.drewN q) a n c x:=⟨h.out.below (below_drewN (Below.refl _ _) _)⟩
instance BI.al(o:Obj)[h:BI W a n c x]:BI (W.alloc o) a n c x:=⟨h.out.below ((Below.refl _ _).alloc (Nat.le_refl _) _)⟩
instance BI.fr(L:World)[k:From L W][h:BI L a n c x]:BI W a n c x:=⟨h.out.below k.out⟩
end
class BB(W:World)(b:Nat)(s:outParam Bool)(sl:outParam Value):Prop where out:BgV W b s sl
section
variable {W:World}{b:Nat}{s:Bool}{sl:Value}
instance BB.dr[h:BB W b s sl]:BB W.drew b s sl:=⟨h.out.below (Below.refl _ _).drew⟩
instance BB.dn(q:Nat)[h:BB W b s sl]:BB (W.drewN q) b s sl:=⟨h.out.below (below_drewN (Below.refl _ _) _)⟩
instance BB.al(o:Obj)[h:BB W b s sl]:BB (W.alloc o) b s sl:=⟨h.out.below ((Below.refl _ _).alloc (Nat.le_refl _) _)⟩
instance BB.fr(L:World)[k:From L W][h:BB L b s sl]:BB W b s sl:=⟨h.out.below k.out⟩
end
instance BB.mk'(W:World)(t:TypeId)(s:Bool)(sl:Value)(n:Nat)[h:Sz W n]:BB (W.alloc (.cells #[.bool s,sl] t)) n s sl:=⟨BgV.made' W t s sl h.out⟩
@[go_sem] theorem BB.r0 (W:World) (b:Nat) {s:Bool} {sl:Value} [h:BB W b s sl]:W.cell? ⟨b,0,none⟩=some (.bool s):=h.out.c0
@[go_sem] theorem BB.r1 (W:World) (b:Nat) {s:Bool} {sl:Value} [h:BB W b s sl]:W.cell? ⟨b,1,none⟩=some sl:=h.out.c1
@[go_sem] theorem BB.rz (W:World) (b i:Nat) {s:Bool} {sl:Value} [h:BB W b s sl]:W.frozen? ⟨b,i,none⟩=false:=h.out.z i
class NA(a:Option Addr)(n g:Nat):Prop where out:0<n→ab a≠g
instance BI.se{W:World}{a:Option Addr}{n c x g:Nat}(i:Nat)(v:Value)[h:BI W a n c x][k:NA a n g]:BI (W.setCell ⟨g,i,none⟩ v) a n c x:=⟨h.out.set k.out i v⟩
class FA(L:outParam World)(a:Option Addr)(n:Nat):Prop where out:0<n→L.heap.size≤ab a
instance NA.fb{L:World}{a:Option Addr}{n b:Nat}{s:Bool}{sl:Value}[k:FA L a n][h:BB L b s sl]:NA a n b:=⟨fun q e=>by have:=k.out q;have:=h.out.lt;omega⟩
instance NA.fd{L:World}{a:Option Addr}{n b:Nat}{v s:Bool}{sl:Value}{e:Int}[k:FA L a n][h:DB L b v s sl e]:NA a n b:=⟨fun q e=>by have:=k.out q;have:=h.out.lt;omega⟩
instance NA.fv{L:World}{a:Option Addr}{n b:Nat}{x y:Value}[k:FA L a n][h:FV L b x y]:NA a n b:=⟨fun q e=>by have:=k.out q;have:=h.lt;omega⟩
class NB(b g:Nat):Prop where out:b≠g
instance NB.f1(W:World)(b:Nat){L:World}{s:Bool}{sl:Value}[f:From L W][h:BB L b s sl]:NB W.heap.size b:=⟨fun e=>jS⟩
instance NB.f2(W:World)(b:Nat){L:World}{s:Bool}{sl:Value}[f:From L W][h:BB L b s sl]:NB b W.heap.size:=⟨fun e=>jS⟩
instance NB.d1(W:World)(b:Nat){L:World}{v s:Bool}{sl:Value}{e:Int}[f:From L W][h:DB L b v s sl e]:NB W.heap.size b:=⟨fun e=>jS⟩
instance NB.d2(W:World)(b:Nat){L:World}{v s:Bool}{sl:Value}{e:Int}[f:From L W][h:DB L b v s sl e]:NB b W.heap.size:=⟨fun e=>jS⟩
instance NB.v1(W:World)(b:Nat){L:World}{x y:Value}[f:From L W][h:FV L b x y]:NB W.heap.size b:=⟨fun e=>Kx⟩
instance NB.v2(W:World)(b:Nat){L:World}{x y:Value}[f:From L W][h:FV L b x y]:NB b W.heap.size:=⟨fun e=>Kx⟩
instance NB.f3(W:World)(b:Nat){L:World}{s:Bool}{sl:Value}[f:From L W][h:BB L b s sl]:NB b (W.heap.size+1):=⟨fun e=>jS⟩
instance NB.f4(W:World)(b:Nat){L:World}{s:Bool}{sl:Value}[f:From L W][h:BB L b s sl]:NB (W.heap.size+1) b:=⟨fun e=>jS⟩
instance NB.d3(W:World)(b:Nat){L:World}{v s:Bool}{sl:Value}{e:Int}[f:From L W][h:DB L b v s sl e]:NB b (W.heap.size+1):=⟨fun e=>jS⟩
instance NB.d4(W:World)(b:Nat){L:World}{v s:Bool}{sl:Value}{e:Int}[f:From L W][h:DB L b v s sl e]:NB (W.heap.size+1) b:=⟨fun e=>jS⟩
instance NB.v3(W:World)(b:Nat){L:World}{x y:Value}[f:From L W][h:FV L b x y]:NB b (W.heap.size+1):=⟨fun e=>Kx⟩
instance NB.v4(W:World)(b:Nat){L:World}{x y:Value}[f:From L W][h:FV L b x y]:NB (W.heap.size+1) b:=⟨fun e=>Kx⟩
instance NB.s1(n:Nat):NB n (n+1):=⟨j0⟩
instance NB.s2(n:Nat):NB (n+1) n:=⟨j0⟩
instance NB.s3(n:Nat):NB n (n+1+1):=⟨j0⟩
instance NB.s4(n:Nat):NB (n+1+1) n:=⟨j0⟩
instance NB.s5(n:Nat):NB n (n+1+1+1):=⟨j0⟩
instance NB.s6(n:Nat):NB (n+1+1+1) n:=⟨j0⟩
theorem BgV.st0{W:World}{b:Nat}{s:Bool}{sl:Value}(h:BgV W b s sl)(s':Bool):BgV (W.setCell ⟨b,0,none⟩ (.bool s')) b s' sl:=by
 obtain⟨c0,c1,c2,c3⟩:=h;exact⟨jj,jj,fun i=>jj,Xb⟩
theorem BgV.st1{W:World}{b:Nat}{s:Bool}{sl:Value}(h:BgV W b s sl)(sl':Value):BgV (W.setCell ⟨b,1,none⟩ sl') b s sl':=by
 obtain⟨c0,c1,c2,c3⟩:=h;exact⟨jj,jj,fun i=>jj,Xb⟩
section
variable {W:World}{b g i:Nat}{s:Bool}{sl:Value}{v:Value}
instance BB.se0(s':Bool)[h:BB W b s sl]:BB (W.setCell ⟨b,0,none⟩ (.bool s')) b s' sl:=⟨h.out.st0 s'⟩
instance BB.se1[h:BB W b s sl]:BB (W.setCell ⟨b,1,none⟩ v) b s v:=⟨h.out.st1 v⟩
instance BB.sen[h:BB W b s sl][k:NB b g]:BB (W.setCell ⟨g,i,none⟩ v) b s sl:=⟨h.out.set k.out i v⟩
instance DB.sen{u:Bool}{e:Int}[h:DB W b u s sl e][k:NB b g]:DB (W.setCell ⟨g,i,none⟩ v) b u s sl e:=⟨h.out.set k.out i v⟩
instance FV.sen{x y:Value}[h:FV W b x y][k:NB b g]:FV (W.setCell ⟨g,i,none⟩ v) b x y:=
 ⟨(zAm k.out _ _ _).trans h.c0,(zAm k.out _ _ _).trans h.c1,fun j=>(zAs j _ _).trans (h.z j),jW⟩
instance FV.se2{x y x' y':Value}[h:FV W b x y]:FV ((W.setCell ⟨b,0,none⟩ x').setCell ⟨b,1,none⟩ y') b x' y':=by
 obtain⟨c0,c1,c2,c3⟩:=h;exact⟨jj,jj,fun i=>jj,Xb⟩
end
class CE(W:World)(b i:Nat)(v:outParam Value):Prop where
 out:W.cell? ⟨b,i,none⟩=some v
 lt:b<W.heap.size
theorem CE.below{W W':World}{b i:Nat}{v:Value}(h:CE W b i v)(hb:Below W.heap.size W W'):CE W' b i v:=
 ⟨((zA6 hb).1 _ _ h.lt).trans h.out,Nat.lt_of_lt_of_le h.lt hb.size⟩
section
variable {W:World}{b i:Nat}{v:Value}
instance CE.dr[h:CE W b i v]:CE W.drew b i v:=h.below (Below.refl _ _).drew
instance CE.dn(q:Nat)[h:CE W b i v]:CE (W.drewN q) b i v:=h.below (below_drewN (Below.refl _ _) _)
instance CE.al(o:Obj)[h:CE W b i v]:CE (W.alloc o) b i v:=h.below ((Below.refl _ _).alloc (Nat.le_refl _) _)
instance CE.fr(L:World)[k:From L W][h:CE L b i v]:CE W b i v:=h.below k.out
end
@[go_sem] theorem CE.rd (W:World) (b i:Nat) {v:Value} [h:CE W b i v]:W.cell? ⟨b,i,none⟩=some v:=h.out
theorem frb{P:Program}{f:FuncId}{args:Array Value}{W:World}{z:Int}(h:Calls P f args W (zAl W z)):Calls P f args W fun e w'=>∃a c,e=.returned (.agg #[.bool (decide (z<0)),.slice a (nl z.natAbs) c])∧BI w' a (nl z.natAbs) c z.natAbs∧From W w'∧(0<nl z.natAbs→W.heap.size≤ab a):=
 h.mono fun _ _ ⟨a,c,he,hm,hb,hf⟩=>⟨a,c,he,⟨hm⟩,⟨hb⟩,hf⟩
theorem zOe{P:Program}{f:FuncId}{args:Array Value}{W:World}{z:Nat}(h:Calls P f args W (zAl W (z:Int))):Calls P f args W fun e w'=>∃a c,e=.returned (.agg #[.bool false,.slice a (nl z) c])∧BI w' a (nl z) c z∧From W w'∧(0<nl z→W.heap.size≤ab a):=by
 refine h.mono fun _ _ h=>?_;obtain⟨a,c,he,hm,hb,hf⟩:=h;rw[Int.natAbs_natCast]at hm hf;exact⟨a,c,by rw[he,Int.natAbs_natCast,decide_eq_false (show ¬(z:Int)<0 by omega)],⟨hm⟩,⟨hb⟩,hf⟩
theorem frw{P:Program}{f:FuncId}{args:Array Value}{W:World}{v:Value}(h:Calls P f args W fun e w'=>e=.returned v∧W=w'):Calls P f args W fun e w'=>e=.returned v∧From W w':=
 h.mono fun _ _ ⟨he,hw⟩=>⟨he,⟨hw ▸ Below.refl _ _⟩⟩
theorem DB.pt4{W:World}{b:Nat}{v s:Bool}{sl:Value}{f:Int}(h:DB W b v s sl f)(v' s':Bool)(sl':Value)(f':Int):DB ((((W.setCell ⟨b,0,none⟩ (.bool v')).setCell ⟨b,1,none⟩ (.bool s')).setCell ⟨b,2,none⟩ sl').setCell ⟨b,3,none⟩ (.int .i64 f')) b v' s' sl' f':=by
 obtain⟨c0,c1,c2,c3,c4,c5⟩:=h.out;exact⟨⟨jj,jj,jj,jj,fun i=>jj,by simpa using c5⟩⟩
theorem DB.st4{W:World}{b g:Nat}{v s:Bool}{sl:Value}{f:Int}(h:DB W b v s sl f)(ne:b≠g)(x0 x1 x2 x3:Value):DB ((((W.setCell ⟨g,0,none⟩ x0).setCell ⟨g,1,none⟩ x1).setCell ⟨g,2,none⟩ x2).setCell ⟨g,3,none⟩ x3) b v s sl f:=
 ⟨(((h.out.set ne 0 x0).set ne 1 x1).set ne 2 x2).set ne 3 x3⟩
theorem BB.pt2{W:World}{b:Nat}{s:Bool}{sl:Value}(h:BB W b s sl)(s':Bool)(sl':Value):BB ((W.setCell ⟨b,0,none⟩ (.bool s')).setCell ⟨b,1,none⟩ sl') b s' sl':=by
 obtain⟨c0,c1,c2,c3⟩:=h.out;exact⟨⟨jj,jj,fun i=>jj,Xb⟩⟩
theorem BB.st2{W:World}{b g:Nat}{s:Bool}{sl:Value}(h:BB W b s sl)(ne:b≠g)(x0 x1:Value):BB ((W.setCell ⟨g,0,none⟩ x0).setCell ⟨g,1,none⟩ x1) b s sl:=
 ⟨(h.out.set ne 0 x0).set ne 1 x1⟩
theorem Mag.st4{W:World}{a:Option Addr}{n c x g:Nat}(h:Mag W a n c x)(ne:0<n→ab a≠g)(x0 x1 x2 x3:Value):Mag ((((W.setCell ⟨g,0,none⟩ x0).setCell ⟨g,1,none⟩ x1).setCell ⟨g,2,none⟩ x2).setCell ⟨g,3,none⟩ x3) a n c x:=(((h.set ne 0 x0).set ne 1 x1).set ne 2 x2).set ne 3 x3
theorem Mag.st2{W:World}{a:Option Addr}{n c x g:Nat}(h:Mag W a n c x)(ne:0<n→ab a≠g)(x0 x1:Value):Mag ((W.setCell ⟨g,0,none⟩ x0).setCell ⟨g,1,none⟩ x1) a n c x:=(h.set ne 0 x0).set ne 1 x1
theorem zC6{wr L w':World}[h:Beh wr L](_b:From L w'){n:Nat}{a:Option Addr}(f:0<n→L.heap.size≤ab a):0<n→wr.heap.size≤ab a:=fun k=>Nat.le_trans h.out.size (f k)
theorem BI.on{W L:World}{a:Option Addr}{n c x:Nat}(h:Mag L a n c x)[b:Beh L W]:BI W a n c x:=⟨h.on⟩
end Go.Proofs.YtmbkgapknoammaaGreatDoor

/-
  Walks: integer.trim and the reference's trim.
  Walks: integer.compare, plus, minus.
  Walks: integer.plus.
  Walks: integer.minus, times.
  Walks: integer.up, down.
  Walks: slices.IndexFunc, slices.ContainsFunc with integer.down's test; bits.Len32, LeadingZeros32, integer.length; short.
  Walks: integer.down, short.
-/
import Derived.Test.YtmbkgapknoammaaGreatDoorProg
import Derived.WalkKit
import Derived.WalkLawsBesides
import Derived.WalkSpells
import Derived.Deep.QuietTactic
import Derived.BigQuiet
import Derived.Test.YtmbkgapknoammaaGreatDoorZuBa
import Derived.Lib.Strings
import Derived.Lib.Slices
import Derived.Lib.Small
import Derived.Lib.Walk
import Derived.Lib.BitFns
set_option maxRecDepth 100000
set_option maxHeartbeats 4000000
namespace Go.Proofs.YtmbkgapknoammaaGreatDoor
open Go.RowKit Sp
theorem zAa(w:World)(a:Option Addr)(n cap x:Nat)(h:Mag w a n cap x):Calls Tryz.prog 172 #[.slice a n cap] w fun e w'=>e=.returned (.slice a (nl x) cap)∧w=w':=by
 obtain⟨h1,h2,h3,h4,h5,h6⟩:=h
 by_cases hn:0<n
 · obtain⟨b,o,rfl⟩:∃b o,a=some ⟨b,o,none⟩:=⟨_,_,h4 hn⟩;simp only[zAF,zB8]at h5;clear h4 h6;go_enter Tryz.func172,Tryz.ntmps172
   go_wp2
   go_loop [3] (fun t=>∃k:Nat,k≤n∧x<B^k∧t=.int .i64 k) (fun t=>(intOf t).toNat)
   case atStart=>exact⟨n,Nat.le_refl _,h1,rfl⟩
   case round=>
    obtain⟨k,hk,htop,rfl⟩:=hrel;have HT:=Lib.hid htop;clear htop h1
    by_cases h0:0<k
    · obtain⟨j,rfl⟩:∃j,k=j+1:=⟨k-1,j0⟩;have hc:=h5 j j0;clear h5
      go_wp2
      · have hd:=zHZ (by assumption:(((dig x j:Nat):Int)==0)=true)
        go_round
        case rel=>exact⟨j,j0,zCc HT.out hd,rfl⟩
        case measure=>exact Q4
      · have hd:=zFX (by assumption:(((dig x j:Nat):Int)==0)=false);go_ret;refine⟨?_,rfl⟩;show Ending.returned (.slice _ (j+1) cap)=_;rw[zHt HT.out hd]
    · obtain rfl:k=0:=by omega
      go_wp2
      go_ret;refine⟨?_,rfl⟩;show Ending.returned (.slice _ 0 cap)=_;have:x=0:=(by have:=HT.out;simpa using this);rw[this,zIl]
 · obtain rfl:n=0:=j0;have hx:x=0:=(by simpa using h1);subst hx;clear h1 h2 h4 h5 h6;go_enter Tryz.func172,Tryz.ntmps172
   go_wp2
   go_loop [3] (fun t=>t=.int .i64 0) (fun t=>(intOf t).toNat)
   case atStart=>exact jA
   case round=>
    subst hrel
    go_wp2
    go_ret;exact⟨rfl,rfl⟩
theorem zMY(w:World)(n:Int):Calls Tryz.prog 202 #[.int .i64 n] w fun e w'=>e=.returned (.bool false)∧w=w':=by
 go_enter Tryz.func202,Tryz.ntmps202
 go_wp2
 go_ret;exact⟨jz,rfl⟩
theorem zMX(w:World)(n:Int):Calls Tryz.prog 203 #[.int .u32 n] w fun e w'=>e=.returned (.bool false)∧w=w':=by
 go_enter Tryz.func203,Tryz.ntmps203
 go_wp2
 go_ret;exact⟨jz,rfl⟩
theorem zII(w:World)(m n:Int):Calls Tryz.prog 192 #[.int .i64 m,.int .i64 n] w fun e w'=>e=.returned (.int .i64 (zAq m n))∧w=w':=by
 go_enter Tryz.func192,Tryz.ntmps192;go_wp2_with (go_at_call 202;refine(zMY _ _).mono ?_;rintro e w' ⟨rfl,rfl⟩)
 all_goals
  go_ret;exact⟨by simp[zAq, *];try omega,rfl⟩
theorem zIH(w:World)(m n:Int):Calls Tryz.prog 193 #[.int .u32 m,.int .u32 n] w fun e w'=>e=.returned (.int .i64 (zAq m n))∧w=w':=by
 go_enter Tryz.func193,Tryz.ntmps193;go_wp2_with (go_at_call 203;refine(zMX _ _).mono ?_;rintro e w' ⟨rfl,rfl⟩)
 all_goals
  go_ret;exact⟨by simp[zAq, *];try omega,rfl⟩
theorem und:Tryz.prog.underlying 49 =some (.slice (Tryz.prog.elem 49)):=je
theorem siz(w:World):(Go.sizeOf (Tryz.prog.elem 49)).run Tryz.prog w=.ok 1 w:=je
theorem zBi(w:World)(a a':Option Addr)(n m cap cap' x y:Nat)(hx:Mag w a n cap x)(hy:Mag w a' m cap' y)(hn:n=nl x)(hm:m=nl y):Calls Tryz.prog 174 #[.slice a n cap,.slice a' m cap'] w fun e w'=>e=.returned (.int .i64 (zAq x y))∧∃q,w'=w.drewN q:=by
 have l1:=hx.lim;have l2:=hy.lim;have l3:=hx.fits;have l4:=hy.fits;have HN:=Lib.hid hn;have HM:=Lib.hid hm;clear hn hm
 by_cases hnm:n=m
 · subst hnm;go_enter Tryz.func174,Tryz.ntmps174
   go_wp2
   go_loopw [5] (fun t wr=>∃k:Nat,k≤n∧x/B^k=y/B^k∧t=.int .i64 ((k:Int)-1)∧∃q,wr=w.drewN q) (fun t _=>(intOf t+1).toNat)
   case atStart=>exact⟨n,Nat.le_refl _,by rw[Nat.div_eq_of_lt hx.lt,Nat.div_eq_of_lt hy.lt],rfl,0,rfl⟩
   case round=>
    obtain⟨k,hk,hq,rfl,q,rfl⟩:=hrel;have HQ:=Lib.hid hq;clear hq
    by_cases h0:0<k
    · obtain⟨j,rfl⟩:∃j,k=j+1:=⟨k-1,j0⟩;have c1:=hx.cell j j0;have c2:=hy.cell j j0;have i1:=hx.idx 49 und siz j j0;have i2:=hy.idx 49 und siz j j0
      go_wp2
      go_quiet (fail)
      go_wp2
      · have hd:=zKf (by assumption:(((dig x j:Nat):Int) != ((dig y j:Nat):Int))=true);have HD:=Lib.hid hd;clear hd
        go_quiet ((go_at_call 193;exact zGi (may (zIH _ _ _))))
        go_wp2
        go_ret;refine⟨?_,_,Q8⟩;show Ending.returned (.int .i64 (zAq (dig x j) (dig y j)))=_;rw[zNR HQ.out HD.out]
      · have hd:=zHX (by assumption:(((dig x j:Nat):Int) != ((dig y j:Nat):Int))=false);go_roundw
        case rel=>exact⟨j,j0,zNx HQ.out hd,rfl,_,rfl⟩
        case measure=>exact Q4
    · obtain rfl:k=0:=by omega
      go_wp2
      go_ret;refine⟨?_,_,rfl⟩;have:x=y:=(by simpa using HQ.out);subst this;show Ending.returned (.int .i64 0)=_;rw[zCf rfl]
 · have hnm':((n:Int) != (m:Int))=true:=Kq;go_enter Tryz.func174,Tryz.ntmps174;go_wp2_with (go_at_call 192;refine(zII _ _ _).mono ?_;rintro e w' ⟨rfl,rfl⟩);go_ret;refine⟨?_,0,rfl⟩;show Ending.returned (.int .i64 (zAq n m))=_;rw[HN.out,HM.out,zQo (by rw[←HN.out,←HM.out];exact hnm)]
theorem zCy:(Tryz.prog.info? 94).map (fun i=>(i.zero,i.size,i.bytes))=some (some (.int .u32 0),1,4):=je
theorem zCh:Tryz.prog.underlying 49 =some (.slice 94):=je
theorem zQR(w:World)(a a':Option Addr)(n m cap cap' x y:Nat)(hx:Mag w a n cap x)(hy:Mag w a' m cap' y)(hnm:m≤n)(hlim:n≤1099511627776):Calls Tryz.prog 173 #[.slice a n cap,.slice a' m cap'] w (zCX w (x+y)):=by
 have hlt0:decide (n<m)=false:=jq
 have hmk:=zJy 49 94 zCy zCh ((n:Int)+1) j0 j0;go_enter Tryz.func173,Tryz.ntmps173
 go_wp2
 clear hmk;have hown0:=World.ownsRow_made (base:=w.heap.size) (e:=94) (size:=1) w (madeCells #[.int .u32 0] (n+1)) (n+1) (Nat.le_refl _) jJ KV
 go_loopw [5,6,23] (fun v c i wr=>∃k:Nat,k≤n∧i=.int .i64 k∧c=.int .u64 (car x y k)∧wr.ownsRow w.heap.size 94 1 v k (zDq (x+y) k)∧Below w.heap.size w wr) (fun _ _ i _=>n-(intOf i).toNat)
 case atStart=>exact⟨0,j0,rfl,Xd,hown0,(Below.refl _ _).alloc (Nat.le_refl _) _⟩
 case round=>
  clear hown0;obtain⟨k,hk,rfl,rfl,hown,hb⟩:=hrel
  by_cases hlt:k<n
  · have hx':=hx.below hb;have c1:=hx'.cell k hlt;have i1:=hx'.idx 49 und siz k hlt;have hc1:=zC9 x y k;have hd1:=zA5 x k
    by_cases hkm:k<m
    · have hy':=hy.below hb;have c2:=hy'.cell k hkm;have i2:=hy'.idx 49 und siz k hkm;have hd2:=zA5 y k;have HD:Hid (((dig x k:Int)+car x y k+dig y k)%4294967296=((dig (x+y) k:Nat):Int)):=Xl;have hz:=hb.size;go_wp2_with (at_builtin;refine zAK 49 94 zCy zCh rfl _ _ rfl w.heap.size _ k (x+y) rfl _ _ rfl (hown.alloc _) (World.cell?_alloc_new _ _ _ _) HD.out j0 jr ?_;intro v1 w1 hown1 hb1);go_roundw
      case rel=>exact⟨k+1,j0,jm,by rw[zC8,zAX];go_num,hown1,(hb.alloc hz _).trans hb1⟩
      case measure=>exact jb
    · have hy2:dig y k=0:=zAJ hy.lt j0;have HD:Hid (((dig x k:Int)+car x y k)%4294967296=((dig (x+y) k:Nat):Int)):=X4;have hz:=hb.size;have HC:Hid (car x y (k+1)=(dig x k+car x y k)/B):=(by show _=_;rw[zC8,hy2];rfl);clear hy2;go_wp2_with (at_builtin;refine zAK 49 94 zCy zCh rfl _ _ rfl w.heap.size _ k (x+y) rfl _ _ rfl (hown.alloc _) (World.cell?_alloc_new _ _ _ _) HD.out j0 jr ?_;intro v1 w1 hown1 hb1);go_roundw
      case rel=>exact⟨k+1,j0,jm,Q1,hown1,(hb.alloc hz _).trans hb1⟩
      case measure=>exact jb
  · obtain rfl:k=n:=j0;have hz:=hb.size;have hc1:=zC9 x y k;have HD:Hid (((car x y k:Nat):Int)=((dig (x+y) k:Nat):Int)):=by
     show _=_;rw[zIM hx.lt (Nat.lt_of_lt_of_le hy.lt (zBt hnm))]
    go_wp2_with (at_builtin;refine zAK 49 94 zCy zCh rfl _ _ rfl w.heap.size _ k (x+y) rfl _ _ rfl (hown.alloc _) (World.cell?_alloc_new _ _ _ _) HD.out j0 jr ?_;intro v1 w1 hown1 hb1);obtain⟨a1,cp1,hv,hm1,hfr⟩:=zAU hown1 (add_lt hx.lt hy.lt hnm);rw[hv];refine(zAa _ _ _ _ _ hm1).mono ?_;rintro e w' ⟨rfl,rfl⟩
    go_wp2
    go_ret;exact⟨a1,cp1,rfl,hm1.trim,(hb.alloc hz _).trans hb1,fun _=>hfr j0⟩
theorem zQQ(w:World)(a a':Option Addr)(n m cap cap' x y:Nat)(hx:Mag w a n cap x)(hy:Mag w a' m cap' y)(hnm':m<n)(hlim:n≤1099511627776):Calls Tryz.prog 173 #[.slice a' m cap',.slice a n cap] w (zCX w (x+y)):=by
 have hnm:m≤n:=j0
 have hlt0:decide (m<n)=true:=jq
 have hmk:=zJy 49 94 zCy zCh ((n:Int)+1) j0 j0;go_enter Tryz.func173,Tryz.ntmps173
 go_wp2
 clear hmk;have hown0:=World.ownsRow_made (base:=w.heap.size) (e:=94) (size:=1) w (madeCells #[.int .u32 0] (n+1)) (n+1) (Nat.le_refl _) jJ KV
 go_loopw [5,6,23] (fun v c i wr=>∃k:Nat,k≤n∧i=.int .i64 k∧c=.int .u64 (car x y k)∧wr.ownsRow w.heap.size 94 1 v k (zDq (x+y) k)∧Below w.heap.size w wr) (fun _ _ i _=>n-(intOf i).toNat)
 case atStart=>exact⟨0,j0,rfl,Xd,hown0,(Below.refl _ _).alloc (Nat.le_refl _) _⟩
 case round=>
  clear hown0;obtain⟨k,hk,rfl,rfl,hown,hb⟩:=hrel
  by_cases hlt:k<n
  · have hx':=hx.below hb;have c1:=hx'.cell k hlt;have i1:=hx'.idx 49 und siz k hlt;have hc1:=zC9 x y k;have hd1:=zA5 x k
    by_cases hkm:k<m
    · have hy':=hy.below hb;have c2:=hy'.cell k hkm;have i2:=hy'.idx 49 und siz k hkm;have hd2:=zA5 y k;have HD:Hid (((dig x k:Int)+car x y k+dig y k)%4294967296=((dig (x+y) k:Nat):Int)):=Xl;have hz:=hb.size;go_wp2_with (at_builtin;refine zAK 49 94 zCy zCh rfl _ _ rfl w.heap.size _ k (x+y) rfl _ _ rfl (hown.alloc _) (World.cell?_alloc_new _ _ _ _) HD.out j0 jr ?_;intro v1 w1 hown1 hb1);go_roundw
      case rel=>exact⟨k+1,j0,jm,by rw[zC8,zAX];go_num,hown1,(hb.alloc hz _).trans hb1⟩
      case measure=>exact jb
    · have hy2:dig y k=0:=zAJ hy.lt j0;have HD:Hid (((dig x k:Int)+car x y k)%4294967296=((dig (x+y) k:Nat):Int)):=X4;have hz:=hb.size;have HC:Hid (car x y (k+1)=(dig x k+car x y k)/B):=(by show _=_;rw[zC8,hy2];rfl);clear hy2;go_wp2_with (at_builtin;refine zAK 49 94 zCy zCh rfl _ _ rfl w.heap.size _ k (x+y) rfl _ _ rfl (hown.alloc _) (World.cell?_alloc_new _ _ _ _) HD.out j0 jr ?_;intro v1 w1 hown1 hb1);go_roundw
      case rel=>exact⟨k+1,j0,jm,Q1,hown1,(hb.alloc hz _).trans hb1⟩
      case measure=>exact jb
  · obtain rfl:k=n:=j0;have hz:=hb.size;have hc1:=zC9 x y k;have HD:Hid (((car x y k:Nat):Int)=((dig (x+y) k:Nat):Int)):=by
     show _=_;rw[zIM hx.lt (Nat.lt_of_lt_of_le hy.lt (zBt hnm))]
    go_wp2_with (at_builtin;refine zAK 49 94 zCy zCh rfl _ _ rfl w.heap.size _ k (x+y) rfl _ _ rfl (hown.alloc _) (World.cell?_alloc_new _ _ _ _) HD.out j0 jr ?_;intro v1 w1 hown1 hb1);obtain⟨a1,cp1,hv,hm1,hfr⟩:=zAU hown1 (add_lt hx.lt hy.lt hnm);rw[hv];refine(zAa _ _ _ _ _ hm1).mono ?_;rintro e w' ⟨rfl,rfl⟩
    go_wp2
    go_ret;exact⟨a1,cp1,rfl,hm1.trim,(hb.alloc hz _).trans hb1,fun _=>hfr j0⟩
theorem zGl(w:World)(a a':Option Addr)(n m cap cap' x y:Nat)(hx:Mag w a n cap x)(hy:Mag w a' m cap' y)(hn:n≤1099511627776)(hm:m≤1099511627776):Calls Tryz.prog 173 #[.slice a n cap,.slice a' m cap'] w (zCX w (x+y)):=by
 rcases Nat.lt_or_ge n m with h | h
 · rw[Nat.add_comm];exact zQQ w a' a m n cap' cap y x hy hx h hm
 · exact zQR w a a' n m cap cap' x y hx hy h hn
theorem zHy(w:World)(a a':Option Addr)(n m cap cap' x y d:Nat)(hx:Mag w a n cap x)(hy:Mag w a' m cap' y)(hd:y+d=x)(hlim:n≤1099511627776):Calls Tryz.prog 175 #[.slice a n cap,.slice a' m cap'] w (zCX w d):=by
 have hmk:=zBd 49 94 zCy zCh (n:Int) j0 j0;have HD:=Lib.hid hd;clear hd;go_enter Tryz.func175,Tryz.ntmps175
 go_wp2
 clear hmk;have hrow0:=Row.made w n 94 j0
 go_loopw [6,15] (fun c i wr=>∃k:Nat,k≤n∧i=.int .i64 k∧c=.int .u64 (car y d k)∧Row wr w.heap.size n 94 (d%B^k)∧Below w.heap.size w wr) (fun _ i _=>n-(intOf i).toNat)
 case atStart=>exact⟨0,j0,rfl,Xd,Xe,(Below.refl _ _).alloc (Nat.le_refl _) _⟩
 case round=>
  clear hrow0;obtain⟨k,hk,rfl,rfl,hrow,hb⟩:=hrel
  by_cases hlt:k<n
  · have hx':=hx.below hb;have c1:=hx'.cell k hlt;have i1:=hx'.idx 49 und siz k hlt;have hc1:=zC9 y d k;have hd1:=zA5 x k;have c3:=hrow.cell k hlt;have f3:=hrow.free k
    by_cases hkm:k<m
    · have hy':=hy.below hb;have c2:=hy'.cell k hkm;have i2:=hy'.idx 49 und siz k hkm;have hd2:=zA5 y k;have HW:=Lib.hid (zG5 x y d k HD.out)
      go_wp2
      go_roundw
      case rel=>exact⟨k+1,j0,jm,by rw[HW.out.2],Xg,hb.setCell (Nat.le_refl _) _⟩
      case measure=>exact jb
    · have HW:=Lib.hid (zGZ x y d k HD.out (zAJ hy.lt j0))
      go_wp2
      go_roundw
      case rel=>exact⟨k+1,j0,jm,by rw[HW.out.2],Xg,hb.setCell (Nat.le_refl _) _⟩
      case measure=>exact jb
  · obtain rfl:k=n:=j0;have hdl:d<B^k:=Nat.lt_of_le_of_lt (by have:=HD.out;omega) hx.lt;rw[zA8 hdl]at hrow;go_wp2_with (go_at_call 172;refine(zAa _ _ _ _ _ hrow.mag).mono ?_;rintro e w' ⟨rfl,rfl⟩);go_ret;exact⟨_,_,rfl,hrow.mag.trim,hb,fun _=>Nat.le_refl _⟩
theorem zLC(w:World)(a a':Option Addr)(n m cap cap' x y:Nat)(hx:Mag w a n cap x)(hy:Mag w a' m cap' y)(hn:n≤1099511627776)(hm:m≤1099511627776):Calls Tryz.prog 176 #[.slice a n cap,.slice a' m cap'] w (zCX w (x*y)):=by
 by_cases h0:n=0∨m=0
 · have hz:x*y=0:=by
    rcases h0 with rfl | rfl
    · rw[hx.zero,Nat.zero_mul]
    · rw[hy.zero,Nat.mul_zero]
   rw[hz]
   by_cases hn0:n=0
   · subst hn0;go_enter Tryz.func176,Tryz.ntmps176
     go_wp2
     go_ret;exact⟨none,0,rfl,Mag.nil w,Below.refl _ _,nl0⟩
   · obtain rfl:m=0:=j0;have hn1:((n:Int)==0)=false:=ju;go_enter Tryz.func176,Tryz.ntmps176
     go_wp2
     go_ret;exact⟨none,0,rfl,Mag.nil w,Below.refl _ _,nl0⟩
 · have hn1:((n:Int)==0)=false:=ju;have hm1:((m:Int)==0)=false:=ju;have hmk:=zBd 49 94 zCy zCh ((n:Int)+m) j0 j0;go_enter Tryz.func176,Tryz.ntmps176
   go_wp2
   clear hmk;have hrow0:=Row.made w (n+m) 94 j0
   go_loopw [28] (fun i wr=>∃k:Nat,k≤n∧i=.int .i64 k∧Row wr w.heap.size (n+m) 94 (x%B^k*y)∧Below w.heap.size w wr) (fun i _=>n-(intOf i).toNat)
   case atStart=>exact⟨0,j0,rfl,by rw[zAe,Nat.zero_mul];exact hrow0,(Below.refl _ _).alloc (Nat.le_refl _) _⟩
   case round=>
    clear hrow0;obtain⟨k,hk,rfl,hrow,hb⟩:=hrel
    by_cases hlt:k<n
    · have hx':=hx.below hb;have c1:=hx'.cell k hlt;have i1:=hx'.idx 49 und siz k hlt;have hd1:=zA5 x k;obtain⟨wo,rfl⟩:∃wo:World,wo=wr:=⟨_,rfl⟩
      go_wp2
      clear c1 i1
      go_loopw [8,35] (fun c j wi=>∃q Z cc:Nat,q≤m∧j=.int .i64 q∧c=.int .u64 cc∧cc<4294967296∧Row wi w.heap.size (n+m) 94 Z∧Z<B^(k+m) ∧
       Z+cc*B^(k+q)=x%B^k*y+dig x k*(y%B^q)*B^k∧Below w.heap.size w wi) (fun _ j _=>m-(intOf j).toNat)
      case atStart=>
       refine⟨0,x%B^k*y,0,j0,rfl,rfl,j0,hrow,?_,?_,hb⟩
       · rw[zAw];exact Nat.mul_lt_mul'' (zAE x k) hy.lt
       · rw[zAe];simp
      case round=>
       obtain⟨q,Z,cc,hq,rfl,rfl,hcc,hrowi,hZ,hinv,hbi⟩:=hrel;have HI:=Lib.hid hinv;clear hinv hx'
       by_cases hqm:q<m
       · have hy':=hy.below hbi;have c2:=hy'.cell q hqm;have i2:=hy'.idx 49 und siz q hqm;have hd2:=zA5 y q;have hd3:=zA5 Z (k+q);have c3:=hrowi.cell (k+q) j0;have f3:=hrowi.free (k+q);obtain⟨m1,m2⟩:=zDC hd1 hd2 hd3 hcc;rw[←Int.ofNat_le,Int.natCast_mul]at m2;have m1':((dig x k:Nat):Int)*(dig y q:Nat)+(dig Z (k+q):Nat)+(cc:Nat)<18446744073709551616:=Kd;have m0:(0:Int)≤((dig x k:Nat):Int)*(dig y q:Nat):=Kd;clear m1;obtain⟨T,hT⟩:∃T:Nat,T=dig x k*dig y q+dig Z (k+q)+cc:=⟨_,rfl⟩;have hTI:((T:Nat):Int)=((dig x k:Nat):Int)*(dig y q:Nat)+(dig Z (k+q):Nat)+(cc:Nat):=(by rw[hT];simp);have hTB:T/B<4294967296:=Q9;have HTI:=Lib.hid hTI;have HT:=Lib.hid hT;clear hTI hT;have HTB:=Lib.hid hTB;clear hTB
         go_wp2
         go_roundw
         case rel=>
          refine⟨q+1,zD1 Z (k+q) (T%B),T/B,j0,jm,?_,HTB.out,?_,zCL (Nat.mod_lt _ zCZ) j0 hZ,zHx HT.out HI.out,hbi.setCell (Nat.le_refl _) _⟩
          · rw[←HTI.out,zAX];rfl
          · rw[←HTI.out];exact hrowi.store (k+q) (T%B) j0 (Nat.mod_lt _ zCZ)
         case measure=>exact jb
       · obtain rfl:q=m:=j0;have c3:=hrowi.cell (k+q) j0;have f3:=hrowi.free (k+q)
         go_wp2
         go_roundw
         case rel=>exact⟨k+1,j0,jm,QP,hbi.setCell (Nat.le_refl _) _⟩
         case measure=>exact jb
    · obtain rfl:k=n:=j0;rw[zA8 hx.lt]at hrow;go_wp2_with (go_at_call 172;refine(zAa _ _ _ _ _ hrow.mag).mono ?_;rintro e w' ⟨rfl,rfl⟩);go_ret;exact⟨_,_,rfl,hrow.mag.trim,hb,fun _=>Nat.le_refl _⟩
theorem zIX(w:World)(a:Option Addr)(n cap x:Nat)(s:Int)(hx:Mag w a n cap x)(hlim:n≤1099511627776)(hs0:0≤s)(hs1:s≤1099511627776):Calls Tryz.prog 200 #[.slice a n cap,.int .i64 s] w (zCX w (x*2^s.toNat)):=by
 obtain⟨s,rfl⟩:=Int.eq_ofNat_of_zero_le hs0;rw[Int.toNat_natCast]
 by_cases hn0:n=0
 · subst hn0;rw[hx.zero,Nat.zero_mul];go_enter Tryz.func200,Tryz.ntmps200
   go_wp2
   go_ret;exact⟨none,0,rfl,Mag.nil w,Below.refl _ _,nl0⟩
 · have hn1:((n:Int)==0)=false:=ju;have hmk:=zBd 49 94 zCy zCh ((s:Int)/32+n+1) j0 j0;go_enter Tryz.func200,Tryz.ntmps200
   go_wp2
   clear hmk;have hrow0:=Row.made w (s/32+n+1) 94 j0
   go_loopw [27] (fun i wr=>∃k Z:Nat,k≤n∧i=.int .i64 k∧Z=x%B^k*2^s∧Row wr w.heap.size (s/32+n+1) 94 Z∧Below w.heap.size w wr) (fun i _=>n-(intOf i).toNat)
   case atStart=>exact⟨0,0,j0,rfl,by rw[zAe,Nat.zero_mul],hrow0,(Below.refl _ _).alloc (Nat.le_refl _) _⟩
   case round=>
    clear hrow0;obtain⟨k,Z,hk,rfl,hZ,hrow,hb⟩:=hrel;have HZ:=Lib.hid hZ;clear hZ
    by_cases hlt:k<n
    · have hx':=hx.below hb;have c1:=hx'.cell k hlt;have i1:=hx'.idx 49 und siz k hlt;have hd1:=zA5 x k;have c3:=hrow.cell (s/32+k) j0;have c4:=hrow.cell (s/32+k+1) j0;have f3:=hrow.free (s/32+k);have f4:=hrow.free (s/32+k+1);have hd3:=zA5 Z (s/32+k)
      go_wp2
      have hr:=zOi HZ.out;have hu:=zG2 (x:=x) (k:=k) (s:=s);have hw:=zOh HZ.out;go_roundw
      case rel=>
       refine⟨k+1,_,j0,jm,hr.2,?_,(hb.setCell (Nat.le_refl _) _).setCell (Nat.le_refl _) _⟩;rw[hw.1,hw.2];exact(hrow.store _ _ j0 hr.1).store _ _ j0 hu.2.1
      case measure=>exact jb
    · obtain rfl:k=n:=j0;have hZ:=HZ.out;rw[zA8 hx.lt]at hZ;have HZ:=Lib.hid hZ;clear hZ;go_wp2_with (go_at_call 172;refine(zAa _ _ _ _ _ hrow.mag).mono ?_;rintro e w' ⟨rfl,rfl⟩);go_ret;rw[←HZ.out];exact⟨_,_,rfl,hrow.mag.trim,hb,fun _=>Nat.le_refl _⟩
theorem zOo(w:World)(d:Nat):Calls Tryz.prog 208 #[.int .u32 d] w fun e w'=>e=.returned (.bool ((d:Int) != 0))∧w=w':=by
 go_enter Tryz.func208,Tryz.ntmps208
 go_wp2
 go_ret;exact⟨rfl,rfl⟩
theorem zN0(w:World)(a:Option Addr)(n cap x:Nat)(fv:Value)(hf:fv=.func (.func 208) #[] #[])(hx:Mag w a n cap x):Calls Tryz.prog 209 #[.slice a n cap,fv] w fun e w'=>(∃i:Int,e=.returned (.int .i64 i)∧(0≤i↔x≠0))∧w=w':=by
 have l1:=hx.lim;have l2:=hx.fits;subst hf;go_enter Tryz.func209,Tryz.ntmps209
 go_wp2
 go_loop [8] (fun i=>∃k:Nat,k≤n∧i=.int .i64 k∧x%B^k=0) (fun i=>n-(intOf i).toNat)
 case atStart=>exact⟨0,j0,rfl,zAe x⟩
 case round=>
  obtain⟨k,hk,rfl,hz⟩:=hrel;have HZ:=Lib.hid hz;clear hz
  by_cases hlt:k<n
  · have c1:=hx.cell k hlt;have i1:=hx.idx 49 und siz k hlt;go_wp2_with (go_at_call 208;refine(zOo _ _).mono ?_;rintro e w' ⟨rfl,rfl⟩)
    · go_ret;have hd:=zNW (by assumption:(((dig x k:Nat):Int) != 0)=true);refine⟨⟨k,rfl,⟨fun _ h0=>?_,fun _=>j0⟩⟩,rfl⟩;subst h0;exact hd (zDc k)
    · have hd:=zLp (by assumption:(((dig x k:Nat):Int) != 0)=false)
      go_round
      case rel=>exact⟨k+1,j0,jm,by rw[zAi,HZ.out,hd,Nat.zero_mul]⟩
      case measure=>exact jb
  · obtain rfl:k=n:=by omega
    go_wp2
    go_ret;refine⟨⟨-1,rfl,⟨fun h=>j0,fun h=>?_⟩⟩,rfl⟩;exact absurd (by rw[←zA8 hx.lt];exact HZ.out) h
theorem zEp(w:World)(a:Option Addr)(n cap x:Nat)(fv:Value)(hf:fv=.func (.func 208) #[] #[])(hx:Mag w a n cap x)(b:Bool)(hb:b=decide (x≠0)):Calls Tryz.prog 207 #[.slice a n cap,fv] w fun e w'=>e=.returned (.bool b)∧w=w':=by
 have HB:=Lib.hid hb;clear hb;subst hf;go_enter Tryz.func207,Tryz.ntmps207;go_wp2_with (go_at_call 209;refine(zN0 _ _ _ _ _ _ rfl hx).mono ?_;rintro e w' ⟨⟨i,rfl,hi⟩,rfl⟩);go_ret;refine⟨?_,rfl⟩;have e:(!decide (x=0))=b:=by rw[HB.out];simp
 exact congrArg (fun q=>Ending.returned (.bool q)) e
theorem zEs:∀(f x:Nat),x<2^f→Lib.bitLenAux f x=zA4 x
 | 0,x,h=>by
  have:x=0:=KT
  subst this;rfl
 | f+1,x,h=>by
  unfold Lib.bitLenAux
  split
  · subst_vars;rfl
  · rename_i h0;rw[zEs f (x/2) (by rw[Nat.pow_succ]at h;omega)];unfold zA4;rw[if_neg h0]
    split
    · rename_i h1;have:x=1:=j0;subst this;decide
    · rw[Nat.log2_def x,if_pos j0];omega
theorem zO0{x:Nat}(h:x<18446744073709551616):Lib.bitLen x=zA4 x:=zEs 64 x h
theorem zR9(x:Int)(w:World)(h0:0≤x)(h1:x≤4294967295)(c1:16777216≤x)(c2:65536≤x)(c3:256≤x/65536):Calls Tryz.prog 131 #[.int .u32 x] w fun e w'=>e=.returned (.int .i64 (Lib.bitLen x.toNat))∧w=w':=by
 have hi:=fun w=>Lib.run_index_len8tab (P:=Tryz.prog) w 9 .u8 (x/65536/256) rfl j0 j0;have hv:=Lib.len8_of (x/65536/256) j0 j0;have hl:=Lib.bitLen_le8' (x/65536/256) j0 j0;obtain⟨v,hv'⟩:∃v:Int,v=Lib.len8 (x/65536/256):=⟨_,rfl⟩;rw[←hv']at hv;simp only[←hv']at hi;have b0:0≤v:=j0
 have b1:v≤8:=j0
 have hres:24+v=(Lib.bitLen x.toNat:Int):=by
  have s:=Lib.bitLen_shift24 x.toNat j0 j0;have e:(x/65536/256).toNat=x.toNat/16777216:=j0
  rw[e]at hv;omega
 have HR:=Lib.hid hres;clear hv hv' hl hres;go_enter Tryz.func131,Tryz.ntmps131
 go_wp2
 go_ret;exact⟨congrArg Ending.returned (congrArg (Value.int IntKind.i64) HR.out),rfl⟩
theorem zR8(x:Int)(w:World)(h0:0≤x)(h1:x≤4294967295)(c1:x<16777216)(c2:65536≤x)(c3:¬256≤x/65536):Calls Tryz.prog 131 #[.int .u32 x] w fun e w'=>e=.returned (.int .i64 (Lib.bitLen x.toNat))∧w=w':=by
 have hi:=fun w=>Lib.run_index_len8tab (P:=Tryz.prog) w 9 .u8 (x/65536) rfl j0 j0;have hv:=Lib.len8_of (x/65536) j0 j0;have hl:=Lib.bitLen_le8' (x/65536) j0 j0;obtain⟨v,hv'⟩:∃v:Int,v=Lib.len8 (x/65536):=⟨_,rfl⟩;rw[←hv']at hv;simp only[←hv']at hi;have b0:0≤v:=j0
 have b1:v≤8:=j0
 have hres:16+v=(Lib.bitLen x.toNat:Int):=by
  have s:=Lib.bitLen_shift16 x.toNat j0 j0;have e:(x/65536).toNat=x.toNat/65536:=j0
  rw[e]at hv;omega
 have HR:=Lib.hid hres;clear hv hv' hl hres;go_enter Tryz.func131,Tryz.ntmps131
 go_wp2
 go_ret;exact⟨congrArg Ending.returned (congrArg (Value.int IntKind.i64) HR.out),rfl⟩
theorem zR7(x:Int)(w:World)(h0:0≤x)(h1:x≤4294967295)(c2:¬65536≤x)(c3:256≤x):Calls Tryz.prog 131 #[.int .u32 x] w fun e w'=>e=.returned (.int .i64 (Lib.bitLen x.toNat))∧w=w':=by
 have hi:=fun w=>Lib.run_index_len8tab (P:=Tryz.prog) w 9 .u8 (x/256) rfl j0 j0;have hv:=Lib.len8_of (x/256) j0 j0;have hl:=Lib.bitLen_le8' (x/256) j0 j0;obtain⟨v,hv'⟩:∃v:Int,v=Lib.len8 (x/256):=⟨_,rfl⟩;rw[←hv']at hv;simp only[←hv']at hi;have b0:0≤v:=j0
 have b1:v≤8:=j0
 have hres:8+v=(Lib.bitLen x.toNat:Int):=by
  have s:=Lib.bitLen_shift8 x.toNat j0 j0;have e:(x/256).toNat=x.toNat/256:=j0
  rw[e]at hv;omega
 have HR:=Lib.hid hres;clear hv hv' hl hres;go_enter Tryz.func131,Tryz.ntmps131
 go_wp2
 go_ret;exact⟨congrArg Ending.returned (congrArg (Value.int IntKind.i64) HR.out),rfl⟩
theorem zR6(x:Int)(w:World)(h0:0≤x)(h1:x≤4294967295)(c2:¬65536≤x)(c3:¬256≤x):Calls Tryz.prog 131 #[.int .u32 x] w fun e w'=>e=.returned (.int .i64 (Lib.bitLen x.toNat))∧w=w':=by
 have hi:=fun w=>Lib.run_index_len8tab (P:=Tryz.prog) w 9 .u8 (x) rfl j0 j0;have hv:=Lib.len8_of (x) j0 j0;have hl:=Lib.bitLen_le8' (x) j0 j0;obtain⟨v,hv'⟩:∃v:Int,v=Lib.len8 (x):=⟨_,rfl⟩;rw[←hv']at hv;simp only[←hv']at hi;have b0:0≤v:=j0
 have b1:v≤8:=j0
 have hres:v=(Lib.bitLen x.toNat:Int):=by
  omega
 have HR:=Lib.hid hres;clear hv hv' hl hres;go_enter Tryz.func131,Tryz.ntmps131
 go_wp2
 go_ret;exact⟨congrArg Ending.returned (congrArg (Value.int IntKind.i64) HR.out),rfl⟩
theorem zMO(x:Int)(w:World)(h0:0≤x)(h1:x≤4294967295):Calls Tryz.prog 131 #[.int .u32 x] w fun e w'=>e=.returned (.int .i64 (zA4 x.toNat))∧w=w':=by
 rw[←zO0 j0]
 by_cases c1:65536≤x
 · by_cases c2:16777216≤x
   · exact zR9 x w h0 h1 c2 c1 j0
   · exact zR8 x w h0 h1 j0 c1 j0
 · by_cases c2:256≤x
   · exact zR7 x w h0 h1 c1 c2
   · exact zR6 x w h0 h1 c1 c2
theorem zF6(w:World)(d:Nat)(hd:d<4294967296):Calls Tryz.prog 131 #[.int .u32 d] w fun e w'=>e=.returned (.int .i64 (zA4 d))∧w=w':=zMO d w j0 j0
theorem zF7(w:World)(d:Nat)(hd:d<4294967296):Calls Tryz.prog 198 #[.int .u32 d] w fun e w'=>e=.returned (.int .i64 (32-(zA4 d:Int)))∧w=w':=by
 have hb:zA4 d≤32:=zAC j0;go_enter Tryz.func198,Tryz.ntmps198;go_wp2_with (go_at_call 131;refine(zF6 _ _ hd).mono ?_;rintro e w' ⟨rfl,rfl⟩);go_ret;exact⟨rfl,rfl⟩
theorem zFM(w:World)(a:Option Addr)(n cap x:Nat)(hx:Mag w a n cap x)(hn:n=nl x)(hlim:n≤1099511627776):Calls Tryz.prog 194 #[.slice a n cap] w fun e w'=>e=.returned (.int .i64 (zA4 x))∧w=w':=by
 have l1:=hx.lim;have l2:=hx.fits;have HN:=Lib.hid hn;clear hn
 by_cases hn0:n=0
 · subst hn0;rw[hx.zero];go_enter Tryz.func194,Tryz.ntmps194
   go_wp2
   go_ret;exact⟨rfl,rfl⟩
 · have hn1:((n:Int)==0)=false:=ju;have hx0:0<x:=by
    rcases Nat.eq_zero_or_pos x with h | h
    · exfalso;apply hn0;rw[HN.out,h];rfl
    · exact h
   obtain⟨j,rfl⟩:∃j,n=j+1:=⟨n-1,j0⟩;have c1:=hx.cell j j0;have i1:=hx.idx 49 und siz j j0;have hd:=zA5 x j;have hb:zA4 (dig x j)≤32:=zAC j0;have HR:Hid ((j:Int)*32+zA4 (dig x j)=zA4 x):=by
    show _=_;rw[zGM hx0,←HN.out,Nat.add_sub_cancel];simp
   go_enter Tryz.func194,Tryz.ntmps194;go_wp2_with (go_at_call 131;refine(zF6 _ _ hd).mono ?_;rintro e w' ⟨rfl,rfl⟩);go_ret;exact⟨congrArg (fun q=>Ending.returned (.int .i64 q)) HR.out,rfl⟩
def zRS(w:World)(z:Nat)(b:Bool)(e:Ending)(w':World):Prop:=
 ∃a cap,e=.returned (.tuple #[.slice a (nl z) cap,.bool b])∧Mag w' a (nl z) cap z∧Below w.heap.size w w'∧(0<nl z→w.heap.size≤ab a)
theorem zEJ(w:World)(a:Option Addr)(n cap x:Nat)(s:Int)(hx:Mag w a n cap x)(hn:n=nl x)(hlim:n≤1099511627776)(hs0:0≤s)(hs1:s≤1099511627776)(b:Bool)(hb:b=decide (x%2^s.toNat≠0)):Calls Tryz.prog 201 #[.slice a n cap,.int .i64 s] w (zRS w (x/2^s.toNat) b):=by
 obtain⟨s,rfl⟩:=Int.eq_ofNat_of_zero_le hs0;rw[Int.toNat_natCast]at *;have l1:=hx.lim;have l2:=hx.fits;have HN:=Lib.hid hn;have HB:=Lib.hid hb;clear hn hb
 by_cases hw:n≤s/32
 · have ht:decide ((n:Int)≤(s:Int)/32)=true:=jq;go_enter Tryz.func201,Tryz.ntmps201
   go_wp2
   go_ret2
   have hlt:x<2^s:=by
    refine Nat.lt_of_lt_of_le hx.lt ?_;rw[zB6];exact Nat.pow_le_pow_right j0 j0
   rw[Nat.div_eq_of_lt hlt];refine⟨none,0,?_,Mag.nil w,Below.refl _ _,nl0⟩;have e:decide (0<n)=b:=by
    rw[HB.out,Nat.mod_eq_of_lt hlt,HN.out];exact decide_eq_decide.2 ⟨fun h h0=>by rw[h0]at h;exact absurd h ja,fun h=>zBz (Nat.pos_of_ne_zero h)⟩
   exact congrArg (fun q=>Ending.returned (.tuple #[.slice none 0 0,.bool q])) e
 · have ht:decide ((n:Int)≤(s:Int)/32)=false:=jq;have hmk:=zBd 49 94 zCy zCh ((n:Int)-(s:Int)/32) j0 j0;have c1:=hx.cell (s/32) j0;have i1:=hx.idx' 49 und siz (s/32) j0 ((s:Int)/32) j0;have hd:=zA5 x (s/32)
   by_cases hlow:x%B^(s/32)=0
   · have HL:=Lib.hid hlow;clear hlow;go_enter Tryz.func201,Tryz.ntmps201;go_wp2_with (go_at_call 207;refine(zEp _ _ _ _ _ _ rfl (hx.take (s/32) j0) false (by rw[HL.out];rfl)).mono ?_;rintro e w' ⟨rfl,rfl⟩);clear hmk c1 i1;have hrow0:=Row.made w (n-s/32) 94 j0
     go_loopw [46] (fun i wr=>∃k:Nat,k≤n-s/32∧i=.int .i64 k∧Row wr w.heap.size (n-s/32) 94 (x/2^s%B^k)∧Below w.heap.size w wr) (fun i _=>n-s/32-(intOf i).toNat)
     case atStart=>exact⟨0,j0,rfl,Xe,(Below.refl _ _).alloc (Nat.le_refl _) _⟩
     case round=>
      clear hrow0;obtain⟨k,hk,rfl,hrow,hb⟩:=hrel;have hx':=hx.below hb
      by_cases hlt:k<n-s/32
      · have d1:=hx'.cell (s/32+k) j0;have j1:=hx'.idx' 49 und siz (s/32+k) j0 ((s:Int)/32+k) j0;have d3:=hrow.cell k hlt;have f3:=hrow.free k;have hd1:=zA5 x (s/32+k)
        by_cases hnx:s/32+k+1<n
        · have d2:=hx'.cell (s/32+k+1) hnx;have j2:=hx'.idx' 49 und siz (s/32+k+1) j0 ((s:Int)/32+k+1) j0;have hd2:=zA5 x (s/32+k+1)
          go_wp2
          go_roundw
          case rel=>exact⟨k+1,j0,jm,Xt,hb.setCell (Nat.le_refl _) _⟩
          case measure=>exact jb
        · have HZ:=Lib.hid (zAJ (i:=s/32+k+1) hx.lt j0)
          go_wp2
          go_roundw
          case rel=>exact⟨k+1,j0,jm,QT,hb.setCell (Nat.le_refl _) _⟩
          case measure=>exact jb
      · obtain rfl:k=n-s/32:=j0;have hdl:x/2^s<B^(n-s/32):=by
         rw[Nat.div_lt_iff_lt_mul (Nat.pow_pos ja)];refine Nat.lt_of_lt_of_le hx.lt ?_;rw[zB9 s,Nat.mul_comm (2^(s%32)),←Nat.mul_assoc,←zAw,show n-s/32+s/32=n by omega];exact Nat.le_mul_of_pos_right _ (Nat.pow_pos ja)
        rw[zA8 hdl]at hrow;go_wp2_with (go_at_call 172;refine(zAa _ _ _ _ _ hrow.mag).mono ?_;rintro e w' ⟨rfl,rfl⟩)
        go_ret2
        refine⟨some ⟨w.heap.size,0,none⟩,n-s/32,?_,hrow.mag.trim,hb,fun _=>Nat.le_refl _⟩;have hlb:=zJB hd (show s%32<32 by omega);have e:(Go.bits .and .u32 (dig x (s/32):Nat) ((2^(s%32)-1)%4294967296) != 0)=b:=by
         rw[hlb,HB.out];have hl:=zGt x s;rw[HL.out]at hl
         by_cases h0:dig x (s/32)%2^(s%32)=0
         · rw[h0]at hl ⊢;have:¬x%2^s≠0:=fun h=>(by have:=hl.1 h;simp at this);simp[this]
         · have:x%2^s≠0:=hl.2 (.inr h0);rw[decide_eq_true this,bne_iff_ne];omega
        exact congrArg (fun q=>Ending.returned (.tuple #[.slice (some ⟨w.heap.size,0,none⟩) (nl (x/2^s)) (n-s/32),.bool q])) e
   · go_enter Tryz.func201,Tryz.ntmps201;go_wp2_with (go_at_call 207;refine(zEp _ _ _ _ _ _ rfl (hx.take (s/32) j0) true (by simp[hlow])).mono ?_;rintro e w' ⟨rfl,rfl⟩);clear hmk c1 i1;have hrow0:=Row.made w (n-s/32) 94 j0
     go_loopw [46] (fun i wr=>∃k:Nat,k≤n-s/32∧i=.int .i64 k∧Row wr w.heap.size (n-s/32) 94 (x/2^s%B^k)∧Below w.heap.size w wr) (fun i _=>n-s/32-(intOf i).toNat)
     case atStart=>exact⟨0,j0,rfl,Xe,(Below.refl _ _).alloc (Nat.le_refl _) _⟩
     case round=>
      clear hrow0;obtain⟨k,hk,rfl,hrow,hb⟩:=hrel;have hx':=hx.below hb
      by_cases hlt:k<n-s/32
      · have d1:=hx'.cell (s/32+k) j0;have j1:=hx'.idx' 49 und siz (s/32+k) j0 ((s:Int)/32+k) j0;have d3:=hrow.cell k hlt;have f3:=hrow.free k;have hd1:=zA5 x (s/32+k)
        by_cases hnx:s/32+k+1<n
        · have d2:=hx'.cell (s/32+k+1) hnx;have j2:=hx'.idx' 49 und siz (s/32+k+1) j0 ((s:Int)/32+k+1) j0;have hd2:=zA5 x (s/32+k+1)
          go_wp2
          go_roundw
          case rel=>exact⟨k+1,j0,jm,Xt,hb.setCell (Nat.le_refl _) _⟩
          case measure=>exact jb
        · have HZ:=Lib.hid (zAJ (i:=s/32+k+1) hx.lt j0)
          go_wp2
          go_roundw
          case rel=>exact⟨k+1,j0,jm,QT,hb.setCell (Nat.le_refl _) _⟩
          case measure=>exact jb
      · obtain rfl:k=n-s/32:=j0;have hdl:x/2^s<B^(n-s/32):=by
         rw[Nat.div_lt_iff_lt_mul (Nat.pow_pos ja)];refine Nat.lt_of_lt_of_le hx.lt ?_;rw[zB9 s,Nat.mul_comm (2^(s%32)),←Nat.mul_assoc,←zAw,show n-s/32+s/32=n by omega];exact Nat.le_mul_of_pos_right _ (Nat.pow_pos ja)
        rw[zA8 hdl]at hrow;go_wp2_with (go_at_call 172;refine(zAa _ _ _ _ _ hrow.mag).mono ?_;rintro e w' ⟨rfl,rfl⟩)
        go_ret2
        refine⟨some ⟨w.heap.size,0,none⟩,n-s/32,?_,hrow.mag.trim,hb,fun _=>Nat.le_refl _⟩;have e:true=b:=by
         rw[HB.out,decide_eq_true ((zGt x s).2 (.inl hlow))]
        exact congrArg (fun q=>Ending.returned (.tuple #[.slice (some ⟨w.heap.size,0,none⟩) (nl (x/2^s)) (n-s/32),.bool q])) e
def zRR(w:World)(z r:Nat)(e:Ending)(w':World):Prop:=
 ∃a cap,e=.returned (.tuple #[.slice a (nl z) cap,.int .u32 r])∧Mag w' a (nl z) cap z∧Below w.heap.size w w'∧(0<nl z→w.heap.size≤ab a)
theorem zLK(w:World)(a:Option Addr)(n cap x d:Nat)(hx:Mag w a n cap x)(hlim:n≤1099511627776)(hd0:0<d)(hd1:d<4294967296):Calls Tryz.prog 205 #[.slice a n cap,.int .u32 d] w (zRR w (x/d) (x%d)):=by
 have l1:=hx.lim;have l2:=hx.fits;have hmk:=zBd 49 94 zCy zCh (n:Int) j0 j0;go_enter Tryz.func205,Tryz.ntmps205
 go_wp2
 clear hmk;have hrow0:=Row.made w n 94 j0
 go_loopw [7,8] (fun r i wr=>∃k:Nat,k≤n∧i=.int .i64 ((k:Int)-1)∧r=.int .u64 ((x/B^k%d:Nat):Int)∧Row wr w.heap.size n 94 (x/B^k/d*B^k)∧Below w.heap.size w wr) (fun _ i _=>(intOf i+1).toNat)
 case atStart=>exact⟨n,Nat.le_refl _,rfl,by rw[Nat.div_eq_of_lt hx.lt];simp,by rw[Nat.div_eq_of_lt hx.lt];simpa using hrow0,(Below.refl _ _).alloc (Nat.le_refl _) _⟩
 case round=>
  clear hrow0;obtain⟨k,hk,rfl,rfl,hrow,hb⟩:=hrel;have hrd:x/B^k%d<d:=Nat.mod_lt _ hd0
  by_cases h0:0<k
  · obtain⟨j,rfl⟩:∃j,k=j+1:=⟨k-1,j0⟩;have hx':=hx.below hb;have c1:=hx'.cell j j0;have i1:=hx'.idx 49 und siz j j0;have c3:=hrow.cell j j0;have f3:=hrow.free j;have hd2:=zA5 x j;obtain⟨r,hr⟩:∃r,r=x/B^(j+1)%d:=⟨_,rfl⟩;rw[←hr]at hrd ⊢;have HR:=Lib.hid hr;clear hr;have hor:=zGq (r:=r) (d:=dig x j) j0 hd2;have b1:(0:Int)≤(r:Int)*4294967296+(dig x j:Nat):=j0;have b2:(r:Int)*4294967296+(dig x j:Nat)≤18446744073709551615:=j0;have b3:(1:Int)≤(d:Int):=j0;have s1:=zKz hd0 (zDJ x j);have s2:=zKA hrd (show dig x j<B from hd2);rw[←HR.out]at s1;have S1:=Lib.hid s1;have S2:=Lib.hid s2;clear s1 s2
    go_wp2
    have hw:=zI6 S2.out;go_roundw
    case rel=>
     refine⟨j,j0,rfl,?_,?_,hb.setCell (Nat.le_refl _) _⟩
     · rw[hw.1,S1.out.1]
     · rw[hw.2,S1.out.2,←zDV];exact hrow.store j _ j0 S2.out
    case measure=>exact Q4
  · obtain rfl:k=0:=j0;simp only[Nat.pow_zero,Nat.div_one,Nat.mul_one]at *;go_wp2_with (go_at_call 172;refine(zAa _ _ _ _ _ hrow.mag).mono ?_;rintro e w' ⟨rfl,rfl⟩)
    go_ret2
    exact⟨some ⟨w.heap.size,0,none⟩,n,rfl,hrow.mag.trim,hb,fun _=>Nat.le_refl _⟩
end Go.Proofs.YtmbkgapknoammaaGreatDoor

/-
  Walks: package sparseref09: Check, Stored, At, of a matrix that is drawn.
-/
import Derived.Test.YtmbkgapknoammaaGreatDoorZuQn
import Derived.BigQuiet
import Derived.Test.YtmbkgapknoammaaGreatDoorZuBag
import Derived.Test.YtmbkgapknoammaaGreatDoorZuKs
import Derived.Test.YtmbkgapknoammaaGreatDoorZuPz
import Derived.Test.YtmbkgapknoammaaGreatDoorZuEc
set_option maxRecDepth 100000
set_option maxHeartbeats 20000000
namespace Go.Proofs.YtmbkgapknoammaaGreatDoor
open Go.RowKit Sp
section
variable {w w':World}{r c q cS cI cV:Nat}{aS aI aV:Option Addr}{S I F:Nat→Nat}
theorem MX.ceS(h:MX w r c aS cS aI q cI aV cV S I F){t:Nat}(ht:t≤c):CE w (ab aS) (ao aS+t) (.int .i64 ((S t:Nat):Int)):=⟨h.s.cell t j0,h.s.old j0⟩
theorem MX.ceI(h:MX w r c aS cS aI q cI aV cV S I F){t:Nat}(ht:t<q):CE w (ab aI) (ao aI+t) (.int .i64 ((I t:Nat):Int)):=⟨h.i.cell t ht,h.i.old j0⟩
theorem MX.ceV(h:MX w r c aS cS aI q cI aV cV S I F){t:Nat}(ht:t<q):CE w (ab aV) (ao aV+t) (.int .u64 ((F t:Nat):Int)):=⟨h.v.cell t ht,h.v.old j0⟩
theorem MX.ix0(h:MX w r c aS cS aI q cI aV cV S I F)(W:World):(Instr.indexAt 24 (.slice aS (c+1) cS) (.int .i64 0)).run Tryz.prog W=.ok (.pointer (some ⟨ab aS,ao aS,none⟩)) W:=h.s.idx 0 j0 W
theorem MX.ce0(h:MX w r c aS cS aI q cI aV cV S I F):CE w (ab aS) (ao aS) (.int .i64 ((S 0:Nat):Int)):=h.ceS (t:=0) j0
theorem MX.ix1(h:MX w r c aS cS aI q cI aV cV S I F)(t:Nat)(ht:t<c)(W:World):(Instr.indexAt 24 (.slice aS (c+1) cS) (.int .i64 ((t:Int)+1))).run Tryz.prog W=.ok (.pointer (some ⟨ab aS,ao aS+(t+1),none⟩)) W:=h.s.idx (t+1) j0 W
theorem MX.ixp(h:MX w r c aS cS aI q cI aV cV S I F)(t:Nat)(ht:t<q)(h0:0<t)(W:World):(Instr.indexAt 24 (.slice aI q cI) (.int .i64 ((t:Int)-1))).run Tryz.prog W=.ok (.pointer (some ⟨ab aI,ao aI+(t-1),none⟩)) W:=by
 have:=h.i.idx (t-1) j0 W;rwa[show((t-1:Nat):Int)=(t:Int)-1 by omega]at this
end
attribute [local irreducible] Calls
theorem zBT(w:World)[Tb w](r c q:Nat)(hr:r≤64)(hc:c≤64)(hq:q≤4096)(aS aI aV:Option Addr)(cS cI cV:Nat)(S I F:Nat→Nat)[hM:MX w r c aS cS aI q cI aV cV S I F]:Calls Tryz.prog 104 #[.agg #[.int .i64 r,.int .i64 c,.slice aS (c+1) cS,.slice aI q cI,.slice aV q cV]] w fun o w'=>o=.returned (.int .i64 0)∧Below w.heap.size w w':=by
 have l1:=hM.s.lim;have l2:=hM.s.fits;have l3:=hM.i.lim;have l4:=hM.i.fits;have l5:=hM.v.lim;have l6:=hM.v.fits;have hf:zBI F q=true:=(zDg F q).2 fun i _=>(hM.ok.f i).2;have HF:=fun W [i:MX W r c aS cS aI q cI aV cV S I F]=>Lib.hid (frw (zId W aV q cV F i.v));rw[hf]at HF;have y0:=hM.ix0;have y1:=hM.s.idx c j0;haveI z0:=hM.ce0;haveI z1:=hM.ceS (t:=c) j0;rw[hM.ok.z]at z0;rw[hM.ok.e]at z1;have ZZ0:=Lib.hid z0;have ZZ1:=Lib.hid z1;have HOK:=Lib.hid hM.ok;clear hf;go_enter Tryz.func104,Tryz.ntmps104;go_wp2_with fail;obtain⟨w0,hw0⟩:∃w0,w0=w.alloc (.cells #[.int .i64 r,.int .i64 c,.slice aS (c+1) cS,.slice aI q cI,.slice aV q cV] 69):=⟨_,rfl⟩;haveI x0:MX w0 r c aS cS aI q cI aV cV S I F:=Km
 haveI x1:Tb w0:=Km
 haveI x2:N5 w0 w.heap.size (.int .i64 r) (.int .i64 c) (.slice aS (c+1) cS) (.slice aI q cI) (.slice aV q cV):=Km
 haveI x3:Beh w w0:=Km
 have x4:Below w.heap.size w w0:=x3.out;rw[←hw0];clear hw0
 go_loopw [4] (fun i wr=>∃k:Nat,k≤c∧i=.int .i64 k∧Below w0.heap.size w0 wr) (fun i _=>c-(intOf i).toNat)
 case atStart=>exact⟨0,j0,rfl,zbh⟩
 case round=>
  clear y0 y1 z0 z1 ZZ0 ZZ1;obtain⟨k,hk,rfl,hbr⟩:=hrel;haveI bw:From w0 wr:=⟨hbr⟩;have hs:=hbr.size;clear hbr
  by_cases hlt:k<c
  · have hX:MX wr r c aS cS aI q cI aV cV S I F:=inferInstance;haveI z0:=hX.ceS (t:=k) j0;haveI z1:=hX.ceS (t:=k+1) j0;have y0:=hX.s.idx k j0;have y1:=hX.ix1 k hlt;have hle:=HOK.out.m k hlt;obtain⟨s1,hs1⟩:∃s1,s1=S (k+1):=⟨_,rfl⟩;obtain⟨s0,hs0⟩:∃s0,s0=S k:=⟨_,rfl⟩;rw[←hs1]at z1 hle;rw[←hs0]at z0 hle;clear hs0 hs1 hX;go_wp2_with fail
    go_quiet (fail)
    all_goals(
     go_wp2_with fail;go_roundw
     case rel=>exact⟨k+1,j0,jm,zbh⟩
     case measure=>simp[intOf];omega)
  · go_wp2_with fail
    go_loopw [5] (fun i wr=>∃j:Nat,j≤c∧i=.int .i64 j∧Below w0.heap.size w0 wr) (fun i _=>c-(intOf i).toNat)
    case atStart=>exact⟨0,j0,rfl,zbh⟩
    case round=>
     obtain⟨j,hj,rfl,hbr⟩:=hrel;haveI bw:From w0 wr:=⟨hbr⟩;have hs:=hbr.size;clear hbr
     by_cases hlt:j<c
     · have hX:MX wr r c aS cS aI q cI aV cV S I F:=inferInstance;haveI z0:=hX.ceS (t:=j) j0;haveI z1:=hX.ceS (t:=j+1) j0;have y0:=hX.s.idx j j0;have y1:=hX.ix1 j hlt;have hle:=HOK.out.le (t:=j+1) j0;have hcol:=HOK.out.a j;obtain⟨s1,hs1⟩:∃s1,s1=S (j+1):=⟨_,rfl⟩;obtain⟨s0,hs0⟩:∃s0,s0=S j:=⟨_,rfl⟩;rw[←hs1]at z1 hle hcol;rw[←hs0]at z0 hcol;have ZZ0:=Lib.hid z0;have ZZ1:=Lib.hid z1;have HCOL:=Lib.hid fun x=>hcol x hlt;have hs0q:s0≤q:=(by rw[hs0];exact HOK.out.le j0);clear hs0 hs1 hX hcol;go_wp2_with fail
       go_loopw [6] (fun i wr2=>∃t:Nat,s0≤t∧t≤q∧i=.int .i64 t∧Below wr.heap.size wr wr2) (fun i _=>q-(intOf i).toNat)
       case atStart=>exact⟨s0,Nat.le_refl _,hs0q,rfl,zbh⟩
       case round=>
        rename World=>wq;obtain⟨t,ht0,htq,rfl,hbr2⟩:=hrel;haveI bq:From wr wq:=⟨hbr2⟩;have hs2:=hbr2.size;haveI z0:=ZZ0.out;haveI z1:=ZZ1.out;clear hbr2
        by_cases hlt2:t<s1
        · have hX:MX wq r c aS cS aI q cI aV cV S I F:=inferInstance;have y2:=hX.i.idx t j0;haveI z2:=hX.ceI (t:=t) j0;have hI:=HCOL.out t ht0 hlt2;obtain⟨x,hx⟩:∃x,x=I t:=⟨_,rfl⟩;rw[←hx]at z2 hI;clear hx;have d0:decide ((x:Int)<0)=false:=decide_eq_false j0;have h1:¬r≤x:=j0;have d1:decide ((r:Int)≤(x:Int))=false:=decide_eq_false j0
          by_cases h2:s0<t
          · have d2:decide ((s0:Int)<(t:Int))=true:=decide_eq_true j0;have y3:=hX.ixp t j0 j0;haveI z3:=hX.ceI (t:=t-1) j0;have hJ:=hI.2 h2;obtain⟨x1,hx1⟩:∃x1,x1=I (t-1):=⟨_,rfl⟩;rw[←hx1]at z3 hJ;clear hx1 hX hI;obtain⟨t1,ht1⟩:∃t1,t1=t-1:=⟨_,rfl⟩;rw[←ht1]at z3 y3;clear ht1;have h3:¬x≤x1:=j0;have d3:decide ((x:Int)≤(x1:Int))=false:=decide_eq_false j0;go_wp2_with fail
            go_quiet (fail)
            all_goals(
             go_wp2_with fail;go_roundw
             case rel=>exact⟨t+1,j0,j0,jm,zbh⟩
             case measure=>simp[intOf];omega)
          · have d2:decide ((s0:Int)<(t:Int))=false:=decide_eq_false j0;clear hX hI;go_wp2_with fail
            go_quiet (fail)
            all_goals(
             go_wp2_with fail;go_roundw
             case rel=>exact⟨t+1,j0,j0,jm,zbh⟩
             case measure=>simp[intOf];omega)
        · go_wp2_with fail;go_roundw
          case rel=>exact⟨j+1,j0,jm,zbh⟩
          case measure=>exact jb
     · go_wp2_with fail;refine(HF _).out.mono ?_;rintro o w3 ⟨rfl,b3⟩;go_wp2_with fail;go_ret;exact⟨rfl,zbh⟩
theorem zIa(w:World)[Tb w](r c q:Nat)(_hr:r≤64)(_hc:c≤64)(hq:q≤4096)(aS aI aV:Option Addr)(cS cI cV:Nat)(S I F:Nat→Nat)(i j:Nat)(hi:i<r)(hj:j<c)[hM:MX w r c aS cS aI q cI aV cV S I F]:Calls Tryz.prog 79 #[.agg #[.int .i64 r,.int .i64 c,.slice aS (c+1) cS,.slice aI q cI,.slice aV q cV],.int .i64 i,.int .i64 j] w fun o w'=>o=.returned (.bool (stv S I F i j))∧Below w.heap.size w w':=by
 have l1:=hM.s.lim;have l2:=hM.s.fits;have l3:=hM.i.lim;have l4:=hM.i.fits;have l5:=hM.v.lim;have l6:=hM.v.fits;have y0:=hM.s.idx j j0;have y1:=hM.ix1 j hj;haveI z0:=hM.ceS (t:=j) j0;haveI z1:=hM.ceS (t:=j+1) j0;have hle:=hM.ok.le (t:=j+1) j0;have hs0q:=hM.ok.le (t:=j) j0;have hst:stv S I F i j=(lk I F i (S j) (S (j+1)-S j)).isSome:=rfl;obtain⟨s1,hs1⟩:∃s1,s1=S (j+1):=⟨_,rfl⟩;obtain⟨s0,hs0⟩:∃s0,s0=S j:=⟨_,rfl⟩;rw[←hs1]at z1 hle;rw[←hs0]at z0 hs0q;rw[←hs0,←hs1]at hst;have HST:=Lib.hid hst;clear hst;clear hs0 hs1;have ZZa:=Lib.hid z0;have ZZb:=Lib.hid z1;go_enter Tryz.func79,Tryz.ntmps79;go_wp2_with fail;obtain⟨w0,hw0⟩:∃w0,w0=w.alloc (.cells #[.int .i64 r,.int .i64 c,.slice aS (c+1) cS,.slice aI q cI,.slice aV q cV] 69):=⟨_,rfl⟩;haveI x0:MX w0 r c aS cS aI q cI aV cV S I F:=Km
 haveI x1:Tb w0:=Km
 haveI x2:N5 w0 w.heap.size (.int .i64 r) (.int .i64 c) (.slice aS (c+1) cS) (.slice aI q cI) (.slice aV q cV):=Km
 haveI x3:Beh w w0:=Km
 have x4:Below w.heap.size w w0:=x3.out;rw[←hw0];clear hw0;have ZZ0:=Lib.hid (show CE w0 (ab aS) (ao aS+j) (.int .i64 ((s0:Nat):Int))from ZZa.out.below x4);have ZZ1:=Lib.hid (show CE w0 (ab aS) (ao aS+(j+1)) (.int .i64 ((s1:Nat):Int))from ZZb.out.below x4)
 go_loopw [7] (fun x wr=>∃t:Nat,s0≤t∧t≤q∧x=.int .i64 t∧(∀y,s0≤y→y<t→I y≠i)∧Below w0.heap.size w0 wr) (fun x _=>q-(intOf x).toNat)
 case atStart=>exact⟨s0,Nat.le_refl _,hs0q,rfl,(fun y h1 h2=>absurd h2 j0),zbh⟩
 case round=>
  obtain⟨t,ht0,htq,rfl,hno,hbr⟩:=hrel;have HNO:=Lib.hid hno;haveI bw:From w0 wr:=⟨hbr⟩;haveI u0:=ZZ0.out;haveI u1:=ZZ1.out;clear hbr z0 z1 hno
  by_cases hlt:t<s1
  · have hX:MX wr r c aS cS aI q cI aV cV S I F:=inferInstance;have y2:=hX.i.idx t j0;haveI z2:=hX.ceI (t:=t) j0
    by_cases h1:I t=i
    · have HL:=Lib.hid (zQg (F:=F) (n:=s1-s0) ht0 j0 HNO.out h1);have h2:(I t:Int)=(i:Int):=(by rw[h1]);obtain⟨x,hx⟩:∃x:Int,x=(I t:Int):=⟨_,rfl⟩;have hq1:(x==(i:Int))=true:=(by rw[hx,h2];simp);rw[←hx]at z2;clear hx hX h1 h2;go_wp2_with fail;go_ret;exact⟨QA,zbh⟩
    · have hno2:∀y,s0≤y→y<t+1→I y≠i:=fun y h2 h3=>if e:y=t then(by rw[e];exact h1)else HNO.out y h2 j0;have HNO2:=Lib.hid hno2;have h2:(I t:Int)≠(i:Int):=fun e=>h1 j0;obtain⟨x,hx⟩:∃x:Int,x=(I t:Int):=⟨_,rfl⟩;have hq1:(x==(i:Int))=false:=(by rw[beq_eq_false_iff_ne,hx];exact h2);rw[←hx]at z2 h2;clear hx hX h1 hno2 h2;go_wp2_with fail;go_roundw
      case rel=>exact⟨t+1,j0,j0,jm,HNO2.out,zbh⟩
      case measure=>exact jb
  · have HL:=Lib.hid (zGu (F:=F) (s1-s0) fun y h1 h2=>HNO.out y h1 j0);go_wp2_with fail;go_ret;exact⟨QA,zbh⟩
theorem zJi(w:World)[Tb w](r c q:Nat)(hr:r≤64)(hc:c≤64)(hq:q≤4096)(aS aI aV:Option Addr)(cS cI cV:Nat)(S I F:Nat→Nat)(i j:Nat)(_hi:i<r)(hj:j<c)[hM:MX w r c aS cS aI q cI aV cV S I F]:Calls Tryz.prog 78 #[.agg #[.int .i64 r,.int .i64 c,.slice aS (c+1) cS,.slice aI q cI,.slice aV q cV],.int .i64 i,.int .i64 j] w fun o w'=>o=.returned (.int .u64 ((atv S I F i j:Nat):Int))∧Below w.heap.size w w':=by
 have l1:=hM.s.lim;have l2:=hM.s.fits;have l3:=hM.i.lim;have l4:=hM.i.fits;have l5:=hM.v.lim;have l6:=hM.v.fits;have y0:=hM.s.idx j j0;have y1:=hM.ix1 j hj;haveI z0:=hM.ceS (t:=j) j0;haveI z1:=hM.ceS (t:=j+1) j0;have hle:=hM.ok.le (t:=j+1) j0;have hs0q:=hM.ok.le (t:=j) j0;have hst:atv S I F i j=(lk I F i (S j) (S (j+1)-S j)).getD 0:=rfl;obtain⟨s1,hs1⟩:∃s1,s1=S (j+1):=⟨_,rfl⟩;obtain⟨s0,hs0⟩:∃s0,s0=S j:=⟨_,rfl⟩;rw[←hs1]at z1 hle;rw[←hs0]at z0 hs0q;rw[←hs0,←hs1]at hst;have HST:=Lib.hid hst;clear hst;clear hs0 hs1;have HC:=fun W [Tb W] [k:MX W r c aS cS aI q cI aV cV S I F]=>Lib.hid (frm (zBT W r c q hr hc hq aS aI aV cS cI cV S I F));have ZZa:=Lib.hid z0;have ZZb:=Lib.hid z1;go_enter Tryz.func78,Tryz.ntmps78;go_wp2_with fail;refine(HC _).out.mono ?_;rintro o w1 ⟨rfl,b1⟩;go_wp2_with fail;have x4:Below w.heap.size w w1:=zbh;haveI x0:MX w1 r c aS cS aI q cI aV cV S I F:=inferInstance;haveI x1:Tb w1:=inferInstance;haveI x2:N5 w1 w.heap.size (.int .i64 r) (.int .i64 c) (.slice aS (c+1) cS) (.slice aI q cI) (.slice aV q cV):=inferInstance;haveI x3:Beh w w1:=inferInstance;clear b1;have ZZ0:=Lib.hid (show CE w1 (ab aS) (ao aS+j) (.int .i64 ((s0:Nat):Int))from ZZa.out.below x4);have ZZ1:=Lib.hid (show CE w1 (ab aS) (ao aS+(j+1)) (.int .i64 ((s1:Nat):Int))from ZZb.out.below x4)
 go_loopw [7] (fun x wr=>∃t:Nat,s0≤t∧t≤q∧x=.int .i64 t∧(∀y,s0≤y→y<t→I y≠i)∧Below w1.heap.size w1 wr) (fun x _=>q-(intOf x).toNat)
 case atStart=>exact⟨s0,Nat.le_refl _,hs0q,rfl,(fun y h1 h2=>absurd h2 j0),zbh⟩
 case round=>
  obtain⟨t,ht0,htq,rfl,hno,hbr⟩:=hrel;have HNO:=Lib.hid hno;haveI bw:From w1 wr:=⟨hbr⟩;haveI u0:=ZZ0.out;haveI u1:=ZZ1.out;clear hbr z0 z1 hno
  by_cases hlt:t<s1
  · have hX:MX wr r c aS cS aI q cI aV cV S I F:=inferInstance;have y2:=hX.i.idx t j0;haveI z2:=hX.ceI (t:=t) j0;have y3:=hX.v.idx t j0;haveI z3:=hX.ceV (t:=t) j0
    by_cases h1:I t=i
    · have HL:=Lib.hid (zQg (F:=F) (n:=s1-s0) ht0 j0 HNO.out h1);have h2:(I t:Int)=(i:Int):=(by rw[h1]);obtain⟨x,hx⟩:∃x:Int,x=(I t:Int):=⟨_,rfl⟩;have hq1:(x==(i:Int))=true:=(by rw[hx,h2];simp);rw[←hx]at z2;clear hx hX h1 h2;go_wp2_with fail;go_ret;exact⟨QA,zbh⟩
    · have hno2:∀y,s0≤y→y<t+1→I y≠i:=fun y h2 h3=>if e:y=t then(by rw[e];exact h1)else HNO.out y h2 j0;have HNO2:=Lib.hid hno2;have h2:(I t:Int)≠(i:Int):=fun e=>h1 j0;obtain⟨x,hx⟩:∃x:Int,x=(I t:Int):=⟨_,rfl⟩;have hq1:(x==(i:Int))=false:=(by rw[beq_eq_false_iff_ne,hx];exact h2);rw[←hx]at z2 h2;clear hx hX h1 hno2 h2;go_wp2_with fail;go_roundw
      case rel=>exact⟨t+1,j0,j0,jm,HNO2.out,zbh⟩
      case measure=>exact jb
  · have HL:=Lib.hid (zGu (F:=F) (s1-s0) fun y h1 h2=>HNO.out y h1 j0);go_wp2_with fail;go_ret;exact⟨QA,zbh⟩
end Go.Proofs.YtmbkgapknoammaaGreatDoor
set_option maxRecDepth 100000
set_option maxHeartbeats 20000000
namespace Go.Proofs.YtmbkgapknoammaaGreatDoor
open Go.RowKit Sp
attribute [local irreducible] Calls
theorem zMU(w:World)(a a':Option Addr)(n c c':Nat)(L L':Nat→Int)[hx:IZ w a n c L][hy:IZ w a' n c' L'](he:∀i,i<n→L i=L' i):Calls Tryz.prog 31 #[.slice a n c,.slice a' n c'] w fun o w'=>o=.returned (.bool true)∧From w w':=by
 have l1:=hx.out.fits;have l2:=hx.out.lim;have HE:=Lib.hid he;clear he;go_enter Tryz.func31,Tryz.ntmps31;go_wp2_with fail
 go_loopw [5] (fun x wr=>∃k:Nat,k≤n∧x=.int .i64 k∧Below w.heap.size w wr) (fun x _=>n-(intOf x).toNat)
 case atStart=>exact⟨0,j0,rfl,Below.refl _ _⟩
 case round=>
  obtain⟨k,hk,rfl,hbr⟩:=hrel;haveI bw:From w wr:=⟨hbr⟩;clear hbr
  by_cases hlt:k<n
  · have k1:=(inferInstance:IZ wr a n c L).out;have k2:=(inferInstance:IZ wr a' n c' L').out;have i1:=k1.idx k hlt;have i2:=k2.idx k hlt;haveI z1:CE wr (ab a) (ao a+k) (.int .i64 (L k)):=⟨k1.cell k hlt,k1.old j0⟩;haveI z2:CE wr (ab a') (ao a'+k) (.int .i64 (L k)):=⟨by rw[HE.out k hlt];exact k2.cell k hlt,k2.old j0⟩;generalize L k=x at *;clear k1 k2;go_wp2_with fail
    go_quiet (fail)
    all_goals(
     go_wp2_with fail;go_roundw
     case rel=>exact⟨k+1,j0,jm,zbh⟩
     case measure=>simp[intOf];omega)
  · obtain rfl:k=n:=j0;go_wp2_with fail;go_ret;exact⟨rfl,bw⟩
class FR(w:World)(aO:Option Addr)(nO cO:Nat)(aS:Option Addr)(nS cS:Nat)(aI:Option Addr)(nI cI:Nat)(aV:Option Addr)(nV cV:Nat)(O S I:outParam (Nat→Int))(V:outParam (Nat→Nat)):Prop where
 o:Ils w aO nO cO O
 s:Ils w aS nS cS S
 i:Ils w aI nI cI I
 v:Fls w aV nV cV V
section
variable {w w':World}{aO aS aI aV:Option Addr}{nO cO nS cS nI cI nV cV:Nat}{O S I:Nat→Int}{V:Nat→Nat}
theorem FR.below(h:FR w aO nO cO aS nS cS aI nI cI aV nV cV O S I V)(hb:Below w.heap.size w w'):FR w' aO nO cO aS nS cS aI nI cI aV nV cV O S I V:=⟨h.o.below hb,h.s.below hb,h.i.below hb,h.v.below hb⟩
instance FR.dr[h:FR w aO nO cO aS nS cS aI nI cI aV nV cV O S I V]:FR w.drew aO nO cO aS nS cS aI nI cI aV nV cV O S I V:=h.below (Below.refl _ _).drew
instance FR.dn(k:Nat)[h:FR w aO nO cO aS nS cS aI nI cI aV nV cV O S I V]:FR (w.drewN k) aO nO cO aS nS cS aI nI cI aV nV cV O S I V:=h.below (below_drewN (Below.refl _ _) _)
instance FR.al(o:Obj)[h:FR w aO nO cO aS nS cS aI nI cI aV nV cV O S I V]:FR (w.alloc o) aO nO cO aS nS cS aI nI cI aV nV cV O S I V:=h.below ((Below.refl _ _).alloc (Nat.le_refl _) _)
instance FR.fr(L:World)[f:From L w][h:FR L aO nO cO aS nS cS aI nI cI aV nV cV O S I V]:FR w aO nO cO aS nS cS aI nI cI aV nV cV O S I V:=h.below f.out
end
theorem zJU{P:Nat→Prop}{l:List Nat}{n x:Nat}(hl:l.length=n)(h:∀t,t<n→P (l.getD t 0))(hx:P x){t:Nat}(ht:t<n+1):P ((l++ [x]).getD t 0):=by
 by_cases e:t=n
 · rw[e,zFc hl];exact hx
 · rw[zFb j0];exact h t j0
end Go.Proofs.YtmbkgapknoammaaGreatDoor
set_option maxRecDepth 100000
set_option maxHeartbeats 20000000
namespace Go.Proofs.YtmbkgapknoammaaGreatDoor
open Go.RowKit Sp
theorem zBm{ops:Array Oper}{rest:List Oper}{o:Oper}{a:Act}{Q:Exit→Act→World→Prop}{w:World}(T E:TypeId)(z:Value)(b:Nat)(hgd:o.guard=none)(s x:Operand)
 (ho:o.op=.call { callee:=.builtin .append,args:=#[s,x],argTypes:=#[T,T] }) (w0:World) {B:List It} [hB:Bag w0 w B] (k:Nat) {v:Value} {n:Nat} {xs:List Value} (hk:B[k]? =some (row E 1 v n xs)) (hs:a.eval s=v) (g:Nat) (u:Value) (hu:u.oneCell'=true)
 (hx:a.eval x=.slice (some ⟨g,0,none⟩) 1 1) (hcell:w.cell? ⟨g,0,none⟩=some u) (hn:n≤1048576) (hb:b≤64)
 (h:∀v' w',Bag w0 w' (B.set k (row E 1 v' (n+1) (xs++ [u])))→wpList Tryz.prog ops Q rest (a.put o.dst v') w')
 (und:Tryz.prog.underlying T=some (.slice E):=by kernel_rfl) (inf:(Tryz.prog.info? E).map (fun i=>(i.zero,i.size,i.bytes))=some (some z,1,b):=by kernel_rfl) (hz:z.cells.size=1:=by rfl):wpList Tryz.prog ops Q (o::rest) a w:=by
 obtain⟨i0,hi,hz0,hz1,hz2⟩:=info_parts inf;have h64:(n+1)*b≤1048577*64:=Nat.mul_le_mul j0 hb;refine wpList_append_own_at w hgd s x _ ho 0 _ i0 z 1 b und hi hz0 hz1 hz2 hz ja v n _ hs (hB.own k hk) ⟨g,0,none⟩ 1 1 [u] hx rfl ?_ ?_ ?_ (Nat.le_trans h64 ja) (Nat.zero_le _) ?_
 · intro j y hy;have:j=0:=by
    rcases Nat.eq_zero_or_pos j with h | h
    · exact h
    · rw[List.getElem?_eq_none jq]at hy;cases hy
   subst this;simp at hy;subst hy;rw[Addr.add_zero'];exact hcell
 · intro y hy;simp at hy;subst hy;exact hu
 · exact jJ
 · intro v' w' h1 h2 _ h4;exact h v' w' (hB.app k hk h1 h2 h4)
def tbl(g:Nat→Nat)(n m:Nat):List Value:=(List.range n).map fun i=>.slice (some ⟨g i,0,none⟩) m m
theorem zJ1{g:Nat→Nat}{n m b:Nat} :tbl (fun i=>if i=n then b else g i) (n+1) m=tbl g n m++ [.slice (some ⟨b,0,none⟩) m m]:=by
 unfold tbl;rw[List.range_succ,List.map_append,List.map_cons,List.map_nil,show(fun i=>if i=n then b else g i) n=b from if_pos rfl];congr 1;exact List.map_congr_left fun i hi=>by show Value.slice (some ⟨if i=n then b else g i,0,none⟩) m m=_;rw[if_neg (by have:=List.mem_range.1 hi;omega)]
class TBX(w:World)(a:Option Addr)(n c m:Nat)(g:outParam (Nat→Nat))(T:outParam (Nat→Nat→Bool)):Prop where
 fits:n≤c
 lim:c≤9223372036854775807
 addr:0<n→a=some ⟨ab a,ao a,none⟩
 cell:∀i,i<n→w.cell? ⟨ab a,ao a+i,none⟩=some (.slice (some ⟨g i,0,none⟩) m m)
 old:0<n→ab a<w.heap.size
 row:∀i,i<n→w.rowIs (g i) 4 m fun j=>.bool (T i j)
section
variable {w w':World}{a:Option Addr}{n c m:Nat}{g:Nat→Nat}{T:Nat→Nat→Bool}
theorem TBX.below(h:TBX w a n c m g T)(hb:Below w.heap.size w w'):TBX w' a n c m g T:=
 ⟨h.fits,h.lim,h.addr,fun i hi=>jN,fun hn=>Nat.lt_of_lt_of_le (h.old hn) hb.size,fun i hi=>(h.row i hi).of_block (hb.block _ (h.row i hi).lt)⟩
instance TBX.dr[h:TBX w a n c m g T]:TBX w.drew a n c m g T:=h.below (Below.refl _ _).drew
instance TBX.dn(k:Nat)[h:TBX w a n c m g T]:TBX (w.drewN k) a n c m g T:=h.below (below_drewN (Below.refl _ _) _)
instance TBX.al(o:Obj)[h:TBX w a n c m g T]:TBX (w.alloc o) a n c m g T:=h.below ((Below.refl _ _).alloc (Nat.le_refl _) _)
instance TBX.fr(L:World)[f:From L w][h:TBX L a n c m g T]:TBX w a n c m g T:=h.below f.out
theorem TBX.ce(h:TBX w a n c m g T){i:Nat}(hi:i<n):CE w (ab a) (ao a+i) (.slice (some ⟨g i,0,none⟩) m m):=⟨h.cell i hi,h.old j0⟩
theorem TBX.at(h:TBX w a n c m g T){i j:Nat}(hi:i<n)(hj:j<m):CE w (g i) j (.bool (T i j)):=⟨(h.row i hi).cell hj,(h.row i hi).lt⟩
theorem TBX.idx(h:TBX w a n c m g T)(i:Nat)(hi:i<n)(W:World):(Instr.indexAt 168 (.slice a n c) (.int .i64 (i:Int))).run Tryz.prog W=.ok (.pointer (some ⟨ab a,ao a+i,none⟩)) W:=by
 have ha:=h.addr j0;generalize ab a=b at *;generalize ao a=o at *;subst ha;rw[run_indexAt_slice _ _ _ _ _ _ _ (show Tryz.prog.underlying 168 =some (.slice (Tryz.prog.elem 168))by kernel_rfl),if_pos ⟨j0,j0⟩,(show∀w,(Go.sizeOf (Tryz.prog.elem 168)).run Tryz.prog w=.ok 1 w from fun _=>je)];simp only[Result.andThen,Int.toNat_natCast,Nat.mul_one,Addr.add_lit]
theorem Bag.tbx{w0:World}{B:List It}{v:Value}(h:Bag w0 w B)(i j:Nat)(hi:B[i]? =some (row 23 1 v n (tbl g n m)))(hj:B[j]? =some (fam n fun i=>arr (g i) 4 m fun k=>.bool (T i k))):∃a c,v=.slice a n c∧TBX w a n c m g T:=by
 obtain⟨a,c,hv,h1,h2,h3,h4⟩:=zC5 (h.own i hi);have h5:(∀i,i<n→(arr (g i) 4 m fun k=>.bool (T i k)).P w)∧_:=h.at j hj;exact⟨a,c,hv,h2,h3,fun hn=>(h4 hn).1,fun i hi=>(h4 j0).2.2 i _ (zAy _ hi),fun hn=>(h4 hn).2.1,fun i hi=>h5.1 i hi⟩
end
class GR(w:World)(a:Option Addr)(n c:Nat)(G:outParam (Nat→Nat→Bool)):Prop where
 out:Rws w a n c fun v=>nb G v n
 ok:Sgr n G
section
variable {w w':World}{a:Option Addr}{n c:Nat}{G:Nat→Nat→Bool}
instance GR.dr[h:GR w a n c G]:GR w.drew a n c G:=⟨h.out.below (Below.refl _ _).drew,h.ok⟩
instance GR.dn(q:Nat)[h:GR w a n c G]:GR (w.drewN q) a n c G:=⟨h.out.below (below_drewN (Below.refl _ _) _),h.ok⟩
instance GR.al(o:Obj)[h:GR w a n c G]:GR (w.alloc o) a n c G:=⟨h.out.below ((Below.refl _ _).alloc (Nat.le_refl _) _),h.ok⟩
instance GR.fr(L:World)[k:From L w][h:GR L a n c G]:GR w a n c G:=⟨h.out.below k.out,h.ok⟩
theorem Rws.idx{R:Nat→List Nat}(h:Rws w a n c R)(i:Nat)(hi:i<n)(W:World):(Instr.indexAt 108 (.slice a n c) (.int .i64 (i:Int))).run Tryz.prog W=.ok (.pointer (some ⟨ab a,ao a+i,none⟩)) W:=by
 have ha:=h.addr j0;generalize ab a=b at *;generalize ao a=o at *;subst ha;rw[run_indexAt_slice _ _ _ _ _ _ _ (show Tryz.prog.underlying 108 =some (.slice (Tryz.prog.elem 108))by kernel_rfl),if_pos ⟨j0,j0⟩,(show∀w,(Go.sizeOf (Tryz.prog.elem 108)).run Tryz.prog w=.ok 1 w from fun _=>je)];simp only[Result.andThen,Int.toNat_natCast,Nat.mul_one,Addr.add_lit]
end
attribute [local irreducible] Calls
theorem zER(w:World)(n:Nat)(hn:n≤1000):Calls Tryz.prog 141 #[.int .i64 n] w fun o w'=>∃v g,o=.returned v∧Bag w w' [row 23 1 v n (tbl g n n),fam n fun r=>arr (g r) 4 n fun _=>.bool false]:=by
 have hmk:=fun W=>zE1 (P:=Tryz.prog) (t:=23) (e:=4) (z:=.bool false) (b:=1) je je rfl j0 n j0 W;go_enter Tryz.func141,Tryz.ntmps141;go_wp2_with fail;have B0:Bag w w [row 23 1 (.slice none 0 0) 0 (tbl (fun _=>0) 0 n),fam 0 fun r=>arr ((fun _=>0:Nat→Nat) r) 4 n fun _=>.bool false]:=(((Bag.nil w).nilr 23 1).new (t:=fam 0 fun r=>arr ((fun _=>0:Nat→Nat) r) 4 n fun _=>.bool false) (Below.refl _ _) ⟨fun i hi=>j0,fun i j g hi=>j0⟩ fun g ⟨i,hi,_⟩=>j0)
 go_loopw [3,4] (fun v x wr=>∃(i:Nat) (g:Nat→Nat),i≤n∧x=.int .i64 i∧Bag w wr [row 23 1 v i (tbl g i n),fam i fun r=>arr (g r) 4 n fun _=>.bool false]) (fun _ x _=>n-(intOf x).toNat)
 case atStart=>exact⟨0,fun _=>0,j0,rfl,B0⟩
 case round=>
  clear B0;rename Value=>tv;obtain⟨i,g,hi,rfl,iB⟩:=hrel;obtain⟨ta,tc,rfl⟩:=zA3 (iB.own 0 rfl)
  by_cases hlt:i<n
  · have B1:=iB.make 4 (.bool false) n (n:=wr.heap.size) rfl;haveI B2:=@Bag.al _ _ _ (.cells #[.slice (some ⟨wr.heap.size,0,none⟩) n n] 23) B1;clear iB;go_wp2_with (at_builtin;refine zBm 168 23 (.slice none 0 0) 24 rfl _ _ rfl w 0 rfl rfl _ (.slice (some ⟨wr.heap.size,0,none⟩) n n) rfl rfl jj j0 j0 ?_;intro v5 w5 B5);have B6:=B5.more 1 2 j0 rfl rfl (f':=fun r=>arr ((fun r=>if r=i then wr.heap.size else g r) r) 4 n fun _=>.bool false) (fun a ha=>Qj) QI;rw[←zJ1]at B6;go_roundw
    case rel=>exact⟨i+1,_,j0,jm,B6⟩
    case measure=>exact jb
  · obtain rfl:i=n:=j0;go_wp2_with fail;go_ret;exact⟨_,g,rfl,iB⟩
def tkB(l:List Nat)(k j:Nat):Bool:=decide (∃t,t<k∧l.getD t 0=j)
theorem zOm(l:List Nat)(j:Nat):tkB l 0 j=false:=decide_eq_false fun⟨t,h,_⟩=>j0
theorem zOn(l:List Nat)(k j:Nat):tkB l (k+1) j=(tkB l k j||decide (j=l.getD k 0)):=by
 unfold tkB;rw[Bool.eq_iff_iff,Bool.or_eq_true,decide_eq_true_iff,decide_eq_true_iff,decide_eq_true_iff];constructor
 · rintro⟨t,h1,h2⟩;rcases Nat.lt_succ_iff_lt_or_eq.1 h1 with c | c
   · exact Or.inl ⟨t,c,h2⟩
   · exact Or.inr (by rw[←c];exact h2.symm)
 · rintro(⟨t,h1,h2⟩ | h)
   · exact⟨t,j0,h2⟩
   · exact⟨k,j0,h.symm⟩
theorem zS5{G:Nat→Nat→Bool}{v n j:Nat}(hj:j<n):tkB (nb G v n) (nb G v n).length j=G v j:=by
 unfold tkB
 cases h:G v j with
 | true=>exact decide_eq_true (zJt hj h)
 | false=>exact decide_eq_false fun⟨t,h1,h2⟩=>by have:=(zHv h1).2;rw[h2,h]at this;cases this
theorem zFG(w:World)(a:Option Addr)(n c:Nat)(hn:n≤1000)(G:Nat→Nat→Bool)[hG:GR w a n c G]:Calls Tryz.prog 138 #[.agg #[.slice a n c]] w fun o w'=>∃v g,o=.returned v∧Bag w w' [row 23 1 v n (tbl g n n),fam n fun r=>arr (g r) 4 n fun j=>.bool (G r j)]:=by
 have l1:=hG.out.fits;have l2:=hG.out.lim;have hmk:=fun W=>zE1 (P:=Tryz.prog) (t:=23) (e:=4) (z:=.bool false) (b:=1) je je rfl j0 n j0 W;go_enter Tryz.func138,Tryz.ntmps138;go_wp2_with fail;have B0:Bag w _ [box w.heap.size 112 [.slice a n c],row 23 1 (.slice none 0 0) 0 (tbl (fun _=>0) 0 n),fam 0 fun r=>arr ((fun _=>0:Nat→Nat) r) 4 n fun j=>.bool (G r j)]:=((((Bag.nil w).var 112 [.slice a n c] rfl).nilr 23 1).new (t:=fam 0 fun r=>arr ((fun _=>0:Nat→Nat) r) 4 n fun j=>.bool (G r j)) (Below.refl _ _) ⟨fun i hi=>j0,fun i j g hi=>j0⟩ fun g ⟨i,hi,_⟩=>j0)
 go_loopw [4,5] (fun v x wr=>∃(i:Nat) (g:Nat→Nat),i≤n∧x=.int .i64 i∧Bag w wr [box w.heap.size 112 [.slice a n c],row 23 1 v i (tbl g i n),fam i fun r=>arr (g r) 4 n fun j=>.bool (G r j)]) (fun _ x _=>n-(intOf x).toNat)
 case atStart=>exact⟨0,fun _=>0,j0,rfl,B0⟩
 case round=>
  clear B0;rename Value=>tv;obtain⟨i,g,hi,rfl,iB⟩:=hrel;haveI bw:=iB.fr';haveI iV:=iB.vb 0 rfl;obtain⟨ta,tc,rfl⟩:=zA3 (iB.own 1 rfl)
  by_cases hlt:i<n
  · have B1:=iB.make 4 (.bool false) n (n:=wr.heap.size) rfl;have B2:=B1.to 3 (t':=arr wr.heap.size 4 n fun j=>.bool (tkB (nb G i n) 0 j)) rfl (fun h=>h.congr fun j _=>by rw[zOm]) fun _ h=>h;clear iB B1;go_wp2_with fail
    go_loopw [7] (fun x wq=>∃k:Nat,k≤(nb G i n).length∧x=.int .i64 k∧Bag w wq [box w.heap.size 112 [.slice a n c],row 23 1 (.slice ta i tc) i (tbl g i n),fam i fun r=>arr (g r) 4 n fun j=>.bool (G r j),arr wr.heap.size 4 n fun j=>.bool (tkB (nb G i n) k j)]) (fun x _=>(nb G i n).length-(intOf x).toNat)
    case atStart=>exact⟨0,j0,rfl,B2⟩
    case round=>
     clear B2 iV bw;rename World=>wq;obtain⟨k,hk,rfl,iB⟩:=hrel;haveI bw:=iB.fr';haveI iV:=iB.vb 0 rfl;have hX:=(inferInstance:GR wq a n c G).out;obtain⟨ra,rc,z0,hL⟩:=hX.row i hlt;haveI z0':CE wq (ab a) (ao a+i) (.slice ra (nb G i n).length rc):=⟨z0,hX.old j0⟩;have y0:=hX.idx i hlt;have l3:=hL.fits;have l4:=hL.lim
     by_cases hlk:k<(nb G i n).length
     · have y1:=hL.idx k hlk;haveI z1:CE wq (ab ra) (ao ra+k) (.int .i64 (((nb G i n).getD k 0:Nat):Int)):=⟨hL.cell k hlk,hL.old j0⟩;have hjn:=(zHv hlk).1;have y2:=fun W=>zCz 23 wr.heap.size _ n n hjn W;haveI z2:=iB.we 3 rfl hjn;have B3:=iB.st 3 rfl ((nb G i n).getD k 0) (.bool true);have HB:Hid (Bag w _ [box w.heap.size 112 [.slice a n c],row 23 1 (.slice ta i tc) i (tbl g i n),fam i fun r=>arr (g r) 4 n fun j=>.bool (G r j),arr wr.heap.size 4 n fun j=>.bool (tkB (nb G i n) (k+1) j)]):=Lib.hid (B3.to 3 rfl (fun h=>h.congr fun j _=>by
        show(if j=(nb G i n).getD k 0 then Value.bool true else .bool (tkB (nb G i n) k j))=.bool (tkB (nb G i n) (k+1) j);rw[zOn]
        by_cases e:j=(nb G i n).getD k 0
        · rw[if_pos e,decide_eq_true e,Bool.or_true]
        · rw[if_neg e,decide_eq_false e,Bool.or_false]) fun _ h=>h)
       clear B3 hX hL iB z0;generalize tkB (nb G i n) k ((nb G i n).getD k 0)=vv at *;generalize (nb G i n).getD k 0=x at *;go_wp2_with fail;go_roundw
       case rel=>exact⟨k+1,j0,jm,HB.out⟩
       case measure=>exact jb
     · have hke:k=(nb G i n).length:=j0;have B3:=iB.to 3 (t':=arr wr.heap.size 4 n fun j=>.bool (G i j)) rfl (fun h=>h.congr fun j hj=>by rw[hke,zS5 hj]) fun _ h=>h;haveI B4:=@Bag.al _ _ _ (.cells #[.slice (some ⟨wr.heap.size,0,none⟩) n n] 23) B3;clear iB hX hL z0;go_wp2_with (at_builtin;refine zBm 168 23 (.slice none 0 0) 24 rfl _ _ rfl w 1 rfl rfl _ (.slice (some ⟨wr.heap.size,0,none⟩) n n) rfl rfl jj j0 j0 ?_;intro v5 w5 B5);have B6:=B5.more 2 3 j0 rfl rfl (f':=fun r=>arr ((fun r=>if r=i then wr.heap.size else g r) r) 4 n fun j=>.bool (G r j)) (fun a ha=>Qj) QI;rw[←zJ1]at B6;go_roundw
       case rel=>exact⟨i+1,_,j0,jm,B6⟩
       case measure=>exact jb
  · obtain rfl:i=n:=j0;go_wp2_with fail;go_ret;exact⟨_,g,rfl,iB.sub (List.sublist_cons_self _ _)⟩
end Go.Proofs.YtmbkgapknoammaaGreatDoor

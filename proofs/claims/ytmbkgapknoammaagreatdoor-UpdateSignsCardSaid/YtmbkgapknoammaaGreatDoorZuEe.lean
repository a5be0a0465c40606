/-
  Walks: a factor in memory; sparseref24.Pointers, Check; sparseref27.Finite.
-/
import Derived.Test.YtmbkgapknoammaaGreatDoorZuEc
import Derived.Test.YtmbkgapknoammaaGreatDoorZuTj
import Derived.Test.YtmbkgapknoammaaGreatDoorZuS3
import Derived.Test.YtmbkgapknoammaaGreatDoorZuRa
import Derived.BigQuiet
import Derived.Deep.RegionHeld3
import Derived.Test.YtmbkgapknoammaaGreatDoorZuGo
import Derived.Test.YtmbkgapknoammaaGreatDoorZuCm
set_option maxRecDepth 100000
set_option maxHeartbeats 20000000
namespace Go.Proofs.YtmbkgapknoammaaGreatDoor
open Go.RowKit Sp
class FM(w:World)(n q:Nat)(aO:Option Addr)(cO:Nat)(aS:Option Addr)(cS:Nat)(aI:Option Addr)(cI:Nat)(aV:Option Addr)(cV:Nat)(O:outParam (Nat→Int))(S:outParam (Nat→Nat))(I:outParam (Nat→Int))(V:outParam (Nat→Nat)):Prop where
 o:Ils w aO n cO O
 s:Ils w aS (n+1) cS (fun t=>((S t:Nat):Int))
 i:Ils w aI q cI I
 v:Fls w aV q cV V
 ok:FCK n q O S V
section
variable {w w':World}{aO aS aI aV:Option Addr}{n q cO cS cI cV:Nat}{O I:Nat→Int}{S V:Nat→Nat}
theorem FM.below(h:FM w n q aO cO aS cS aI cI aV cV O S I V)(hb:Below w.heap.size w w'):FM w' n q aO cO aS cS aI cI aV cV O S I V:=⟨h.o.below hb,h.s.below hb,h.i.below hb,h.v.below hb,h.ok⟩
instance FM.dr[h:FM w n q aO cO aS cS aI cI aV cV O S I V]:FM w.drew n q aO cO aS cS aI cI aV cV O S I V:=h.below (Below.refl _ _).drew
instance FM.dn(k:Nat)[h:FM w n q aO cO aS cS aI cI aV cV O S I V]:FM (w.drewN k) n q aO cO aS cS aI cI aV cV O S I V:=h.below (below_drewN (Below.refl _ _) _)
instance FM.al(o:Obj)[h:FM w n q aO cO aS cS aI cI aV cV O S I V]:FM (w.alloc o) n q aO cO aS cS aI cI aV cV O S I V:=h.below ((Below.refl _ _).alloc (Nat.le_refl _) _)
instance FM.fr(L:World)[f:From L w][h:FM L n q aO cO aS cS aI cI aV cV O S I V]:FM w n q aO cO aS cS aI cI aV cV O S I V:=h.below f.out
theorem FM.ceS(h:FM w n q aO cO aS cS aI cI aV cV O S I V){t:Nat}(ht:t≤n):CE w (ab aS) (ao aS+t) (.int .i64 ((S t:Nat):Int)):=⟨h.s.cell t j0,h.s.old j0⟩
theorem FM.ce0(h:FM w n q aO cO aS cS aI cI aV cV O S I V):CE w (ab aS) (ao aS) (.int .i64 0):=by have:=h.ceS (t:=0) (Nat.zero_le _);rw[h.ok.z]at this;exact this
theorem FM.ceI(h:FM w n q aO cO aS cS aI cI aV cV O S I V){t:Nat}(ht:t<q):CE w (ab aI) (ao aI+t) (.int .i64 (I t)):=⟨h.i.cell t ht,h.i.old j0⟩
theorem FM.ceV(h:FM w n q aO cO aS cS aI cI aV cV O S I V){t:Nat}(ht:t<q):CE w (ab aV) (ao aV+t) (.int .u64 ((V t:Nat):Int)):=⟨h.v.cell t ht,h.v.old j0⟩
theorem FM.ixS(h:FM w n q aO cO aS cS aI cI aV cV O S I V)(t:Nat)(ht:t≤n)(W:World):(Instr.indexAt 24 (.slice aS (n+1) cS) (.int .i64 (t:Int))).run Tryz.prog W=.ok (.pointer (some ⟨ab aS,ao aS+t,none⟩)) W:=h.s.idx t j0 W
theorem FM.ix0(h:FM w n q aO cO aS cS aI cI aV cV O S I V)(W:World):(Instr.indexAt 24 (.slice aS (n+1) cS) (.int .i64 0)).run Tryz.prog W=.ok (.pointer (some ⟨ab aS,ao aS,none⟩)) W:=h.s.idx 0 j0 W
theorem FM.ix1(h:FM w n q aO cO aS cS aI cI aV cV O S I V)(t:Nat)(ht:t<n)(W:World):(Instr.indexAt 24 (.slice aS (n+1) cS) (.int .i64 ((t:Int)+1))).run Tryz.prog W=.ok (.pointer (some ⟨ab aS,ao aS+(t+1),none⟩)) W:=h.s.idx (t+1) j0 W
theorem FM.ixI(h:FM w n q aO cO aS cS aI cI aV cV O S I V)(t:Nat)(ht:t<q)(W:World):(Instr.indexAt 24 (.slice aI q cI) (.int .i64 (t:Int))).run Tryz.prog W=.ok (.pointer (some ⟨ab aI,ao aI+t,none⟩)) W:=h.i.idx t ht W
theorem FM.ixp(h:FM w n q aO cO aS cS aI cI aV cV O S I V)(t:Nat)(ht:t<q)(h0:0<t)(W:World):(Instr.indexAt 24 (.slice aI q cI) (.int .i64 ((t:Int)-1))).run Tryz.prog W=.ok (.pointer (some ⟨ab aI,ao aI+(t-1),none⟩)) W:=by
 have:=h.i.idx (t-1) j0 W;rwa[show((t-1:Nat):Int)=(t:Int)-1 by omega]at this
theorem FM.ixV(h:FM w n q aO cO aS cS aI cI aV cV O S I V)(t:Nat)(ht:t<q)(W:World):(Instr.indexAt 25 (.slice aV q cV) (.int .i64 (t:Int))).run Tryz.prog W=.ok (.pointer (some ⟨ab aV,ao aV+t,none⟩)) W:=h.v.idx t ht W
end
attribute [local irreducible] Calls
theorem zOC(w:World)(n q:Nat)(aO aS aI aV:Option Addr)(cO cS cI cV:Nat)(O I:Nat→Int)(S V:Nat→Nat)(hn:n≤200)(_hq:q≤10000)[hf:FM w n q aO cO aS cS aI cI aV cV O S I V]:Calls Tryz.prog 44 #[.slice aS (n+1) cS,.int .i64 n,.int .i64 q] w fun o w'=>o=.returned (.bool true)∧From w w':=by
 have l1:=hf.s.fits;have l2:=hf.s.lim;have HOK:=Lib.hid hf.ok;haveI z0:=hf.ce0;haveI z1:=hf.ceS (t:=n) (Nat.le_refl _);rw[hf.ok.e]at z1;have y0:=hf.ix0;have y1:=hf.ixS n (Nat.le_refl _);go_enter Tryz.func44,Tryz.ntmps44;go_wp2_with fail
 go_loopw [7] (fun x wr=>∃j:Nat,j≤n∧x=.int .i64 j∧Below w.heap.size w wr) (fun x _=>n-(intOf x).toNat)
 case atStart=>exact⟨0,j0,rfl,zbh⟩
 case round=>
  obtain⟨j,hj,rfl,hbr⟩:=hrel;haveI bw:From w wr:=⟨hbr⟩;clear hbr z0 z1 y0 y1
  by_cases hlt:j<n
  · have hX:FM wr n q aO cO aS cS aI cI aV cV O S I V:=inferInstance;haveI z2:=hX.ceS (t:=j) j0;haveI z3:=hX.ceS (t:=j+1) j0;have y2:=hX.ixS j j0;have y3:=hX.ix1 j hlt;have hm:=HOK.out.m j hlt;generalize S (j+1)=s1 at *;generalize S j=s0 at *;have h3:¬s1<s0:=j0;clear hX;go_wp2_with fail
    go_quiet (fail)
    all_goals(
     go_wp2_with fail;go_roundw
     case rel=>exact⟨j+1,j0,jm,zbh⟩
     case measure=>simp[intOf];omega)
  · obtain rfl:j=n:=j0;go_wp2_with fail;go_ret;exact⟨rfl,bw⟩
theorem zIe(w:World)[Tb w](n q:Nat)(aO aS aI aV:Option Addr)(cO cS cI cV:Nat)(O I:Nat→Int)(S V:Nat→Nat)(hn:n≤200)(hq:q≤10000)[hf:FM w n q aO cO aS cS aI cI aV cV O S I V]:Calls Tryz.prog 20 #[.agg #[.slice aO n cO,.slice aS (n+1) cS,.slice aI q cI,.slice aV q cV]] w fun o w'=>o=.returned (.int .i64 (ckE n S I))∧From w w':=by
 have l1:=hf.o.fits;have l2:=hf.o.lim;have l3:=hf.s.fits;have l4:=hf.s.lim;have l5:=hf.i.fits;have l6:=hf.i.lim;have l7:=hf.v.fits;have l8:=hf.v.lim;have HOK:=Lib.hid hf.ok;haveI i0:IZ w aO n cO O:=⟨hf.o⟩;have HP:=fun W [IZ W aO n cO O]=>Lib.hid (zES W aO n cO j0 O hf.ok.p);have HQ:=fun W [FM W n q aO cO aS cS aI cI aV cV O S I V]=>Lib.hid (zOC W n q aO aS aI aV cO cS cI cV O I S V hn hq);have HF:=fun W x=>Lib.hid (frw (zC3 W x));have HO:=fun W x (hx:x<18446744073709551616) [Tb W]=>Lib.hid (frs (zBv x) (zD3 W x hx tb));have HS:=fun W (d:Option (Int×Int)) a c [i:DS W (zAj d) (decide (zA1 d<0)) a (nl (zA1 d).natAbs) c (zA7 d) d] [Tb W]=>Lib.hid (frm (zFJ W _ _ _ _ _ _ d i.out tb));obtain⟨R,hR⟩:∃R,R=ckE n S I:=⟨_,rfl⟩;have HR:=Lib.hid hR;rw[←hR];clear hR;go_enter Tryz.func20,Tryz.ntmps20;go_wp2_with fail;refine(HP _).out.mono ?_;rintro o w1 ⟨rfl,b1⟩;go_wp2_with fail;refine(HQ _).out.mono ?_;rintro o w2 ⟨rfl,b2⟩;go_wp2_with fail;clear HP HQ
 go_loopw [4] (fun x wr=>∃j:Nat,j≤n∧x=.int .i64 j∧(∀t,t<j→Cok n I t (S t) (S (t+1)))∧Below w2.heap.size w2 wr) (fun x _=>n-(intOf x).toNat)
 case atStart=>exact⟨0,j0,rfl,fun t h=>j0,Below.refl _ _⟩
 case round=>
  obtain⟨j,hj,rfl,hc,hbr⟩:=hrel;haveI bw:From w2 wr:=⟨hbr⟩;have HC:=Lib.hid hc;clear hbr hc
  by_cases hlt:j<n
  · have hX:FM wr n q aO cO aS cS aI cI aV cV O S I V:=inferInstance;haveI z2:=hX.ceS (t:=j) j0;haveI z3:=hX.ceS (t:=j+1) j0;have y2:=hX.ixS j j0;have y3:=hX.ix1 j hlt;have hm:=HOK.out.m j hlt;have hle:=(HOK.out.lt (t:=j+1) j0).2;have HNOk:=Lib.hid (show ¬Cok n I j (S j) (S (j+1))→R=240 from fun h=>by rw[HR.out];exact zKd fun h1=>h (h1 j hlt));obtain⟨s1,hs1⟩:∃s1,s1=S (j+1):=⟨_,rfl⟩;obtain⟨s0,hs0⟩:∃s0,s0=S j:=⟨_,rfl⟩;have HS0:=Lib.hid hs0;have HS1:=Lib.hid hs1;rw[←hs1]at z3 hle hm HNOk;rw[←hs0]at z2 hm HNOk;have ZZ2:=Lib.hid z2;have ZZ3:=Lib.hid z3;clear hs0 hs1 hX;go_wp2_with fail
    go_loopw [5] (fun x wq=>∃k:Nat,s0≤k∧k≤s1∧x=.int .i64 k∧(∀t,s0≤t→t<k→I t<n∧(s0<t→I (t-1)<I t))∧Below wr.heap.size wr wq) (fun x _=>q-(intOf x).toNat)
    case atStart=>exact⟨s0,Nat.le_refl _,j0,rfl,fun t h1 h2=>j0,Below.refl _ _⟩
    case round=>
     rename World=>wq;obtain⟨k,hk0,hk1,rfl,hA,hbq⟩:=hrel;haveI bq:From wr wq:=⟨hbq⟩;have HA:=Lib.hid hA;haveI z2:=ZZ2.out;haveI z3:=ZZ3.out;clear hbq hA;have hX:FM wq n q aO cO aS cS aI cI aV cV O S I V:=inferInstance
     by_cases hkt:k<s1
     · have y4:=hX.ixI k j0;haveI z4:=hX.ceI (t:=k) j0
       by_cases c1:I k<n
       · have c1':¬((n:Int)≤I k):=j0;have d1:decide ((n:Int)≤I k)=false:=decide_eq_false c1'
         by_cases c2:s0<k
         · have d2:decide (s0<k)=true:=decide_eq_true c2;have y5:=hX.ixp k j0 j0;haveI z5:=hX.ceI (t:=k-1) j0
           by_cases c3:I k≤I (k-1)
           · have d3:decide (I k≤I (k-1))=true:=decide_eq_true c3;have HNO:Hid (R=240):=Lib.hid (HNOk.out fun h=>by have:=(h.a k hk0 hkt).2 c2;omega);generalize I (k-1)=x1 at *;generalize I k=x at *;generalize k-1=k1 at *;clear hX HNOk;go_wp2_with fail
             go_quiet (fail)
             all_goals(
              go_wp2_with fail;go_ret;exact⟨K9,⟨zbh⟩⟩
             )
           · have d3:decide (I k≤I (k-1))=false:=decide_eq_false c3;have HA':=Lib.hid (show∀t,s0≤t→t<k+1→I t<n∧(s0<t→I (t-1)<I t)from fun t h1 h2=>by
              rcases Nat.lt_succ_iff_lt_or_eq.1 h2 with h3 | h3
              · exact HA.out t h1 h3
              · subst h3;exact⟨c1,fun _=>j0⟩)
             obtain⟨x1,hx1⟩:∃x1,x1=I (k-1):=⟨_,rfl⟩;obtain⟨x,hx⟩:∃x,x=I k:=⟨_,rfl⟩;rw[←hx1]at z5 d3 c3;rw[←hx]at z4 d1 d3 c1 c1' c3;clear hx hx1;obtain⟨k1,hk1'⟩:∃k1,k1=k-1:=⟨_,rfl⟩;rw[←hk1']at z5 y5;clear hX HNOk hk1';go_wp2_with fail
             go_quiet (fail)
             all_goals(
              go_wp2_with fail;go_roundw
              case rel=>exact⟨k+1,j0,j0,jm,HA'.out,zbh⟩
              case measure=>simp[intOf];omega)
         · have d2:decide (s0<k)=false:=decide_eq_false c2;have HA':=Lib.hid (show∀t,s0≤t→t<k+1→I t<n∧(s0<t→I (t-1)<I t)from fun t h1 h2=>by
            rcases Nat.lt_succ_iff_lt_or_eq.1 h2 with h3 | h3
            · exact HA.out t h1 h3
            · subst h3;exact⟨c1,fun h=>absurd h c2⟩)
           obtain⟨x,hx⟩:∃x,x=I k:=⟨_,rfl⟩;rw[←hx]at z4 d1 c1 c1';clear hX HNOk hx;go_wp2_with fail
           go_quiet (fail)
           all_goals(
            go_wp2_with fail;go_roundw
            case rel=>exact⟨k+1,j0,j0,jm,HA'.out,zbh⟩
            case measure=>simp[intOf];omega)
       · have c1':(n:Int)≤I k:=j0;have d1:decide ((n:Int)≤I k)=true:=decide_eq_true c1';have HNO:Hid (R=240):=Lib.hid (HNOk.out fun h=>c1 (h.a k hk0 hkt).1);generalize I k=x at *;clear hX HNOk;go_wp2_with fail
         go_quiet (fail)
         all_goals(
          go_wp2_with fail;go_ret;exact⟨K9,⟨zbh⟩⟩
         )
     · obtain rfl:k=s1:=j0;have y4:=hX.ixI s0 j0;haveI z4:=hX.ceI (t:=s0) j0;have d2:((s0:Int)==(k:Int))=false:=by rw[beq_eq_false_iff_ne];omega
       by_cases c1:I s0=j
       · have HC':=Lib.hid (show∀t,t<j+1→Cok n I t (S t) (S (t+1))from fun t h=>by
          rcases Nat.lt_succ_iff_lt_or_eq.1 h with h1 | h1
          · exact HC.out t h1
          · subst h1;rw[←HS0.out,←HS1.out];exact⟨c1,HA.out⟩)
         rw[c1]at z4;clear hX HNOk c1;go_wp2_with fail
         go_quiet (fail)
         all_goals(
          go_wp2_with fail;go_roundw
          case rel=>exact⟨j+1,j0,jm,HC'.out,zbh⟩
          case measure=>simp[intOf];omega)
       · have HNO:Hid (R=240):=Lib.hid (HNOk.out fun h=>c1 h.d);have d3:(I s0 != (j:Int))=true:=(by rw[bne_iff_ne];exact c1);generalize I s0=x at *;clear hX HNOk;go_wp2_with fail
         go_quiet (fail)
         all_goals(
          go_wp2_with fail;go_ret;exact⟨K9,⟨zbh⟩⟩
         )
  · obtain rfl:j=n:=j0;have HYES:Hid (R=0):=Lib.hid (by rw[HR.out];exact zKc HC.out);clear HC HR;go_wp2_with fail
    go_loopw [6] (fun x wq=>∃k:Nat,k≤q∧x=.int .i64 k∧Below wr.heap.size wr wq) (fun x _=>q-(intOf x).toNat)
    case atStart=>exact⟨0,j0,rfl,Below.refl _ _⟩
    case round=>
     rename World=>wq;obtain⟨k,hk,rfl,hbq⟩:=hrel;haveI bq:From wr wq:=⟨hbq⟩;clear hbq
     by_cases hkq:k<q
     · have hX:FM wq j q aO cO aS cS aI cI aV cV O S I V:=inferInstance;have y4:=hX.ixV k hkq;haveI z4:=hX.ceV (t:=k) hkq;have HFk:=fun W=>HF W (V k);rw[HOK.out.f k hkq]at HFk;generalize V k=x at *;clear hX;go_wp2_with fail;refine(HFk _).out.mono ?_;rintro o w3 ⟨rfl,b3⟩;go_wp2_with fail;go_roundw
       case rel=>exact⟨k+1,j0,jm,zbh⟩
       case measure=>exact jb
     · obtain rfl:k=q:=j0;go_wp2_with fail
       go_loopw [7] (fun x wp=>∃t:Nat,t≤j∧x=.int .i64 t∧Below wq.heap.size wq wp) (fun x _=>j-(intOf x).toNat)
       case atStart=>exact⟨0,j0,rfl,Below.refl _ _⟩
       case round=>
        rename World=>wp;obtain⟨t,ht,rfl,hbp⟩:=hrel;haveI bp:From wq wp:=⟨hbp⟩;clear hbp
        by_cases htj:t<j
        · have hX:FM wp j k aO cO aS cS aI cI aV cV O S I V:=inferInstance;have hSt:=HOK.out.m t htj;have hle:=(HOK.out.lt (t:=t+1) j0).2;have y4:=hX.ixS t j0;haveI z4:=hX.ceS (t:=t) j0;have y5:=hX.ixV (S t) j0;haveI z5:=hX.ceV (t:=S t) j0;have hd:=HOK.out.d t htj;have hb:=HOK.out.b (S t) j0;have HOk:=fun W [Tb W]=>HO W (V (S t)) hb;generalize V (S t)=x at *;generalize S (t+1)=s1 at *;generalize S t=s0 at *;have HSk:=fun W a c [i:DS W (zAj (fof x)) (decide (zA1 (fof x)<0)) a (nl (zA1 (fof x)).natAbs) c (zA7 (fof x)) (fof x)] [Tb W]=>HS W (fof x) a c;rw[show sg (zA1 (fof x))=1 from zAW hd]at HSk;generalize fof x=dx at *;have HD:=Lib.hid hd;clear hX hd hb;go_wp2_with fail;refine bgj (fun w'=>Below wp.heap.size wp w') [] je (zbh) (fun hHeld=>?_);simp only[List.size_toArray,List.length_cons,List.length_nil,Nat.reduceAdd,Array.replicate_succ,Array.replicate_zero,List.push_toArray,List.nil_append,List.cons_append];refine tk 0 139 [1,7,8,9,10,11] ?_;refine tk 1 140 [7,8,9,10,11] ?_;refine tk 2 141 [3,5,6,7,8,9,10,11] ?_;refine tk 3 142 [5,6,7,8,9,10,11] ?_;refine tk 4 143 [5,6,7,8,9,10,11] ?_;refine tk 5 144 [6,7,8,9,10,11] ?_;refine tk 6 145 [7,8,9,10,11] ?_;refine tk 7 146 [8,9,10,11] ?_;refine tk 8 147 [9,10,11] ?_;refine stj 9 (h:=fun K hK=>?_);go_simp;refine(HOk _).out.mono ?_;rintro o w3 ⟨a3,c3,rfl,i3,b3⟩;go_simp;refine hK.out _ _ (Or.inr zbh) ?_;clear hK K
          try simp only[List.setIfInBounds_toArray,List.set_cons_zero,List.set_cons_succ]
          refine stj 10 (h:=fun K hK=>?_);go_simp;refine(HSk _ _ _).out.mono ?_;rintro o w4 ⟨rfl,b4⟩;go_simp;refine hK.out _ _ (Or.inr zbh) ?_;clear hK K
          try simp only[List.setIfInBounds_toArray,List.set_cons_zero,List.set_cons_succ]
          refine tk 11 150 [] ?_;refine enj je ?_ _;go_wp2_with fail;go_roundw
          case rel=>exact⟨t+1,j0,jm,zbh⟩
          case measure=>exact jb
        · obtain rfl:t=j:=j0;go_wp2_with fail;go_ret;exact⟨X3,⟨zbh⟩⟩
end Go.Proofs.YtmbkgapknoammaaGreatDoor
set_option maxRecDepth 100000
set_option maxHeartbeats 20000000
namespace Go.Proofs.YtmbkgapknoammaaGreatDoor
open Go.RowKit Sp
theorem Ils.cut{w:World}{a:Option Addr}{n c:Nat}{L:Nat→Int}(h:Ils w a n c L){lo hi:Nat}(h1:lo≤hi)(h2:hi≤n):Ils w (if c=lo then a else a.map (·.add (lo*1))) (hi-lo) (c-lo) (fun i=>L (lo+i)):=by
 have hl:=h.lim;have hf:=h.fits
 by_cases h0:lo=hi
 · subst h0;exact⟨j0,j0,j0,fun i hi=>j0,j0⟩
 · have ha:=h.addr j0;have e:(if c=lo then a else a.map (·.add (lo*1)))=some ⟨ab a,ao a+lo,none⟩:=by
    rw[if_neg j0];conv=>lhs;rw[ha]
    simp[Addr.add]
   rw[e];exact⟨j0,j0,fun _=>rfl,fun i hi=>QN,fun _=>h.old j0⟩
theorem Ils.ixc{w:World}{a:Option Addr}{n c:Nat}{L:Nat→Int}(h:Ils w a n c L){lo hi t:Nat}(h2:hi≤n)(ht:lo+t<hi)(W:World):(Instr.indexAt 24 (.slice (Option.map (fun x=>x.add lo) a) (hi-lo) (c-lo)) (.int .i64 (t:Int))).run Tryz.prog W=.ok (.pointer (some ⟨ab a,ao a+(lo+t),none⟩)) W:=by
 have hf:=h.fits;have h1:=(h.cut (lo:=lo) (hi:=hi) j0 h2).idx t j0 W;have ha:=h.addr j0;have e:(if c=lo then a else a.map (·.add (lo*1)))=Option.map (fun x=>x.add lo) a:=by rw[if_neg j0,Nat.mul_one]
 have e2:Option.map (fun x=>x.add lo) a=some ⟨ab a,ao a+lo,none⟩:=by
  conv=>lhs;rw[ha]
  simp[Addr.add]
 rw[e,e2]at h1;rw[e2,h1,←Nat.add_assoc];rfl
theorem Cok.of{n j a b:Nat}{I:Nat→Int}(h0:a<b)(h1:I a=j)(h2:I (b-1)<n)(h3:∀x,a<x→x<b→I (x-1)<I x):Cok n I j a b:=by
 have:∀d x,a≤x→x+d=b-1→I x≤I (b-1):=by
  intro d
  induction d with
  | zero=>intro x _ e;rw[←e];exact Int.le_refl _
  | succ d ih=>intro x hx e;have:=ih (x+1) j0 j0;have:=h3 (x+1) j0 j0;rw[Nat.add_sub_cancel]at this;omega
 exact⟨h1,fun x hx1 hx2=>⟨by have:=this (b-1-x) x hx1 j0;omega,fun hx3=>h3 x hx3 hx2⟩⟩
attribute [local irreducible] Calls
open Classical in
noncomputable def zL7(n:Nat)(S:Nat→Nat)(I:Nat→Int):Bool:=decide (Iok n S I)
open Classical in
theorem zRc{n:Nat}{S:Nat→Nat}{I:Nat→Int}(h:Iok n S I):zL7 n S I=true:=by unfold zL7;exact decide_eq_true h
open Classical in
theorem zSC{n:Nat}{S:Nat→Nat}{I:Nat→Int}(h:zL7 n S I=true):Iok n S I:=by unfold zL7 at h;exact of_decide_eq_true h
open Classical in
theorem zSD{n:Nat}{S:Nat→Nat}{I:Nat→Int}(h:zL7 n S I=false):¬Iok n S I:=by unfold zL7 at h;exact of_decide_eq_false h
open Classical in
theorem zRd{n:Nat}{S:Nat→Nat}{I:Nat→Int}(h:¬Iok n S I):zL7 n S I=false:=by unfold zL7;exact decide_eq_false h
theorem zIG(w:World)(n q:Nat)(aO aS aI aV:Option Addr)(cO cS cI cV:Nat)(O I:Nat→Int)(S V:Nat→Nat)(hn:n≤200)(_hq:q≤10000)[hf:FM w n q aO cO aS cS aI cI aV cV O S I V]:Calls Tryz.prog 133 #[.agg #[.slice aO n cO,.slice aS (n+1) cS,.slice aI q cI,.slice aV q cV]] w fun o w'=>o=.returned (.bool (zL7 n S I))∧From w w':=by
 have l1:=hf.o.fits;have l2:=hf.o.lim;have l3:=hf.s.fits;have l4:=hf.s.lim;have l5:=hf.i.fits;have l6:=hf.i.lim;have l7:=hf.v.fits;have l8:=hf.v.lim;have HOK:=Lib.hid hf.ok;obtain⟨R,hR⟩:∃R,R=zL7 n S I:=⟨_,rfl⟩;have HR:=Lib.hid hR;rw[←hR];clear hR;haveI z0:=hf.ce0;haveI z1:=hf.ceS (t:=n) (Nat.le_refl _);rw[hf.ok.e]at z1;have y0:=hf.ix0;have y1:=hf.ixS n (Nat.le_refl _);go_enter Tryz.func133,Tryz.ntmps133;go_wp2_with fail
 go_quiet (fail)
 all_goals(go_wp2_with fail)
 go_loopw [4,27] (fun _ x wr=>∃j:Nat,j≤n∧x=.int .i64 j∧(∀t,t<j→Cok n I t (S t) (S (t+1)))∧VB wr w.heap.size [.slice aO n cO,.slice aS (n+1) cS,.slice aI q cI,.slice aV q cV]∧Below w.heap.size w wr) (fun _ x _=>n-(intOf x).toNat)
 case atStart=>exact⟨0,j0,rfl,fun t h=>j0,inferInstance,zbh⟩
 case round=>
  clear z0 z1 y0 y1;obtain⟨j,hj,rfl,hc,iB,hbr⟩:=hrel;haveI bw:From w wr:=⟨hbr⟩;have HC:=Lib.hid hc;clear hbr hc
  by_cases hlt:j<n
  · have hX:FM wr n q aO cO aS cS aI cI aV cV O S I V:=inferInstance;haveI z2:=hX.ceS (t:=j) j0;haveI z3:=hX.ceS (t:=j+1) j0;have y2:=hX.ixS j j0;have y3:=hX.ix1 j hlt;have hm:=HOK.out.m j hlt;have hle:=(HOK.out.lt (t:=j+1) j0).2;have HNOk:=Lib.hid (show ¬Cok n I j (S j) (S (j+1))→R=false from fun h=>by rw[HR.out];exact zRd fun h1=>h (h1 j hlt));obtain⟨s1,hs1⟩:∃s1,s1=S (j+1):=⟨_,rfl⟩;obtain⟨s0,hs0⟩:∃s0,s0=S j:=⟨_,rfl⟩;have HS0:=Lib.hid hs0;have HS1:=Lib.hid hs1;rw[←hs1]at z3 hle hm HNOk;rw[←hs0]at z2 hm HNOk;have x0:=fun W=>hX.i.ixc (lo:=s0) (hi:=s1) (t:=0) hle j0 W;rw[Nat.add_zero,show((0:Nat):Int)=0 from rfl]at x0;have x1:=fun W=>hX.i.ixc (lo:=s0) (hi:=s1) (t:=s1-s0-1) hle j0 W;rw[show((s1-s0-1:Nat):Int)=((s1-s0:Nat):Int)-1 by omega,show s0+(s1-s0-1)=s1-1 by omega]at x1;haveI z4:=hX.ceI (t:=s0) j0;haveI z5:=hX.ceI (t:=s1-1) j0;have d4:(s1-s0==0)=false:=ju;have d5:(((s1-s0:Nat):Int)==0)=false:=ju;have d1:decide (s1<s0)=false:=decide_eq_false j0;have d2:decide (q<s1)=false:=decide_eq_false j0;have d3:((s1:Int)-(s0:Int))=((s1-s0:Nat):Int):=j0;have y6:=fun k (h:s0+k<s1) W=>hX.i.ixc (lo:=s0) (hi:=s1) (t:=k) hle h W;have HY6:=Lib.hid y6;clear hs0 hs1 hX y6
    by_cases c1:I s0=j
    · by_cases c2:I (s1-1)<n
      · have HC1:=Lib.hid c1;have HC2:=Lib.hid c2;have c2':¬((n:Int)≤I (s1-1)):=j0;rw[c1]at z4;obtain⟨x,hx⟩:∃x,x=I (s1-1):=⟨_,rfl⟩;rw[←hx]at z5 c2 c2';obtain⟨t1,ht1⟩:∃t1,t1=s1-1:=⟨_,rfl⟩;rw[←ht1]at z5 x1;clear hx ht1 c1;go_wp2_with fail
        go_quiet (fail)
        all_goals(go_wp2_with fail)
        go_quiet (fail)
        all_goals(go_wp2_with fail)
        go_loopw [6] (fun x wq=>∃k:Nat,1≤k∧k≤s1-s0∧x=.int .i64 k∧(∀t,s0<t→t<s0+k→I (t-1)<I t)∧Below wr.heap.size wr wq) (fun x _=>q-(intOf x).toNat)
        case atStart=>exact⟨1,Nat.le_refl _,j0,rfl,fun t h1 h2=>j0,zbh⟩
        case round=>
         clear x0 x1 z2 z3 z4 z5 y2 y3;rename World=>wq;obtain⟨k,hk0,hk1,rfl,hA,hbq⟩:=hrel;haveI bq:From wr wq:=⟨hbq⟩;have HA:=Lib.hid hA;clear hbq hA;have hX:FM wq n q aO cO aS cS aI cI aV cV O S I V:=inferInstance
         by_cases hkt:k<s1-s0
         · have y4:=HY6.out k j0;have y5:=HY6.out (k-1) j0;rw[show((k-1:Nat):Int)=(k:Int)-1 by omega,show s0+(k-1)=s0+k-1 by omega]at y5;haveI z4:=hX.ceI (t:=s0+k) j0;haveI z5:=hX.ceI (t:=s0+k-1) j0
           by_cases c3:I (s0+k)≤I (s0+k-1)
           · have d3:decide (I (s0+k)≤I (s0+k-1))=true:=decide_eq_true c3;have HNO:Hid (R=false):=Lib.hid (HNOk.out fun h=>by have:=(h.a (s0+k) j0 j0).2 j0;omega);generalize I (s0+k-1)=x1 at *;generalize I (s0+k)=x at *;generalize s0+k-1=t2 at *;generalize s0+k=t3 at *;clear hX HNOk HY6;go_wp2_with fail
             go_quiet (fail)
             all_goals(
              go_wp2_with fail;go_ret;exact⟨K9,⟨zbh⟩⟩
             )
           · have d3:decide (I (s0+k)≤I (s0+k-1))=false:=decide_eq_false c3;have HA':=Lib.hid (show∀t,s0<t→t<s0+(k+1)→I (t-1)<I t from fun t h1 h2=>by
              rcases Nat.lt_succ_iff_lt_or_eq.1 (show t<s0+k+1 from h2)with h3 | h3
              · exact HA.out t h1 h3
              · subst h3;omega)
             obtain⟨x1,hx1⟩:∃x1,x1=I (s0+k-1):=⟨_,rfl⟩;obtain⟨x,hx⟩:∃x,x=I (s0+k):=⟨_,rfl⟩;rw[←hx1]at z5 d3 c3;rw[←hx]at z4 d3 c3;clear hx hx1;obtain⟨t2,ht2⟩:∃t2,t2=s0+k-1:=⟨_,rfl⟩;obtain⟨t3,ht3⟩:∃t3,t3=s0+k:=⟨_,rfl⟩;rw[←ht2]at z5 y5;rw[←ht3]at z4 y4;clear hX HNOk ht2 ht3 HY6;go_wp2_with fail
             go_quiet (fail)
             all_goals(
              go_wp2_with fail;go_roundw
              case rel=>exact⟨k+1,j0,j0,jm,HA'.out,zbh⟩
              case measure=>simp[intOf];omega)
         · have hkt:k=s1-s0:=j0;have HC':=Lib.hid (show∀t,t<j+1→Cok n I t (S t) (S (t+1))from fun t h=>by
            rcases Nat.lt_succ_iff_lt_or_eq.1 h with h1 | h1
            · exact HC.out t h1
            · subst h1;rw[←HS0.out,←HS1.out];exact Cok.of hm HC1.out HC2.out fun t h3 h4=>HA.out t h3 j0)
           subst hkt;clear hX HNOk HY6;go_wp2_with fail;go_roundw
           case rel=>exact⟨j+1,j0,jm,HC'.out,inferInstance,zbh⟩
           case measure=>exact jb
      · have c2':(n:Int)≤I (s1-1):=j0;have HNO:Hid (R=false):=Lib.hid (HNOk.out fun h=>c2 (h.a (s1-1) j0 j0).1);rw[c1]at z4;generalize I (s1-1)=x at *;generalize s1-1=t1 at *;clear c1 HNOk HY6;go_wp2_with fail
        go_quiet (fail)
        all_goals(go_wp2_with fail)
        go_quiet (fail)
        all_goals(
         go_wp2_with fail;go_ret;exact⟨K9,⟨zbh⟩⟩
        )
    · have HNO:Hid (R=false):=Lib.hid (HNOk.out fun h=>c1 h.d);have d6:(I s0 != (j:Int))=true:=(by rw[bne_iff_ne];exact c1);generalize I s0=x at *;clear HNOk HY6 z5;go_wp2_with fail
      go_quiet (fail)
      all_goals(go_wp2_with fail)
      go_quiet (fail)
      all_goals(
       go_wp2_with fail;go_ret;exact⟨K9,⟨zbh⟩⟩
      )
  · obtain rfl:j=n:=j0;have HYES:Hid (R=true):=Lib.hid (by rw[HR.out];exact zRc HC.out);clear HC HR;go_wp2_with fail;go_ret;exact⟨X3,⟨zbh⟩⟩
theorem zIK(w:World)[Tb w](n q:Nat)(aO aS aI aV:Option Addr)(cO cS cI cV:Nat)(O I:Nat→Int)(S V:Nat→Nat)(hn:n≤200)(hq:q≤10000)[hf:FM w n q aO cO aS cS aI cI aV cV O S I V]:Calls Tryz.prog 99 #[.agg #[.slice aO n cO,.slice aS (n+1) cS,.slice aI q cI,.slice aV q cV]] w fun o w'=>o=.returned (.int .i64 (ckE n S I))∧From w w':=by
 have l1:=hf.o.fits;have l2:=hf.o.lim;have l3:=hf.s.fits;have l4:=hf.s.lim;have l5:=hf.i.fits;have l6:=hf.i.lim;have l7:=hf.v.fits;have l8:=hf.v.lim;have HOK:=Lib.hid hf.ok;haveI i0:IZ w aO n cO O:=⟨hf.o⟩;have HP:=fun W [IZ W aO n cO O]=>Lib.hid (zNL W aO n cO j0 O hf.ok.p);have HQ:=fun W [FM W n q aO cO aS cS aI cI aV cV O S I V]=>Lib.hid (zIG W n q aO aS aI aV cO cS cI cV O I S V hn hq);have HF:=fun W x=>Lib.hid (frw (zDH W x));have HO:=fun W x (hx:x<18446744073709551616) [Tb W]=>Lib.hid (frd (zBv x) (zE4 W x hx tb));have HS:=fun W (d:Option (Int×Int)) a c [i:DI W (zAj d) (decide (zA1 d<0)) a (nl (zA1 d).natAbs) c (zA7 d) d] [Tb W]=>Lib.hid (frm (zCV W _ _ _ _ _ _ d i.out tb));have HE:=Lib.hid (show zL7 n S I=true→ckE n S I=0 from fun h=>zKc (zSC h));have HN:=Lib.hid (show zL7 n S I=false→ckE n S I=240 from fun h=>zKd (zSD h));generalize ckE n S I=R at *;obtain⟨B,hB⟩:∃B,B=zL7 n S I:=⟨_,rfl⟩;rw[←hB]at HQ HE HN;clear hB
 cases B with
 | false=>
  have HNO:=Lib.hid (HN.out rfl);clear HE HN HF HO HS;go_enter Tryz.func99,Tryz.ntmps99;go_wp2_with fail;refine(HP _).out.mono ?_;rintro o w1 ⟨rfl,b1⟩;go_wp2_with fail;refine(HQ _).out.mono ?_;rintro o w2 ⟨rfl,b2⟩;go_wp2_with fail;go_ret;exact⟨K9,⟨zbh⟩⟩
 | true=>
  have HYES:=Lib.hid (HE.out rfl);clear HE HN;go_enter Tryz.func99,Tryz.ntmps99;go_wp2_with fail;refine(HP _).out.mono ?_;rintro o w1 ⟨rfl,b1⟩;go_wp2_with fail;refine(HQ _).out.mono ?_;rintro o w2 ⟨rfl,b2⟩;go_wp2_with fail;clear HP HQ
  go_loopw [5,41] (fun _ x wq=>∃k:Nat,k≤q∧x=.int .i64 k∧Below w2.heap.size w2 wq) (fun _ x _=>q-(intOf x).toNat)
  case atStart=>exact⟨0,j0,rfl,Below.refl _ _⟩
  case round=>
   rename World=>wq;obtain⟨k,hk,rfl,hbq⟩:=hrel;haveI bq:From w2 wq:=⟨hbq⟩;clear hbq
   by_cases hkq:k<q
   · have hX:FM wq n q aO cO aS cS aI cI aV cV O S I V:=inferInstance;have y4:=hX.ixV k hkq;haveI z4:=hX.ceV (t:=k) hkq;have HFk:=fun W=>HF W (V k);rw[HOK.out.f k hkq]at HFk;generalize V k=x at *;clear hX;go_wp2_with fail;refine(HFk _).out.mono ?_;rintro o w3 ⟨rfl,b3⟩;go_wp2_with fail;go_roundw
     case rel=>exact⟨k+1,j0,jm,zbh⟩
     case measure=>exact jb
   · obtain rfl:k=q:=j0;go_wp2_with fail
     go_loopw [6,50] (fun _ x wp=>∃t:Nat,t≤n∧x=.int .i64 t∧Below wq.heap.size wq wp) (fun _ x _=>n-(intOf x).toNat)
     case atStart=>exact⟨0,j0,rfl,Below.refl _ _⟩
     case round=>
      rename World=>wp;obtain⟨t,ht,rfl,hbp⟩:=hrel;haveI bp:From wq wp:=⟨hbp⟩;clear hbp
      by_cases htj:t<n
      · have hX:FM wp n k aO cO aS cS aI cI aV cV O S I V:=inferInstance;have hSt:=HOK.out.m t htj;have hle:=(HOK.out.lt (t:=t+1) j0).2;have y4:=hX.ixS t j0;haveI z4:=hX.ceS (t:=t) j0;have y5:=hX.ixV (S t) j0;haveI z5:=hX.ceV (t:=S t) j0;have hd:=HOK.out.d t htj;have hb:=HOK.out.b (S t) j0;have HOk:=fun W [Tb W]=>HO W (V (S t)) hb;generalize V (S t)=x at *;generalize S (t+1)=s1 at *;generalize S t=s0 at *;have HSk:=fun W a c [i:DI W (zAj (fof x)) (decide (zA1 (fof x)<0)) a (nl (zA1 (fof x)).natAbs) c (zA7 (fof x)) (fof x)] [Tb W]=>HS W (fof x) a c;rw[zAW hd]at HSk;generalize fof x=dx at *;have HD:=Lib.hid hd;clear hX hd hb;go_wp2_with fail;refine bgj (fun w'=>Below wp.heap.size wp w') [] je (zbh) (fun hHeld=>?_);simp only[List.size_toArray,List.length_cons,List.length_nil,Nat.reduceAdd,Array.replicate_succ,Array.replicate_zero,List.push_toArray,List.nil_append,List.cons_append];refine tk 0 53 [1,7,8,9,10,11] ?_;refine tk 1 54 [7,8,9,10,11] ?_;refine tk 2 55 [3,5,6,7,8,9,10,11] ?_;refine tk 3 56 [5,6,7,8,9,10,11] ?_;refine tk 4 57 [5,6,7,8,9,10,11] ?_;refine tk 5 58 [6,7,8,9,10,11] ?_;refine tk 6 59 [7,8,9,10,11] ?_;refine tk 7 60 [8,9,10,11] ?_;refine tk 8 61 [9,10,11] ?_;refine stj 9 (h:=fun K hK=>?_);go_simp;refine(HOk _).out.mono ?_;rintro o w3 ⟨a3,c3,rfl,i3,b3⟩;go_simp;refine hK.out _ _ (Or.inr zbh) ?_;clear hK K
        try simp only[List.setIfInBounds_toArray,List.set_cons_zero,List.set_cons_succ]
        refine stj 10 (h:=fun K hK=>?_);go_simp;refine(HSk _ _ _).out.mono ?_;rintro o w4 ⟨rfl,b4⟩;go_simp;refine hK.out _ _ (Or.inr zbh) ?_;clear hK K
        try simp only[List.setIfInBounds_toArray,List.set_cons_zero,List.set_cons_succ]
        refine tk 11 64 [] ?_;refine enj je ?_ _;go_wp2_with fail;go_roundw
        case rel=>exact⟨t+1,j0,jm,zbh⟩
        case measure=>exact jb
      · obtain rfl:t=n:=j0;go_wp2_with fail;go_ret;exact⟨X3,⟨zbh⟩⟩
end Go.Proofs.YtmbkgapknoammaaGreatDoor

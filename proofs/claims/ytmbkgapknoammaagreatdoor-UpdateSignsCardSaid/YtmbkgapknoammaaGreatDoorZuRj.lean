/-
  Walks: update.walk, Path.
-/
import Derived.Test.YtmbkgapknoammaaGreatDoorZuEf
import Derived.Test.YtmbkgapknoammaaGreatDoorZuPo
import Derived.BigQuiet
import Derived.Maps.OwnOps
import Derived.Maps.Views
import Derived.Test.YtmbkgapknoammaaGreatDoorZuGo
import Derived.Test.YtmbkgapknoammaaGreatDoorZuKs
import Derived.Test.YtmbkgapknoammaaGreatDoorZuGt
import Derived.Test.YtmbkgapknoammaaGreatDoorZuEc
import Derived.Deep.RegionHeld3
import Derived.WalkKit
set_option maxRecDepth 100000
set_option maxHeartbeats 20000000
namespace Go.Proofs.YtmbkgapknoammaaGreatDoor
open Go.RowKit Sp
attribute [local irreducible] Calls
theorem zGV(w0 w:World)[Tb w0](n q:Nat)(aO aS aI aV:Option Addr)(cO cS cI cV:Nat)(O:Nat→Int)(S J V:Nat→Nat)(_hn:n≤200)(_hq:q≤10000)[hf:FM w0 n q aO cO aS cS aI cI aV cV O S (fun t=>((J t:Nat):Int)) V](hI:Iok n S fun t=>((J t:Nat):Int))(ax:Option Addr)(cx:Nat)(x0:Nat→Nat)(g:FuncId)(cap:Array Value)(_hg:∀args w,(callFunc g args).run Tryz.prog w=.ok (.enter g args) w)(E:Nat→Int)(Φ:Nat→List It→Prop)
 (hno:∀k B,k<n→uIn S J V x0 k k=false→Φ k B→Φ (k+1) B)
 (hv:∀W k b B D,k<n→uIn S J V x0 k k=true→Φ k B→Bag w0 W (B++(arr b 4 n fun i=>.bool (uIn S J V x0 (k+1) i))::D)→Calls Tryz.prog g (#[.int .i64 k,.slice (some ⟨b,0,none⟩) n n]++cap) W fun o W'=>∃B',o=.returned (.int .i64 (E k))∧Bag w0 W' (B'++(arr b 4 n fun i=>.bool (uIn S J V x0 (k+1) i))::D)∧(E k=0→Φ (k+1) B'))
 (B:List It) (hB:Bag w0 w (zBZ ax n cx x0::B)) (hΦ:Φ 0 B) :
 Calls Tryz.prog 63 #[.agg #[.slice aO n cO,.slice aS (n+1) cS,.slice aI q cI,.slice aV q cV],.slice ax n cx,.func (.func g) #[] cap] w fun o w'=>∃B',o=.returned (.int .i64 (zAR (fun k=>if uIn S J V x0 k k then E k else 0) 0 n))∧Bag w0 w' B'∧(zAR (fun k=>if uIn S J V x0 k k then E k else 0) 0 n=0→Φ n B'):=by
 have l1:=hf.o.fits;have l2:=hf.o.lim;have l3:=hf.s.fits;have l4:=hf.s.lim;have l5:=hf.i.fits;have l6:=hf.i.lim;have l7:=hf.v.fits;have l8:=hf.v.lim;have HOK:=Lib.hid hf.ok;have HJ:=Lib.hid fun x (hx:x<q)=>hI.nat hf.ok hx;have HV:=Lib.hid hv;have HNO:=Lib.hid hno;have HPHI:=Lib.hid hΦ;have m1:Fls w ax n cx x0:=hB.at 0 rfl;have l9:=m1.fits;have l10:=m1.lim;have HK:=fun W x=>Lib.hid (frw (zHH W x));have hmk:=fun W=>zE1 (P:=Tryz.prog) (t:=23) (e:=4) (z:=.bool false) (b:=1) je je rfl j0 n j0 W;clear hv hno hΦ m1;haveI bw0:=hB.fr';have hR:∃R,R=zAR (fun k=>if uIn S J V x0 k k then E k else 0) 0 n:=⟨_,rfl⟩;obtain⟨R,hR⟩:=hR;have HR:=Lib.hid hR;rw[←hR];clear hR;go_enter Tryz.func63,Tryz.ntmps63;go_wp2_with fail;have B0:Bag w0 _ ((arr (w.heap.size+1) 4 n fun i=>.bool (false))::box w.heap.size 27 [.slice aO n cO,.slice aS (n+1) cS,.slice aI q cI,.slice aV q cV]::zBZ ax n cx x0::B):=((hB.var 27 [.slice aO n cO,.slice aS (n+1) cS,.slice aI q cI,.slice aV q cV] rfl).make 4 (.bool false) n (n:=w.heap.size+1) jz).perm ((List.perm_append_singleton _ _).trans ((List.perm_append_singleton _ _).cons _));clear hB
 go_loopw [8,9,18] (fun _ _ x wr=>∃k:Nat,k≤n∧x=.int .i64 k∧Bag w0 wr ((arr (w.heap.size+1) 4 n fun i=>.bool (decide (i<k)&&!zB0 (x0 i)))::box w.heap.size 27 [.slice aO n cO,.slice aS (n+1) cS,.slice aI q cI,.slice aV q cV]::zBZ ax n cx x0::B)) (fun _ _ x _=>n-(intOf x).toNat)
 case atStart=>exact⟨0,j0,rfl,B0.to 0 rfl (fun h=>h.congr fun i _=>by rw[decide_eq_false (Nat.not_lt_zero i)];rfl) fun _ h=>h⟩
 case round=>
  clear B0;obtain⟨k,hk,rfl,iB⟩:=hrel;haveI bw:=iB.fr';haveI iV:=iB.vb 1 rfl;have k2:Fls wr ax n cx x0:=iB.at 2 rfl
  by_cases hlt:k<n
  · have y1:=k2.idx k hlt;haveI z1:CE wr (ab ax) (ao ax+k) (.int .u64 ((x0 k:Nat):Int)):=⟨k2.cell k hlt,k2.old j0⟩;have y3:=fun W=>zCz 23 (w.heap.size+1) k n n hlt W;haveI z3:WE wr (w.heap.size+1) k (.bool false):=by
     have:=iB.we 0 rfl hlt;rwa[decide_eq_false (Nat.lt_irrefl k),Bool.false_and]at this
    have HKk:=fun W=>HK W (x0 k);have HZ:=Lib.hid (show(zFi (x0 k) != 0)=!zB0 (x0 k)by rw[←(zFh (x0 k)).2.2];rfl);have HZ2:=Lib.hid (show(!decide (zFi (x0 k)=0))=!zB0 (x0 k)by rw[←(zFh (x0 k)).2.2];rfl);go_wp2_with fail;refine(HKk _).out.mono ?_;rintro o w3 ⟨rfl,b3⟩;have B4:=(inferInstance:Bag w0 w3 _).st 0 rfl k (.bool (!zB0 (x0 k)));have HB:Hid (Bag w0 _ ((arr (w.heap.size+1) 4 n fun i=>.bool (decide (i<k+1)&&!zB0 (x0 i)))::box w.heap.size 27 [.slice aO n cO,.slice aS (n+1) cS,.slice aI q cI,.slice aV q cV]::zBZ ax n cx x0::B)):=Lib.hid (B4.to 0 rfl (fun h=>h.congr fun i _=>by
     show(if i=k then Value.bool (!zB0 (x0 k))else .bool (decide (i<k)&&!zB0 (x0 i)))=.bool (decide (i<k+1)&&!zB0 (x0 i))
     by_cases e:i=k
     · rw[if_pos e,e,decide_eq_true j0];rfl
     · rw[if_neg e,show decide (i<k+1)=decide (i<k)from decide_eq_decide.2 j0]) fun _ h=>h)
    clear B4;have hE:=HZ.out;go_wp2_with fail;rw[HZ2.out]at *;go_roundw
    case rel=>exact⟨k+1,j0,jm,HB.out⟩
    case measure=>exact jb
  · have hkn:k=n:=j0;have B5:Bag w0 wr ((arr (w.heap.size+1) 4 n fun i=>.bool (uIn S J V x0 0 i))::box w.heap.size 27 [.slice aO n cO,.slice aS (n+1) cS,.slice aI q cI,.slice aV q cV]::zBZ ax n cx x0::B):=iB.to 0 rfl (fun h=>h.congr fun i hi=>by rw[decide_eq_true j0];rfl) fun _ h=>h;clear iB iV k2 bw HK;go_wp2_with fail
    go_loopw [10,32] (fun _ x wr=>∃(k:Nat) (B:List It),k≤n∧x=.int .i64 k∧Φ k B∧(∀t,t<k→(if uIn S J V x0 t t then E t else 0)=0)∧Bag w0 wr ((arr (w.heap.size+1) 4 n fun i=>.bool (uIn S J V x0 k i))::box w.heap.size 27 [.slice aO n cO,.slice aS (n+1) cS,.slice aI q cI,.slice aV q cV]::zBZ ax n cx x0::B)) (fun _ x _=>n-(intOf x).toNat)
    case atStart=>exact⟨0,B,j0,rfl,HPHI.out,fun t h=>j0,B5⟩
    case round=>
     clear B5 HPHI hkn hlt hk;rename World=>wq;obtain⟨k,B,hk,rfl,hP,hA,iB⟩:=hrel;haveI bw:=iB.fr';haveI iV:=iB.vb 1 rfl;have HP:=Lib.hid hP;have HA:=Lib.hid hA;clear hP hA
     by_cases hlt:k<n
     · have hX:FM wq n q aO cO aS cS aI cI aV cV O S (fun t=>((J t:Nat):Int)) V:=inferInstance;have y3:=fun W=>zCz 23 (w.heap.size+1) k n n hlt W;haveI z3:WE wq (w.heap.size+1) k (.bool (uIn S J V x0 k k)):=iB.we 0 rfl hlt
       cases hu:uIn S J V x0 k k with
       | false=>
        rw[hu]at z3;have B6:Bag w0 wq ((arr (w.heap.size+1) 4 n fun i=>.bool (uIn S J V x0 (k+1) i))::box w.heap.size 27 [.slice aO n cO,.slice aS (n+1) cS,.slice aI q cI,.slice aV q cV]::zBZ ax n cx x0::B):=iB.to 0 rfl (fun h=>h.congr fun i hi=>by rw[zLv hu]) fun _ h=>h;have HA':=Lib.hid (show∀t,t<k+1→(if uIn S J V x0 t t then E t else 0)=0 from fun t h=>by
         rcases Nat.lt_succ_iff_lt_or_eq.1 h with h1 | h1
         · exact HA.out t h1
         · rw[h1,hu];rfl)
        have HP':=Lib.hid (HNO.out k B hlt hu HP.out);clear hX iB hu;go_wp2_with fail;go_roundw
        case rel=>exact⟨k+1,B,j0,jm,HP'.out,HA'.out,B6⟩
        case measure=>exact jb
       | true=>
        rw[hu]at z3;haveI z4:=hX.ceS (t:=k) j0;haveI z5:=hX.ceS (t:=k+1) j0;have y4:=hX.ixS k j0;have y5:=hX.ix1 k hlt;have hle:=(HOK.out.lt (t:=k+1) j0).2;have hm:=HOK.out.m k hlt;obtain⟨s1,hs1⟩:∃s1,s1=S (k+1):=⟨_,rfl⟩;obtain⟨s0,hs0⟩:∃s0,s0=S k:=⟨_,rfl⟩;have HU:=Lib.hid (show∀i,uIn S J V x0 (k+1) i=(uIn S J V x0 k i||lkB J V i s0 (s1-s0))from fun i=>by rw[zLw hu,hs0,hs1]);rw[←hs1]at z5 hle hm;rw[←hs0]at z4 hm;have HS1:=Lib.hid hs1;have HIN:=Lib.hid hu;have B6:Bag w0 wq ((arr (w.heap.size+1) 4 n fun i=>.bool (uIn S J V x0 k i||lkB J V i s0 (s0-s0)))::box w.heap.size 27 [.slice aO n cO,.slice aS (n+1) cS,.slice aI q cI,.slice aV q cV]::zBZ ax n cx x0::B):=iB.to 0 rfl (fun h=>h.congr fun i hi=>by rw[Nat.sub_self,zJF,Bool.or_false]) fun _ h=>h;clear hX iB hs0 hs1 hu;go_wp2_with fail
        go_loopw [11] (fun x wp=>∃t:Nat,s0≤t∧t≤s1∧x=.int .i64 t∧Bag w0 wp ((arr (w.heap.size+1) 4 n fun i=>.bool (uIn S J V x0 k i||lkB J V i s0 (t-s0)))::box w.heap.size 27 [.slice aO n cO,.slice aS (n+1) cS,.slice aI q cI,.slice aV q cV]::zBZ ax n cx x0::B)) (fun x _=>s1-(intOf x).toNat)
        case atStart=>exact⟨s0,Nat.le_refl _,j0,rfl,B6⟩
        case round=>
         clear B6 z3 z4 z5 iV bw;rename World=>wp;obtain⟨t,ht0,ht1,rfl,iB⟩:=hrel;haveI bw:=iB.fr';haveI iV:=iB.vb 1 rfl;have hX:FM wp n q aO cO aS cS aI cI aV cV O S (fun t=>((J t:Nat):Int)) V:=inferInstance;haveI z5:=hX.ceS (t:=k+1) j0;rw[←HS1.out]at z5
         by_cases hts:t<s1
         · have y6:=hX.ixI t j0;haveI z6:=hX.ceI (t:=t) j0;have hj:J t<n:=(by have:=(HJ.out t j0).2;omega);have y7:=fun W=>zCz 23 (w.heap.size+1) (J t) n n hj W;haveI z7:=iB.we 0 rfl hj;have B7:=iB.st 0 rfl (J t) (.bool true);have HB:Hid (Bag w0 _ ((arr (w.heap.size+1) 4 n fun i=>.bool (uIn S J V x0 k i||lkB J V i s0 (t+1-s0)))::box w.heap.size 27 [.slice aO n cO,.slice aS (n+1) cS,.slice aI q cI,.slice aV q cV]::zBZ ax n cx x0::B)):=Lib.hid (B7.to 0 rfl (fun h=>h.congr fun i _=>by
            show(if i=J t then Value.bool true else .bool (uIn S J V x0 k i||lkB J V i s0 (t-s0)))=.bool (uIn S J V x0 k i||lkB J V i s0 (t+1-s0));rw[show t+1-s0=t-s0+1 by omega,zJG,show s0+(t-s0)=t by omega]
            by_cases e:i=J t
            · exact Xj
            · rw[if_neg e,decide_eq_false e,Bool.or_false]) fun _ h=>h)
           clear B7 hX iB;generalize J t=jt at *;generalize (uIn S J V x0 k jt||lkB J V jt s0 (t-s0))=vv at *;go_wp2_with fail;go_roundw
           case rel=>exact⟨t+1,j0,j0,jm,HB.out⟩
           case measure=>exact jb
         · have hts':t=s1:=j0;have B7:Bag w0 wp ((arr (w.heap.size+1) 4 n fun i=>.bool (uIn S J V x0 (k+1) i))::box w.heap.size 27 [.slice aO n cO,.slice aS (n+1) cS,.slice aI q cI,.slice aV q cV]::zBZ ax n cx x0::B):=iB.to 0 rfl (fun h=>h.congr fun i hi=>by rw[HU.out,hts']) fun _ h=>h;have HVk:=Lib.hid (HV.out wp k (w.heap.size+1) B [box w.heap.size 27 [.slice aO n cO,.slice aS (n+1) cS,.slice aI q cI,.slice aV q cV],zBZ ax n cx x0] hlt HIN.out HP.out (B7.perm (List.perm_append_comm (l₁:= [(arr (w.heap.size+1) 4 n fun i=>.bool (uIn S J V x0 (k+1) i)),box w.heap.size 27 [.slice aO n cO,.slice aS (n+1) cS,.slice aI q cI,.slice aV q cV],zBZ ax n cx x0]))));have HF1:=Lib.hid (show E k≠0→R=E k from fun h=>by
            rw[HR.out];have:=zEm (f:=(fun k=>if uIn S J V x0 k k then E k else 0)) k 0 n j0 (zCo k 0 fun t _ h2=>HA.out t j0);rw[this,Nat.zero_add,zHI (by show(if uIn S J V x0 k k then E k else 0)≠0;rw[HIN.out];exact h) j0];show(if uIn S J V x0 k k then E k else 0)=E k;rw[HIN.out];rfl)
           have HA':=Lib.hid (show E k=0→∀t,t<k+1→(if uIn S J V x0 t t then E t else 0)=0 from fun h0 t h=>by
            rcases Nat.lt_succ_iff_lt_or_eq.1 h with h1 | h1
            · exact HA.out t h1
            · rw[h1,HIN.out];exact h0)
           clear hX iB;go_wp2_with fail;refine HVk.out.mono ?_;rintro o w3 ⟨B',rfl,hB',hP'⟩;have B8:Bag w0 w3 ((arr (w.heap.size+1) 4 n fun i=>.bool (uIn S J V x0 (k+1) i))::box w.heap.size 27 [.slice aO n cO,.slice aS (n+1) cS,.slice aI q cI,.slice aV q cV]::zBZ ax n cx x0::B'):=hB'.perm List.perm_append_comm;have HP':=Lib.hid hP';clear HVk hB' hP' HV HNO B7;generalize E k=e at *
           by_cases he:e=0
           · subst he;have HA2:=Lib.hid (HA'.out rfl);have HP2:=Lib.hid (HP'.out rfl);clear HA' HF1 HP';go_wp2_with fail;go_roundw
             case rel=>exact⟨k+1,B',j0,jm,HP2.out,HA2.out,B8⟩
             case measure=>exact jb
           · have HE:=Lib.hid (HF1.out he);clear HA' HF1 HP';go_wp2_with fail;go_ret;exact⟨_,by rw[HE.out] <;> rfl,B8,fun h=>absurd (HE.out.symm.trans h) he⟩
     · have hkn:k=n:=j0;have HY:Hid (R=0):=Lib.hid (by rw[HR.out];exact zCo n 0 fun t _ h=>HA.out t j0);have HE:Hid (Φ n B):=Lib.hid (by rw[←hkn];exact HP.out);clear HR HA HP;go_wp2_with fail;go_ret;exact⟨B,by rw[HY.out] <;> rfl,iB.sub ((List.sublist_cons_self _ _).trans ((List.sublist_cons_self _ _).trans (List.sublist_cons_self _ _))),fun _=>HE.out⟩
theorem zKp(w0 w:World)(pb k m:Nat)(_hm:m≤1000)(v sl:Value)(l:List Nat)(D:List It)(hB:Bag w0 w (box pb 24 [v]::row 3 1 v m (zA2 l)::D)):Calls Tryz.prog 64 #[.int .i64 k,sl,.pointer (some ⟨pb,0,none⟩)] w fun o w'=>∃v',o=.returned (.int .i64 0)∧Bag w0 w' (box pb 24 [v']::row 3 1 v' (m+1) (zA2 (l++ [k]))::D):=by
 obtain⟨ta,tc,rfl⟩:=zA3 (hB.own 1 rfl);haveI iV:=hB.vb 0 rfl;go_enter Tryz.func64,Tryz.ntmps64;have B2:Bag w0 (w.alloc (.cells #[.int .i64 k] 3)) _:=inferInstance;go_wp2_with (at_builtin;refine zCF rfl _ _ rfl 0 (.slice ta m tc) m (zA2 l) rfl _ (k:Int) rfl (B2.own 1 rfl) jj j0 (Nat.zero_le _) ?_;intro v5 w5 hown5 hg5 hob5;obtain⟨o5,c5,rfl⟩:=zA3 hown5;have B5:=B2.app 1 rfl hown5 hg5 hob5;haveI iV5:=B5.vb 0 rfl);have B6:=B5.put 0 rfl 0 (.slice o5 (m+1) c5);clear hown5 hg5 hob5;go_wp2_with fail;go_ret;exact⟨_,rfl,by rw[zAn];exact B6⟩
theorem zMs{w:World}{v:Value}{n:Nat}{l:List Nat}(h:w.ownsRow 0 3 1 v n (zA2 l)):∃a c,v=.slice a n c∧IZ w a n c (fun t=>((l.getD t 0:Nat):Int)):=by
 obtain⟨a,c,h1,h2,_⟩:=zAP h;exact⟨a,c,h1,⟨h2⟩⟩
theorem zG1{n m:Nat}{X:Nat→Nat}{c:Int}(h:vE n m X c=0):c=0∧m=n∧zBI X n=true:=by
 unfold vE at h
 split at h
 · rename_i h1;exact absurd h h1
 · rename_i h1
   split at h
   · exact j0
   · rename_i h2
     split at h
     · rename_i h3;exact⟨Classical.not_not.1 h1,Classical.not_not.1 h2,h3⟩
     · exact j0
theorem zRC{n:Nat}{S:Nat→Nat}{I:Nat→Int}(h:ckE n S I=0):Iok n S I:=Classical.byContradiction fun h1=>by rw[zKd h1]at h;omega
theorem zLt(w:World)[Tb w](n q:Nat)(aO aS aI aV:Option Addr)(cO cS cI cV:Nat)(O:Nat→Int)(S J V:Nat→Nat)(hn:n≤200)(hq:q≤10000)[hf:FM w n q aO cO aS cS aI cI aV cV O S (fun t=>((J t:Nat):Int)) V](aw:Option Addr)(m cw:Nat)(X:Nat→Nat)[hX:FZ w aw m cw X]:Calls Tryz.prog 29 #[.agg #[.slice aO n cO,.slice aS (n+1) cS,.slice aI q cI,.slice aV q cV],.slice aw m cw] w fun o w'=>∃oa oc,o=.returned (.tuple #[.slice oa (fl (vE n m X (ckE n S fun t=>((J t:Nat):Int))) (zC4 S J V (byO X O) n).length) oc,.int .i64 (vE n m X (ckE n S fun t=>((J t:Nat):Int)))])∧IZ w' oa (fl (vE n m X (ckE n S fun t=>((J t:Nat):Int))) (zC4 S J V (byO X O) n).length) oc (fun t=>(((zC4 S J V (byO X O) n).getD t 0:Nat):Int))∧From w w':=by
 have l1:=hf.o.fits;have l2:=hf.o.lim;have l3:=hf.s.fits;have l4:=hf.s.lim;have l5:=hf.i.fits;have l6:=hf.i.lim;have l7:=hf.v.fits;have l8:=hf.v.lim;have l9:=hX.out.fits;have l10:=hX.out.lim;have HRD:=fun W [Tb W] [FM W n q aO cO aS cS aI cI aV cV O S (fun t=>((J t:Nat):Int)) V] [FZ W aw m cw X]=>Lib.hid (zFB W n q aO aS aI aV cO cS cI cV O (fun t=>((J t:Nat):Int)) S V hn hq aw m cw X);have HI:=Lib.hid (show vE n m X (ckE n S fun t=>((J t:Nat):Int))=0→Iok n S fun t=>((J t:Nat):Int)from fun h=>zRC (zG1 h).1);have hmf:∀(fn:Fn) (first cap:Array Value) (w:World),(Instr.makeFunc fn first cap).run Tryz.prog w=.ok (.func fn first cap) w:=fun _ _ _ _=>rfl;generalize vE n m X (ckE n S fun t=>((J t:Nat):Int))=e at *;go_enter Tryz.func29,Tryz.ntmps29;go_wp2_with fail;refine(HRD _).out.mono ?_;rintro o w1 ⟨ax,cx,rfl,hB1⟩;haveI b1:=hB1.fr';clear HRD
 by_cases he:e=0
 · subst he;have hI:=HI.out rfl;have hB1:Bag _ w1 [zBZ ax n cx (byO X O)]:=hB1;have B2:Bag w (w1.alloc (.cells #[.slice none 0 0] 24)) [zBZ ax n cx (byO X O),box w1.heap.size 24 [.slice none 0 0],row 3 1 (.slice none 0 0) 0 []]:=(hB1.older.var 24 [.slice none 0 0] rfl).nilr 3 1;have HW:=zGV w (w1.alloc (.cells #[.slice none 0 0] 24)) n q aO aS aI aV cO cS cI cV O S J V hn hq hI ax cx (byO X O) 64 #[.pointer (some ⟨w1.heap.size,0,none⟩)] (fun _ _=>rfl) (fun _=>0)
    (fun k B=>∃v,B= [box w1.heap.size 24 [v],row 3 1 v (zC4 S J V (byO X O) k).length (zA2 (zC4 S J V (byO X O) k))])
    (fun k B _ hu ⟨v,hv⟩=>⟨v,by rw[zMn hu];exact hv⟩)
    (fun W k b B D hk hu ⟨v,hv⟩ hB=>by
     subst hv;refine(zKp w W w1.heap.size k _ (Nat.le_trans (zJm _ _ _ _ k) j0) v (.slice (some ⟨b,0,none⟩) n n) _ _ hB).mono ?_;rintro o w' ⟨v',rfl,hB'⟩;exact⟨_,rfl,hB',fun _=>⟨v',by rw[zGk hu,List.length_append] <;> rfl⟩⟩)
    _ B2 ⟨_,rfl⟩
   rw[zCo n 0 fun t _ _=>by show(if _ then(0:Int)else 0)=0;split <;> rfl]at HW;have HW:=Lib.hid HW;clear B2 hB1 hI;go_wp2_with fail;refine HW.out.mono ?_;rintro o w3 ⟨B',rfl,hB',hP⟩;obtain⟨v,rfl⟩:=hP trivial;obtain⟨oa,oc,rfl,hZ⟩:=zMs (hB'.own 1 rfl);haveI iV:=hB'.vb 0 rfl;haveI b3:=hB'.fr';clear HW hB';go_wp2_with fail
   go_ret2
   exact⟨oa,oc,rfl,hZ,b3⟩
 · have hfl:fl e n=0:=if_neg he;have hfl2:fl e (zC4 S J V (byO X O) n).length=0:=if_neg he;go_wp2_with fail
   go_ret2
   exact⟨none,0,by rw[hfl2] <;> rfl,Qq,⟨zbh⟩⟩
end Go.Proofs.YtmbkgapknoammaaGreatDoor
set_option maxRecDepth 100000
set_option maxHeartbeats 20000000
namespace Go.Proofs.YtmbkgapknoammaaGreatDoor
open Go.RowKit Sp
theorem zPW{ops:Array Oper}{rest:List Oper}{o:Oper}{a:Act}{Q:Exit→Act→World→Prop}{w:World}(hgd:o.guard=none)(s x:Operand)
 (ho:o.op=.call { callee:=.builtin .append,args:=#[s,x],argTypes:=#[24,24] }) (v:Value) (n:Nat) (xs:List Value) (hs:a.eval s=v) (ad:Addr) (m c:Nat) (L:Nat→Int)
 (hx:a.eval x=.slice (some ad) m c) (hL:Ils w (some ad) m c L) (hown:w.ownsRow 0 3 1 v n xs) (_hn:n+m≤1048576)
 (h:∀v' w',w'.ownsRow 0 3 1 v' (n+m) (xs++(List.range m).map fun i=>.int .i64 (L i))→w.grownBy w' v.ownBlock→(v'.ownBlock=v.ownBlock∨v'.ownBlock=some w.heap.size)→wpList Tryz.prog ops Q rest (a.put o.dst v') w'):wpList Tryz.prog ops Q (o::rest) a w:=by
 obtain⟨i0,hi,hz0,hz1,hz2⟩:=info_parts zSE;refine wpList_append_own_at w hgd s x _ ho 0 _ i0 (.int .i64 0) 1 8 zKq hi hz0 hz1 hz2 rfl ja v n _ hs hown ad m c ((List.range m).map fun i=>.int .i64 (L i)) hx jz ?_ ?_ ?_ ?_ (Nat.zero_le _) ?_
 · intro j u hu;have hj:j<m:=KH;rw[zAy _ hj]at hu;injection hu with hu
   rw[←hu];have h1:=hL.cell j hj;have h3:=hL.addr j0;injection h3 with h3
   rw[h3,Addr.add_lit];exact h1
 · intro u hu;obtain⟨i,_,rfl⟩:=List.mem_map.1 hu;rfl
 · exact jJ
 · exact j0
 · exact KX
theorem zKj{ops:Array Oper}{rest:List Oper}{o:Oper}{a:Act}{Q:Exit→Act→World→Prop}{w:World}(hgd:o.guard=none)(s x:Operand)
 (ho:o.op=.call { callee:=.builtin .append,args:=#[s,x],argTypes:=#[25,25] }) (v:Value) (n:Nat) (xs:List Value) (hs:a.eval s=v) (ad:Addr) (m c:Nat) (L:Nat→Nat)
 (hx:a.eval x=.slice (some ad) m c) (hL:Fls w (some ad) m c L) (hown:w.ownsRow 0 37 1 v n xs) (_hn:n+m≤1048576)
 (h:∀v' w',w'.ownsRow 0 37 1 v' (n+m) (xs++(List.range m).map fun i=>.int .u64 ((L i:Nat):Int))→w.grownBy w' v.ownBlock→(v'.ownBlock=v.ownBlock∨v'.ownBlock=some w.heap.size)→wpList Tryz.prog ops Q rest (a.put o.dst v') w'):wpList Tryz.prog ops Q (o::rest) a w:=by
 obtain⟨i0,hi,hz0,hz1,hz2⟩:=info_parts zT2;refine wpList_append_own_at w hgd s x _ ho 0 _ i0 (.int .u64 0) 1 8 zOj hi hz0 hz1 hz2 rfl ja v n _ hs hown ad m c ((List.range m).map fun i=>.int .u64 ((L i:Nat):Int)) hx jz ?_ ?_ ?_ ?_ (Nat.zero_le _) ?_
 · intro j u hu;have hj:j<m:=KH;rw[zAy _ hj]at hu;injection hu with hu
   rw[←hu];have h1:=hL.cell j hj;have h3:=hL.addr j0;injection h3 with h3
   rw[h3,Addr.add_lit];exact h1
 · intro u hu;obtain⟨i,_,rfl⟩:=List.mem_map.1 hu;rfl
 · exact jJ
 · exact j0
 · exact KX
theorem zHs{w:World}{v:Value}{n:Nat}{L:Nat→Int}(h:w.ownsRow 0 3 1 v n ((List.range n).map fun i=>.int .i64 (L i))):∃a c,v=.slice a n c∧Ils w a n c L∧(0<n→v.ownBlock=some (ab a)):=by
 obtain⟨a,c,hv,h1,h2,h3,h4⟩:=zC5 h;exact⟨a,c,hv,⟨h2,h3,fun hn=>(h4 hn).1,fun i hi=>(h4 j0).2.2 i _ (zAy _ hi),fun hn=>(h4 hn).2.1⟩,h1⟩
theorem zMt{w:World}{v:Value}{n:Nat}{L:Nat→Nat}(h:w.ownsRow 0 37 1 v n ((List.range n).map fun i=>.int .u64 ((L i:Nat):Int)))(hb:∀i,i<n→L i<18446744073709551616):∃a c,v=.slice a n c∧Fls w a n c L∧(0<n→v.ownBlock=some (ab a)):=by
 obtain⟨a,c,hv,h1,h2,h3,h4⟩:=zC5 h;exact⟨a,c,hv,⟨h2,h3,fun hn=>(h4 hn).1,fun i hi=>(h4 j0).2.2 i _ (zAy _ hi),hb,fun hn=>(h4 hn).2.1⟩,h1⟩
attribute [local irreducible] Calls
theorem zFV(w:World)(a:Option Addr)(n c:Nat)(L:Nat→Int)[hx:IZ w a n c L](_hn:n≤100000):Calls Tryz.prog 80 #[.slice a n c] w fun o w'=>∃oa oc,o=.returned (.slice oa n oc)∧Bag w w' [zBb oa n oc L]:=by
 have l1:=hx.out.fits;have l2:=hx.out.lim
 cases a with
 | none=>
  have h0:n=0:=by
   rcases Nat.eq_zero_or_pos n with h | h
   · exact h
   · have:=hx.out.addr h;cases this
  subst h0;have hnil:=fun w=>Lib.run_eql_slice_nil (P:=Tryz.prog) w 24 3 none 0 c 0 0 je;have hz:∀W,Ils W none 0 0 L:=fun W=>⟨j0,j0,j0,fun i hi=>j0,j0⟩;go_enter Tryz.func80,Tryz.ntmps80;go_wp2_with fail;go_ret;exact⟨none,0,rfl,(Bag.nil w).new (t:=zBb none 0 0 L) (Below.refl _ _) (hz _) fun g hg=>QL⟩
 | some ad=>
  have hnil:=fun w=>Lib.run_eql_slice_nil (P:=Tryz.prog) w 24 3 (some ad) n c 0 0 je;have B0:=(Bag.nil w).lit 3 1 [] (m:=0) (n:=w.heap.size) rfl ja rfl;have h1:=(inferInstance:IZ (w.alloc (.cells #[] 3)) (some ad) n c L).out;go_enter Tryz.func80,Tryz.ntmps80;go_wp2_with (at_builtin;refine zPW rfl _ _ rfl (.slice (some ⟨w.heap.size,0,none⟩) 0 0) 0 [] rfl ad n c L rfl h1 (B0.own 0 rfl) j0 ?_;intro v5 w5 hown5 hg5 hob5);rw[List.nil_append,Nat.zero_add]at hown5;have B5:=B0.app 0 rfl hown5 hg5 hob5;obtain⟨oa,oc,rfl,hZ,hb⟩:=zHs hown5;go_ret;exact⟨oa,oc,rfl,B5.to 0 rfl (fun _=>hZ) fun g hg=>KF⟩
theorem zFW(w:World)(a:Option Addr)(n c:Nat)(L:Nat→Nat)[hx:FZ w a n c L](_hn:n≤100000):Calls Tryz.prog 81 #[.slice a n c] w fun o w'=>∃oa oc,o=.returned (.slice oa n oc)∧Bag w w' [zBZ oa n oc L]:=by
 have l1:=hx.out.fits;have l2:=hx.out.lim
 cases a with
 | none=>
  have h0:n=0:=by
   rcases Nat.eq_zero_or_pos n with h | h
   · exact h
   · have:=hx.out.addr h;cases this
  subst h0;have hnil:=fun w=>Lib.run_eql_slice_nil (P:=Tryz.prog) w 25 37 none 0 c 0 0 je;have hz:∀W,Fls W none 0 0 L:=fun W=>⟨j0,j0,j0,fun i hi=>j0,fun i hi=>j0,j0⟩;go_enter Tryz.func81,Tryz.ntmps81;go_wp2_with fail;go_ret;exact⟨none,0,rfl,(Bag.nil w).new (t:=zBZ none 0 0 L) (Below.refl _ _) (hz _) fun g hg=>QL⟩
 | some ad=>
  have hnil:=fun w=>Lib.run_eql_slice_nil (P:=Tryz.prog) w 25 37 (some ad) n c 0 0 je;have B0:=(Bag.nil w).lit 37 1 [] (m:=0) (n:=w.heap.size) rfl ja rfl;have h1:=(inferInstance:FZ (w.alloc (.cells #[] 37)) (some ad) n c L).out;go_enter Tryz.func81,Tryz.ntmps81;go_wp2_with (at_builtin;refine zKj rfl _ _ rfl (.slice (some ⟨w.heap.size,0,none⟩) 0 0) 0 [] rfl ad n c L rfl h1 (B0.own 0 rfl) j0 ?_;intro v5 w5 hown5 hg5 hob5);rw[List.nil_append,Nat.zero_add]at hown5;have B5:=B0.app 0 rfl hown5 hg5 hob5;obtain⟨oa,oc,rfl,hZ,hb⟩:=zMt hown5 hx.out.b;go_ret;exact⟨oa,oc,rfl,B5.to 0 rfl (fun _=>hZ) fun g hg=>KF⟩
end Go.Proofs.YtmbkgapknoammaaGreatDoor
set_option maxRecDepth 100000
set_option maxHeartbeats 20000000
namespace Go.Proofs.YtmbkgapknoammaaGreatDoor
open Go.RowKit Go.Maps Sp
theorem zTB:Keyed Tryz.prog 3 :=int_keyed (q:=.i64) je
theorem zTz:Tryz.prog.underlying 130 =some (.map 3 37):=je
theorem zS1:Tryz.prog.underlying 37 =some (.int .u64):=je
theorem zT4(w:World):(zeroValue 37).run Tryz.prog w=.ok (.int .u64 0) w:=je
theorem zTy{i:Nat}(h:i≤100000):(Lit.int .i64 (i:Int)).wf=true:=WalkArith.wf_i64 j0
def MPs(w:World)(b c:Nat)(M:Nat→Nat):Prop:=∃(D:DataW Unit),w.ownsMap Tryz.prog 3 (plainElem Tryz.prog 37) b c D∧IsMap D∧∀i:Nat,D.atKey (.int .i64 (i:Int)) (.lit (.int .u64 0))=.lit (.int .u64 ((M i:Nat):Int))
theorem MPs.look{w:World}{b c:Nat}{M:Nat→Nat}(h:MPs w b c M){i:Nat}(hi:i≤100000):(Instr.lookup 130 (.map (some b)) (.int .i64 (i:Int)) false).run Tryz.prog w=.ok (.int .u64 ((M i:Nat):Int)) w:=by
 obtain⟨D,h1,_,h2⟩:=h;obtain⟨c,hr,hat,_⟩:=h1.lookup_int zTB zTz zS1 (zT4 _) (keyOf_int_mk (q:=.i64) je (zTy hi));rw[h2 i]at hat;injection hat with hat
 injection hat with _ hat
 rw[hat];exact hr
def mpI(b c:Nat)(M:Nat→Nat):It where
 blk g:=g=b
 P w:=MPs w b c M
 loc:=fun⟨D,⟨es,clock,h1,h2⟩,h3⟩ hb=>⟨D,⟨es,clock,(hb b rfl).trans h1,h2⟩,h3⟩
 lt:=fun⟨_,h,_⟩ g hg=>by rw[hg];exact h.lt
theorem MPs.made(w:World):MPs (w.alloc (.map #[] 0)) w.heap.size 0 fun _=>0:=⟨.map [],World.ownsMap_made _ _ _ _,isMap_empty,fun _=>rfl⟩
theorem Bag.map{w0 w:World}{B:List It}(h:Bag w0 w B){n:Nat}(hn:n=w.heap.size):Bag w0 (w.alloc (.map #[] 0)) (B++ [mpI n 0 fun _=>0]):=by
 subst hn;exact h.new ((Below.refl _ _).alloc (Nat.le_refl _) _) (MPs.made w) fun g hg=>KR
class MP(w:World)(b:Nat)(M:outParam (Nat→Nat)):Prop where out:∃c,MPs w b c M
theorem MP.below{w w':World}{b:Nat}{M:Nat→Nat}(h:MP w b M)(hb:Below w.heap.size w w'):MP w' b M:=by obtain⟨c,h⟩:=h.out;exact⟨c,(mpI b c M).loc h fun g hg=>hb.block g ((mpI b c M).lt h g hg)⟩
theorem MP.rd{W:World}{b:Nat}{M:Nat→Nat}[h:MP W b M]{i:Nat}(hi:i≤100000):(Instr.lookup 130 (.map (some b)) (.int .i64 (i:Int)) false).run Tryz.prog W=.ok (.int .u64 ((M i:Nat):Int)) W:=by obtain⟨c,h⟩:=h.out;exact MPs.look h hi
section
variable {w:World}{b:Nat}{M:Nat→Nat}
instance MP.dr[h:MP w b M]:MP w.drew b M:=h.below (Below.refl _ _).drew
instance MP.dn(q:Nat)[h:MP w b M]:MP (w.drewN q) b M:=h.below (below_drewN (Below.refl _ _) _)
instance MP.al(o:Obj)[h:MP w b M]:MP (w.alloc o) b M:=h.below ((Below.refl _ _).alloc (Nat.le_refl _) _)
instance MP.fr(L:World)[k:From L w][h:MP L b M]:MP w b M:=h.below k.out
end
theorem zRY{ops:Array Oper}{rest:List Oper}{o:Oper}{a:Act}{Q:Exit→Act→World→Prop}{w0 w:World}{B:List It}{b c:Nat}{M:Nat→Nat}(hgd:o.guard=none)(m k v:Operand)(ho:o.op=.mapUpdate 130 m k v)
 (h:Bag w0 w B) (j:Nat) (hj:B[j]? =some (mpI b c M)) (i y:Nat) (hi:i≤1000) (hc:c≤1000) (hy:y<18446744073709551616) (hm:a.eval m=.map (some b)) (hk:a.eval k=.int .i64 (i:Int)) (hv:a.eval v=.int .u64 (y:Int))
 (hK:∀w',Bag w0 w' (B.set j (mpI b (c+1) fun t=>if t=i then y else M t))→wpList Tryz.prog ops Q rest (a.put o.dst undef) w'):wpList Tryz.prog ops Q (o::rest) a w:=by
 obtain⟨D,h1,h2,h3⟩:=(h.at j hj:MPs w b c M);have hwf:(Lit.int .u64 (y:Int)).wf=true:=by
  have e1:IntKind.u64.min=0:=rfl;have e2:IntKind.u64.max=18446744073709551615:=ja
  show(decide (IntKind.u64.min≤(y:Int))&&decide ((y:Int)≤IntKind.u64.max))=true;rw[e1,e2,decide_eq_true j0,decide_eq_true j0];rfl
 refine wpList_mapUpdate_own w hgd m k v 130 ho 3 37 zTB zTz _ b c D hm h1 jJ _ _ _ hk hv (keyOf_int_mk (q:=.i64) je (zTy j0)) _ [] (plainElem_int zS1 hwf) fun w' h4 h5=>?_;refine hK w' (h.upd j hj h5.os h5.tape h5.output h5.size (fun g h6 h7=>h5.block g h6 fun e=>h7 (by injection e)) ⟨_,h4,h2.put _ _,fun t=>?_⟩ fun g hg=>Or.inl hg)
 by_cases e:t=i
 · subst e;show _=DataW.lit (Lit.int .u64 (((if t=t then y else M t:Nat)):Int));rw[if_pos rfl];exact atKey_put_same h2 (by exact trivial) _ _
 · show _=DataW.lit (Lit.int .u64 (((if t=i then y else M t:Nat)):Int));rw[if_neg e,atKey_put_other (by intro h;injection h with _ h;omega),h3 t]
theorem zIx{P:Program}{f:FuncId}{args:Array Value}{W:World}{d:Option (Int×Int)}(h:Calls P f args W (zAM W d)):Calls P f args W fun e w'=>∃a c,e=.returned (.agg #[.bool (zAj d),.bool (decide (zA1 d<0)),.slice a (nl (zA1 d).natAbs) c,.int .i64 (zA7 d)])∧BI w' a (nl (zA1 d).natAbs) c (zA1 d).natAbs∧From W w'∧(0<nl (zA1 d).natAbs→W.heap.size≤ab a):=
 h.mono fun _ _ ⟨a,c,he,hm,hb,hf⟩=>⟨a,c,he,⟨hm⟩,⟨hb⟩,hf⟩
attribute [local irreducible] Calls
theorem zEM(w:World)[Tb w](cb:Nat)(sl:Value)(minus:Bool)[hV:VB w cb [sl,.bool minus]](d:Option (Int×Int))(hd:IsN d)(a:Option Addr)(c:Nat)[hm:BI w a (nl (zA1 d).natAbs) c (zA1 d).natAbs]:Calls Tryz.prog 118 #[.pointer (some ⟨cb,0,none⟩),.agg #[.bool (zAj d),.bool (decide (zA1 d<0)),.slice a (nl (zA1 d).natAbs) c,.int .i64 (zA7 d)]] w fun o w'=>∃a' c',o=.returned (.agg #[.bool (zAj (sgd minus d)),.bool (decide (zA1 (sgd minus d)<0)),.slice a' (nl (zA1 (sgd minus d)).natAbs) c',.int .i64 (zA7 (sgd minus d))])∧BI w' a' (nl (zA1 (sgd minus d)).natAbs) c' (zA1 (sgd minus d)).natAbs∧From w w'∧(0<nl (zA1 (sgd minus d)).natAbs→w.heap.size≤ab a'∨ab a'=ab a):=by
 cases minus with
 | true=>
  have HN:=fun W b q [i:BI W b (nl (zA1 d).natAbs) q (zA1 d).natAbs] [Tb W]=>Lib.hid (zIx (zK4 W _ _ _ _ _ _ d (zAp hd i.out) tb));have HE:=Lib.hid (show sgd true d=zEt d from rfl);rw[HE.out];generalize zEt d=z at *;go_enter Tryz.func118,Tryz.ntmps118;go_wp2_with fail;refine(HN _ _ _).out.mono ?_;rintro o w1 ⟨a1,c1,rfl,i1,b1,f1⟩;have e1:=b1.out.size;simp at e1;go_wp2_with fail;refine bodyPost_ret (v:=.agg #[.bool (zAj z),.bool (decide (zA1 z<0)),.slice a1 (nl (zA1 z).natAbs) c1,.int .i64 (zA7 z)]) (by simp only[results,Tryz.results118];go_simp) rfl ?_;exact⟨a1,c1,rfl,⟨Mag.st4 i1.out (fun h=>Kp) _ _ _ _⟩,⟨zbh⟩,fun h=>Or.inl Kp⟩
 | false=>
  show Calls _ _ _ _ fun o w'=>∃a' c',o=.returned (.agg #[.bool (zAj d),.bool (decide (zA1 d<0)),.slice a' (nl (zA1 d).natAbs) c',.int .i64 (zA7 d)])∧BI w' a' (nl (zA1 d).natAbs) c' (zA1 d).natAbs∧From w w'∧(0<nl (zA1 d).natAbs→w.heap.size≤ab a'∨ab a'=ab a);go_enter Tryz.func118,Tryz.ntmps118;go_wp2_with fail;refine bodyPost_ret (v:=.agg #[.bool (zAj d),.bool (decide (zA1 d<0)),.slice a (nl (zA1 d).natAbs) c,.int .i64 (zA7 d)]) (by simp only[results,Tryz.results118];go_simp) rfl ?_;exact⟨a,c,rfl,inferInstance,⟨zbh⟩,fun _=>Or.inr rfl⟩
end Go.Proofs.YtmbkgapknoammaaGreatDoor
namespace Go.Proofs.YtmbkgapknoammaaGreatDoor
def left(l:Array Bool):Nat:=l.toList.count false
theorem zLb{l:Array Bool}{i:Nat}(h:l.getD i true=false):∃hi:i<l.size,l[i]=false:=by
 rcases Nat.lt_or_ge i l.size with h' | h'
 · refine⟨h',?_⟩;simpa[h'] using h
 · simp[Array.getElem?_eq_none h']at h
theorem zJI{l:Array Bool}{i:Nat}(h:l.getD i true=false):left (l.setIfInBounds i true)+1=left l:=by
 obtain⟨hi,he⟩:=zLb h;unfold left;have hl:i<l.toList.length:=by simpa using hi
 have e:(l.setIfInBounds i true).toList=l.toList.set i true:=jz
 rw[e,List.count_set hl];have hx:l.toList[i]=false:=by simpa using he
 have hc:0<l.toList.count false:=List.count_pos_iff.2 (hx ▸ List.getElem_mem hl);rw[hx,if_pos jA,if_neg ja];omega
theorem zMP{l:Array Bool}(h:left l=0)(i:Nat):l.getD i true≠false:=fun hf=>by
 have:=zJI hf;omega
theorem zQt{md:Region.Mode}{ops:Array Oper}(hd:(ops.toList.zipIdx.all fun p=>p.1.after.all fun e=>!Region.binds md e||decide (e.on<p.2))=true){l:Array Bool}(_hs:l.size=ops.size)(hr:Region.ready md ops l= []):∀i,i<l.size→l.getD i false=true:=by
 intro i
 induction i using Nat.strongRecOn with
 | _ i ih=>
  intro hi;rcases hb:l[i]with _ | _
  · exfalso;have hio:i<ops.size:=j0;have:i∈Region.ready md ops l:=by
     refine mem_ready.2 ⟨by simp[hi,hb],ops[i],by simp[hio],fun e he hbe=>?_⟩;have h1:=List.all_eq_true.1 hd (ops[i],i) (by
      rw[List.mem_zipIdx_iff_getElem?];simp[hio])
     have h2:=Array.all_eq_true'.1 h1 e he;rw[hbe,Bool.not_true,Bool.false_or,decide_eq_true_eq]at h2;exact ih e.on h2 j0
    rw[hr]at this
    cases this
  · simp[hi,hb]
section
variable {P:Program}{ops:Array Oper}{Q:Exit→Act→World→Prop}{md:Region.Mode}{S:World→Prop}
theorem zKn{I:Array Bool→Act→World→Prop}(hd:(ops.toList.zipIdx.all fun p=>p.1.after.all fun e=>!Region.binds md e||decide (e.on<p.2))=true)
 (hz:∀l a w,I l a w→l.size=ops.size)
 (hstep:∀l a w,I l a w→∀i o,ops[i]? =some o→l.getD i true=false→(∀e∈o.after,Region.binds md e=true→l.getD e.on false=true)→wpOp P ops Q i (fun a' w'=>S w'∧I (l.setIfInBounds i true) a' w') a w)
 (hend:∀l a w,I l a w→(∀i,i<l.size→l.getD i false=true)→Q .normal a w) :
 ∀(fuel:Nat) (l:Array Bool) (a:Act) (w:World),left l≤fuel→I l a w→wpAnyH P md ops Q S fuel l a w:=by
 intro fuel
 induction fuel with
 | zero=>
  intro l a w hf hI;have hr:Region.ready md ops l= []:=by
   rw[List.eq_nil_iff_forall_not_mem];intro i hi;exact zMP j0 i (mem_ready.1 hi).1
  exact⟨hr,hend l a w hI (zQt hd (hz l a w hI) hr)⟩
 | succ fuel ih=>
  intro l a w hf hI;refine⟨fun hr=>hend l a w hI (zQt hd (hz l a w hI) hr),fun i hi=>?_⟩;obtain⟨h1,o,ho,h2⟩:=mem_ready.1 hi;refine wpOp_mono (fun a' w' h=>⟨h.1,ih _ a' w' ?_ h.2⟩) (hstep l a w hI i o ho h1 h2);have:=zJI h1;omega
end
end Go.Proofs.YtmbkgapknoammaaGreatDoor

/-
  Walks: the law UpdateUntouched.
-/
import Derived.WalkKit
import Derived.Lib.Hide
import Derived.Deep.QuietTactic
import Derived.Laws.CopyOwn
import Derived.WalkLawsBesides
import Derived.WalkSpells
import Derived.BigQuiet
import Derived.Lib.Strings
import Derived.Lib.Slices
import Derived.Lib.Small
import Derived.Lib.Walk
import Derived.Lib.BitFns
import Derived.Deep.DeepCutAuto
import Derived.Deep.CutBlock
import Derived.Deep.LoopGhost
import Derived.Deep.RegionHeld3
import Derived.ProofKit
import Derived.OpenShut
import Derived.Carry
import Derived.Laws.LoneSync
import Derived.Deep.DeepHandedRow
import Derived.Lib.LaidTab
import Derived.Deep.RegionWith
import Derived.Maps.AppendAt
import Derived.Deep.AppendLies
import Derived.Deep.Grids
import Derived.Deep.RegionLaw
import Derived.Deep.OwnRows
import Derived.Maps.OwnOps
import Derived.Maps.Views
import Derived.Test.YtmbkgapknoammaaGreatDoorZuBL
import Derived.Test.YtmbkgapknoammaaGreatDoorZuBa
import Derived.Test.YtmbkgapknoammaaGreatDoorZuBag
import Derived.Test.YtmbkgapknoammaaGreatDoorZuBb
import Derived.Test.YtmbkgapknoammaaGreatDoorZuBc
import Derived.Test.YtmbkgapknoammaaGreatDoorZuBd
import Derived.Test.YtmbkgapknoammaaGreatDoorZuBe
import Derived.Test.YtmbkgapknoammaaGreatDoorZuBf
import Derived.Test.YtmbkgapknoammaaGreatDoorZuBh
import Derived.Test.YtmbkgapknoammaaGreatDoorZuCm
import Derived.Test.YtmbkgapknoammaaGreatDoorZuEc
import Derived.Test.YtmbkgapknoammaaGreatDoorZuEe
import Derived.Test.YtmbkgapknoammaaGreatDoorZuEf
import Derived.Test.YtmbkgapknoammaaGreatDoorZuEk
import Derived.Test.YtmbkgapknoammaaGreatDoorZuEm
import Derived.Test.YtmbkgapknoammaaGreatDoorZuEs
import Derived.Test.YtmbkgapknoammaaGreatDoorZuEw
import Derived.Test.YtmbkgapknoammaaGreatDoorZuEz
import Derived.Test.YtmbkgapknoammaaGreatDoorZuFP
import Derived.Test.YtmbkgapknoammaaGreatDoorZuGi
import Derived.Test.YtmbkgapknoammaaGreatDoorZuGo
import Derived.Test.YtmbkgapknoammaaGreatDoorZuGq
import Derived.Test.YtmbkgapknoammaaGreatDoorZuGr
import Derived.Test.YtmbkgapknoammaaGreatDoorZuGt
import Derived.Test.YtmbkgapknoammaaGreatDoorZuIP
import Derived.Test.YtmbkgapknoammaaGreatDoorZuKs
import Derived.Test.YtmbkgapknoammaaGreatDoorZuKw
import Derived.Test.YtmbkgapknoammaaGreatDoorZuNd
import Derived.Test.YtmbkgapknoammaaGreatDoorZuOpen
import Derived.Test.YtmbkgapknoammaaGreatDoorZuPFa
import Derived.Test.YtmbkgapknoammaaGreatDoorZuPFb
import Derived.Test.YtmbkgapknoammaaGreatDoorZuPFc
import Derived.Test.YtmbkgapknoammaaGreatDoorZuPo
import Derived.Test.YtmbkgapknoammaaGreatDoorZuPp
import Derived.Test.YtmbkgapknoammaaGreatDoorZuPr
import Derived.Test.YtmbkgapknoammaaGreatDoorZuPz
import Derived.Test.YtmbkgapknoammaaGreatDoorZuQn
import Derived.Test.YtmbkgapknoammaaGreatDoorZuRa
import Derived.Test.YtmbkgapknoammaaGreatDoorZuRj
import Derived.Test.YtmbkgapknoammaaGreatDoorZuRp
import Derived.Test.YtmbkgapknoammaaGreatDoorZuRz
import Derived.Test.YtmbkgapknoammaaGreatDoorZuRzd
import Derived.Test.YtmbkgapknoammaaGreatDoorZuS3
import Derived.Test.YtmbkgapknoammaaGreatDoorZuTj
import Derived.Test.YtmbkgapknoammaaGreatDoorZuYa
import Derived.Test.YtmbkgapknoammaaGreatDoorZuYe
import Derived.Test.YtmbkgapknoammaaGreatDoorZuYg
import Derived.Test.YtmbkgapknoammaaGreatDoorZuYi
import Derived.Test.YtmbkgapknoammaaGreatDoorZuYl
set_option maxRecDepth 100000
set_option maxHeartbeats 20000000
namespace Go.Proofs.YtmbkgapknoammaaGreatDoor
open Go.RowKit Sp
theorem outI_cat{n:Nat}{S I V x0:Nat→Nat} :∀k,zB7 n S I V x0 k=cat (zI3 n S I V x0) k
 | 0=>rfl
 | k+1=>by show zB7 n S I V x0 k++_=_;rw[outI_cat k];rfl
theorem colI_ok{n:Nat}{S I V x0:Nat→Nat}(h:∀k,k<n→zTJ n k ((List.range (S (k+1)-S k)).map fun t=>I (S k+t))){k:Nat}(hk:k<n):zTJ n k (zI3 n S I V x0 k):=by
 unfold zI3
 by_cases hc:uIn S I V x0 k k=true
 · rw[if_pos hc];have hin:uIn S I V x0 (k+1) k=true:=(by show(uIn S I V x0 k k||_)=true;rw[hc];rfl);have h1:zT1 S I V x0 k k= []:=by
    cases e:zT1 S I V x0 k k with
    | nil=>rfl
    | cons a l=>
     have:a∈zT1 S I V x0 k k:=(by rw[e];exact List.mem_cons_self);obtain⟨a1,a2⟩:=nb_mem.1 this;rw[decide_eq_false (show ¬k≤a by omega)]at a2;cases a2
   have h2:zT1 S I V x0 k (k+1)= [k]:=by
    have:zT1 S I V x0 k (k+1)=zT1 S I V x0 k k++ [k]:=zJs (by show(decide (k≤k)&&uIn S I V x0 (k+1) k)=true;rw[hin,decide_eq_true (Nat.le_refl k)];rfl);rw[this,h1];rfl
   have h3:∀d,∃r,zT1 S I V x0 k (k+1+d)=k::r:=by
    intro d
    induction d with
    | zero=>exact⟨[],h2⟩
    | succ d ih=>
     obtain⟨r,hr⟩:=ih
     cases hb:(decide (k≤k+1+d)&&uIn S I V x0 (k+1) (k+1+d))with
     | true=>exact⟨r++ [k+1+d],(zJs hb).trans (congrArg (· ++ [k+1+d]) hr)⟩
     | false=>exact⟨r,(zP2 hb).trans hr⟩
   obtain⟨r,hr⟩:=h3 (n-(k+1));rw[show k+1+(n-(k+1))=n by omega]at hr;exact⟨by rw[hr];exact Nat.succ_pos _,by rw[hr];rfl,fun t h0 ht=>zQe h0 ht,fun t ht=>(zHv ht).1⟩
 · rw[if_neg hc];exact h k hk
end Go.Proofs.YtmbkgapknoammaaGreatDoor
namespace Go.Proofs.YtmbkgapknoammaaGreatDoor
open Go.RowKit Sp
attribute [local irreducible] Calls
theorem kfl_any(w:World)(a a':Option Addr)(n c c':Nat)(L L':Nat→Nat)[hx:FZ w a n c L][hy:FZ w a' n c' L'](he:∀i,i<n→L i=L' i):Calls Tryz.prog 33 #[.slice a n c,.slice a' n c'] w fun o w'=>o=.returned (.bool true)∧From w w':=by
 have l1:=hx.out.fits;have l2:=hx.out.lim;have HE:=Lib.hid he;clear he;go_enter Tryz.func33,Tryz.ntmps33;go_wp2_with fail
 go_loopw [5] (fun x wr=>∃k:Nat,k≤n∧x=.int .i64 k∧Below w.heap.size w wr) (fun x _=>n-(intOf x).toNat)
 case atStart=>exact⟨0,by omega,rfl,Below.refl _ _⟩
 case round=>
  obtain⟨k,hk,rfl,hbr⟩:=hrel;haveI bw:From w wr:=⟨hbr⟩;clear hbr
  by_cases hlt:k<n
  · have k1:=(inferInstance:FZ wr a n c L).out;have k2:=(inferInstance:FZ wr a' n c' L').out;have i1:=k1.idx k hlt;have i2:=k2.idx k hlt;haveI z1:CE wr (ab a) (ao a+k) (.int .u64 (L k:Nat)):=⟨k1.cell k hlt,k1.old (by omega)⟩;haveI z2:CE wr (ab a') (ao a'+k) (.int .u64 (L k:Nat)):=⟨by rw[HE.out k hlt];exact k2.cell k hlt,k2.old (by omega)⟩;generalize L k=x at *;clear k1 k2;go_wp2_with fail
    go_quiet (fail)
    all_goals(
     go_wp2_with fail;go_roundw
     case rel=>exact⟨k+1,by omega,by go_num,zbh⟩
     case measure=>simp[intOf];omega)
  · obtain rfl:k=n:=(by omega);go_wp2_with fail;go_ret;exact⟨rfl,bw⟩
end Go.Proofs.YtmbkgapknoammaaGreatDoor
namespace Go.Proofs.YtmbkgapknoammaaGreatDoor
open Go.RowKit Sp
attribute [local irreducible] Calls
theorem zIq{w:World}{b n:Nat}{l:List Nat}{L:Nat→Int}(h:w.ownsRow 0 3 1 (.slice (some ⟨b,0,none⟩) n n) n (zA2 l))(hL:∀t,t<n→((l.getD t 0:Nat):Int)=L t):Ils w (some ⟨b,0,none⟩) n n L:=by
 obtain⟨_,_,e,z,_⟩:=zAP h;injection e with e1 _ e3
 subst e1 e3;exact⟨z.fits,z.lim,z.addr,fun i hi=>by rw[←hL i hi];exact z.cell i hi,z.old⟩
theorem zIz{w:World}{b n:Nat}{l:List Nat}{L:Nat→Nat}(h:w.ownsRow 0 37 1 (.slice (some ⟨b,0,none⟩) n n) n (zAI l))(hL:∀t,t<n→l.getD t 0=L t)(hb:∀t,t<n→L t<18446744073709551616):Fls w (some ⟨b,0,none⟩) n n L:=by
 obtain⟨_,_,e,z,_⟩:=zD4 h fun i hi=>by rw[hL i hi];exact hb i hi
 injection e with e1 _ e3
 subst e1 e3;exact⟨z.fits,z.lim,z.addr,fun i hi=>by rw[←hL i hi];exact z.cell i hi,hb,z.old⟩
theorem zIQ(w:World)[Tb w]:Calls Tryz.prog 14 #[] w fun o w'=>o=.returned (.bool true)∧From w w':=by
 have H3:=fun W [Tb W]=>Lib.hid (show Calls Tryz.prog 39 #[.int .i64 3,.int .i64 0] W fun o w'=>o=.returned (.int .u64 4613937818241073152)∧From W w' from by
  have e:zAu (nrm 3 0) 0=4613937818241073152:=by decide +kernel
  have:=frm (zBJ W 3 0 (by decide) (by decide) tb);rwa[e]at this)
 have H4:=fun W [Tb W]=>Lib.hid (show Calls Tryz.prog 39 #[.int .i64 4,.int .i64 0] W fun o w'=>o=.returned (.int .u64 4616189618054758400)∧From W w' from by
  have e:zAu (nrm 4 0) 0=4616189618054758400:=by decide +kernel
  have:=frm (zBJ W 4 0 (by decide) (by decide) tb);rwa[e]at this)
 have H5:=fun W [Tb W]=>Lib.hid (show Calls Tryz.prog 39 #[.int .i64 5,.int .i64 0] W fun o w'=>o=.returned (.int .u64 4617315517961601024)∧From W w' from by
  have e:zAu (nrm 5 0) 0=4617315517961601024:=by decide +kernel
  have:=frm (zBJ W 5 0 (by decide) (by decide) tb);rwa[e]at this)
 have HF:FCK 1 1 (fun _=>0) (fun t=>t) (fun _=>4613937818241073152):=⟨⟨[0],List.Perm.refl _,fun k hk=>by rw[Nat.lt_one_iff.1 hk];rfl⟩,rfl,rfl,fun j _=>Nat.lt_succ_self j,fun _ _=>by decide,fun _ _=>by decide +kernel,fun _ _=>by decide +kernel⟩;have HUP:=fun W aO aS aI aV aw [Tb W] [FM W 1 1 aO 1 aS 2 aI 1 aV 1 (fun _=>0) (fun t=>t) (fun t=>(((fun _=>0:Nat→Nat) t:Nat):Int)) (fun _=>4613937818241073152)] [FZ W aw 1 1 fun _=>4616189618054758400]=>Lib.hid (zI4 W 1 1 aO aS aI aV 1 2 1 1 (fun _=>0) (fun t=>t) (fun _=>0) (fun _=>4613937818241073152) (by decide) (by decide) aw 1 1 fun _=>4616189618054758400);have HDN:=fun W aO aS aI aV aw [Tb W] [FM W 1 1 aO 1 aS 2 aI 1 aV 1 (fun _=>0) (fun t=>t) (fun t=>(((fun _=>0:Nat→Nat) t:Nat):Int)) (fun _=>4613937818241073152)] [FZ W aw 1 1 fun _=>4616189618054758400]=>Lib.hid (zG3 W 1 1 aO aS aI aV 1 2 1 1 (fun _=>0) (fun t=>t) (fun _=>0) (fun _=>4613937818241073152) (by decide) (by decide) aw 1 1 fun _=>4616189618054758400);go_enter Tryz.func14,Tryz.ntmps14;go_wp2_with fail;refine(H3 _).out.mono ?_;rintro o w1 ⟨rfl,b1⟩;go_wp2_with fail;refine(H4 _).out.mono ?_;rintro o w2 ⟨rfl,b2⟩;go_wp2_with fail;refine(H5 _).out.mono ?_;rintro o w3 ⟨rfl,b3⟩;go_wp2_with fail;have BB:=((((((Bag.nil w3).lit 3 1 [.int .i64 0] (m:=1) (n:=w3.heap.size) rfl (by decide) rfl).lit 3 1 [.int .i64 0,.int .i64 1] (m:=2) (n:=w3.heap.size+1) (by simp) (by decide) rfl).lit 3 1 [.int .i64 0] (m:=1) (n:=w3.heap.size+1+1) (by simp) (by decide) rfl).lit 37 1 [.int .u64 4613937818241073152] (m:=1) (n:=w3.heap.size+1+1+1) (by simp) (by decide) rfl).var 27 [.slice (some ⟨w3.heap.size,0,none⟩) 1 1,.slice (some ⟨w3.heap.size+1,0,none⟩) 2 2,.slice (some ⟨w3.heap.size+1+1,0,none⟩) 1 1,.slice (some ⟨w3.heap.size+1+1+1,0,none⟩) 1 1] (n:=w3.heap.size+1+1+1+1) (by simp)).lit 37 1 [.int .u64 4616189618054758400] (m:=1) (n:=w3.heap.size+1+1+1+1+1) (by simp) (by decide) rfl;have z0:=zIq (l:= [0]) (L:=fun _=>0) (BB.own 0 rfl) fun t ht=>by rw[Nat.lt_one_iff.1 ht];rfl
 have z1:=zIq (l:= [0,1]) (L:=fun t=>((t:Nat):Int)) (BB.own 1 rfl) fun t ht=>by
  rcases t with _ | _ | t
  · rfl
  · rfl
  · omega
 have z2:=zIq (l:= [0]) (L:=fun t=>(((fun _=>0:Nat→Nat) t:Nat):Int)) (BB.own 2 rfl) fun t ht=>by rw[Nat.lt_one_iff.1 ht];rfl
 have z3:=zIz (l:= [4613937818241073152]) (L:=fun _=>4613937818241073152) (BB.own 3 rfl) (fun t ht=>by rw[Nat.lt_one_iff.1 ht];rfl) fun _ _=>by decide
 have z4:=zIz (l:= [4616189618054758400]) (L:=fun _=>4616189618054758400) (BB.own 5 rfl) (fun t ht=>by rw[Nat.lt_one_iff.1 ht];rfl) fun _ _=>by decide
 haveI hFM:=FM.mk z0 z1 z2 z3 HF;haveI hFZ:FZ _ _ 1 1 (fun _=>4616189618054758400):=⟨z4⟩;have bb:=BB.fr';refine(HUP _ _ _ _ _ _).out.mono ?_;rintro o w4 (⟨hz,_⟩ | ⟨_,oO,oS,oI,oV,dO,dS,dI,dV,rfl,hB⟩)
 · exact absurd zTs hz
 rw[zTH,zTQ]at hB;rw[zTH];have e1:([0]:List Nat).length=1:=rfl;rw[e1]at hB ⊢;haveI b4:=hB.fr';have zz:Fls w4 oV 1 dV (fun t=>([4617315517961601024]:List Nat).getD t 0):=hB.at 3 rfl;haveI zc:CE w4 (ab oV) (ao oV) (.int .u64 4617315517961601024):=⟨zz.cell 0 (by omega),zz.old (by omega)⟩;have yx:∀W,(Instr.indexAt 25 (.slice oV 1 dV) (.int .i64 0)).run Tryz.prog W=.ok (.pointer (some ⟨ab oV,ao oV,none⟩)) W:=fun W=>zz.idx 0 (by omega) W;clear HUP hB zz z0 z1 z2 z3 z4 H3 H4 H5 HF BB;go_wp2_with fail;have B2:=((Bag.nil w4).var 27 [.slice oO 1 dO,.slice oS (1+1) dS,.slice oI 1 dI,.slice oV 1 dV] rfl).lit 37 1 [.int .u64 4616189618054758400] (m:=1) (n:=w4.heap.size+1) (by simp) (by decide) rfl;have z5:=zIz (l:= [4616189618054758400]) (L:=fun _=>4616189618054758400) (B2.own 1 rfl) (fun t ht=>by rw[Nat.lt_one_iff.1 ht];rfl) fun _ _=>by decide
 haveI hFZ2:FZ _ _ 1 1 (fun _=>4616189618054758400):=⟨z5⟩;haveI b6:=B2.fr';haveI iV2:=B2.vb 0 rfl;clear z5 B2;refine(HDN _ _ _ _ _ _).out.mono ?_;rintro o w5 (⟨_,rfl,b5⟩ | ⟨hz,_⟩)
 · haveI b5':=b5;rw[zO3];clear HDN;go_wp2_with fail;go_ret;exact⟨rfl,⟨zbh⟩⟩
 · rw[zO3]at hz;exact absurd hz (by decide)
end Go.Proofs.YtmbkgapknoammaaGreatDoor
namespace Go.Proofs.YtmbkgapknoammaaGreatDoor
open Go.RowKit Sp
theorem zPq{w:World}{b N n:Nat}{y:Nat→Nat}(h:(zE5 b N n y).P w)(hy:∀i,i<n→y i<18446744073709551616):Fls w (some ⟨b,0,none⟩) n N y:=by
 obtain⟨h0,h1,f,h2,h3⟩:=h;exact⟨h0,h1,fun _=>rfl,fun i hi=>by
  show w.cell? ⟨b,0+i,none⟩=_;rw[Nat.zero_add,h2.cell (show i<N by omega),h3 i hi],hy,fun _=>h2.lt⟩
theorem PKS.fm{w0 w:World}{B:List It}{k:Nat}{b:Nat→Nat→Nat}{P:Nat→Nat→Bool}{l:List Nat}{oO oS oI oV:Option Addr}{dO dS dI dV:Nat}(h:PKS k b P)(hl:l.Perm (List.range k))(hB:Bag w0 w (zBb oO k dO (fun t=>((l.getD t 0:Nat):Int))::zBb oS (k+1) dS (fun t=>((pkS k P t:Nat):Int))::row 3 1 (.slice oI (pkS k P k) dI) (pkS k P k) (zA2 (cat (zAb k P) k))::zBZ oV (pkS k P k) dV (pkV b k P)::B)):FM w k (pkS k P k) oO dO oS dS oI dI oV dV (fun t=>((l.getD t 0:Nat):Int)) (pkS k P) (fun t=>((pkI k P t:Nat):Int)) (pkV b k P):=by
 obtain⟨_,_,hv,hI,_⟩:=zAP (hB.own 2 rfl);injection hv with e1 _ e3
 subst e1 e3;exact⟨hB.at 0 rfl,hB.at 1 rfl,hI,hB.at 3 rfl,h.fck hl⟩
attribute [local irreducible] Calls
end Go.Proofs.YtmbkgapknoammaaGreatDoor
namespace Go.Proofs.YtmbkgapknoammaaGreatDoor
open Go.RowKit Sp
theorem dman_up{M E:Int}(h:nrm M E≠none)(h0:0<M):0<zA1 (nrm M E):=by
 cases hd:nrm M E with
 | none=>exact absurd hd h
 | some p=>
  obtain⟨m,e⟩:=p;obtain⟨t,ht,_,_,_⟩:=zB5 (by omega) hd;show 0<m;rcases Int.lt_or_le 0 m with h1 | h1
  · exact h1
  · have h2:=Int.mul_le_mul_of_nonneg_right h1 (Int.pow_nonneg (show(0:Int)≤2 by decide):(0:Int)≤2^t);rw[Int.zero_mul]at h2;omega
theorem froot_dp{d:Option (Int×Int)}{m:Int}(hz:zB0 (zBc d m)=false)(hf:zAA (zBc d m)=true):0<zA1 (fof (zBc d m)):=by
 rw[zCA hf];refine dman_up (zDG hf) ?_;have hs:fS (zBc d m)=false:=by
  unfold zBc
  cases d with
  | none=>exact(by decide:fS zK1=false)
  | some p=>
   obtain⟨z,e⟩:=p;simp only
   by_cases h1:z<0
   · rw[if_pos h1];decide
   · rw[if_neg h1]
     by_cases h2:z=0
     · rw[if_pos h2];decide
     · rw[if_neg h2];exact zK0 _ _ _
 have hM:fM (zBc d m)≠0:=by unfold zB0 at hz;exact of_decide_eq_false hz
 have h1:=zNc 0 (fM (zBc d m));rw[Nat.zero_add]at h1;unfold fz;rw[hs];show 0<((fzN (fM (zBc d m)):Nat):Int);omega
section
variable {n:Nat}{S I V x0:Nat→Nat}{minus:Bool}
theorem colV_fin(hE:zS3 n S I V minus x0=0)(hV:∀k,k<n→∀t,t<S (k+1)-S k→zAA (V (S k+t))=true){k:Nat}(hk:k<n){x:Nat}(hx:x∈zNN n S I V minus x0 k):zAA x=true:=by
 have h1:=zIA n 0 hE k (by omega) (by omega);unfold zNN at hx
 cases hu:uIn S I V x0 k k with
 | false=>
  rw[hu,if_neg Bool.false_ne_true]at hx;obtain⟨t,ht,rfl⟩:=List.mem_map.1 hx;exact hV k hk t (List.mem_range.1 ht)
 | true=>
  rw[hu,if_pos rfl]at hx;unfold uE at h1;rw[hu,if_pos rfl]at h1;obtain⟨i,hi,rfl⟩:=List.mem_map.1 hx;obtain⟨h2,h3⟩:=nb_mem.1 hi;obtain⟨h4,h5⟩:k≤i∧uIn S I V x0 (k+1) i=true:=by simpa using h3
  have h6:=zIA (n-k) k h1 i h4 (by omega);unfold uC at h6
  by_cases he:i=k
  · subst he;rw[if_pos rfl]at h6
    split at h6
    · cases h6
    · split at h6
      · assumption
      · cases h6
  · rw[if_neg he,h5,if_pos rfl]at h6
    split at h6
    · rename_i h7;exact(Bool.and_eq_true_iff.1 h7).1
    · cases h6
theorem outV_cat:∀k,zJp n S I V minus x0 k=cat (zNN n S I V minus x0) k
 | 0=>rfl
 | k+1=>by show zJp n S I V minus x0 k++_=_;rw[outV_cat k];rfl
def OldC(n:Nat)(S I:Nat→Nat):Prop:=∀k,k<n→zTJ n k ((List.range (S (k+1)-S k)).map fun t=>I (S k+t))
theorem colV_hd(hE:zS3 n S I V minus x0=0)(hI:OldC n S I)(hd:∀j,j<n→0<zA1 (fof (V (S j)))){k:Nat}(hk:k<n):0<zA1 (fof ((zNN n S I V minus x0 k).getD 0 0)):=by
 have h1:=zIA n 0 hE k (by omega) (by omega);have hc:=colI_ok (V:=V) (x0:=x0) hI hk
 cases hu:uIn S I V x0 k k with
 | false=>
  have hp:=(hI k hk).pos;rw[List.length_map,List.length_range]at hp;obtain⟨d,hd'⟩:∃d,S (k+1)-S k=d+1:=⟨S (k+1)-S k-1,by omega⟩;unfold zNN;rw[hu,if_neg Bool.false_ne_true,hd',List.range_succ_eq_map];exact hd k hk
 | true=>
  have hr:zI3 n S I V x0 k=zT1 S I V x0 k n:=by unfold zI3;rw[hu,if_pos rfl]
  rw[hr]at hc;unfold uE at h1;rw[hu,if_pos rfl]at h1;have h6:=zIA (n-k) k h1 k (Nat.le_refl k) (by omega);unfold uC at h6;rw[if_pos rfl]at h6;unfold zNN;rw[hu,if_pos rfl];have hp:=hc.pos;have h0:=hc.hd
  cases hl:zT1 S I V x0 k n with
  | nil=>rw[hl]at hp;cases hp
  | cons a r=>
   rw[hl]at h0;obtain rfl:a=k:=h0;show 0<zA1 (fof (uV S I V minus x0 a a))
   split at h6
   · cases h6
   · rename_i h7
     split at h6
     · rename_i h8;have h9:zB0 (uV S I V minus x0 a a)=false:=by
        cases hz:zB0 (uV S I V minus x0 a a)with
        | false=>rfl
        | true=>exact absurd (Or.inr hz) h7
       unfold uV at h8 h9 ⊢;rw[if_pos rfl]at h8 h9 ⊢;exact froot_dp h9 h8
     · cases h6
theorem out_fck{q:Nat}{O:Nat→Int}(hE:zS3 n S I V minus x0=0)(h:FCK n q O S V)(hI:OldC n S I)(hb:∀x,x<(zB7 n S I V x0 n).length→(zJp n S I V minus x0 n).getD x 0<18446744073709551616):FCK n (zB7 n S I V x0 n).length O (fun t=>(zB7 n S I V x0 t).length) (fun t=>(zJp n S I V minus x0 n).getD t 0) where
 pm:=h.pm
 z:=rfl
 e:=rfl
 m j hj:=by
  show(zB7 n S I V x0 j).length<(zB7 n S I V x0 j++zI3 n S I V x0 j).length;have:=(colI_ok (V:=V) (x0:=x0) hI hj).pos;rw[List.length_append];omega
 b:=hb
 f x hx:=by
  rw[←zGp (minus:=minus)]at hx;rw[List.getD_eq_getElem?_getD,List.getElem?_eq_getElem hx];have hm:=List.getElem_mem hx;generalize (zJp n S I V minus x0 n)[x]=y at hm ⊢;rw[outV_cat]at hm;obtain⟨k,hk,hm⟩:=zNU n hm;refine colV_fin hE (fun k hk t ht=>h.f _ ?_) hk hm;have:=(h.lt (t:=k+1) (by omega)).2;omega
 d j hj:=by
  have h1:=zGJ (zNN n S I V minus x0) hj (t:=0) (by have:=(colI_ok (V:=V) (x0:=x0) hI hj).pos;rw[zGH];exact this);rw[Nat.add_zero,←outV_cat,←outV_cat,zGp]at h1;show 0<zA1 (fof ((zJp n S I V minus x0 n).getD (zB7 n S I V x0 j).length 0));rw[h1];exact colV_hd hE hI h.d hj
theorem out_fok(hI:OldC n S I):FOK n (zB7 n S I V x0 n).length (fun k=>(((zB7 n S I V x0 k).length:Nat):Int)) (fun x=>(((zB7 n S I V x0 n).getD x 0:Nat):Int)):=by
 have:=zRE (n:=n) (c:=zI3 n S I V x0) fun k hk=>colI_ok hI hk;simpa only[outI_cat] using this
theorem iok_fok{q:Nat}{S:Nat→Nat}{I:Nat→Int}(h:FOK n q (fun t=>((S t:Nat):Int)) I):Iok n S I:=fun j hj=>⟨h.d j hj,fun x h1 h2=>h.a j x hj h1 h2⟩
theorem out_no{k:Nat}(hk:k<n)(hu:uIn S I V x0 k k=false):(zB7 n S I V x0 (k+1)).length-(zB7 n S I V x0 k).length=S (k+1)-S k∧∀t,t<S (k+1)-S k→(zB7 n S I V x0 n).getD ((zB7 n S I V x0 k).length+t) 0=I (S k+t)∧(zJp n S I V minus x0 n).getD ((zB7 n S I V x0 k).length+t) 0=V (S k+t):=by
 have e1:zI3 n S I V x0 k=(List.range (S (k+1)-S k)).map fun t=>I (S k+t):=by unfold zI3;rw[hu,if_neg Bool.false_ne_true]
 have e2:zNN n S I V minus x0 k=(List.range (S (k+1)-S k)).map fun t=>V (S k+t):=by unfold zNN;rw[hu,if_neg Bool.false_ne_true]
 constructor
 · show(zB7 n S I V x0 k++zI3 n S I V x0 k).length-_=_;rw[List.length_append,e1,List.length_map,List.length_range];omega
 · intro t ht;have g1:=zGJ (zI3 n S I V x0) hk (t:=t) (by rw[e1,List.length_map,List.length_range];exact ht);have g2:=zGJ (zNN n S I V minus x0) hk (t:=t) (by rw[e2,List.length_map,List.length_range];exact ht);rw[←outI_cat,←outI_cat,e1]at g1;rw[←outV_cat,←outV_cat,zGp,e2]at g2;exact⟨g1.trans (by rw[List.getD_eq_getElem?_getD,List.getElem?_map,List.getElem?_range ht];rfl),g2.trans (by rw[List.getD_eq_getElem?_getD,List.getElem?_map,List.getElem?_range ht];rfl)⟩
end
theorem fok_old{n q:Nat}{S I:Nat→Nat}(h:FOK n q (fun t=>((S t:Nat):Int)) (fun t=>((I t:Nat):Int))):OldC n S I:=fun k hk=>by
 have hm:S k<S (k+1):=Int.ofNat_lt.1 (h.m k hk);have hat:∀t,t<S (k+1)-S k→((List.range (S (k+1)-S k)).map fun t=>I (S k+t)).getD t 0=I (S k+t):=fun t ht=>by
  rw[List.getD_eq_getElem?_getD,List.getElem?_map,List.getElem?_range ht];rfl
 have hlen:((List.range (S (k+1)-S k)).map fun t=>I (S k+t)).length=S (k+1)-S k:=by rw[List.length_map,List.length_range]
 refine⟨by rw[hlen];omega,?_,fun t h0 ht=>?_,fun t ht=>?_⟩
 · rw[hat 0 (by omega)];have:=h.d k hk;exact Int.ofNat_inj.1 this
 · rw[hlen]at ht;rw[hat t ht,hat (t-1) (by omega)];have:=(h.a k (S k+t) hk (by show S k≤_;omega) (by show _<S (k+1);omega)).2 (by show S k<_;omega);rw[show S k+t-1=S k+(t-1)by omega]at this;exact Int.ofNat_lt.1 this
 · rw[hlen]at ht;rw[hat t ht];exact Int.ofNat_lt.1 (h.a k (S k+t) hk (by show S k≤_;omega) (by show _<S (k+1);omega)).1
theorem pth_mem{S I V x0:Nat→Nat}{m k:Nat}(hk:k<m):k∈zC4 S I V x0 m↔uIn S I V x0 k k=true:=by
 unfold zC4;rw[List.mem_filter,List.mem_range];exact⟨fun h=>h.2,fun h=>⟨hk,h⟩⟩
theorem zTJ.len{n k:Nat}{l:List Nat}(h:zTJ n k l):l.length≤n:=by
 have h1:∀t,t<l.length→t≤l.getD t 0:=fun t=>by
  induction t with
  | zero=>intro _;omega
  | succ t ih=>intro ht;have:=ih (by omega);have:=h.asc (t+1) (by omega) ht;rw[Nat.add_sub_cancel]at this;omega
 have hp:=h.pos;have:=h1 (l.length-1) (by omega);have:=h.lt (l.length-1) (by omega);omega
theorem outI_le{n:Nat}{S I V x0:Nat→Nat}(h:OldC n S I):∀k,k≤n→(zB7 n S I V x0 k).length≤k*n
 | 0,_=>Nat.zero_le _
 | k+1,hk=>by
  have h1:=outI_le (V:=V) (x0:=x0) h k (by omega);have h2:=(colI_ok (V:=V) (x0:=x0) h (show k<n by omega)).len;show(zB7 n S I V x0 k++zI3 n S I V x0 k).length≤_;rw[List.length_append,Nat.add_mul];omega
end Go.Proofs.YtmbkgapknoammaaGreatDoor
set_option maxRecDepth 100000
set_option maxHeartbeats 20000000
namespace Go.Proofs.YtmbkgapknoammaaGreatDoor
open Go.RowKit Sp
section
variable {P:Program}{ops:Array Oper}{Q:Exit→Act→World→Prop}{md:Region.Mode}{T:World→Prop}{last:List Nat}
theorem tkn{fuel:Nat}{l:Array Bool}{ts ts':Array Value}{D:List Deferred}{w:World}{o:Oper}(i t:Nat)(late:List Nat)
 (h:zBP P md ops Q T last fuel (l.setIfInBounds i true) ⟨ts',D⟩ w)
 (hi:ops[i]? =some o:=by rfl) (hd:o.dst=some t:=by rfl) (hs:Region.noSelect ops=true:=by kernel_rfl) (hf:Region.free md ops l i=true:=by kernel_rfl) (hr:(Region.ready md ops l).contains i=true:=by kernel_rfl)
 (hb:zL6 md ops i last l late=true:=by kernel_rfl)
 (hQ:∀c a w,Q (.panic c) (a.put o.dst undef) w→Q (.panic c) a w:=by exact fun _ _ _ h=>h) (hw:Region.wanted o (yielded ops ts)=false:=by rfl)
 (hts:ts.setIfInBounds t undef=ts':=by(simp only[List.setIfInBounds_toArray,List.set_cons_zero,List.set_cons_succ];exact rfl)) (hS:T w:=by exact zbh):zBP P md ops Q T last (fuel+1) l ⟨ts,D⟩ w:=by
 subst hts;have hb':=hb;unfold zL6 at hb';simp only[Bool.and_eq_true,List.all_eq_true,Bool.not_eq_true']at hb';refine zGT hi (Region.noSelect_spec hs) hQ hb (fun j hj=>by simpa using hb'.1.1 j hj) (by simpa using hb'.1.2) fuel l _ w (Region.free_spec hi hf) (by simpa using hr) (fun j hj=>(hb'.2 j hj).1) (Or.inr ⟨hw,rfl⟩) hS ?_;rw[hd];exact h
end
attribute [local irreducible] Calls
theorem kints_eq(w:World)(a a':Option Addr)(n n' c c':Nat)(L L':Nat→Int)[hx:IZ w a n c L][hy:IZ w a' n' c' L'](e:n=n')(he:∀i,i<n'→L i=L' i):Calls Tryz.prog 31 #[.slice a n c,.slice a' n' c'] w fun o w'=>o=.returned (.bool true)∧From w w':=by
 subst e;exact zMU w a a' n c c' L L' he
theorem kfl_eq(w:World)(a a':Option Addr)(n n' c c':Nat)(L L':Nat→Nat)[hx:FZ w a n c L][hy:FZ w a' n' c' L'](e:n=n')(he:∀i,i<n'→L i=L' i):Calls Tryz.prog 33 #[.slice a n c,.slice a' n' c'] w fun o w'=>o=.returned (.bool true)∧From w w':=by
 subst e;exact kfl_any w a a' n c c' L L' he
theorem uuntlaw_any(w:World)[Tb w](a:Option Addr)(m cap:Nat)(L:Nat→Nat)[hL:FZ w a m cap L](n style kind:Int)(za:Option Addr)(zn zc:Nat)(zf:Nat→Bool)[hZ:BZ w za zn zc zf]:Calls Tryz.prog 9 #[.slice a m cap,.int .i64 n,.int .i64 style,.int .i64 kind,.slice za zn zc] w fun o w'=>o=.returned (.bool true)∧From w w':=by
 have HPK:=fun W [Tb W] [FZ W a m cap L] [BZ W za zn zc zf]=>Lib.hid (zKY W a m cap L n style kind za zn zc zf);have HAW:=fun W [Tb W]=>Lib.hid (zIQ W);go_enter Tryz.func9,Tryz.ntmps9;go_wp2_with fail;refine(HPK _).out.mono ?_;rintro o w1 ⟨k,b,P,l,y,oO,oS,oI,oV,dO,dS,dI,dV,wb,N,hk,rfl,hB,hP,hl,hy⟩;haveI b1:=hB.fr';haveI hF:=hP.fm hl hB;haveI hW:FZ w1 (some ⟨wb,0,none⟩) k N y:=⟨zPq (hB.at 4 rfl) fun i _=>(hy i).1⟩;have c1:=hF.o.fits;have c2:=hF.o.lim;have c3:=hF.s.fits;have c4:=hF.s.lim;have c5:=hF.i.fits;have c6:=hF.i.lim;have c7:=hF.v.fits;have c8:=hF.v.lim;have c9:=hW.out.fits;have c10:=hW.out.lim;have hq:=zQ9 k P k;have hq2:k*(k+1)≤5*6:=Nat.mul_le_mul hk (by omega);have hOK:=hP.fok;have hOLD:=fok_old hOK;have hck:=hF.ok;have he:vE k k y (ckE k (pkS k P) fun t=>((pkI k P t:Nat):Int))=0:=by
  rw[zKc (iok_fok hOK)];unfold vE;rw[if_neg (by decide),if_neg (by omega),if_pos ((zDg _ _).2 fun i _=>(hy i).2)]
 have HU:=fun W [Tb W] [FM W k (pkS k P k) oO dO oS dS oI dI oV dV (fun t=>((l.getD t 0:Nat):Int)) (pkS k P) (fun t=>((pkI k P t:Nat):Int)) (pkV b k P)] [FZ W (some ⟨wb,0,none⟩) k N y]=>Lib.hid (zLt W k (pkS k P k) oO oS oI oV dO dS dI dV (fun t=>((l.getD t 0:Nat):Int)) (pkS k P) (pkI k P) (pkV b k P) (by omega) (by omega) (some ⟨wb,0,none⟩) k N y);have HC:=fun W [Tb W] [FM W k (pkS k P k) oO dO oS dS oI dI oV dV (fun t=>((l.getD t 0:Nat):Int)) (pkS k P) (fun t=>((pkI k P t:Nat):Int)) (pkV b k P)] [FZ W (some ⟨wb,0,none⟩) k N y]=>Lib.hid (zI4 W k (pkS k P k) oO oS oI oV dO dS dI dV (fun t=>((l.getD t 0:Nat):Int)) (pkS k P) (pkI k P) (pkV b k P) (by omega) (by omega) (some ⟨wb,0,none⟩) k N y);have HI:=fun W a a' n c c' L [IZ W a n c L] [IZ W a' n c' L]=>Lib.hid (zMU W a a' n c c' L L fun _ _=>rfl);have HFL:=fun W a a' n c c' L [FZ W a n c L] [FZ W a' n c' L]=>Lib.hid (kfl_any W a a' n c c' L L fun _ _=>rfl);have hun:zI1 k k (pkS k P) (pkI k P) (pkV b k P) y (fun t=>((l.getD t 0:Nat):Int)) false=zS3 k (pkS k P) (pkI k P) (pkV b k P) false (byO y (fun t=>((l.getD t 0:Nat):Int))):=by unfold zI1;rw[if_pos he]
 rw[hun]at HC;simp only[he]at HU;have hpt:=fun j (hj:j<k)=>pth_mem (S:=pkS k P) (I:=pkI k P) (V:=pkV b k P) (x0:=byO y (fun t=>((l.getD t 0:Nat):Int))) hj;generalize byO y (fun t=>((l.getD t 0:Nat):Int))=x0 at *;have hpl:=zJm (pkS k P) (pkI k P) (pkV b k P) x0 k;generalize zC4 (pkS k P) (pkI k P) (pkV b k P) x0 k=X at *;rw[show fl 0 X.length=X.length from if_pos rfl]at HU;generalize (pkS k P k)=qq at *;generalize pkS k P=Sk at *;generalize pkI k P=Ik at *;generalize pkV b k P=Vk at *;have HOK:=Lib.hid hOK;have HOLD:=Lib.hid hOLD;have HCK:=Lib.hid hck;have HPT:=Lib.hid hpt;clear hB HPK hP hy hq hq2 he hun hOK hOLD hck hpt;go_wp2_with fail;refine(HU _).out.mono ?_;rintro o w2 ⟨xa,xc,rfl,hx,b2⟩;have x1:=hx.out.fits;have x2:=hx.out.lim;go_wp2_with fail;refine(HC _).out.mono ?_;rintro o w3 (⟨hz,rfl,b3⟩ | ⟨hz,pO,pS,pI,pV,eO,eS,eI,eV,rfl,hB⟩)
 · generalize zS3 k Sk Ik Vk false x0=R at *;have hz':(R==0)=false:=(by simpa using hz);clear HC;go_wp2_with fail;refine(HAW _).out.mono ?_;rintro o w5 ⟨rfl,b5⟩;go_wp2_with fail;go_ret;exact⟨rfl,⟨zbh⟩⟩
 · haveI b3:=hB.fr';have hFB:=(hB.at 3 rfl:Fls w3 pV _ eV _).b;obtain⟨qg,hqg⟩:∃q,q=(zB7 k Sk Ik Vk x0 k).length:=⟨_,rfl⟩;rw[←hqg];have hEX:∃GS GI GV:Nat→Nat,FM w3 k qg pO eO pS eS pI eI pV eV (fun t=>((l.getD t 0:Nat):Int)) GS (fun t=>((GI t:Nat):Int)) GV∧FOK k qg (fun t=>((GS t:Nat):Int)) (fun t=>((GI t:Nat):Int))∧∀j,j<k→uIn Sk Ik Vk x0 j j=false→GS (j+1)-GS j=Sk (j+1)-Sk j∧∀t,t<Sk (j+1)-Sk j→GI (GS j+t)=Ik (Sk j+t)∧GV (GS j+t)=Vk (Sk j+t):=
    ⟨fun t=>(zB7 k Sk Ik Vk x0 t).length,fun t=>(zB7 k Sk Ik Vk x0 k).getD t 0,fun t=>(zJp k Sk Ik Vk false x0 k).getD t 0,by rw[hqg];exact⟨hB.at 0 rfl,hB.at 1 rfl,hB.at 2 rfl,hB.at 3 rfl,out_fck hz HCK.out HOLD.out hFB⟩,by rw[hqg];exact out_fok (V:=Vk) (x0:=x0) HOLD.out,fun j hj hu=>out_no (n:=k) (S:=Sk) (I:=Ik) (V:=Vk) (x0:=x0) (minus:=false) (k:=j) hj hu⟩
   have hQ:=outI_le (V:=Vk) (x0:=x0) HOLD.out k (Nat.le_refl k);rw[←hqg]at hQ;have hQ2:k*k≤5*5:=Nat.mul_le_mul hk hk;clear hqg hB hFB hz;obtain⟨GS,GI,GV,hG,hGOK,hNO⟩:=hEX;have d1:=hG.o.fits;have d2:=hG.o.lim;have d3:=hG.s.fits;have d4:=hG.s.lim;have d5:=hG.i.fits;have d6:=hG.i.lim;have d7:=hG.v.fits;have d8:=hG.v.lim;have HCK2:=fun W [Tb W] [FM W k qg pO eO pS eS pI eI pV eV (fun t=>((l.getD t 0:Nat):Int)) GS (fun t=>((GI t:Nat):Int)) GV]=>Lib.hid (zIe W k qg pO pS pI pV eO eS eI eV (fun t=>((l.getD t 0:Nat):Int)) (fun t=>((GI t:Nat):Int)) GS GV (by omega) (by omega));rw[zKc (iok_fok hGOK)]at HCK2;have HNO:=Lib.hid hNO;have HGK:=Lib.hid hG.ok;haveI zp:IZ w3 pO k eO (fun t=>((l.getD t 0:Nat):Int)):=⟨hG.o⟩;haveI zo:IZ w1 oO k dO (fun t=>((l.getD t 0:Nat):Int)):=⟨hF.o⟩;clear HC HU hGOK hQ hQ2 hNO;go_wp2_with fail;refine(HI _ _ _ _ _ _ _).out.mono ?_;rintro o w4 ⟨rfl,b4⟩;go_wp2_with fail;refine(HCK2 _).out.mono ?_;rintro o w5 ⟨rfl,b5⟩;go_wp2_with fail;clear HI HCK2
   go_loopw [17] (fun x wr=>∃j:Nat,j≤k∧x=.int .i64 j∧From w5 wr) (fun x _=>k-(intOf x).toNat)
   case atStart=>exact⟨0,by omega,rfl,⟨Below.refl _ _⟩⟩
   case round=>
    rename World=>wr;obtain⟨j,hj,rfl,b6⟩:=hrel
    by_cases hlt:j<k
    · go_wp2_with fail
      go_loopw [18,19] (fun v x wp=>∃t:Nat,t≤X.length∧x=.int .i64 t∧v=.bool (decide (j∈X.take t))∧From wr wp) (fun _ x _=>X.length-(intOf x).toNat)
      case atStart=>exact⟨0,by omega,rfl,by rw[List.take_zero];rfl,⟨Below.refl _ _⟩⟩
      case round=>
       rename World=>wp;obtain⟨t,ht,rfl,rfl,b7⟩:=hrel
       by_cases htl:t<X.length
       · have hst:decide (j∈X.take (t+1))=(decide (j∈X.take t)||decide (X.getD t 0=j)):=by
          have e:X.take (t+1)=X.take t++ [X.getD t 0]:=(by rw[List.take_add_one,List.getD_eq_getElem?_getD,List.getElem?_eq_getElem htl];rfl);have e2:j∈X.take (t+1)↔(j∈X.take t∨X.getD t 0=j):=(by rw[e,List.mem_append,List.mem_singleton];exact⟨fun h=>h.imp id Eq.symm,fun h=>h.imp id Eq.symm⟩);rw[decide_eq_decide.2 e2,Bool.decide_or]
         have k1:=(inferInstance:IZ wp xa X.length xc (fun t=>((X.getD t 0:Nat):Int))).out;have yx:=k1.idx t htl;haveI z1:CE wp (ab xa) (ao xa+t) (.int .i64 ((X.getD t 0:Nat):Int)):=⟨k1.cell t htl,k1.old (by omega)⟩;clear k1;have yc:decide (((X.getD t 0:Nat):Int)=(j:Int))=decide (X.getD t 0=j):=decide_eq_decide.2 Int.ofNat_inj;have HST:=Lib.hid hst;clear hst
         cases hv:decide (j∈X.take t)with
         | true=>
          go_wp2_with fail;go_roundw
          case rel=>exact⟨t+1,by omega,by go_num,by rw[HST.out,hv];rfl,inferInstance⟩
          case measure=>simp[intOf];omega
         | false=>
          go_wp2_with fail;go_roundw
          case rel=>exact⟨t+1,by omega,by go_num,by rw[HST.out,hv,Bool.false_or,List.getD_eq_getElem?_getD,List.getElem?_eq_getElem htl];refine congrArg Value.bool ?_;show _=decide (X[t]=j);rw[Bool.eq_iff_iff];simp;omega,inferInstance⟩
          case measure=>simp[intOf];omega
       · have htx:t=X.length:=(by omega);have hvis:decide (j∈X.take t)=uIn Sk Ik Vk x0 j j:=by
          rw[htx,List.take_length,Bool.eq_iff_iff,decide_eq_true_iff];exact HPT.out j hlt
         rw[hvis];clear hvis
         cases hu:uIn Sk Ik Vk x0 j j with
         | true=>
          go_wp2_with fail;refine bgj (fun w'=>Below wp.heap.size wp w') [] (by kernel_rfl) (zbh) (fun hHeld=>?_);refine tk 0 88 [1,2,3,4,5,6,7,8,9,10,11,12,13,14,15,16,17,18,19,20,21,22,23,24,25,26,27,28,29,30,31,32,33,34,35,36,37,38,39,40,41,42,43,44,45,46,47,48,49,50,51,52,53,54,55,56,57,58,59,60,61,62,63,64,65] ?_;refine tk 1 89 [2,3,4,5,6,7,8,9,10,11,12,13,14,15,16,17,18,19,20,21,22,23,24,25,26,27,28,29,30,31,32,33,34,35,36,37,38,39,40,41,42,43,44,45,46,47,48,49,50,51,52,53,54,55,56,57,58,59,60,61,62,63,64,65] ?_;refine tk 2 90 [3,4,5,6,7,8,9,10,11,12,13,14,15,16,17,18,19,20,21,22,23,24,25,26,27,28,29,30,31,32,33,34,35,36,37,38,39,40,41,42,43,44,45,46,47,48,49,50,51,52,53,54,55,56,57,58,59,60,61,62,63,64,65] ?_;refine tkn 3 91 [4,16,31,32,33,34,35,36,37,38,39,40,41,42,43,44,45,46,47,48,49,50,51,52,53,54,55,56,57,58,59,60,61,62,63,64,65] ?_;refine tkn 4 92 [16,31,32,33,34,35,36,37,38,39,40,41,42,43,44,45,46,47,48,49,50,51,52,53,54,55,56,57,58,59,60,61,62,63,64,65] ?_;refine tkn 5 93 [6,8,9,16,31,32,33,34,35,36,37,38,39,40,41,42,43,44,45,46,47,48,49,50,51,52,53,54,55,56,57,58,59,60,61,62,63,64,65] ?_;refine tkn 6 94 [8,9,16,31,32,33,34,35,36,37,38,39,40,41,42,43,44,45,46,47,48,49,50,51,52,53,54,55,56,57,58,59,60,61,62,63,64,65] ?_;refine tkn 7 95 [8,9,16,31,32,33,34,35,36,37,38,39,40,41,42,43,44,45,46,47,48,49,50,51,52,53,54,55,56,57,58,59,60,61,62,63,64,65] ?_;refine tkn 8 96 [9,16,31,32,33,34,35,36,37,38,39,40,41,42,43,44,45,46,47,48,49,50,51,52,53,54,55,56,57,58,59,60,61,62,63,64,65] ?_;refine tkn 9 97 [16,31,32,33,34,35,36,37,38,39,40,41,42,43,44,45,46,47,48,49,50,51,52,53,54,55,56,57,58,59,60,61,62,63,64,65] ?_;refine tkn 10 98 [11,14,15,16,31,32,33,34,35,36,37,38,39,40,41,42,43,44,45,46,47,48,49,50,51,52,53,54,55,56,57,58,59,60,61,62,63,64,65] ?_;refine tkn 11 99 [14,15,16,31,32,33,34,35,36,37,38,39,40,41,42,43,44,45,46,47,48,49,50,51,52,53,54,55,56,57,58,59,60,61,62,63,64,65] ?_;refine tkn 12 100 [13,14,15,16,31,32,33,34,35,36,37,38,39,40,41,42,43,44,45,46,47,48,49,50,51,52,53,54,55,56,57,58,59,60,61,62,63,64,65] ?_;refine tkn 13 101 [14,15,16,31,32,33,34,35,36,37,38,39,40,41,42,43,44,45,46,47,48,49,50,51,52,53,54,55,56,57,58,59,60,61,62,63,64,65] ?_;refine tkn 14 102 [15,16,31,32,33,34,35,36,37,38,39,40,41,42,43,44,45,46,47,48,49,50,51,52,53,54,55,56,57,58,59,60,61,62,63,64,65] ?_;refine tkn 15 103 [16,31,32,33,34,35,36,37,38,39,40,41,42,43,44,45,46,47,48,49,50,51,52,53,54,55,56,57,58,59,60,61,62,63,64,65] ?_;refine tkn 16 104 [31,32,33,34,35,36,37,38,39,40,41,42,43,44,45,46,47,48,49,50,51,52,53,54,55,56,57,58,59,60,61,62,63,64,65] ?_;refine tkn 17 105 [18,30,31,32,33,34,35,36,37,38,39,40,41,42,43,44,45,46,47,48,49,50,51,52,53,54,55,56,57,58,59,60,61,62,63,64,65] ?_;refine tkn 18 106 [30,31,32,33,34,35,36,37,38,39,40,41,42,43,44,45,46,47,48,49,50,51,52,53,54,55,56,57,58,59,60,61,62,63,64,65] ?_;refine tkn 19 107 [20,22,23,30,31,32,33,34,35,36,37,38,39,40,41,42,43,44,45,46,47,48,49,50,51,52,53,54,55,56,57,58,59,60,61,62,63,64,65] ?_;refine tkn 20 108 [22,23,30,31,32,33,34,35,36,37,38,39,40,41,42,43,44,45,46,47,48,49,50,51,52,53,54,55,56,57,58,59,60,61,62,63,64,65] ?_;refine tkn 21 109 [22,23,30,31,32,33,34,35,36,37,38,39,40,41,42,43,44,45,46,47,48,49,50,51,52,53,54,55,56,57,58,59,60,61,62,63,64,65] ?_;refine tkn 22 110 [23,30,31,32,33,34,35,36,37,38,39,40,41,42,43,44,45,46,47,48,49,50,51,52,53,54,55,56,57,58,59,60,61,62,63,64,65] ?_;refine tkn 23 111 [30,31,32,33,34,35,36,37,38,39,40,41,42,43,44,45,46,47,48,49,50,51,52,53,54,55,56,57,58,59,60,61,62,63,64,65] ?_;refine tkn 24 112 [25,28,29,30,31,32,33,34,35,36,37,38,39,40,41,42,43,44,45,46,47,48,49,50,51,52,53,54,55,56,57,58,59,60,61,62,63,64,65] ?_;refine tkn 25 113 [28,29,30,31,32,33,34,35,36,37,38,39,40,41,42,43,44,45,46,47,48,49,50,51,52,53,54,55,56,57,58,59,60,61,62,63,64,65] ?_;refine tkn 26 114 [27,28,29,30,31,32,33,34,35,36,37,38,39,40,41,42,43,44,45,46,47,48,49,50,51,52,53,54,55,56,57,58,59,60,61,62,63,64,65] ?_;refine tkn 27 115 [28,29,30,31,32,33,34,35,36,37,38,39,40,41,42,43,44,45,46,47,48,49,50,51,52,53,54,55,56,57,58,59,60,61,62,63,64,65] ?_;refine tkn 28 116 [29,30,31,32,33,34,35,36,37,38,39,40,41,42,43,44,45,46,47,48,49,50,51,52,53,54,55,56,57,58,59,60,61,62,63,64,65] ?_;refine tkn 29 117 [30,31,32,33,34,35,36,37,38,39,40,41,42,43,44,45,46,47,48,49,50,51,52,53,54,55,56,57,58,59,60,61,62,63,64,65] ?_;refine tkn 30 118 [31,32,33,34,35,36,37,38,39,40,41,42,43,44,45,46,47,48,49,50,51,52,53,54,55,56,57,58,59,60,61,62,63,64,65] ?_;refine tkn 31 119 [32,33,34,35,36,37,38,39,40,41,42,43,44,45,46,47,48,49,50,51,52,53,54,55,56,57,58,59,60,61,62,63,64,65] ?_;refine tkn 32 120 [33,34,35,36,37,38,39,40,41,42,43,44,45,46,47,48,49,50,51,52,53,54,55,56,57,58,59,60,61,62,63,64,65] ?_;refine tkn 33 121 [34,35,36,37,38,39,40,41,42,43,44,45,46,47,48,49,50,51,52,53,54,55,56,57,58,59,60,61,62,63,64,65] ?_;refine tkn 34 122 [35,47,62,63,64,65] ?_;refine tkn 35 123 [47,62,63,64,65] ?_;refine tkn 36 124 [37,39,40,47,62,63,64,65] ?_;refine tkn 37 125 [39,40,47,62,63,64,65] ?_;refine tkn 38 126 [39,40,47,62,63,64,65] ?_;refine tkn 39 127 [40,47,62,63,64,65] ?_;refine tkn 40 128 [47,62,63,64,65] ?_;refine tkn 41 129 [42,45,46,47,62,63,64,65] ?_;refine tkn 42 130 [45,46,47,62,63,64,65] ?_;refine tkn 43 131 [44,45,46,47,62,63,64,65] ?_;refine tkn 44 132 [45,46,47,62,63,64,65] ?_;refine tkn 45 133 [46,47,62,63,64,65] ?_;refine tkn 46 134 [47,62,63,64,65] ?_;refine tkn 47 135 [62,63,64,65] ?_;refine tkn 48 136 [49,61,62,63,64,65] ?_;refine tkn 49 137 [61,62,63,64,65] ?_;refine tkn 50 138 [51,53,54,61,62,63,64,65] ?_;refine tkn 51 139 [53,54,61,62,63,64,65] ?_;refine tkn 52 140 [53,54,61,62,63,64,65] ?_;refine tkn 53 141 [54,61,62,63,64,65] ?_;refine tkn 54 142 [61,62,63,64,65] ?_;refine tkn 55 143 [56,59,60,61,62,63,64,65] ?_;refine tkn 56 144 [59,60,61,62,63,64,65] ?_;refine tkn 57 145 [58,59,60,61,62,63,64,65] ?_;refine tkn 58 146 [59,60,61,62,63,64,65] ?_;refine tkn 59 147 [60,61,62,63,64,65] ?_;refine tkn 60 148 [61,62,63,64,65] ?_;refine tkn 61 149 [62,63,64,65] ?_;refine tkn 62 150 [63,64,65] ?_;refine tkn 63 151 [64,65] ?_;refine tkn 64 152 [65] ?_;refine tk 65 153 [] ?_;refine enj (by kernel_rfl) ?_ _;go_wp2_with fail;go_roundw
          case rel=>exact⟨j+1,by omega,by go_num,⟨zbh⟩⟩
          case measure=>simp[intOf];omega
         | false=>
          have hX:FM wp k qq oO dO oS dS oI dI oV dV (fun t=>((l.getD t 0:Nat):Int)) Sk (fun t=>((Ik t:Nat):Int)) Vk:=inferInstance;have hY:FM wp k qg pO eO pS eS pI eI pV eV (fun t=>((l.getD t 0:Nat):Int)) GS (fun t=>((GI t:Nat):Int)) GV:=inferInstance;haveI z2:=hX.ceS (t:=j) (by omega);haveI z3:=hX.ceS (t:=j+1) (by omega);have y2:=hX.ixS j (by omega);have y3:=hX.ix1 j hlt;haveI z4:=hY.ceS (t:=j) (by omega);haveI z5:=hY.ceS (t:=j+1) (by omega);have y4:=hY.ixS j (by omega);have y5:=hY.ix1 j hlt;have m1:=HCK.out.m j hlt;have m2:=(HCK.out.lt (t:=j+1) (by omega)).2;have m3:=HGK.out.m j hlt;have m4:=(HGK.out.lt (t:=j+1) (by omega)).2;have f1:decide (Sk (j+1)<Sk j)=false:=decide_eq_false (by omega);have f2:decide (qq<Sk (j+1))=false:=decide_eq_false (by omega);have f3:((Sk (j+1):Int)-(Sk j:Int))=((Sk (j+1)-Sk j:Nat):Int):=(by omega);have e1:Sk (j+1)≤dI:=(by omega);have e2:Sk j≤Sk (j+1):=(by omega);have e3:¬dI=Sk j:=(by omega);have e4:Sk (j+1)≤dV:=(by omega);have e5:¬dV=Sk j:=(by omega);have g1:decide (GS (j+1)<GS j)=false:=decide_eq_false (by omega);have g2:decide (qg<GS (j+1))=false:=decide_eq_false (by omega);have g3:((GS (j+1):Int)-(GS j:Int))=((GS (j+1)-GS j:Nat):Int):=(by omega);have h1:GS (j+1)≤eI:=(by omega);have h2:GS j≤GS (j+1):=(by omega);have h3:¬eI=GS j:=(by omega);have h4:GS (j+1)≤eV:=(by omega);have h5:¬eV=GS j:=(by omega);have hno:=HNO.out j hlt hu;haveI zI:IZ wp (Option.map (fun x=>x.add (Sk j)) oI) (Sk (j+1)-Sk j) (dI-Sk j) (fun i=>((Ik (Sk j+i):Nat):Int)):=⟨hX.i.cutm m1 m2⟩;haveI zV:FZ wp (Option.map (fun x=>x.add (Sk j)) oV) (Sk (j+1)-Sk j) (dV-Sk j) (fun i=>Vk (Sk j+i)):=⟨hX.v.cutm m1 m2⟩;haveI zJ:IZ wp (Option.map (fun x=>x.add (GS j)) pI) (GS (j+1)-GS j) (eI-GS j) (fun i=>((GI (GS j+i):Nat):Int)):=⟨hY.i.cutm m3 m4⟩;haveI zW:FZ wp (Option.map (fun x=>x.add (GS j)) pV) (GS (j+1)-GS j) (eV-GS j) (fun i=>GV (GS j+i)):=⟨hY.v.cutm m3 m4⟩;have HKI:=fun W [IZ W (Option.map (fun x=>x.add (GS j)) pI) (GS (j+1)-GS j) (eI-GS j) (fun i=>((GI (GS j+i):Nat):Int))] [IZ W (Option.map (fun x=>x.add (Sk j)) oI) (Sk (j+1)-Sk j) (dI-Sk j) (fun i=>((Ik (Sk j+i):Nat):Int))]=>Lib.hid (kints_eq W (Option.map (fun x=>x.add (GS j)) pI) (Option.map (fun x=>x.add (Sk j)) oI) (GS (j+1)-GS j) (Sk (j+1)-Sk j) (eI-GS j) (dI-Sk j) (fun i=>((GI (GS j+i):Nat):Int)) (fun i=>((Ik (Sk j+i):Nat):Int)) hno.1 fun i hi=>congrArg Int.ofNat (hno.2 i hi).1);have HKV:=fun W [FZ W (Option.map (fun x=>x.add (GS j)) pV) (GS (j+1)-GS j) (eV-GS j) (fun i=>GV (GS j+i))] [FZ W (Option.map (fun x=>x.add (Sk j)) oV) (Sk (j+1)-Sk j) (dV-Sk j) (fun i=>Vk (Sk j+i))]=>Lib.hid (kfl_eq W (Option.map (fun x=>x.add (GS j)) pV) (Option.map (fun x=>x.add (Sk j)) oV) (GS (j+1)-GS j) (Sk (j+1)-Sk j) (eV-GS j) (dV-Sk j) (fun i=>GV (GS j+i)) (fun i=>Vk (Sk j+i)) hno.1 fun i hi=>(hno.2 i hi).2);clear hno hX hY;go_wp2_with fail;have q1:IntKind.i64.wrap ((j:Int)+1)=(j:Int)+1:=(by rw[IntKind.wrap_i64];omega);refine bgj (fun w'=>Below wp.heap.size wp w') [] (by kernel_rfl) (zbh) (fun hHeld=>?_);refine tk 0 88 [1,2,3,4,5,6,7,8,9,10,11,12,13,14,15,16,17,18,19,20,21,22,23,24,25,26,27,28,29,30,31,32,33,34,35,36,37,38,39,40,41,42,43,44,45,46,47,48,49,50,51,52,53,54,55,56,57,58,59,60,61,62,63,64,65] ?_;refine tk 1 89 [2,3,4,5,6,7,8,9,10,11,12,13,14,15,16,17,18,19,20,21,22,23,24,25,26,27,28,29,30,31,32,33,34,35,36,37,38,39,40,41,42,43,44,45,46,47,48,49,50,51,52,53,54,55,56,57,58,59,60,61,62,63,64,65] ?_;refine tk 2 90 [3,4,5,6,7,8,9,10,11,12,13,14,15,16,17,18,19,20,21,22,23,24,25,26,27,28,29,30,31,32,33,34,35,36,37,38,39,40,41,42,43,44,45,46,47,48,49,50,51,52,53,54,55,56,57,58,59,60,61,62,63,64,65] ?_;refine tk 3 91 [4,16,31,32,33,34,35,36,37,38,39,40,41,42,43,44,45,46,47,48,49,50,51,52,53,54,55,56,57,58,59,60,61,62,63,64,65] ?_;refine tk 4 92 [16,31,32,33,34,35,36,37,38,39,40,41,42,43,44,45,46,47,48,49,50,51,52,53,54,55,56,57,58,59,60,61,62,63,64,65] ?_;refine tk 5 93 [6,8,9,16,31,32,33,34,35,36,37,38,39,40,41,42,43,44,45,46,47,48,49,50,51,52,53,54,55,56,57,58,59,60,61,62,63,64,65] ?_;refine tk 6 94 [8,9,16,31,32,33,34,35,36,37,38,39,40,41,42,43,44,45,46,47,48,49,50,51,52,53,54,55,56,57,58,59,60,61,62,63,64,65] ?_;refine tk 7 95 [8,9,16,31,32,33,34,35,36,37,38,39,40,41,42,43,44,45,46,47,48,49,50,51,52,53,54,55,56,57,58,59,60,61,62,63,64,65] ?_;refine tk 8 96 [9,16,31,32,33,34,35,36,37,38,39,40,41,42,43,44,45,46,47,48,49,50,51,52,53,54,55,56,57,58,59,60,61,62,63,64,65] ?_;refine tk 9 97 [16,31,32,33,34,35,36,37,38,39,40,41,42,43,44,45,46,47,48,49,50,51,52,53,54,55,56,57,58,59,60,61,62,63,64,65] ?_;refine tk 10 98 [11,14,15,16,31,32,33,34,35,36,37,38,39,40,41,42,43,44,45,46,47,48,49,50,51,52,53,54,55,56,57,58,59,60,61,62,63,64,65] ?_;refine tk 11 99 [14,15,16,31,32,33,34,35,36,37,38,39,40,41,42,43,44,45,46,47,48,49,50,51,52,53,54,55,56,57,58,59,60,61,62,63,64,65] ?_;refine tk 12 100 [13,14,15,16,31,32,33,34,35,36,37,38,39,40,41,42,43,44,45,46,47,48,49,50,51,52,53,54,55,56,57,58,59,60,61,62,63,64,65] ?_;refine tk 13 101 [14,15,16,31,32,33,34,35,36,37,38,39,40,41,42,43,44,45,46,47,48,49,50,51,52,53,54,55,56,57,58,59,60,61,62,63,64,65] ?_;refine tk 14 102 [15,16,31,32,33,34,35,36,37,38,39,40,41,42,43,44,45,46,47,48,49,50,51,52,53,54,55,56,57,58,59,60,61,62,63,64,65] ?_;refine tk 15 103 [16,31,32,33,34,35,36,37,38,39,40,41,42,43,44,45,46,47,48,49,50,51,52,53,54,55,56,57,58,59,60,61,62,63,64,65] ?_;refine tk 16 104 [31,32,33,34,35,36,37,38,39,40,41,42,43,44,45,46,47,48,49,50,51,52,53,54,55,56,57,58,59,60,61,62,63,64,65] ?_;refine tk 17 105 [18,30,31,32,33,34,35,36,37,38,39,40,41,42,43,44,45,46,47,48,49,50,51,52,53,54,55,56,57,58,59,60,61,62,63,64,65] ?_;refine tk 18 106 [30,31,32,33,34,35,36,37,38,39,40,41,42,43,44,45,46,47,48,49,50,51,52,53,54,55,56,57,58,59,60,61,62,63,64,65] ?_;refine tk 19 107 [20,22,23,30,31,32,33,34,35,36,37,38,39,40,41,42,43,44,45,46,47,48,49,50,51,52,53,54,55,56,57,58,59,60,61,62,63,64,65] ?_;refine tk 20 108 [22,23,30,31,32,33,34,35,36,37,38,39,40,41,42,43,44,45,46,47,48,49,50,51,52,53,54,55,56,57,58,59,60,61,62,63,64,65] ?_;refine tk 21 109 [22,23,30,31,32,33,34,35,36,37,38,39,40,41,42,43,44,45,46,47,48,49,50,51,52,53,54,55,56,57,58,59,60,61,62,63,64,65] ?_;refine tk 22 110 [23,30,31,32,33,34,35,36,37,38,39,40,41,42,43,44,45,46,47,48,49,50,51,52,53,54,55,56,57,58,59,60,61,62,63,64,65] ?_;refine tk 23 111 [30,31,32,33,34,35,36,37,38,39,40,41,42,43,44,45,46,47,48,49,50,51,52,53,54,55,56,57,58,59,60,61,62,63,64,65] ?_;refine tk 24 112 [25,28,29,30,31,32,33,34,35,36,37,38,39,40,41,42,43,44,45,46,47,48,49,50,51,52,53,54,55,56,57,58,59,60,61,62,63,64,65] ?_;refine tk 25 113 [28,29,30,31,32,33,34,35,36,37,38,39,40,41,42,43,44,45,46,47,48,49,50,51,52,53,54,55,56,57,58,59,60,61,62,63,64,65] ?_;refine tk 26 114 [27,28,29,30,31,32,33,34,35,36,37,38,39,40,41,42,43,44,45,46,47,48,49,50,51,52,53,54,55,56,57,58,59,60,61,62,63,64,65] ?_;refine tk 27 115 [28,29,30,31,32,33,34,35,36,37,38,39,40,41,42,43,44,45,46,47,48,49,50,51,52,53,54,55,56,57,58,59,60,61,62,63,64,65] ?_;refine tk 28 116 [29,30,31,32,33,34,35,36,37,38,39,40,41,42,43,44,45,46,47,48,49,50,51,52,53,54,55,56,57,58,59,60,61,62,63,64,65] ?_;refine tk 29 117 [30,31,32,33,34,35,36,37,38,39,40,41,42,43,44,45,46,47,48,49,50,51,52,53,54,55,56,57,58,59,60,61,62,63,64,65] ?_;refine tk 30 118 [31,32,33,34,35,36,37,38,39,40,41,42,43,44,45,46,47,48,49,50,51,52,53,54,55,56,57,58,59,60,61,62,63,64,65] ?_;refine stj 31 (h:=fun K hK=>?_);go_simp;refine(HKI _).out.mono ?_;rintro o w8 ⟨rfl,b8⟩;go_simp;refine hK.out _ _ (Or.inr zbh) ?_;clear hK K
          try simp only[List.setIfInBounds_toArray,List.set_cons_zero,List.set_cons_succ]
          refine tk 32 120 [33,34,35,36,37,38,39,40,41,42,43,44,45,46,47,48,49,50,51,52,53,54,55,56,57,58,59,60,61,62,63,64,65] ?_;refine tk 33 121 [34,35,36,37,38,39,40,41,42,43,44,45,46,47,48,49,50,51,52,53,54,55,56,57,58,59,60,61,62,63,64,65] ?_;refine tk 34 122 [35,47,62,63,64,65] ?_;refine tk 35 123 [47,62,63,64,65] ?_;refine tk 36 124 [37,39,40,47,62,63,64,65] ?_;refine tk 37 125 [39,40,47,62,63,64,65] ?_;refine tk 38 126 [39,40,47,62,63,64,65] ?_;refine tk 39 127 [40,47,62,63,64,65] ?_;refine tk 40 128 [47,62,63,64,65] ?_;refine tk 41 129 [42,45,46,47,62,63,64,65] ?_;refine tk 42 130 [45,46,47,62,63,64,65] ?_;refine tk 43 131 [44,45,46,47,62,63,64,65] ?_;refine tk 44 132 [45,46,47,62,63,64,65] ?_;refine tk 45 133 [46,47,62,63,64,65] ?_;refine tk 46 134 [47,62,63,64,65] ?_;refine tk 47 135 [62,63,64,65] ?_;refine tk 48 136 [49,61,62,63,64,65] ?_;refine tk 49 137 [61,62,63,64,65] ?_;refine tk 50 138 [51,53,54,61,62,63,64,65] ?_;refine tk 51 139 [53,54,61,62,63,64,65] ?_;refine tk 52 140 [53,54,61,62,63,64,65] ?_;refine tk 53 141 [54,61,62,63,64,65] ?_;refine tk 54 142 [61,62,63,64,65] ?_;refine tk 55 143 [56,59,60,61,62,63,64,65] ?_;refine tk 56 144 [59,60,61,62,63,64,65] ?_;refine tk 57 145 [58,59,60,61,62,63,64,65] ?_;refine tk 58 146 [59,60,61,62,63,64,65] ?_;refine tk 59 147 [60,61,62,63,64,65] ?_;refine tk 60 148 [61,62,63,64,65] ?_;refine tk 61 149 [62,63,64,65] ?_;refine stj 62 (h:=fun K hK=>?_);go_simp;refine(HKV _).out.mono ?_;rintro o w9 ⟨rfl,b9⟩;go_simp;refine hK.out _ _ (Or.inr zbh) ?_;clear hK K
          try simp only[List.setIfInBounds_toArray,List.set_cons_zero,List.set_cons_succ]
          refine tk 63 151 [64,65] ?_;refine tk 64 152 [65] ?_;refine tk 65 153 [] ?_;refine enj (by kernel_rfl) ?_ _;go_wp2_with fail;go_roundw
          case rel=>exact⟨j+1,by omega,by go_num,⟨zbh⟩⟩
          case measure=>simp[intOf];omega
    · have hjk:j=k:=(by omega);go_wp2_with fail;refine(HAW _).out.mono ?_;rintro o w7 ⟨rfl,b7⟩;go_wp2_with fail;go_ret;exact⟨rfl,⟨zbh⟩⟩
theorem uuntlaw_all(w:World)(hT:Tab w)(a:Option Addr)(n0 cap:Nat)(L:Nat→Nat)(hL:Fls w a n0 cap L)(n style kind:Int)(za:Option Addr)(zn zc:Nat)(zf:Nat→Bool)(hZ:Bls w za zn zc zf):Calls Tryz.prog 9 #[.slice a n0 cap,.int .i64 n,.int .i64 style,.int .i64 kind,.slice za zn zc] w fun o w'=>o=.returned (.bool true)∧Below w.heap.size w w':=by
 haveI:Tb w:=⟨hT⟩;haveI:FZ w a n0 cap L:=⟨hL⟩;haveI:BZ w za zn zc zf:=⟨hZ⟩;exact(uuntlaw_any w a n0 cap L n style kind za zn zc zf).mono fun _ _ h=>⟨h.1,h.2.out⟩
end Go.Proofs.YtmbkgapknoammaaGreatDoor

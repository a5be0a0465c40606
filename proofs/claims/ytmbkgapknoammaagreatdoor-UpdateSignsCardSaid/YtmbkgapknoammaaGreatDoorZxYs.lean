/-
  Walks: the law UpdateSigns.
-/
import Derived.WalkKit
import Derived.Lib.Hide
import Derived.Deep.QuietTactic
import Derived.Laws.CopyOwn
import Derived.WalkLawsBesides
import Derived.WalkSpells
import Derived.BigQuiet
import Derived.Lib.Strings
import Derived.Lib.Slices
import Derived.Lib.Small
import Derived.Lib.Walk
import Derived.Lib.BitFns
import Derived.Deep.DeepCutAuto
import Derived.Deep.CutBlock
import Derived.Deep.LoopGhost
import Derived.Deep.RegionHeld3
import Derived.ProofKit
import Derived.OpenShut
import Derived.Carry
import Derived.Laws.LoneSync
import Derived.Deep.DeepHandedRow
import Derived.Lib.LaidTab
import Derived.Deep.RegionWith
import Derived.Maps.AppendAt
import Derived.Deep.AppendLies
import Derived.Deep.RegionLaw
import Derived.Deep.OwnRows
import Derived.Maps.OwnOps
import Derived.Maps.Views
import Derived.Deep.Grids
import Derived.Test.YtmbkgapknoammaaGreatDoorZuBL
import Derived.Test.YtmbkgapknoammaaGreatDoorZuBa
import Derived.Test.YtmbkgapknoammaaGreatDoorZuBag
import Derived.Test.YtmbkgapknoammaaGreatDoorZuBb
import Derived.Test.YtmbkgapknoammaaGreatDoorZuBc
import Derived.Test.YtmbkgapknoammaaGreatDoorZuBd
import Derived.Test.YtmbkgapknoammaaGreatDoorZuBe
import Derived.Test.YtmbkgapknoammaaGreatDoorZuBf
import Derived.Test.YtmbkgapknoammaaGreatDoorZuBh
import Derived.Test.YtmbkgapknoammaaGreatDoorZuCm
import Derived.Test.YtmbkgapknoammaaGreatDoorZuEc
import Derived.Test.YtmbkgapknoammaaGreatDoorZuEe
import Derived.Test.YtmbkgapknoammaaGreatDoorZuEf
import Derived.Test.YtmbkgapknoammaaGreatDoorZuEk
import Derived.Test.YtmbkgapknoammaaGreatDoorZuEm
import Derived.Test.YtmbkgapknoammaaGreatDoorZuEs
import Derived.Test.YtmbkgapknoammaaGreatDoorZuEw
import Derived.Test.YtmbkgapknoammaaGreatDoorZuEz
import Derived.Test.YtmbkgapknoammaaGreatDoorZuFP
import Derived.Test.YtmbkgapknoammaaGreatDoorZuGi
import Derived.Test.YtmbkgapknoammaaGreatDoorZuGo
import Derived.Test.YtmbkgapknoammaaGreatDoorZuGq
import Derived.Test.YtmbkgapknoammaaGreatDoorZuGr
import Derived.Test.YtmbkgapknoammaaGreatDoorZuGt
import Derived.Test.YtmbkgapknoammaaGreatDoorZuIP
import Derived.Test.YtmbkgapknoammaaGreatDoorZuKs
import Derived.Test.YtmbkgapknoammaaGreatDoorZuKw
import Derived.Test.YtmbkgapknoammaaGreatDoorZuNd
import Derived.Test.YtmbkgapknoammaaGreatDoorZuOpen
import Derived.Test.YtmbkgapknoammaaGreatDoorZuPFa
import Derived.Test.YtmbkgapknoammaaGreatDoorZuPFb
import Derived.Test.YtmbkgapknoammaaGreatDoorZuPFc
import Derived.Test.YtmbkgapknoammaaGreatDoorZuPo
import Derived.Test.YtmbkgapknoammaaGreatDoorZuPp
import Derived.Test.YtmbkgapknoammaaGreatDoorZuPr
import Derived.Test.YtmbkgapknoammaaGreatDoorZuPz
import Derived.Test.YtmbkgapknoammaaGreatDoorZuQn
import Derived.Test.YtmbkgapknoammaaGreatDoorZuRa
import Derived.Test.YtmbkgapknoammaaGreatDoorZuRj
import Derived.Test.YtmbkgapknoammaaGreatDoorZuRp
import Derived.Test.YtmbkgapknoammaaGreatDoorZuRz
import Derived.Test.YtmbkgapknoammaaGreatDoorZuRzd
import Derived.Test.YtmbkgapknoammaaGreatDoorZuS3
import Derived.Test.YtmbkgapknoammaaGreatDoorZuTj
import Derived.Test.YtmbkgapknoammaaGreatDoorZuYa
import Derived.Test.YtmbkgapknoammaaGreatDoorZuYe
import Derived.Test.YtmbkgapknoammaaGreatDoorZuYg
import Derived.Test.YtmbkgapknoammaaGreatDoorZuYi
import Derived.Test.YtmbkgapknoammaaGreatDoorZuYl
set_option maxRecDepth 100000
set_option maxHeartbeats 20000000
namespace Go.Proofs.YtmbkgapknoammaaGreatDoor
open Go.RowKit Sp
end Go.Proofs.YtmbkgapknoammaaGreatDoor
namespace Go.Proofs.YtmbkgapknoammaaGreatDoor
open Go.RowKit Sp
theorem dmul_comm(a b:Option (Int×Int)):zAO a b=zAO b a:=by
 unfold zAO
 cases a <;> cases b <;> try rfl
 rename_i p q;obtain⟨m,e⟩:=p;obtain⟨n,f⟩:=q;show nrm _ (e+f)=nrm _ (f+e);rw[Int.mul_comm,Int.add_comm]
end Go.Proofs.YtmbkgapknoammaaGreatDoor
namespace Go.Proofs.YtmbkgapknoammaaGreatDoor
open Go.RowKit Sp
def fneg(f:Nat):Nat:=if zLh f then zK1 else zBE (!fS f) (fM f)
theorem fM_lt(f:Nat):fM f<9223372036854775808:=Nat.mod_lt _ (by decide)
theorem fsgn_self{f:Nat}(h:f<18446744073709551616):zBE (fS f) (fM f)=f:=by
 unfold zBE fS fM;by_cases hs:9223372036854775808≤f <;> simp[hs] <;> omega
end Go.Proofs.YtmbkgapknoammaaGreatDoor
namespace Go.Proofs.YtmbkgapknoammaaGreatDoor
open Go.RowKit Sp
end Go.Proofs.YtmbkgapknoammaaGreatDoor
namespace Go.Proofs.YtmbkgapknoammaaGreatDoor
open Go.RowKit Sp
end Go.Proofs.YtmbkgapknoammaaGreatDoor
namespace Go.Proofs.YtmbkgapknoammaaGreatDoor
open Go.RowKit Sp
theorem fz_fneg{f:Nat}(h:zAA f=true):zAA (fneg f)=true∧fz (fneg f)= -fz f:=by
 have hlt:fM f<9218868437227405312:=by unfold zAA at h;simpa using h
 have hn:zLh f=false:=by unfold zLh;simp;omega
 unfold fneg;rw[hn];have:=zD7 (s:=!fS f) hlt;refine⟨this.1,?_⟩;rw[if_neg (by decide),this.2];unfold fz;exact zI7 _ _
end Go.Proofs.YtmbkgapknoammaaGreatDoor
namespace Go.Proofs.YtmbkgapknoammaaGreatDoor
open Go.RowKit Sp
end Go.Proofs.YtmbkgapknoammaaGreatDoor
namespace Go.Proofs.YtmbkgapknoammaaGreatDoor
open Go.RowKit Sp
theorem fneg_nan{f:Nat}(h:zLh f=true):fneg f=zK1:=by unfold fneg;rw[if_pos h]
theorem fneg_lt(f:Nat):fneg f<18446744073709551616:=by
 unfold fneg;split
 · decide
 · exact zNe (fM_lt f)
def fopp(mode:Int):Int:=if mode=1 then 2 else if mode=2 then 1 else mode
theorem raw_opp(s:Bool)(n:Nat)(c:Int)(ex:Bool)(mode:Int):raw (!s) n c ex (fopp mode)=raw s n c ex mode:=by
 unfold raw fopp
 by_cases h1:mode=1
 · subst h1;simp
 · by_cases h2:mode=2
   · subst h2;simp
   · simp[h1,h2]
theorem fcode_opp(s:Bool)(X:Nat)(E:Int)(more:Bool)(mode:Int):zNp (!s) X E more (fopp mode)=zNp s X E more mode:=by
 unfold zNp zGh rax;rw[raw_opp]
theorem fsgn_neg{s:Bool}{c:Nat}(h:c≤9218868437227405312):fneg (zBE s c)=zBE (!s) c:=by
 have k1:=zDp (s:=s) (c:=c) (by omega);have k2:=zE8 (s:=s) (c:=c) (by omega);have hn:zLh (zBE s c)=false:=by unfold zLh;rw[k1];simp;omega
 unfold fneg;rw[if_neg (by rw[hn];decide),k1,k2]
theorem fover_opp(s:Bool)(mode:Int):zCd (!s) (fopp mode)=fneg (zCd s mode):=by
 unfold zCd fopp
 by_cases h1:mode=1
 · subst h1;cases s <;> decide
 · by_cases h2:mode=2
   · subst h2;cases s <;> decide
   · simp only[h1,h2,if_false,false_and,or_false]
     by_cases h3:mode=3
     · rw[if_pos h3,if_pos h3];cases s <;> decide
     · rw[if_neg h3,if_neg h3];cases s <;> decide
theorem frnd_opp(s:Bool)(X:Nat)(E:Int)(more:Bool)(mode:Int):zCg (!s) X E more (fopp mode)=fneg (zCg s X E more mode):=by
 unfold zCg;rw[fcode_opp];generalize zNp s X E more mode=c;unfold zDt
 by_cases h:zE9≤c
 · rw[if_pos h,if_pos h];exact fover_opp s mode
 · rw[if_neg h,if_neg h,fsgn_neg (by unfold zE9 at h;omega)]
theorem dec_neg{m:Int}(h:m≠0):decide (-m<0)=!decide (m<0):=by
 by_cases h1:m<0
 · simp[h1];omega
 · simp[h1];omega
theorem fneg_kinds(a:Nat):zLh (fneg a)=zLh a∧(zLh a=false→zRV (fneg a)=zRV a∧zB0 (fneg a)=zB0 a∧zAA (fneg a)=zAA a∧fS (fneg a)=!fS a∧fM (fneg a)=fM a):=by
 have h2:=fM_lt a;have k1:=zDp (s:=!fS a) h2;have k2:=zE8 (s:=!fS a) h2
 cases hn:zLh a with
 | true=>rw[fneg_nan hn];exact⟨by decide,by simp⟩
 | false=>
  have e:fneg a=zBE (!fS a) (fM a):=by unfold fneg;rw[if_neg (by rw[hn];decide)]
  rw[e];refine⟨by unfold zLh at hn ⊢;rw[k1];exact hn,fun _=>⟨?_,?_,?_,k2,k1⟩⟩
  · unfold zRV;rw[k1]
  · unfold zB0;rw[k1]
  · unfold zAA;rw[k1]
theorem fof_fneg{a:Nat}(h:zAA a=true):fof (fneg a)=zEt (fof a):=by
 have k:=fz_fneg h;rw[zCA k.1,zCA h,k.2,zGE _ _ (zDG h)]
end Go.Proofs.YtmbkgapknoammaaGreatDoor
namespace Go.Proofs.YtmbkgapknoammaaGreatDoor
open Go.RowKit Sp
end Go.Proofs.YtmbkgapknoammaaGreatDoor
namespace Go.Proofs.YtmbkgapknoammaaGreatDoor
open Go.RowKit Sp
theorem nat_join63{c:Nat}(h:c<9223372036854775808):c ^^^ 9223372036854775808=c+9223372036854775808:=by
 have e:(9223372036854775808:Nat)=2^63:=by decide
 rw[e,Nat.add_comm c];apply Nat.eq_of_testBit_eq;intro i;rw[Nat.testBit_xor,Nat.testBit_two_pow];rcases Nat.lt_trichotomy i 63 with hi | hi | hi
 · rw[Nat.testBit_two_pow_add_gt hi,decide_eq_false (by omega),Bool.xor_false]
 · subst hi;rw[Nat.testBit_two_pow_add_eq,decide_eq_true rfl,Bool.xor_true]
 · have h1:2^64≤2^i:=Nat.pow_le_pow_right (by decide) hi;rw[Nat.testBit_lt_two_pow (show c<2^i by omega),Nat.testBit_lt_two_pow (show 2^63+c<2^i by omega),decide_eq_false (by omega)];rfl
theorem bits_xor_sign{f:Nat}(h:f<18446744073709551616):Go.bits .xor .u64 (f:Int) 9223372036854775808=((zBE (!fS f) (fM f):Nat):Int):=by
 have h1:=u64_xor_nat f 9223372036854775808 h (by decide);refine Eq.trans h1 (congrArg _ ?_);have e:=fsgn_self h;have hM:=fM_lt f;generalize fM f=g at *
 cases hs:fS f with
 | false=>rw[hs]at e;have e:g=f:=e;rw[←e,nat_join63 hM];rfl
 | true=>
  rw[hs]at e;have e:g+9223372036854775808=f:=e;rw[←e,←nat_join63 hM,Nat.xor_assoc,Nat.xor_self,Nat.xor_zero];rfl
end Go.Proofs.YtmbkgapknoammaaGreatDoor
namespace Go.Proofs.YtmbkgapknoammaaGreatDoor
open Go.RowKit Sp
end Go.Proofs.YtmbkgapknoammaaGreatDoor
namespace Go.Proofs.YtmbkgapknoammaaGreatDoor
open Go.RowKit Sp
theorem fkind_B(f:Nat):zFi f=bif (((fE f:Nat):Int)==2047)then(bif (((fR f:Nat):Int)==0)then 2 else 3)else bif (((fE f:Nat):Int)==0)then(bif (((fR f:Nat):Int)==0)then 0 else 1)else 1:=by
 rw[zJY];have a1:(((fE f:Nat):Int)==2047)=decide (fE f=2047):=by rw[Bool.eq_iff_iff];simp;omega
 have a2:(((fE f:Nat):Int)==0)=decide (fE f=0):=by rw[Bool.eq_iff_iff];simp
 have a3:(((fR f:Nat):Int)==0)=decide (fR f=0):=by rw[Bool.eq_iff_iff];simp
 rw[a1,a2,a3]
 by_cases a:fE f=2047 <;> by_cases b:fR f=0 <;> by_cases c:fE f=0 <;> simp[a,b,c] <;> omega
theorem rkind_any(w:World)(f:Nat):Calls Tryz.prog 41 #[.int .u64 f] w fun e w'=>e=.returned (.int .i64 (zFi f))∧w=w':=by
 have h1:=zKh f;have h2:=zNZ f;have hk:=fkind_B f;generalize zFi f=k at *;generalize ((fE f:Nat):Int)=E at *;generalize ((fR f:Nat):Int)=R at *;have a4:(R != 0)=!(R==0):=rfl
 cases ha:(E==2047) <;> cases hb:(R==0) <;> cases hc:(E==0) <;> rw[hb]at a4 <;> rw[ha,hb,hc]at hk <;> simp only[cond_true,cond_false,Bool.not_true,Bool.not_false]at hk a4 <;> subst hk <;>
 · go_enter Tryz.func41,Tryz.ntmps41
   go_wp2
   go_ret;exact⟨rfl,rfl⟩
theorem rnan_any(w:World)(f:Nat):Calls Tryz.prog 40 #[.int .u64 f] w fun e w'=>e=.returned (.bool (zLh f))∧w=w':=by
 have HP:=fun W=>Lib.hid (rkind_any W f);have hk:=(zFh f).1;generalize zFi f=k at *;go_enter Tryz.func40,Tryz.ntmps40;go_wp2_with fail;refine(HP _).out.mono ?_;rintro e w1 ⟨rfl,rfl⟩;go_wp2_with fail;go_ret;exact⟨by simp,rfl⟩
theorem r3neg_any(w:World)(f:Nat)(hf:f<18446744073709551616):Calls Tryz.prog 19 #[.int .u64 f] w fun e w'=>e=.returned (.int .u64 (fneg f:Nat))∧w=w':=by
 have h1:=bits_xor_sign hf;have HN:=fun W=>Lib.hid (rnan_any W f)
 cases hn:zLh f with
 | true=>
  rw[hn]at HN;have hv:fneg f=zK1:=by unfold fneg;rw[if_pos hn]
  have hv:((fneg f:Nat):Int)=9221120237041090560:=by rw[hv];rfl
  generalize ((fneg f:Nat):Int)=v at *;go_enter Tryz.func19,Tryz.ntmps19;go_wp2_with fail;refine(HN _).out.mono ?_;rintro e w1 ⟨rfl,rfl⟩;go_wp2_with fail;go_ret;exact⟨by rw[hv];rfl,rfl⟩
 | false=>
  rw[hn]at HN;have hv:fneg f=zBE (!fS f) (fM f):=by unfold fneg;rw[if_neg (by rw[hn];decide)]
  rw[←hv]at h1;generalize ((fneg f:Nat):Int)=v at *;clear hv;go_enter Tryz.func19,Tryz.ntmps19;go_wp2_with fail;refine(HN _).out.mono ?_;rintro e w1 ⟨rfl,rfl⟩;go_wp2_with fail;go_ret;exact⟨by rw[←h1];rfl,rfl⟩
end Go.Proofs.YtmbkgapknoammaaGreatDoor
namespace Go.Proofs.YtmbkgapknoammaaGreatDoor
open Go.RowKit Sp
end Go.Proofs.YtmbkgapknoammaaGreatDoor
namespace Go.Proofs.YtmbkgapknoammaaGreatDoor
open Go.RowKit Sp
end Go.Proofs.YtmbkgapknoammaaGreatDoor
namespace Go.Proofs.YtmbkgapknoammaaGreatDoor
open Go.RowKit Sp
attribute [local irreducible] Calls
end Go.Proofs.YtmbkgapknoammaaGreatDoor
namespace Go.Proofs.YtmbkgapknoammaaGreatDoor
open Go.RowKit Sp
end Go.Proofs.YtmbkgapknoammaaGreatDoor
namespace Go.Proofs.YtmbkgapknoammaaGreatDoor
open Go.RowKit Sp
section
variable {n:Nat}{S I V:Nat→Nat}{minus:Bool}{x0:Nat→Nat}
theorem uIn_none(h:∀i,zB0 (x0 i)=true):∀k i,uIn S I V x0 k i=false
 | 0,i=>by show(!zB0 (x0 i))=false;rw[h];rfl
 | k+1,i=>by show(uIn S I V x0 k i||(uIn S I V x0 k k&&_))=false;rw[uIn_none h k i,uIn_none h k k];rfl
theorem uErr_none(h:∀i,zB0 (x0 i)=true):zS3 n S I V minus x0=0:=
 zCo n 0 fun t _ _=>by unfold uE;rw[uIn_none h];rfl
theorem range_cut{α:Type}(f:Nat→α)(a b:Nat):(List.range a).map f++(List.range b).map (fun t=>f (a+t))=(List.range (a+b)).map f:=by
 rw[List.range_add,List.map_append,List.map_map];rfl
theorem outI_none(h:∀i,zB0 (x0 i)=true)(h0:S 0=0)(hm:∀j,j<n→S j≤S (j+1)):∀k,k≤n→zB7 n S I V x0 k=(List.range (S k)).map I∧zJp n S I V minus x0 k=(List.range (S k)).map V
 | 0,_=>by rw[h0];exact⟨rfl,rfl⟩
 | k+1,hk=>by
  obtain⟨h1,h2⟩:=outI_none h h0 hm k (by omega);have h3:=hm k (by omega);have e1:S (k+1)=S k+(S (k+1)-S k):=by omega
  constructor
  · show zB7 n S I V x0 k++zI3 n S I V x0 k=_;unfold zI3;rw[uIn_none h,if_neg Bool.false_ne_true,h1,range_cut,←e1]
  · show zJp n S I V minus x0 k++zNN n S I V minus x0 k=_;unfold zNN;rw[uIn_none h,if_neg Bool.false_ne_true,h2,range_cut,←e1]
end
end Go.Proofs.YtmbkgapknoammaaGreatDoor
namespace Go.Proofs.YtmbkgapknoammaaGreatDoor
open Go.RowKit Sp
theorem nrm_opp(M E:Int):nrm (-M) E=zEt (nrm M E):=by
 cases h:nrm M E with
 | some p=>rw[←h,zGE M E (by rw[h];exact Option.some_ne_none p)]
 | none=>
  cases k:nrm (-M) E with
  | none=>rfl
  | some q=>
   have:=zDA (M:= -M) (E:=E) (by rw[k];exact Option.some_ne_none q);rw[Int.neg_neg]at this;exact absurd h this
theorem dmul_nn(a b:Option (Int×Int)):zAO (zEt a) (zEt b)=zAO a b:=by
 cases a with
 | none=>rfl
 | some p=>cases b with
  | none=>rfl
  | some q=>obtain⟨m,e⟩:=p;obtain⟨m',e'⟩:=q;show nrm (-m* -m') (e+e')=nrm (m*m') (e+e');rw[Int.neg_mul_neg]
theorem dmul_nl(a b:Option (Int×Int)):zAO (zEt a) b=zEt (zAO a b):=by
 cases a with
 | none=>rfl
 | some p=>cases b with
  | none=>rfl
  | some q=>obtain⟨m,e⟩:=p;obtain⟨m',e'⟩:=q;show nrm (-m*m') (e+e')=zEt (nrm (m*m') (e+e'));rw[Int.neg_mul,nrm_opp]
theorem dmul_nr(a b:Option (Int×Int)):zAO a (zEt b)=zEt (zAO a b):=by rw[dmul_comm,dmul_nl,dmul_comm]
theorem dadd_nn(a b:Option (Int×Int)):zI2 (zEt a) (zEt b)=zEt (zI2 a b):=by
 cases a with
 | none=>rfl
 | some p=>cases b with
  | none=>rfl
  | some q=>
   obtain⟨m,e⟩:=p;obtain⟨m',e'⟩:=q;show nrm (up (-m) e (min e e')+up (-m') e' (min e e')) (min e e')=zEt (nrm (up m e (min e e')+up m' e' (min e e')) (min e e'));rw[←nrm_opp];unfold up;rw[Int.neg_mul,Int.neg_mul,←Int.neg_add]
def Opp(x y:Nat):Prop:=zB0 y=zB0 x∧zAA y=zAA x∧fof y=zEt (fof x)
theorem fneg_opp(x:Nat):Opp x (fneg x):=by
 cases hn:zLh x with
 | true=>
  have h1:fM x>9218868437227405312:=by unfold zLh at hn;simpa using hn
  have e:=fneg_nan hn;have f1:zAA x=false:=by unfold zAA;rw[decide_eq_false (by omega)]
  have f2:zB0 x=false:=by unfold zB0;rw[decide_eq_false (by omega)]
  rw[e];exact⟨by rw[f2];decide,by rw[f1];decide,by rw[zNi f1,zNi (by decide)];rfl⟩
 | false=>
  obtain⟨_,hz,hf,_,_⟩:=(fneg_kinds x).2 hn;refine⟨hz,hf,?_⟩
  cases hx:zAA x with
  | true=>exact fof_fneg hx
  | false=>rw[zNi hx,zNi (by rw[hf,hx])];rfl
theorem fquo_negl{d d':Option (Int×Int)}(h:zA1 d≠0)(h':zA1 d'≠0):zEH (zEt d) d' 0=fneg (zEH d d' 0):=by
 cases d with
 | none=>exact absurd rfl h
 | some p=>
 cases d' with
 | none=>exact absurd rfl h'
 | some p'=>
  obtain⟨a,e⟩:=p;obtain⟨b,f⟩:=p';have h0:a≠0:=h;have h1:b≠0:=h';show zEH (some (-a,e)) (some (b,f)) _=_;unfold zEH;simp only;rw[if_neg h1,if_neg (by omega),if_neg h1,if_neg h0];have e1:qsh (-a) b 56=qsh a b 56:=by unfold qsh;rw[Int.natAbs_neg]
  rw[e1,Int.natAbs_neg,dec_neg h0];have e2:((!decide (a<0)) != decide (b<0))=!(decide (a<0) != decide (b<0)):=by cases decide (a<0) <;> cases decide (b<0) <;> rfl
  rw[e2];exact frnd_opp _ _ _ _ 0
theorem quo_opp(d d':Option (Int×Int)):Opp (zEH d d' 0) (zEH (zEt d) d' 0):=by
 by_cases h:zA1 d=0
 · cases d with
   | none=>exact⟨rfl,rfl,by show fof zK1=zEt (fof zK1);rw[zNi (by decide)];rfl⟩
   | some p=>
    obtain⟨a,e⟩:=p;obtain rfl:a=0:=h;show Opp _ (zEH (some (-0,e)) d' 0);rw[Int.neg_zero];refine⟨rfl,rfl,?_⟩
    cases d' with
    | none=>show fof zK1=zEt (fof zK1);rw[zNi (by decide)];rfl
    | some q=>
     obtain⟨b,f⟩:=q
     by_cases hb:b=0
     · have e1:zEH (some (0,e)) (some (b,f)) 0=zK1:=by
        show(if b=0 then zK1 else _)=zK1;rw[if_pos hb]
       rw[e1,zNi (by decide)];rfl
     · have e1:zEH (some (0,e)) (some (b,f)) 0=0:=by
        show(if b=0 then zK1 else if(0:Int)=0 then 0 else _)=0;rw[if_neg hb,if_pos rfl]
       rw[e1];decide
 · by_cases h':zA1 d'=0
   · have e1:∀x,zEH x d' 0=zK1:=fun x=>by
      cases d' with
      | none=>cases x <;> rfl
      | some q=>
       obtain⟨b,f⟩:=q;obtain rfl:b=0:=h'
       cases x with
       | none=>rfl
       | some r=>
        obtain⟨a,e⟩:=r;unfold zEH;simp
     rw[e1,e1];exact⟨rfl,rfl,by rw[zNi (by decide)];rfl⟩
   · rw[fquo_negl h h'];exact fneg_opp _
theorem uD_opp{minus:Bool}{p q q':Nat}(h:Opp q q'):uD minus p q'=uD minus p q:=by unfold uD;rw[h.2.2,dmul_nn]
theorem uG_opp{minus:Bool}{p q q':Nat}(h:Opp q q'):uG minus p q'=uG minus p q:=by unfold uG;rw[uD_opp h]
theorem uL_opp{minus:Bool}{p q q' l y y':Nat}(h:Opp q q')(k:Opp y y'):uL minus p q' l y'=uL minus p q l y:=by unfold uL;rw[uG_opp h,h.2.2,k.2.2,dmul_nn]
theorem uY_opp{minus:Bool}{p q q' l y y':Nat}(h:Opp q q')(k:Opp y y'):Opp (uY minus p q l y) (uY minus p q' l y'):=by
 unfold uY zOf;rw[uG_opp h,h.2.2,k.2.2,dmul_nr,dmul_nl,dadd_nn];exact quo_opp _ _
section
variable {n:Nat}{S I V:Nat→Nat}{minus:Bool}{x y:Nat→Nat}
theorem uIn_opp(h:∀i,Opp (x i) (y i)):∀k,uIn S I V y k=uIn S I V x k
 | 0=>by funext i;show(!zB0 (y i))=!zB0 (x i);rw[(h i).1]
 | k+1=>by funext i;show(uIn S I V y k i||(uIn S I V y k k&&_))=_;rw[uIn_opp h k];rfl
theorem uX_opp(h:∀i,Opp (x i) (y i)):∀k i,Opp (uX S I V minus x k i) (uX S I V minus y k i)
 | 0,i=>h i
 | k+1,i=>by
  unfold uX;rw[uIn_opp h k,uIn_opp h (k+1)]
  split
  · exact uY_opp (uX_opp h k k) (uX_opp h k i)
  · exact uX_opp h k i
theorem uV_opp(h:∀i,Opp (x i) (y i))(k i:Nat):uV S I V minus y k i=uV S I V minus x k i:=by
 unfold uV;rw[uG_opp (uX_opp h k k),uL_opp (uX_opp h k k) (uX_opp h k i)]
theorem uErr_opp(h:∀i,Opp (x i) (y i)):zS3 n S I V minus y=zS3 n S I V minus x:=by
 have hC:uC S I V minus y=uC S I V minus x:=by
  funext k i
  unfold uC;rw[uV_opp h k k,uV_opp h k i,uD_opp (uX_opp h k k),uIn_opp h (k+1),(uX_opp h (k+1) i).2.1]
 have hE:uE n S I V minus y=uE n S I V minus x:=by funext k;unfold uE;rw[uIn_opp h k,hC]
 unfold zS3;rw[hE]
theorem outI_opp(h:∀i,Opp (x i) (y i)):∀k,zB7 n S I V y k=zB7 n S I V x k∧zJp n S I V minus y k=zJp n S I V minus x k
 | 0=>⟨rfl,rfl⟩
 | k+1=>by
  obtain⟨h1,h2⟩:=outI_opp h k;have hr:zT1 S I V y k n=zT1 S I V x k n:=by unfold zT1;rw[uIn_opp h (k+1)]
  constructor
  · show zB7 n S I V y k++zI3 n S I V y k=_;unfold zI3;rw[h1,uIn_opp h k,hr];rfl
  · show zJp n S I V minus y k++zNN n S I V minus y k=_;unfold zNN;rw[h2,uIn_opp h k,hr,show uV S I V minus y k=uV S I V minus x k from funext fun i=>uV_opp h k i];rfl
end
end Go.Proofs.YtmbkgapknoammaaGreatDoor
namespace Go.Proofs.YtmbkgapknoammaaGreatDoor
open Go.RowKit Sp
attribute [local irreducible] Calls
theorem kfl_any(w:World)(a a':Option Addr)(n c c':Nat)(L L':Nat→Nat)[hx:FZ w a n c L][hy:FZ w a' n c' L'](he:∀i,i<n→L i=L' i):Calls Tryz.prog 33 #[.slice a n c,.slice a' n c'] w fun o w'=>o=.returned (.bool true)∧From w w':=by
 have l1:=hx.out.fits;have l2:=hx.out.lim;have HE:=Lib.hid he;clear he;go_enter Tryz.func33,Tryz.ntmps33;go_wp2_with fail
 go_loopw [5] (fun x wr=>∃k:Nat,k≤n∧x=.int .i64 k∧Below w.heap.size w wr) (fun x _=>n-(intOf x).toNat)
 case atStart=>exact⟨0,by omega,rfl,Below.refl _ _⟩
 case round=>
  obtain⟨k,hk,rfl,hbr⟩:=hrel;haveI bw:From w wr:=⟨hbr⟩;clear hbr
  by_cases hlt:k<n
  · have k1:=(inferInstance:FZ wr a n c L).out;have k2:=(inferInstance:FZ wr a' n c' L').out;have i1:=k1.idx k hlt;have i2:=k2.idx k hlt;haveI z1:CE wr (ab a) (ao a+k) (.int .u64 (L k:Nat)):=⟨k1.cell k hlt,k1.old (by omega)⟩;haveI z2:CE wr (ab a') (ao a'+k) (.int .u64 (L k:Nat)):=⟨by rw[HE.out k hlt];exact k2.cell k hlt,k2.old (by omega)⟩;generalize L k=x at *;clear k1 k2;go_wp2_with fail
    go_quiet (fail)
    all_goals(
     go_wp2_with fail;go_roundw
     case rel=>exact⟨k+1,by omega,by go_num,zbh⟩
     case measure=>simp[intOf];omega)
  · obtain rfl:k=n:=(by omega);go_wp2_with fail;go_ret;exact⟨rfl,bw⟩
theorem samef_any(w:World)(aO aS aI aV aO' aS' aI' aV':Option Addr)(nO cO nS cS nI cI nV cV cO' cS' cI' cV':Nat)(O S I O' S' I':Nat→Int)(V V':Nat→Nat)[hx:FR w aO nO cO aS nS cS aI nI cI aV nV cV O S I V][hy:FR w aO' nO cO' aS' nS cS' aI' nI cI' aV' nV cV' O' S' I' V'](hO:∀i,i<nO→O i=O' i)(hS:∀i,i<nS→S i=S' i)(hI:∀i,i<nI→I i=I' i)(hV:∀i,i<nV→V i=V' i):Calls Tryz.prog 13 #[.agg #[.slice aO nO cO,.slice aS nS cS,.slice aI nI cI,.slice aV nV cV],.agg #[.slice aO' nO cO',.slice aS' nS cS',.slice aI' nI cI',.slice aV' nV cV']] w fun o w'=>o=.returned (.bool true)∧From w w':=by
 have HO:=fun W a c [IZ W aO nO a O] [IZ W aO' nO c O']=>Lib.hid (zMU W aO aO' nO a c O O' hO);have HS:=fun W a c [IZ W aS nS a S] [IZ W aS' nS c S']=>Lib.hid (zMU W aS aS' nS a c S S' hS);have HI:=fun W a c [IZ W aI nI a I] [IZ W aI' nI c I']=>Lib.hid (zMU W aI aI' nI a c I I' hI);have HV:=fun W a c [FZ W aV nV a V] [FZ W aV' nV c V']=>Lib.hid (kfl_any W aV aV' nV a c V V' hV);haveI i1:IZ w aO nO cO O:=⟨hx.o⟩;haveI i2:IZ w aO' nO cO' O':=⟨hy.o⟩;haveI i3:IZ w aS nS cS S:=⟨hx.s⟩;haveI i4:IZ w aS' nS cS' S':=⟨hy.s⟩;haveI i5:IZ w aI nI cI I:=⟨hx.i⟩;haveI i6:IZ w aI' nI cI' I':=⟨hy.i⟩;haveI i7:FZ w aV nV cV V:=⟨hx.v⟩;haveI i8:FZ w aV' nV cV' V':=⟨hy.v⟩;clear hO hS hI hV;go_enter Tryz.func13,Tryz.ntmps13;go_wp2_with fail;refine(HO _ _ _).out.mono ?_;rintro o w1 ⟨rfl,b1⟩;go_wp2_with fail;refine(HS _ _ _).out.mono ?_;rintro o w2 ⟨rfl,b2⟩;go_wp2_with fail;refine(HI _ _ _).out.mono ?_;rintro o w3 ⟨rfl,b3⟩;go_wp2_with fail;refine(HV _ _ _).out.mono ?_;rintro o w4 ⟨rfl,b4⟩;go_wp2_with fail;go_ret;exact⟨rfl,⟨zbh⟩⟩
end Go.Proofs.YtmbkgapknoammaaGreatDoor
namespace Go.Proofs.YtmbkgapknoammaaGreatDoor
open Go.RowKit Sp
attribute [local irreducible] Calls
theorem zIq{w:World}{b n:Nat}{l:List Nat}{L:Nat→Int}(h:w.ownsRow 0 3 1 (.slice (some ⟨b,0,none⟩) n n) n (zA2 l))(hL:∀t,t<n→((l.getD t 0:Nat):Int)=L t):Ils w (some ⟨b,0,none⟩) n n L:=by
 obtain⟨_,_,e,z,_⟩:=zAP h;injection e with e1 _ e3
 subst e1 e3;exact⟨z.fits,z.lim,z.addr,fun i hi=>by rw[←hL i hi];exact z.cell i hi,z.old⟩
theorem zIz{w:World}{b n:Nat}{l:List Nat}{L:Nat→Nat}(h:w.ownsRow 0 37 1 (.slice (some ⟨b,0,none⟩) n n) n (zAI l))(hL:∀t,t<n→l.getD t 0=L t)(hb:∀t,t<n→L t<18446744073709551616):Fls w (some ⟨b,0,none⟩) n n L:=by
 obtain⟨_,_,e,z,_⟩:=zD4 h fun i hi=>by rw[hL i hi];exact hb i hi
 injection e with e1 _ e3
 subst e1 e3;exact⟨z.fits,z.lim,z.addr,fun i hi=>by rw[←hL i hi];exact z.cell i hi,hb,z.old⟩
theorem zIQ(w:World)[Tb w]:Calls Tryz.prog 14 #[] w fun o w'=>o=.returned (.bool true)∧From w w':=by
 have H3:=fun W [Tb W]=>Lib.hid (show Calls Tryz.prog 39 #[.int .i64 3,.int .i64 0] W fun o w'=>o=.returned (.int .u64 4613937818241073152)∧From W w' from by
  have e:zAu (nrm 3 0) 0=4613937818241073152:=by decide +kernel
  have:=frm (zBJ W 3 0 (by decide) (by decide) tb);rwa[e]at this)
 have H4:=fun W [Tb W]=>Lib.hid (show Calls Tryz.prog 39 #[.int .i64 4,.int .i64 0] W fun o w'=>o=.returned (.int .u64 4616189618054758400)∧From W w' from by
  have e:zAu (nrm 4 0) 0=4616189618054758400:=by decide +kernel
  have:=frm (zBJ W 4 0 (by decide) (by decide) tb);rwa[e]at this)
 have H5:=fun W [Tb W]=>Lib.hid (show Calls Tryz.prog 39 #[.int .i64 5,.int .i64 0] W fun o w'=>o=.returned (.int .u64 4617315517961601024)∧From W w' from by
  have e:zAu (nrm 5 0) 0=4617315517961601024:=by decide +kernel
  have:=frm (zBJ W 5 0 (by decide) (by decide) tb);rwa[e]at this)
 have HF:FCK 1 1 (fun _=>0) (fun t=>t) (fun _=>4613937818241073152):=⟨⟨[0],List.Perm.refl _,fun k hk=>by rw[Nat.lt_one_iff.1 hk];rfl⟩,rfl,rfl,fun j _=>Nat.lt_succ_self j,fun _ _=>by decide,fun _ _=>by decide +kernel,fun _ _=>by decide +kernel⟩;have HUP:=fun W aO aS aI aV aw [Tb W] [FM W 1 1 aO 1 aS 2 aI 1 aV 1 (fun _=>0) (fun t=>t) (fun t=>(((fun _=>0:Nat→Nat) t:Nat):Int)) (fun _=>4613937818241073152)] [FZ W aw 1 1 fun _=>4616189618054758400]=>Lib.hid (zI4 W 1 1 aO aS aI aV 1 2 1 1 (fun _=>0) (fun t=>t) (fun _=>0) (fun _=>4613937818241073152) (by decide) (by decide) aw 1 1 fun _=>4616189618054758400);have HDN:=fun W aO aS aI aV aw [Tb W] [FM W 1 1 aO 1 aS 2 aI 1 aV 1 (fun _=>0) (fun t=>t) (fun t=>(((fun _=>0:Nat→Nat) t:Nat):Int)) (fun _=>4613937818241073152)] [FZ W aw 1 1 fun _=>4616189618054758400]=>Lib.hid (zG3 W 1 1 aO aS aI aV 1 2 1 1 (fun _=>0) (fun t=>t) (fun _=>0) (fun _=>4613937818241073152) (by decide) (by decide) aw 1 1 fun _=>4616189618054758400);go_enter Tryz.func14,Tryz.ntmps14;go_wp2_with fail;refine(H3 _).out.mono ?_;rintro o w1 ⟨rfl,b1⟩;go_wp2_with fail;refine(H4 _).out.mono ?_;rintro o w2 ⟨rfl,b2⟩;go_wp2_with fail;refine(H5 _).out.mono ?_;rintro o w3 ⟨rfl,b3⟩;go_wp2_with fail;have BB:=((((((Bag.nil w3).lit 3 1 [.int .i64 0] (m:=1) (n:=w3.heap.size) rfl (by decide) rfl).lit 3 1 [.int .i64 0,.int .i64 1] (m:=2) (n:=w3.heap.size+1) (by simp) (by decide) rfl).lit 3 1 [.int .i64 0] (m:=1) (n:=w3.heap.size+1+1) (by simp) (by decide) rfl).lit 37 1 [.int .u64 4613937818241073152] (m:=1) (n:=w3.heap.size+1+1+1) (by simp) (by decide) rfl).var 27 [.slice (some ⟨w3.heap.size,0,none⟩) 1 1,.slice (some ⟨w3.heap.size+1,0,none⟩) 2 2,.slice (some ⟨w3.heap.size+1+1,0,none⟩) 1 1,.slice (some ⟨w3.heap.size+1+1+1,0,none⟩) 1 1] (n:=w3.heap.size+1+1+1+1) (by simp)).lit 37 1 [.int .u64 4616189618054758400] (m:=1) (n:=w3.heap.size+1+1+1+1+1) (by simp) (by decide) rfl;have z0:=zIq (l:= [0]) (L:=fun _=>0) (BB.own 0 rfl) fun t ht=>by rw[Nat.lt_one_iff.1 ht];rfl
 have z1:=zIq (l:= [0,1]) (L:=fun t=>((t:Nat):Int)) (BB.own 1 rfl) fun t ht=>by
  rcases t with _ | _ | t
  · rfl
  · rfl
  · omega
 have z2:=zIq (l:= [0]) (L:=fun t=>(((fun _=>0:Nat→Nat) t:Nat):Int)) (BB.own 2 rfl) fun t ht=>by rw[Nat.lt_one_iff.1 ht];rfl
 have z3:=zIz (l:= [4613937818241073152]) (L:=fun _=>4613937818241073152) (BB.own 3 rfl) (fun t ht=>by rw[Nat.lt_one_iff.1 ht];rfl) fun _ _=>by decide
 have z4:=zIz (l:= [4616189618054758400]) (L:=fun _=>4616189618054758400) (BB.own 5 rfl) (fun t ht=>by rw[Nat.lt_one_iff.1 ht];rfl) fun _ _=>by decide
 haveI hFM:=FM.mk z0 z1 z2 z3 HF;haveI hFZ:FZ _ _ 1 1 (fun _=>4616189618054758400):=⟨z4⟩;have bb:=BB.fr';refine(HUP _ _ _ _ _ _).out.mono ?_;rintro o w4 (⟨hz,_⟩ | ⟨_,oO,oS,oI,oV,dO,dS,dI,dV,rfl,hB⟩)
 · exact absurd zTs hz
 rw[zTH,zTQ]at hB;rw[zTH];have e1:([0]:List Nat).length=1:=rfl;rw[e1]at hB ⊢;haveI b4:=hB.fr';have zz:Fls w4 oV 1 dV (fun t=>([4617315517961601024]:List Nat).getD t 0):=hB.at 3 rfl;haveI zc:CE w4 (ab oV) (ao oV) (.int .u64 4617315517961601024):=⟨zz.cell 0 (by omega),zz.old (by omega)⟩;have yx:∀W,(Instr.indexAt 25 (.slice oV 1 dV) (.int .i64 0)).run Tryz.prog W=.ok (.pointer (some ⟨ab oV,ao oV,none⟩)) W:=fun W=>zz.idx 0 (by omega) W;clear HUP hB zz z0 z1 z2 z3 z4 H3 H4 H5 HF BB;go_wp2_with fail;have B2:=((Bag.nil w4).var 27 [.slice oO 1 dO,.slice oS (1+1) dS,.slice oI 1 dI,.slice oV 1 dV] rfl).lit 37 1 [.int .u64 4616189618054758400] (m:=1) (n:=w4.heap.size+1) (by simp) (by decide) rfl;have z5:=zIz (l:= [4616189618054758400]) (L:=fun _=>4616189618054758400) (B2.own 1 rfl) (fun t ht=>by rw[Nat.lt_one_iff.1 ht];rfl) fun _ _=>by decide
 haveI hFZ2:FZ _ _ 1 1 (fun _=>4616189618054758400):=⟨z5⟩;haveI b6:=B2.fr';haveI iV2:=B2.vb 0 rfl;clear z5 B2;refine(HDN _ _ _ _ _ _).out.mono ?_;rintro o w5 (⟨_,rfl,b5⟩ | ⟨hz,_⟩)
 · haveI b5':=b5;rw[zO3];clear HDN;go_wp2_with fail;go_ret;exact⟨rfl,⟨zbh⟩⟩
 · rw[zO3]at hz;exact absurd hz (by decide)
end Go.Proofs.YtmbkgapknoammaaGreatDoor
namespace Go.Proofs.YtmbkgapknoammaaGreatDoor
open Go.RowKit Sp
theorem zPq{w:World}{b N n:Nat}{y:Nat→Nat}(h:(zE5 b N n y).P w)(hy:∀i,i<n→y i<18446744073709551616):Fls w (some ⟨b,0,none⟩) n N y:=by
 obtain⟨h0,h1,f,h2,h3⟩:=h;exact⟨h0,h1,fun _=>rfl,fun i hi=>by
  show w.cell? ⟨b,0+i,none⟩=_;rw[Nat.zero_add,h2.cell (show i<N by omega),h3 i hi],hy,fun _=>h2.lt⟩
theorem PKS.fm{w0 w:World}{B:List It}{k:Nat}{b:Nat→Nat→Nat}{P:Nat→Nat→Bool}{l:List Nat}{oO oS oI oV:Option Addr}{dO dS dI dV:Nat}(h:PKS k b P)(hl:l.Perm (List.range k))(hB:Bag w0 w (zBb oO k dO (fun t=>((l.getD t 0:Nat):Int))::zBb oS (k+1) dS (fun t=>((pkS k P t:Nat):Int))::row 3 1 (.slice oI (pkS k P k) dI) (pkS k P k) (zA2 (cat (zAb k P) k))::zBZ oV (pkS k P k) dV (pkV b k P)::B)):FM w k (pkS k P k) oO dO oS dS oI dI oV dV (fun t=>((l.getD t 0:Nat):Int)) (pkS k P) (fun t=>((pkI k P t:Nat):Int)) (pkV b k P):=by
 obtain⟨_,_,hv,hI,_⟩:=zAP (hB.own 2 rfl);injection hv with e1 _ e3
 subst e1 e3;exact⟨hB.at 0 rfl,hB.at 1 rfl,hI,hB.at 3 rfl,h.fck hl⟩
attribute [local irreducible] Calls
end Go.Proofs.YtmbkgapknoammaaGreatDoor
namespace Go.Proofs.YtmbkgapknoammaaGreatDoor
open Go.RowKit Sp
section
variable {n:Nat}{S I V x0:Nat→Nat}{minus:Bool}
theorem iok_fok{q:Nat}{S:Nat→Nat}{I:Nat→Int}(h:FOK n q (fun t=>((S t:Nat):Int)) I):Iok n S I:=fun j hj=>⟨h.d j hj,fun x h1 h2=>h.a j x hj h1 h2⟩
end
end Go.Proofs.YtmbkgapknoammaaGreatDoor
namespace Go.Proofs.YtmbkgapknoammaaGreatDoor
open Go.RowKit Sp
def FRes(e:Int)(n:Nat)(O:Nat→Int)(lS:Nat→Nat)(lI lV:List Nat)(w:World)(o:Ending)(w':World):Prop:=
 ∃(oO oS oI oV:Option Addr) (dO dS dI dV:Nat),o=.returned (.tuple #[.agg #[.slice oO (fl e n) dO,.slice oS (fl e (n+1)) dS,.slice oI (fl e lI.length) dI,.slice oV (fl e lI.length) dV],.int .i64 e])∧FR w' oO (fl e n) dO oS (fl e (n+1)) dS oI (fl e lI.length) dI oV (fl e lI.length) dV O (fun t=>((lS t:Nat):Int)) (fun t=>((lI.getD t 0:Nat):Int)) (fun t=>lV.getD t 0)∧From w w'
theorem FR.nil(w:World)(O S I:Nat→Int)(V:Nat→Nat):FR w none 0 0 none 0 0 none 0 0 none 0 0 O S I V:=
 ⟨⟨by omega,by omega,by omega,fun i hi=>by omega,by omega⟩,⟨by omega,by omega,by omega,fun i hi=>by omega,by omega⟩,⟨by omega,by omega,by omega,fun i hi=>by omega,by omega⟩,⟨by omega,by omega,by omega,fun i hi=>by omega,fun i hi=>by omega,by omega⟩⟩
theorem fres_of{e:Int}{n:Nat}{O:Nat→Int}{lS:Nat→Nat}{lI lV:List Nat}{w w':World}{o:Ending}
 (h:(e≠0∧o=.returned (.tuple #[.agg #[.slice none 0 0,.slice none 0 0,.slice none 0 0,.slice none 0 0],.int .i64 e])∧From w w') ∨
  (e=0∧∃(oO oS oI oV:Option Addr) (dO dS dI dV:Nat),o=.returned (.tuple #[.agg #[.slice oO n dO,.slice oS (n+1) dS,.slice oI lI.length dI,.slice oV lI.length dV],.int .i64 0])∧Bag w w' [zBb oO n dO O,zBb oS (n+1) dS (fun t=>((lS t:Nat):Int)),zBb oI lI.length dI (fun t=>((lI.getD t 0:Nat):Int)),zBZ oV lI.length dV (fun t=>lV.getD t 0)])):FRes e n O lS lI lV w o w':=by
 rcases h with⟨he,rfl,hb⟩ | ⟨rfl,oO,oS,oI,oV,dO,dS,dI,dV,rfl,hB⟩
 · refine⟨none,none,none,none,0,0,0,0,?_,?_,hb⟩
   · simp only[fl,if_neg he]
   · simp only[fl,if_neg he];exact FR.nil _ _ _ _ _
 · exact⟨oO,oS,oI,oV,dO,dS,dI,dV,rfl,⟨hB.at 0 rfl,hB.at 1 rfl,hB.at 2 rfl,hB.at 3 rfl⟩,hB.fr'⟩
section
variable {n:Nat}{S I V X Y:Nat→Nat}{O:Nat→Int}{minus:Bool}
theorem allfin_opp(h:∀i,Opp (X i) (Y i)):∀k,zBI Y k=zBI X k:=fun k=>by
 rw[Bool.eq_iff_iff,zDg,zDg];exact⟨fun g i hi=>by rw[←(h i).2.1];exact g i hi,fun g i hi=>by rw[(h i).2.1];exact g i hi⟩
theorem uRes_opp(h:∀i,Opp (X i) (Y i)):zI1 n n S I V Y O minus=zI1 n n S I V X O minus:=by
 unfold zI1 vE;rw[allfin_opp h,uErr_opp (x:=byO X O) (y:=byO Y O) fun _=>h _]
theorem outS_opp(h:∀i,Opp (X i) (Y i)):zB7 n S I V (byO Y O)=zB7 n S I V (byO X O)∧zJp n S I V minus (byO Y O)=zJp n S I V minus (byO X O):=
 ⟨funext fun k=>(outI_opp (minus:=minus) (x:=byO X O) (y:=byO Y O) (fun _=>h _) k).1,funext fun k=>(outI_opp (x:=byO X O) (y:=byO Y O) (fun _=>h _) k).2⟩
theorem uRes_zero(hI:Iok n S fun t=>((I t:Nat):Int)):zI1 n n S I V (fun _=>0) O minus=0:=by
 unfold zI1;rw[zKc hI];have h0:vE n n (fun _=>0) 0=0:=by
  unfold vE;rw[if_neg (by decide),if_neg (by omega),if_pos ((zDg _ _).2 fun i _=>by decide)]
 rw[if_pos h0];exact uErr_none fun i=>by show zB0 0=true;decide
end
end Go.Proofs.YtmbkgapknoammaaGreatDoor
set_option maxRecDepth 100000
set_option maxHeartbeats 20000000
namespace Go.Proofs.YtmbkgapknoammaaGreatDoor
open Go.RowKit Sp
theorem mls(f:Nat→Nat)(j:Nat):(List.range (j+1)).map f=(List.range j).map f++ [f j]:=by rw[List.range_succ,List.map_append];rfl
theorem mls_get{f:Nat→Nat}{k i:Nat}(h:i<k):((List.range k).map f).getD i 0=f i:=by rw[List.getD_eq_getElem?_getD,List.getElem?_map,List.getElem?_range h];rfl
theorem BZ.nil(w:World):BZ w none 0 0 fun _=>false:=⟨by constructor <;> first | omega | (intro h;omega) | (intro i hi;omega)⟩
theorem fres_zero{n q:Nat}{O:Nat→Int}{lS S I V:Nat→Nat}{lI lV:List Nat}{w w':World}{o:Ending}(h:FRes 0 n O lS lI lV w o w')(hS:∀t,t<n+1→lS t=S t)(hq:lI.length=q)(hI:∀t,t<q→lI.getD t 0=I t)(hV:∀t,t<q→lV.getD t 0=V t):∃(oO oS oI oV:Option Addr) (dO dS dI dV:Nat),o=.returned (.tuple #[.agg #[.slice oO n dO,.slice oS (n+1) dS,.slice oI q dI,.slice oV q dV],.int .i64 0])∧FR w' oO n dO oS (n+1) dS oI q dI oV q dV O (fun t=>((S t:Nat):Int)) (fun t=>((I t:Nat):Int)) V∧From w w':=by
 obtain⟨oO,oS,oI,oV,dO,dS,dI,dV,rfl,hF,hb⟩:=h;subst hq;refine⟨oO,oS,oI,oV,dO,dS,dI,dV,rfl,⟨hF.o,?_,?_,?_⟩,hb⟩
 · exact⟨hF.s.fits,hF.s.lim,hF.s.addr,fun i hi=>by rw[←hS i hi];exact hF.s.cell i hi,hF.s.old⟩
 · exact⟨hF.i.fits,hF.i.lim,hF.i.addr,fun i hi=>by rw[←hI i hi];exact hF.i.cell i hi,hF.i.old⟩
 · exact⟨hF.v.fits,hF.v.lim,hF.v.addr,fun i hi=>by rw[←hV i hi];exact hF.v.cell i hi,fun i hi=>by rw[←hV i hi];exact hF.v.b i hi,hF.v.old⟩
attribute [local irreducible] Calls
theorem usignlaw_any(w:World)[Tb w](a:Option Addr)(m cap:Nat)(L:Nat→Nat)[hL:FZ w a m cap L](n style kind:Int):Calls Tryz.prog 5 #[.slice a m cap,.int .i64 n,.int .i64 style,.int .i64 kind] w fun o w'=>o=.returned (.bool true)∧From w w':=by
 have HPK:=fun W [Tb W] [FZ W a m cap L] [BZ W none 0 0 fun _=>false]=>Lib.hid (zKY W a m cap L n style kind none 0 0 fun _=>false);have HAW:=fun W [Tb W]=>Lib.hid (zIQ W);haveI hz0:BZ w none 0 0 fun _=>false:=BZ.nil w;go_enter Tryz.func5,Tryz.ntmps5;go_wp2_with fail;refine(HPK _).out.mono ?_;rintro o w1 ⟨k,b,P,l,y,oO,oS,oI,oV,dO,dS,dI,dV,wb,N,hk,rfl,hB,hP,hl,hy⟩;haveI b1:=hB.fr';haveI hF:=hP.fm hl hB;haveI hW:FZ w1 (some ⟨wb,0,none⟩) k N y:=⟨zPq (hB.at 4 rfl) fun i _=>(hy i).1⟩;haveI hFR:FR w1 oO k dO oS (k+1) dS oI (pkS k P k) dI oV (pkS k P k) dV (fun t=>((l.getD t 0:Nat):Int)) (fun t=>((pkS k P t:Nat):Int)) (fun t=>((pkI k P t:Nat):Int)) (pkV b k P):=⟨hF.o,hF.s,hF.i,hF.v⟩;have c9:=hW.out.fits;have c10:=hW.out.lim;have hq:=zQ9 k P k;have hq2:k*(k+1)≤5*6:=Nat.mul_le_mul hk (by omega);have hopp:∀i,Opp (y i) ((fun i=>fneg (y i)) i):=fun i=>fneg_opp (y i);have hck:=iok_fok hP.fok;have HU:=fun W [Tb W] [FM W k (pkS k P k) oO dO oS dS oI dI oV dV (fun t=>((l.getD t 0:Nat):Int)) (pkS k P) (fun t=>((pkI k P t:Nat):Int)) (pkV b k P)] [FZ W (some ⟨wb,0,none⟩) k N y]=>Lib.hid ((zI4 W k (pkS k P k) oO oS oI oV dO dS dI dV (fun t=>((l.getD t 0:Nat):Int)) (pkS k P) (pkI k P) (pkV b k P) (by omega) (by omega) (some ⟨wb,0,none⟩) k N y).mono fun _ _ h=>fres_of h);have HV:=fun W aw cw [Tb W] [FM W k (pkS k P k) oO dO oS dS oI dI oV dV (fun t=>((l.getD t 0:Nat):Int)) (pkS k P) (fun t=>((pkI k P t:Nat):Int)) (pkV b k P)] [FZ W aw k cw fun i=>fneg (y i)]=>Lib.hid ((zI4 W k (pkS k P k) oO oS oI oV dO dS dI dV (fun t=>((l.getD t 0:Nat):Int)) (pkS k P) (pkI k P) (pkV b k P) (by omega) (by omega) aw k cw fun i=>fneg (y i)).mono fun _ _ h=>fres_of h);rw[uRes_opp hopp,(outS_opp (minus:=false) hopp).1,(outS_opp hopp).2]at HV;have hz1:=fun minus=>uRes_zero (minus:=minus) (V:=pkV b k P) (O:=(fun t=>((l.getD t 0:Nat):Int))) hck;have hno:=fun minus t ht=>outI_none (n:=k) (S:=pkS k P) (I:=pkI k P) (V:=pkV b k P) (minus:=minus) (x0:=byO (fun _=>0) (fun t=>((l.getD t 0:Nat):Int))) (fun i=>by show zB0 0=true;decide) rfl (fun j hj=>Nat.le_of_lt (Int.ofNat_lt.1 (hP.fok.m j hj))) t ht;have hll:(zB7 k (pkS k P) (pkI k P) (pkV b k P) (byO (fun _=>0) (fun t=>((l.getD t 0:Nat):Int))) k).length=pkS k P k:=by rw[(hno true k (Nat.le_refl _)).1,List.length_map,List.length_range]
 have hSS:∀t,t<k+1→(zB7 k (pkS k P) (pkI k P) (pkV b k P) (byO (fun _=>0) (fun t=>((l.getD t 0:Nat):Int))) t).length=pkS k P t:=fun t ht=>by rw[(hno true t (by omega)).1,List.length_map,List.length_range]
 have hII:∀t,t<pkS k P k→(zB7 k (pkS k P) (pkI k P) (pkV b k P) (byO (fun _=>0) (fun t=>((l.getD t 0:Nat):Int))) k).getD t 0=pkI k P t:=fun t ht=>by rw[(hno true k (Nat.le_refl _)).1];exact mls_get ht
 have hVV:∀minus t,t<pkS k P k→(zJp k (pkS k P) (pkI k P) (pkV b k P) minus (byO (fun _=>0) (fun t=>((l.getD t 0:Nat):Int))) k).getD t 0=pkV b k P t:=fun minus t ht=>by rw[(hno minus k (Nat.le_refl _)).2];exact mls_get ht
 have HZ:=fun W aw cw [Tb W] [FM W k (pkS k P k) oO dO oS dS oI dI oV dV (fun t=>((l.getD t 0:Nat):Int)) (pkS k P) (fun t=>((pkI k P t:Nat):Int)) (pkV b k P)] [FZ W aw k cw fun _=>0]=>Lib.hid ((zI4 W k (pkS k P k) oO oS oI oV dO dS dI dV (fun t=>((l.getD t 0:Nat):Int)) (pkS k P) (pkI k P) (pkV b k P) (by omega) (by omega) aw k cw fun _=>0).mono fun _ _ h=>by
  rw[hz1 false]at h;exact fres_zero (fres_of h) hSS hll hII (hVV false))
 have HX:=fun W aw cw [Tb W] [FM W k (pkS k P k) oO dO oS dS oI dI oV dV (fun t=>((l.getD t 0:Nat):Int)) (pkS k P) (fun t=>((pkI k P t:Nat):Int)) (pkV b k P)] [FZ W aw k cw fun _=>0]=>Lib.hid ((zG3 W k (pkS k P k) oO oS oI oV dO dS dI dV (fun t=>((l.getD t 0:Nat):Int)) (pkS k P) (pkI k P) (pkV b k P) (by omega) (by omega) aw k cw fun _=>0).mono fun _ _ h=>by
  rw[hz1 true]at h;exact fres_zero (fres_of h) hSS hll hII (hVV true))
 have HY:=Lib.hid fun i=>(hy i).1;have HNG:=fun W j=>Lib.hid (r3neg_any W (y j) (HY.out j));clear hz1 hno hll hSS hII hVV hopp hck hB HPK hP hy hq hq2 hl;generalize zI1 k k (pkS k P) (pkI k P) (pkV b k P) y (fun t=>((l.getD t 0:Nat):Int)) false=E at *;generalize zB7 k (pkS k P) (pkI k P) (pkV b k P) (byO y (fun t=>((l.getD t 0:Nat):Int)))=OI at *;generalize zJp k (pkS k P) (pkI k P) (pkV b k P) false (byO y (fun t=>((l.getD t 0:Nat):Int)))=OV at *;generalize (pkS k P k)=qq at *;generalize pkS k P=Sk at *;generalize pkI k P=Ik at *;generalize pkV b k P=Vk at *;have B0:=(((Bag.nil w1).var 27 [.slice oO k dO,.slice oS (k+1) dS,.slice oI qq dI,.slice oV qq dV] (n:=w1.heap.size) rfl).nilr 37 1).nilr 37 1;go_wp2_with fail
 go_loopw [11,12,13] (fun vM vZ x wr=>∃(j:Nat) (a1 a2:Option Addr) (c1 c2:Nat),j≤k∧x=.int .i64 j∧vM=.slice a1 j c1∧vZ=.slice a2 j c2∧Bag w1 wr [box w1.heap.size 27 [.slice oO k dO,.slice oS (k+1) dS,.slice oI qq dI,.slice oV qq dV],row 37 1 (.slice a1 j c1) j (zAI ((List.range j).map fun i=>fneg (y i))),row 37 1 (.slice a2 j c2) j (zAI ((List.range j).map fun _=>0))]) (fun _ _ x _=>k-(intOf x).toNat)
 case atStart=>exact⟨0,none,none,0,0,by omega,rfl,rfl,rfl,B0⟩
 case round=>
  rename World=>wr;obtain⟨j,a1,a2,c1,c2,hj,rfl,rfl,rfl,iB⟩:=hrel;haveI bw:=iB.fr';haveI iT:=iB.vb 0 rfl
  by_cases hlt:j<k
  · have hX:FZ wr (some ⟨wb,0,none⟩) k N y:=inferInstance;have g1:=hX.out.idx j hlt;have g2:=hX.out.idxU j hlt;haveI z1:CE w1 (ab (some ⟨wb,0,none⟩)) (ao (some ⟨wb,0,none⟩)+j) (.int .u64 ((y j:Nat):Int)):=⟨hW.out.cell j hlt,hW.out.old (by omega)⟩;have HNG:=fun W=>HNG W j;clear hX;go_wp2_with fail;refine(HNG _).out.mono ?_;rintro o w2 ⟨rfl,rfl⟩;go_wp2_with (first | (at_builtin;refine zBm 25 37 (.int .u64 0) 8 rfl _ _ rfl w1 1 rfl rfl _ (.int .u64 ((fneg (y j):Nat):Int)) rfl rfl (by go_simp) (by omega) (by omega) ?_;intro v4 w4 B4;obtain⟨t4,s4,rfl⟩:=zA3 (B4.own 1 rfl);haveI b4:=B4.fr') | (at_builtin;refine zBm 25 37 (.int .u64 0) 8 rfl _ _ rfl w1 2 rfl rfl _ (.int .u64 0) rfl rfl (by go_simp) (by omega) (by omega) ?_;intro v5 w5 B5;obtain⟨t5,s5,rfl⟩:=zA3 (B5.own 2 rfl);haveI b5:=B5.fr'));have BF:=Lib.hid B5;clear B4 B5;go_wp2_with fail;go_roundw
    case rel=>exact⟨j+1,_,_,_,_,by omega,by go_num,rfl,rfl,by have h:=BF.out;simp only[List.set_cons_zero,List.set_cons_succ]at h;rw[mls,mls,zCp,zCp];exact h⟩
    case measure=>simp[intOf];omega
  · have hjk:j=k:=(by omega);subst hjk;obtain⟨_,_,e1,z1,_⟩:=zD4 (iB.own 1 rfl) fun i hi=>(by rw[mls_get hi];exact fneg_lt _);injection e1 with e1 _ e2
    subst e1 e2;obtain⟨_,_,e1,z2,_⟩:=zD4 (iB.own 2 rfl) fun i hi=>(by rw[mls_get hi];decide);injection e1 with e1 _ e2
    subst e1 e2;haveI zM:FZ wr a1 j c1 fun i=>fneg (y i):=⟨⟨z1.fits,z1.lim,z1.addr,fun i hi=>by have:=z1.cell i hi;rwa[mls_get hi]at this,fun i hi=>fneg_lt _,z1.old⟩⟩;haveI zZ:FZ wr a2 j c2 fun _=>0:=⟨⟨z2.fits,z2.lim,z2.addr,fun i hi=>by have:=z2.cell i hi;rwa[mls_get (f:=fun _=>0) hi]at this,fun i hi=>by decide,z2.old⟩⟩;clear z1 z2 iB B0;go_wp2_with fail;refine(HU _).out.mono ?_;rintro o w2 ⟨xO,xS,xI,xV,pO,pS,pI,pV,rfl,f2,b2⟩;go_wp2_with fail;refine(HV _ _ _).out.mono ?_;rintro o w3 ⟨yO,yS,yI,yV,qO,qS,qI,qV,rfl,f3,b3⟩;go_wp2_with fail;refine(HZ _ _ _).out.mono ?_;rintro o w4 ⟨uO,uS,uI,uV,rO,rS,rI,rV,rfl,f4,b4⟩;go_wp2_with fail;refine(HX _ _ _).out.mono ?_;rintro o w5 ⟨vO,vS,vI,vV,sO,sS,sI,sV,rfl,f5,b5⟩;have HS1:=fun W [FR W xO (fl E j) pO xS (fl E (j+1)) pS xI (fl E (OI j).length) pI xV (fl E (OI j).length) pV _ _ _ _] [FR W yO (fl E j) qO yS (fl E (j+1)) qS yI (fl E (OI j).length) qI yV (fl E (OI j).length) qV _ _ _ _]=>Lib.hid (samef_any W xO xS xI xV yO yS yI yV (fl E j) pO (fl E (j+1)) pS (fl E (OI j).length) pI (fl E (OI j).length) pV qO qS qI qV (fun t=>((l.getD t 0:Nat):Int)) (fun t=>(((OI t).length:Nat):Int)) (fun t=>(((OI j).getD t 0:Nat):Int)) (fun t=>((l.getD t 0:Nat):Int)) (fun t=>(((OI t).length:Nat):Int)) (fun t=>(((OI j).getD t 0:Nat):Int)) (fun t=>(OV j).getD t 0) (fun t=>(OV j).getD t 0) (fun _ _=>rfl) (fun _ _=>rfl) (fun _ _=>rfl) fun _ _=>rfl);have HS2:=fun W [FR W uO j rO uS (j+1) rS uI qq rI uV qq rV _ _ _ _] [FR W oO j dO oS (j+1) dS oI qq dI oV qq dV _ _ _ _]=>Lib.hid (samef_any W uO uS uI uV oO oS oI oV j rO (j+1) rS qq rI qq rV dO dS dI dV (fun t=>((l.getD t 0:Nat):Int)) (fun t=>((Sk t:Nat):Int)) (fun t=>((Ik t:Nat):Int)) (fun t=>((l.getD t 0:Nat):Int)) (fun t=>((Sk t:Nat):Int)) (fun t=>((Ik t:Nat):Int)) Vk Vk (fun _ _=>rfl) (fun _ _=>rfl) (fun _ _=>rfl) fun _ _=>rfl);have HS3:=fun W [FR W vO j sO vS (j+1) sS vI qq sI vV qq sV _ _ _ _] [FR W oO j dO oS (j+1) dS oI qq dI oV qq dV _ _ _ _]=>Lib.hid (samef_any W vO vS vI vV oO oS oI oV j sO (j+1) sS qq sI qq sV dO dS dI dV (fun t=>((l.getD t 0:Nat):Int)) (fun t=>((Sk t:Nat):Int)) (fun t=>((Ik t:Nat):Int)) (fun t=>((l.getD t 0:Nat):Int)) (fun t=>((Sk t:Nat):Int)) (fun t=>((Ik t:Nat):Int)) Vk Vk (fun _ _=>rfl) (fun _ _=>rfl) (fun _ _=>rfl) fun _ _=>rfl);go_wp2_with fail;refine(HS1 _).out.mono ?_;rintro o z1 ⟨rfl,e1⟩;go_wp2_with fail;refine(HS2 _).out.mono ?_;rintro o z2 ⟨rfl,e2⟩;go_wp2_with fail;refine(HS3 _).out.mono ?_;rintro o z3 ⟨rfl,e3⟩;go_wp2_with fail;refine(HAW _).out.mono ?_;rintro o z4 ⟨rfl,e4⟩;go_wp2_with fail;go_ret;exact⟨rfl,⟨zbh⟩⟩
theorem usignlaw_all(w:World)(hT:Tab w)(a:Option Addr)(n0 cap:Nat)(L:Nat→Nat)(hL:Fls w a n0 cap L)(n style kind:Int):Calls Tryz.prog 5 #[.slice a n0 cap,.int .i64 n,.int .i64 style,.int .i64 kind] w fun o w'=>o=.returned (.bool true)∧Below w.heap.size w w':=by
 haveI:Tb w:=⟨hT⟩;haveI:FZ w a n0 cap L:=⟨hL⟩;exact(usignlaw_any w a n0 cap L n style kind).mono fun _ _ h=>⟨h.1,h.2.out⟩
end Go.Proofs.YtmbkgapknoammaaGreatDoor

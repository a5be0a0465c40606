/-
  Plain law: the quotients rounded down and up enclose the exact one. No program in sight.
  Plain laws: slim dyads form a ring; scaling, Log2, Floor; rounding; square roots. No program in sight.
-/
import Derived.Test.YtmbkgapknoammaaGreatDoorZuBe
namespace Go.Proofs.YtmbkgapknoammaaGreatDoor
open Go.RowKit Sp
theorem zBs{m e:Int}(h1: -65536≤e)(h2:e+zA4 m.natAbs≤65536):nrm m e≠none:=by
 intro h;have:=nrm_none.1 h;omega
theorem zDs(x y:Nat):zA4 (x*y)≤zA4 x+zA4 y:=by
 refine zAC ?_;rw[Nat.pow_add];exact Nat.mul_lt_mul'' (zAz x) (zAz y)
theorem zFt(x y:Nat):zA4 (x+y)≤max (zA4 x) (zA4 y)+1:=by
 refine zAC ?_;rw[Nat.pow_succ];have h1:=Nat.lt_of_lt_of_le (zAz x) (Nat.pow_le_pow_right (n:=2) j0 (Nat.le_max_left (zA4 x) (zA4 y)));have h2:=Nat.lt_of_lt_of_le (zAz y) (Nat.pow_le_pow_right (n:=2) j0 (Nat.le_max_right (zA4 x) (zA4 y)));omega
theorem zEq(x c:Nat):zA4 (x/2^c)≤zA4 x-c:=by
 by_cases h:c≤zA4 x
 · refine zAC ?_;rw[Nat.div_lt_iff_lt_mul (Nat.pow_pos ja),←Nat.pow_add,show zA4 x-c+c=zA4 x by omega];exact zAz x
 · have:x/2^c=0:=Nat.div_eq_of_lt (Nat.lt_of_lt_of_le (zAz x) (Nat.pow_le_pow_right ja j0));rw[this];exact Nat.zero_le _
theorem zJ8(x:Nat):sgn true x= -(x:Int):=rfl
theorem zH5(x:Nat):sgn false x=(x:Int):=rfl
theorem cmpI_le{m n:Int} :zAq m n≤0↔m≤n:=K2
theorem cmpI_eq0{m n:Int} :zAq m n=0↔m=n:=K2
theorem zFr{x n:Nat}(h:x≤2^n):zA4 x≤n+1:=zAC (by rw[Nat.pow_succ];have:=Nat.pow_pos (n:=n) (show 0<2 by omega);omega)
theorem zQr(M N:Int):zA4 (M+N).natAbs≤max (zA4 M.natAbs) (zA4 N.natAbs)+1:=
 Nat.le_trans (zBC (Int.natAbs_add_le M N)) (zFt _ _)
theorem zSS(M N:Int):zA4 (M*N).natAbs≤zA4 M.natAbs+zA4 N.natAbs:=by
 rw[Int.natAbs_mul];exact zDs _ _
theorem zGE(M E:Int)(h:nrm M E≠none):zEt (nrm M E)=nrm (-M) E:=by
 cases k:nrm M E with
 | none=>exact absurd k h
 | some p=>
  obtain⟨m,e⟩:=p;show some (-m,e)=_
  by_cases h0:M=0
  · subst h0;rw[zBr]at k;injection k with k;injection k with h1 h2;subst h1 h2;rfl
  · obtain⟨t,ht,he,_⟩:=zB5 h0 k;rw[ht,←Int.neg_mul,zCl,←he];exact(zEE (zGr (zMx k))).symm
theorem zMW(x:Nat):∃r,r*r≤x∧x<(r+1)*(r+1):=by
 induction x with
 | zero=>exact⟨0,ja⟩
 | succ n ih=>
  obtain⟨r,h1,h2⟩:=ih
  by_cases h:n+1<(r+1)*(r+1)
  · exact⟨r,j0,h⟩
  · refine⟨r+1,j0,?_⟩;have h3:(r+1+1)*(r+1+1)=(r+1)*(r+1)+2*r+3:=(by grind);omega
noncomputable def isq(x:Nat):Nat:=Classical.choose (zMW x)
theorem zDE(x:Nat):isq x*isq x≤x:=(Classical.choose_spec (zMW x)).1
theorem zDD(x:Nat):x<(isq x+1)*(isq x+1):=(Classical.choose_spec (zMW x)).2
theorem zOt{a b:Nat}(h:a<b):a*a<b*b:=Nat.mul_self_lt_mul_self h
theorem zH0{a b:Nat}(h:a≤b):a*a≤b*b:=Nat.mul_self_le_mul_self h
theorem zSB(k:Nat):isq (k*k)=k:=by
 have h1:=zDE (k*k);have h2:=zDD (k*k);rcases Nat.lt_trichotomy (isq (k*k)) k with h | h | h
 · have:=zH0 (show isq (k*k)+1≤k by omega);omega
 · exact h
 · have:=zOt h;omega
def rsh(m e p:Int):Nat:=
 if(e-(max 0 (2*(p+3)-zA4 m.natAbs)).toNat)%2≠0 then(max 0 (2*(p+3)-zA4 m.natAbs)).toNat+1 else(max 0 (2*(p+3)-zA4 m.natAbs)).toNat
theorem zGe(m e p:Int):(e-rsh m e p)%2=0:=Xk
theorem zLX(m e p:Int):2*(p+3)≤zA4 m.natAbs+rsh m e p:=Xk
theorem zQ5(m e p:Int)(hp:0≤p):(rsh m e p:Int)≤2*(p+3)+1:=Xk
end Go.Proofs.YtmbkgapknoammaaGreatDoor

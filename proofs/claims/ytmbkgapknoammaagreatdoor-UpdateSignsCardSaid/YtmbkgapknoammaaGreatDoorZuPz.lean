/-
  Lists of the call's own, written in place; boxes of three words. No function of the program in sight.
-/
import Derived.Test.YtmbkgapknoammaaGreatDoorZuRz
import Derived.Test.YtmbkgapknoammaaGreatDoorZuKw
import Derived.Test.YtmbkgapknoammaaGreatDoorZuTj
import Derived.Test.YtmbkgapknoammaaGreatDoorZuS3
import Derived.Test.YtmbkgapknoammaaGreatDoorZuBe
import Derived.Test.YtmbkgapknoammaaGreatDoorZuGo
import Derived.Test.YtmbkgapknoammaaGreatDoorZuKs
import Derived.Test.YtmbkgapknoammaaGreatDoorZuGt
import Derived.Test.YtmbkgapknoammaaGreatDoorZuGq
namespace Go.Proofs.YtmbkgapknoammaaGreatDoor
open Go.RowKit Sp
class N3(W:World)(b:Nat)(x0 x1 x2:outParam Value):Prop where
 c0:W.cell? ⟨b,0,none⟩=some x0
 c1:W.cell? ⟨b,1,none⟩=some x1
 c2:W.cell? ⟨b,2,none⟩=some x2
 z:∀i,W.frozen? ⟨b,i,none⟩=false
 lt:b<W.heap.size
theorem N3.below{W W':World}{b:Nat}{x0 x1 x2:Value}(h:N3 W b x0 x1 x2)(hb:Below W.heap.size W W'):N3 W' b x0 x1 x2:=by
 obtain⟨h1,h2⟩:=zA6 hb;exact⟨(h1 _ _ h.lt).trans h.c0,(h1 _ _ h.lt).trans h.c1,(h1 _ _ h.lt).trans h.c2,fun i=>(h2 _ _ h.lt).trans (h.z i),Nat.lt_of_lt_of_le h.lt hb.size⟩
section
variable {W:World}{b:Nat}{x0 x1 x2:Value}
instance N3.dr[h:N3 W b x0 x1 x2]:N3 W.drew b x0 x1 x2:=⟨h.c0,h.c1,h.c2,h.z,h.lt⟩
instance N3.dn(q:Nat)[h:N3 W b x0 x1 x2]:N3 (W.drewN q) b x0 x1 x2:=⟨h.c0,h.c1,h.c2,h.z,h.lt⟩
instance N3.al(o:Obj)[h:N3 W b x0 x1 x2]:N3 (W.alloc o) b x0 x1 x2:=N3.below h ((Below.refl _ _).alloc (Nat.le_refl _) _)
instance N3.fr(L:World)[f:From L W][h:N3 L b x0 x1 x2]:N3 W b x0 x1 x2:=N3.below h f.out
end
theorem N3.made(W:World)(t:TypeId)(x0 x1 x2:Value){n:Nat}(hn:n=W.heap.size):N3 (W.alloc (.cells #[x0,x1,x2] t)) n x0 x1 x2:=by
 subst hn;exact⟨jx,jx,jx,fun i=>KY,jr⟩
instance N3.mk'(W:World)(t:TypeId)(x0 x1 x2:Value)(n:Nat)[h:Sz W n]:N3 (W.alloc (.cells #[x0,x1,x2] t)) n x0 x1 x2:=N3.made W t x0 x1 x2 h.out
@[go_sem] theorem N3.r0 (W:World) (b:Nat) {x0 x1 x2:Value} [h:N3 W b x0 x1 x2]:W.cell? ⟨b,0,none⟩=some x0:=h.c0
@[go_sem] theorem N3.r1 (W:World) (b:Nat) {x0 x1 x2:Value} [h:N3 W b x0 x1 x2]:W.cell? ⟨b,1,none⟩=some x1:=h.c1
@[go_sem] theorem N3.r2 (W:World) (b:Nat) {x0 x1 x2:Value} [h:N3 W b x0 x1 x2]:W.cell? ⟨b,2,none⟩=some x2:=h.c2
@[go_sem] theorem N3.rz (W:World) (b i:Nat) {x0 x1 x2:Value} [h:N3 W b x0 x1 x2]:W.frozen? ⟨b,i,none⟩=false:=h.z i
@[go_sem] theorem N3.rs (W:World) (b:Nat) {x0 x1 x2:Value} [h:N3 W b x0 x1 x2]:b<W.heap.size:=h.lt
theorem zFg{L L':Nat→Nat}{k:Nat}(h:∀i,i<k→L i=L' i):zBh L k=zBh L' k:=by
 induction k with
 | zero=>rfl
 | succ k ih=>show zBh L k++_=zBh L' k++_;rw[ih fun i hi=>h i j0,h k j0]
theorem zLj(f:Nat→Value×Value×Value×Value){k i:Nat}(p q r s:Value)(h:i<k):((((zAv f k).set (i*4) p).set (i*4+1) q).set (i*4+2) r).set (i*4+3) s=zAv (fun t=>if t=i then(p,q,r,s)else f t) k:=by
 refine List.ext_getElem? fun j=>?_;simp only[List.getElem?_set,List.length_set,zBM]
 by_cases hj:j<k*4
 · obtain⟨a,b,rfl,hb⟩:∃a b,j=a*4+b∧b<4:=⟨j/4,j%4,j0,j0⟩;have hak:a<k:=j0;have g:=zAY f hak;have g':=zAY (fun t=>if t=i then(p,q,r,s)else f t) hak
   by_cases he:a=i
   · subst he;simp only[if_true]at g';have l0:a*4<k*4:=j0;have l1:a*4+1<k*4:=j0;have l2:a*4+2<k*4:=j0;have l3:a*4+3<k*4:=j0;rcases b with _ | _ | _ | _ | b
     · simp[l0,g'.1]
     · simp[l1,g'.2.1]
     · simp[l2,g'.2.2.1]
     · simp[l3,g'.2.2.2]
     · exact j0
   · simp only[if_neg he]at g';rw[if_neg j0,if_neg j0,if_neg j0,if_neg j0];rcases b with _ | _ | _ | _ | b
     · rw[Nat.add_zero];exact g.1.trans g'.1.symm
     · exact g.2.1.trans g'.2.1.symm
     · exact g.2.2.1.trans g'.2.2.1.symm
     · exact g.2.2.2.trans g'.2.2.2.symm
     · exact j0
 · have h1:(zAv (fun t=>if t=i then(p,q,r,s)else f t) k)[j]? =none:=List.getElem?_eq_none (by rw[zBM];omega);have h2:(zAv f k)[j]? =none:=List.getElem?_eq_none (by rw[zBM];omega);rw[h1,h2,if_neg j0,if_neg j0,if_neg j0,if_neg j0]
theorem Dms.put{w:World}{base g n cap:Nat}{d:Nat→Option (Int×Int)}{A:Nat→Option Addr}{C:Nat→Nat}(h:Dms w base (.slice (some ⟨g,0,none⟩) n cap) n d A C){i:Nat}(hi:i<n)
 {dk:Option (Int×Int)} {a1:Option Addr} {c1:Nat} (hm:Mag w a1 (nl (zA1 dk).natAbs) c1 (zA1 dk).natAbs) (hne:0<nl (zA1 dk).natAbs→ab a1≠g) :
 Dms ((((w.setCell ⟨g,i*4,none⟩ (.bool (zAj dk))).setCell ⟨g,i*4+1,none⟩ (.bool (decide (zA1 dk<0)))).setCell ⟨g,i*4+2,none⟩ (.slice a1 (nl (zA1 dk).natAbs) c1)).setCell ⟨g,i*4+3,none⟩ (.int .i64 (zA7 dk))) base
  (.slice (some ⟨g,0,none⟩) n cap) n (fun t=>if t=i then dk else d t) (fun t=>if t=i then a1 else A t) (fun t=>if t=i then c1 else C t) ∧
 w.grownBy ((((w.setCell ⟨g,i*4,none⟩ (.bool (zAj dk))).setCell ⟨g,i*4+1,none⟩ (.bool (decide (zA1 dk<0)))).setCell ⟨g,i*4+2,none⟩ (.slice a1 (nl (zA1 dk).natAbs) c1)).setCell ⟨g,i*4+3,none⟩ (.int .i64 (zA7 dk))) (some g):=by
 obtain⟨o1,q1⟩:=h.own.stored (i*4) (.bool (zAj dk));obtain⟨o2,q2⟩:=o1.stored (i*4+1) (.bool (decide (zA1 dk<0)));obtain⟨o3,q3⟩:=o2.stored (i*4+2) (.slice a1 (nl (zA1 dk).natAbs) c1);obtain⟨o4,q4⟩:=o3.stored (i*4+3) (.int .i64 (zA7 dk));have hg:=zBO q1 (zBO q2 (zBO q3 q4));rw[zLj _ _ _ _ _ hi]at o4;refine⟨⟨?_,fun t ht=>?_,fun t ht=>?_⟩,hg⟩
 · have e:zAv (zCm (fun t=>if t=i then dk else d t) (fun t=>if t=i then a1 else A t) (fun t=>if t=i then c1 else C t)) n=zAv (fun t=>if t=i then(.bool (zAj dk),.bool (decide (zA1 dk<0)),.slice a1 (nl (zA1 dk).natAbs) c1,.int .i64 (zA7 dk))else zCm d A C t) n:=
    zBA fun t _=>by
     unfold zCm
     by_cases he:t=i
     · simp only[if_pos he]
     · simp only[if_neg he]
   rw[e];exact o4
 · by_cases he:t=i
   · subst he;simp only[if_true];exact zBW hm hg (fun h0 h1=>hne h0 (Option.some.inj h1))
   · simp only[if_neg he];exact zBW (h.m t ht) hg (h.ap t ht)
 · by_cases he:t=i
   · subst he;simp only[if_true];exact fun h0 h1=>hne h0 (Option.some.inj h1)
   · simp only[if_neg he];exact h.ap t ht
theorem Dms.congr{w:World}{base:Nat}{v:Value}{k:Nat}{d d':Nat→Option (Int×Int)}{A:Nat→Option Addr}{C:Nat→Nat}(h:Dms w base v k d A C)(e:∀i,i<k→d i=d' i):Dms w base v k d' A C:=by
 refine⟨?_,fun i hi=>?_,fun i hi=>?_⟩
 · have:zAv (zCm d' A C) k=zAv (zCm d A C) k:=zBA fun i hi=>(by unfold zCm;rw[e i hi]);rw[this];exact h.own
 · rw[←e i hi];exact h.m i hi
 · rw[←e i hi];exact h.ap i hi
theorem Dms.kept{w w':World}{base:Nat}{v:Value}{k:Nat}{d:Nat→Option (Int×Int)}{A:Nat→Option Addr}{C:Nat→Nat}(h:Dms w base v k d A C){row:Option Nat}(hg:w.grownBy w' row)
 (hv:v.ownBlock=none∨v.ownBlock≠row) (hA:∀i,i<k→0<nl (zA1 (d i)).natAbs→some (ab (A i))≠row):Dms w' base v k d A C:=
 ⟨h.own.kept hg hv,fun i hi=>zBW (h.m i hi) hg (hA i hi),h.ap⟩
end Go.Proofs.YtmbkgapknoammaaGreatDoor
namespace Go.Proofs.YtmbkgapknoammaaGreatDoor
open Go.RowKit Sp
class BG(W:World)(n:Nat):Prop where out:n≤W.heap.size
section
variable {W:World}{n:Nat}
instance BG.dr[h:BG W n]:BG W.drew n:=⟨h.out⟩
instance BG.dn(q:Nat)[h:BG W n]:BG (W.drewN q) n:=⟨h.out⟩
instance BG.al(o:Obj)[h:BG W n]:BG (W.alloc o) n:=⟨by rw[World.size_alloc];exact Nat.le_succ_of_le h.out⟩
instance BG.fr(L:World)[f:From L W][h:BG L n]:BG W n:=⟨Nat.le_trans h.out f.out.size⟩
instance BG.se(p:Addr)(v:Value)[h:BG W n]:BG (W.setCell p v) n:=⟨by rw[World.size_setCell];exact h.out⟩
end
class BL(base:Nat)(wr W:World):Prop where out:Below base wr W
section
variable {base:Nat}{wr W:World}
instance BL.rf:BL base wr wr:=⟨Below.refl _ _⟩
instance BL.dr[h:BL base wr W]:BL base wr W.drew:=⟨h.out.drew⟩
instance BL.dn(q:Nat)[h:BL base wr W]:BL base wr (W.drewN q):=⟨below_drewN h.out _⟩
instance BL.al(o:Obj)[h:BL base wr W][k:BG W base]:BL base wr (W.alloc o):=⟨h.out.alloc k.out o⟩
instance BL.fr(L:World)[f:From L W][h:BL base wr L][k:BG L base]:BL base wr W:=⟨h.out.trans (f.out.mono k.out)⟩
end
theorem N3.lo{W W':World}{b base:Nat}{x0 x1 x2:Value}(h:N3 W b x0 x1 x2)(hb:Below base W W')(lt:b<base):N3 W' b x0 x1 x2:=by
 obtain⟨h1,h2⟩:=zA6 hb;exact⟨(h1 _ _ lt).trans h.c0,(h1 _ _ lt).trans h.c1,(h1 _ _ lt).trans h.c2,fun i=>(h2 _ _ lt).trans (h.z i),Nat.lt_of_lt_of_le h.lt hb.size⟩
theorem CE.lo{W W':World}{b i base:Nat}{v:Value}(h:CE W b i v)(hb:Below base W W')(lt:b<base):CE W' b i v:=⟨((zA6 hb).1 _ _ lt).trans h.out,Nat.lt_of_lt_of_le h.lt hb.size⟩
theorem Beh.size{w w':World}[h:Beh w w']:w.heap.size≤w'.heap.size:=h.out.size
section
variable {P:Program}{ops:Array Oper}{Q:Exit→Act→World→Prop}{md:Region.Mode}{T:World→Prop}{last:List Nat}
theorem zS7{fuel:Nat}{l:Array Bool}{a:Act}{w:World}(i j:Nat){o o':Oper}(ho:ops[i]? =some o:=by rfl)(ho':ops[j]? =some o':=by rfl)(hr:Region.ready md ops l= [i,j]:=by kernel_rfl)
 (h:∀K:Act→World→Prop,Shut (∀a' w',(i∈last∨T w')→zBP P md ops Q T last fuel (l.setIfInBounds i true) a' w'→K a' w') →
  if Region.wanted o (yielded ops a.tmps)=true then Oper.wp P o a w K Q else K (a.put o.dst undef) w)
 (h':∀K:Act→World→Prop,Shut (∀a' w',(j∈last∨T w')→zBP P md ops Q T last fuel (l.setIfInBounds j true) a' w'→K a' w') →
  if Region.wanted o' (yielded ops a.tmps)=true then Oper.wp P o' a w K Q else K (a.put o'.dst undef) w):zBP P md ops Q T last (fuel+1) l a w:=by
 refine⟨fun h0=>(by rw[hr]at h0;cases h0),fun x hx=>?_⟩;rw[hr]at hx;have hx2:x=i∨x=j:=by simpa using hx
 rcases hx2 with rfl | rfl
 · exact wpOp_step ho fun K hK=>h K fun a' w' h1 h2=>hK a' w' ⟨h1,h2⟩
 · exact wpOp_step ho' fun K hK=>h' K fun a' w' h1 h2=>hK a' w' ⟨h1,h2⟩
end
end Go.Proofs.YtmbkgapknoammaaGreatDoor
set_option maxRecDepth 100000
set_option maxHeartbeats 20000000
namespace Go.Proofs.YtmbkgapknoammaaGreatDoor
open Go.RowKit Sp
theorem zT5:Tryz.prog.underlying 22 =some (.slice (Tryz.prog.elem 22)):=je
theorem zTd(w:World):(Go.sizeOf (Tryz.prog.elem 22)).run Tryz.prog w=.ok 1 w:=je
theorem Fls.idxU{w:World}{a:Option Addr}{n cap:Nat}{L:Nat→Nat}(h:Fls w a n cap L)(i:Nat)(hi:i<n)(W:World):(Instr.indexAt 22 (.slice a n cap) (.int .i64 i)).run Tryz.prog W=.ok (.pointer (some ⟨ab a,ao a+i,none⟩)) W:=by
 have ha:=h.addr j0;generalize ab a=b at *;generalize ao a=o at *;subst ha;rw[run_indexAt_slice _ _ _ _ _ _ _ zT5,if_pos ⟨j0,j0⟩,zTd];simp only[Result.andThen,Int.toNat_natCast,Nat.mul_one,Addr.add_lit]
theorem bx{op:BinOp}(x y:Int):(bits op .u64 x y).toNat<18446744073709551616:=by have:=bits_lo_u64 op x y;have:=bits_hi_u64 op x y;omega
theorem zTr{op:BinOp}(x y:Int):(((bits op .u64 x y).toNat:Nat):Int)=bits op .u64 x y:=by have:=bits_lo_u64 op x y;omega
theorem zNr{op:BinOp}{x y:Int}{w:World} :∃z:Nat,z<18446744073709551616∧Ending.returned (.int .u64 (bits op .u64 x y))=.returned (.int .u64 ((z:Nat):Int))∧w=w:=⟨_,bx x y,by rw[zTr],rfl⟩
def Sty(s:Int)(y:Nat):Prop:=y<18446744073709551616∧zAA y=true∧(zDj s 4≠3→fM y<4791830003522207744)
theorem zQl{x e K:Nat}(hK:K%9223372036854775808<4503599627370496)(hK2:K<18446744073709551616)(he:e<2000):((x &&& K) ||| (e*4503599627370496))<18446744073709551616∧zAA ((x &&& K) ||| (e*4503599627370496))=true∧fM ((x &&& K) ||| (e*4503599627370496))<(e+1)*4503599627370496:=by
 have h1:x &&& K≤K:=Nat.and_le_right;have h2:((x &&& K) ||| (e*4503599627370496))<2^64:=Nat.or_lt_two_pow j0 j0;have key:fM ((x &&& K) ||| (e*4503599627370496))<(e+1)*4503599627370496:=?_
 · exact⟨h2,decide_eq_true j0,key⟩
 show((x &&& K) ||| (e*4503599627370496))%2^63<_;rw[Nat.or_mod_two_pow,Nat.and_mod_two_pow];have h3:(x%2^63) &&& (K%2^63)≤K%2^63:=Nat.and_le_right;have h4:e*4503599627370496%2^63=e*4503599627370496:=Nat.mod_eq_of_lt j0;rw[h4,Nat.or_comm,Nat.mul_comm e,show(4503599627370496:Nat)=2^52 from rfl,←Nat.two_pow_add_eq_or_of_lt j0];omega
theorem zRi{s:Int}{x:Nat}(hx:x<18446744073709551616){P:Prop}(hP:P):∃y:Nat,Sty s y ∧
 Ending.returned (.int .u64 (bits .or .u64 (bits .and .u64 (x:Int) 9227875636482146303) (IntKind.u64.wrap (IntKind.u64.wrap (1019+bits .and .u64 ((x:Int)/4503599627370496) 7)*4503599627370496))))=.returned (.int .u64 ((y:Nat):Int))∧P:=by
 have h7:x/4503599627370496 &&& 7≤7:=Nat.and_le_right;obtain⟨h1,h2,h3⟩:=zQl (x:=x) (e:=1019+(x/4503599627370496 &&& 7)) (K:=9227875636482146303) ja ja j0;refine⟨_,⟨h1,h2,fun _=>j0⟩,?_,hP⟩;have e1:=bits_and_u64_nat (x/4503599627370496) 7 j0 j0;have e2:=bits_and_u64_nat x 9227875636482146303 hx j0;have e3:=bits_or_u64_nat (x &&& 9227875636482146303) ((1019+(x/4503599627370496 &&& 7))*4503599627370496) (by have:x &&& 9227875636482146303≤9227875636482146303:=Nat.and_le_right;omega) j0;rw[←e3,←e2];have e4:((x/4503599627370496:Nat):Int)=(x:Int)/4503599627370496:=j0
 rw[e4]at e1;rw[show((7:Nat):Int)=7 from rfl]at e1;rw[e1,show((9227875636482146303:Nat):Int)=9227875636482146303 from rfl];have e5:IntKind.u64.wrap (IntKind.u64.wrap (1019+((x/4503599627370496 &&& 7:Nat):Int))*4503599627370496)=(((1019+(x/4503599627370496 &&& 7))*4503599627370496:Nat):Int):=by
  rw[IntKind.wrap_u64,IntKind.wrap_u64];omega
 rw[e5]
theorem zRh{s:Int}{x:Nat}(hx:x<18446744073709551616){P:Prop}(hP:P):∃y:Nat,Sty s y ∧
 Ending.returned (.int .u64 (bits .or .u64 (bits .and .u64 (x:Int) 9225623836668461056) ((983+(x:Int)/256%81)*4503599627370496)))=.returned (.int .u64 ((y:Nat):Int))∧P:=by
 obtain⟨h1,h2,h3⟩:=zQl (x:=x) (e:=983+x/256%81) (K:=9225623836668461056) ja ja j0;refine⟨_,⟨h1,h2,fun _=>j0⟩,?_,hP⟩;have e2:=bits_and_u64_nat x 9225623836668461056 hx j0;have e3:=bits_or_u64_nat (x &&& 9225623836668461056) ((983+x/256%81)*4503599627370496) (by have:x &&& 9225623836668461056≤9225623836668461056:=Nat.and_le_right;omega) j0;rw[←e3,←e2];have e5:(983+(x:Int)/256%81)*4503599627370496=(((983+x/256%81)*4503599627370496:Nat):Int):=j0
 rw[e5];rfl
theorem zLJ{r:Int}(h0: -9≤r)(h1:r≤9):zAA (zAu (nrm r 0) 0)=true∧zAu (nrm r 0) 0<18446744073709551616∧fM (zAu (nrm r 0) 0)<4791830003522207744:=by
 have:∀k:Fin 19,zAA (zAu (nrm ((k.val:Int)-9) 0) 0)=true∧zAu (nrm ((k.val:Int)-9) 0) 0<18446744073709551616∧fM (zAu (nrm ((k.val:Int)-9) 0) 0)<4791830003522207744:=jY
 have h:=this ⟨(r+9).toNat,j0⟩;have e:(((r+9).toNat:Nat):Int)-9=r:=j0
 rw[show((⟨(r+9).toNat,j0⟩:Fin 19).val:Int)-9=r from e]at h;exact h
attribute [local irreducible] Calls
theorem zDF(w:World)(a n:Int)(hn0:1≤n)(hn1:n≤9223372036854775807):Calls Tryz.prog 16 #[.int .i64 a,.int .i64 n] w fun o w'=>o=.returned (.int .i64 (zDj a n))∧w=w':=by
 have hw:IntKind.u64.wrap a=a%18446744073709551616:=by rw[IntKind.wrap_u64]
 obtain⟨u,hu⟩:∃u,u=a%18446744073709551616:=⟨_,rfl⟩;have hp:zDj a n=u%n:=by unfold zDj;rw[←hu]
 have hu0:0≤u:=j0
 have hu1:u≤18446744073709551615:=j0
 rw[←hu]at hw;rw[hp];have hr0:=Int.emod_nonneg u (show n≠0 by omega);have hr1:=Int.emod_lt_of_pos u (show 0<n by omega);clear hu hp;go_enter Tryz.func16,Tryz.ntmps16
 go_wp2
 go_ret;exact⟨rfl,rfl⟩
theorem zHr(a:Int)(n:Nat)(h:0<n):∃k:Nat,zDj a n=(k:Int)∧k<n:=by
 have h1:=Int.emod_nonneg (a%18446744073709551616) (show((n:Nat):Int)≠0 by omega);have h2:=Int.emod_lt_of_pos (a%18446744073709551616) (show 0<((n:Nat):Int)by omega);exact⟨(zDj a n).toNat,by unfold zDj;omega,by unfold zDj;omega⟩
theorem zFa(w:World)(a:Option Addr)(n cap:Nat)(L:Nat→Nat)(hL:Fls w a n cap L)(k:Int)(hk0:0≤k)(hk:k≤1000000):Calls Tryz.prog 68 #[.slice a n cap,.int .i64 k] w fun o w'=>∃x:Nat,x<18446744073709551616∧o=.returned (.int .u64 ((x:Nat):Int))∧w=w':=by
 have l1:=hL.lim;have l2:=hL.fits
 by_cases h0:0<n
 · obtain⟨j,hj,hjn⟩:=zHr k n h0;have HM:=fun W=>Lib.hid (zDF W k n j0 j0);rw[hj]at HM;have k0:=hL.cell j hjn;have i0:=hL.idxU j hjn;clear hj;generalize ((L j:Nat):Int)=y at *;go_enter Tryz.func68,Tryz.ntmps68;go_wp2_with fail;refine(HM _).out.mono ?_;rintro o w1 ⟨rfl,rfl⟩;go_wp2_with fail;go_ret;exact zNr
 · obtain rfl:n=0:=j0;go_enter Tryz.func68,Tryz.ntmps68;go_wp2_with fail;go_ret;exact zNr
theorem zL9(w:World)(x:Nat)(hx:x<18446744073709551616)(hT:Tab w):Calls Tryz.prog 103 #[.int .u64 x] w fun o w'=>∃y:Nat,(y<18446744073709551616∧zAA y=true∧fM y<4791830003522207744)∧o=.returned (.int .u64 ((y:Nat):Int))∧Below w.heap.size w w':=by
 obtain⟨r,hr⟩:∃r:Int,r=((x:Nat):Int)%19-9:=⟨_,rfl⟩;have hr0: -9≤r:=j0
 have hr1:r≤9:=j0
 obtain⟨y,hy⟩:∃y,y=zAu (nrm r 0) 0:=⟨_,rfl⟩;have hf:zAA y=true∧y<18446744073709551616∧fM y<4791830003522207744:=by rw[hy];exact zLJ hr0 hr1
 have HF:=fun W [Tb W]=>Lib.hid (frm (zBJ W r 0 j0 j0 tb));rw[←hy]at HF;haveI HT:Tb w:=⟨hT⟩;clear hy;subst hr;go_enter Tryz.func103,Tryz.ntmps103;go_wp2_with fail;refine(HF _).out.mono ?_;rintro o w1 ⟨rfl,b1⟩;go_wp2_with fail;go_ret;exact⟨_,⟨hf.2.1,hf.1,hf.2.2⟩,rfl,zbh⟩
theorem zJT(w:World)(x:Nat)(hx:x<18446744073709551616)(s:Int)(hT:Tab w):Calls Tryz.prog 67 #[.int .u64 x,.int .i64 s] w fun o w'=>∃y:Nat,Sty s y∧o=.returned (.int .u64 ((y:Nat):Int))∧Below w.heap.size w w':=by
 obtain⟨k,hk,hk4⟩:=zHr s 4 j0;have HM:=fun W=>Lib.hid (zDF W s 4 j0 j0);have HS:=fun W [Tb W]=>Lib.hid ((zL9 W x hx tb).mono fun _ _ ⟨y,h1,h3,h4⟩=>(⟨y,h1,h3,⟨h4⟩⟩:∃y:Nat,(y<18446744073709551616∧zAA y=true∧fM y<4791830003522207744)∧_=Ending.returned (.int .u64 ((y:Nat):Int))∧From W _));have HI:=fun W=>Lib.hid (zC3 W x);haveI HT:Tb w:=⟨hT⟩;rw[show((4:Nat):Int)=4 from rfl]at hk;rw[hk]at HM;have HK:=Lib.hid hk;clear hk;rcases(show k=1∨k=2∨k=3∨k=0 by omega)with rfl | rfl | rfl | rfl
 · go_enter Tryz.func67,Tryz.ntmps67;go_wp2_with fail;refine(HM _).out.mono ?_;rintro o w1 ⟨rfl,rfl⟩;go_wp2_with fail;go_ret;exact zRi hx (Below.refl w.heap.size w)
 · go_enter Tryz.func67,Tryz.ntmps67;go_wp2_with fail;refine(HM _).out.mono ?_;rintro o w1 ⟨rfl,rfl⟩;go_wp2_with fail;go_ret;exact zRh hx (Below.refl w.heap.size w)
 · cases hf:zAA x with
   | true=>
    rw[hf]at HI;go_enter Tryz.func67,Tryz.ntmps67;go_wp2_with fail;refine(HM _).out.mono ?_;rintro o w1 ⟨rfl,rfl⟩;go_wp2_with fail;refine(HI _).out.mono ?_;rintro o w1 ⟨rfl,rfl⟩;go_wp2_with fail;go_ret;exact⟨x,⟨hx,hf,fun h=>absurd HK.out h⟩,rfl,zbh⟩
   | false=>
    rw[hf]at HI;go_enter Tryz.func67,Tryz.ntmps67;go_wp2_with fail;refine(HM _).out.mono ?_;rintro o w1 ⟨rfl,rfl⟩;go_wp2_with fail;refine(HI _).out.mono ?_;rintro o w1 ⟨rfl,rfl⟩;go_wp2_with fail;go_ret;exact⟨0,⟨j0,ja,fun _=>ja⟩,rfl,zbh⟩
 · go_enter Tryz.func67,Tryz.ntmps67;go_wp2_with fail;refine(HM _).out.mono ?_;rintro o w1 ⟨rfl,rfl⟩;go_wp2_with fail;refine(HS _).out.mono ?_;rintro o w1 ⟨y,hy,rfl,b1⟩;go_wp2_with fail;go_ret;exact⟨y,⟨hy.1,hy.2.1,fun _=>hy.2.2⟩,rfl,zbh⟩
end Go.Proofs.YtmbkgapknoammaaGreatDoor
namespace Go.Proofs.YtmbkgapknoammaaGreatDoor
open Go.RowKit Sp
theorem Dys.ce{w:World}{a:Option Addr}{n cap:Nat}{L:Nat→El}(h:Dys w a n cap L){i:Nat}(hi:i<n):CE w (ab a) (ao a+i*4) (.bool (L i).bd)∧CE w (ab a) (ao a+i*4+1) (.bool (L i).s)∧CE w (ab a) (ao a+i*4+2) (.slice (L i).a (L i).n (L i).p)∧CE w (ab a) (ao a+i*4+3) (.int .i64 (L i).e):=by
 have hl:=h.old j0;exact⟨⟨h.c0 i hi,hl⟩,⟨h.c1 i hi,hl⟩,⟨h.c2 i hi,hl⟩,⟨h.c3 i hi,hl⟩⟩
attribute [local irreducible] Calls
end Go.Proofs.YtmbkgapknoammaaGreatDoor
namespace Go.Proofs.YtmbkgapknoammaaGreatDoor
open Go.RowKit Sp
def mel(d:Nat→Option (Int×Int))(A:Nat→Option Addr)(C:Nat→Nat)(i:Nat):El:=
 ⟨zAj (d i),decide (zA1 (d i)<0),A i,nl (zA1 (d i)).natAbs,C i,zA7 (d i),(zA1 (d i)).natAbs⟩
structure Dz(w:World)(a:Option Addr)(n c:Nat)(d:Nat→Option (Int×Int)):Prop where
 ex:∃A C,Dys w a n c (mel d A C)
 N:∀i,i<n→IsN (d i)
class DZ(W:World)(a:Option Addr)(n c:Nat)(d:outParam (Nat→Option (Int×Int))):Prop where out:Dz W a n c d
section
variable {W W':World}{a:Option Addr}{n c:Nat}{d d':Nat→Option (Int×Int)}
theorem Dz.below(h:Dz W a n c d)(hb:Below W.heap.size W W'):Dz W' a n c d:=by
 obtain⟨⟨A,C,h1⟩,h2⟩:=h;exact⟨⟨A,C,h1.below hb⟩,h2⟩
instance DZ.dr[h:DZ W a n c d]:DZ W.drew a n c d:=⟨h.out.below (Below.refl _ _).drew⟩
instance DZ.dn(q:Nat)[h:DZ W a n c d]:DZ (W.drewN q) a n c d:=⟨h.out.below (below_drewN (Below.refl _ _) _)⟩
instance DZ.al(o:Obj)[h:DZ W a n c d]:DZ (W.alloc o) a n c d:=⟨h.out.below ((Below.refl _ _).alloc (Nat.le_refl _) _)⟩
instance DZ.fr(L:World)[k:From L W][h:DZ L a n c d]:DZ W a n c d:=⟨h.out.below k.out⟩
theorem Dz.fits(h:Dz W a n c d):n≤c∧c≤9223372036854775807:=by obtain⟨⟨A,C,h1⟩,_⟩:=h;exact⟨h1.fits,h1.lim⟩
theorem Dz.idx(h:Dz W a n c d)(i:Nat)(hi:i<n)(V:World):(Instr.indexAt 44 (.slice a n c) (.int .i64 i)).run Tryz.prog V=.ok (.pointer (some ⟨ab a,ao a+i*4,none⟩)) V:=by
 obtain⟨⟨A,C,h1⟩,_⟩:=h;exact h1.idx i hi V
theorem Dz.congr(h:Dz W a n c d)(e:∀i,i<n→d i=d' i):Dz W a n c d':=by
 obtain⟨⟨A,C,h1⟩,h2⟩:=h;have em:∀i,i<n→mel d A C i=mel d' A C i:=fun i hi=>by unfold mel;rw[e i hi]
 exact⟨⟨A,C,⟨h1.fits,h1.lim,h1.addr,fun i hi=>by rw[←em i hi];exact h1.c0 i hi,fun i hi=>by rw[←em i hi];exact h1.c1 i hi,fun i hi=>by rw[←em i hi];exact h1.c2 i hi,fun i hi=>by rw[←em i hi];exact h1.c3 i hi,fun i hi=>by rw[←em i hi];exact h1.m i hi,fun i hi=>by rw[←em i hi];exact h1.b i hi,h1.old⟩⟩,fun i hi=>by rw[←e i hi];exact h2 i hi⟩
end
attribute [local irreducible] Calls
end Go.Proofs.YtmbkgapknoammaaGreatDoor
namespace Go.Proofs.YtmbkgapknoammaaGreatDoor
open Go.RowKit Sp
class DM(w:World)(base:Nat)(v:Value)(k:Nat)(d:outParam (Nat→Option (Int×Int)))(A:outParam (Nat→Option Addr))(C:outParam (Nat→Nat)):Prop where
 out:Dms w base v k d A C
 fr:∀i,i<k→0<nl (zA1 (d i)).natAbs→base≤ab (A i)
section
variable {w w':World}{base:Nat}{v v':Value}{k:Nat}{d:Nat→Option (Int×Int)}{A:Nat→Option Addr}{C:Nat→Nat}
instance DM.dr[h:DM w base v k d A C]:DM w.drew base v k d A C:=⟨h.out.below (Below.refl _ _).drew,h.fr⟩
instance DM.dn(q:Nat)[h:DM w base v k d A C]:DM (w.drewN q) base v k d A C:=⟨h.out.below (below_drewN (Below.refl _ _) _),h.fr⟩
instance DM.al(o:Obj)[h:DM w base v k d A C]:DM (w.alloc o) base v k d A C:=⟨h.out.below ((Below.refl _ _).alloc (Nat.le_refl _) _),h.fr⟩
instance DM.fr'(L:World)[f:From L w][h:DM L base v k d A C]:DM w base v k d A C:=⟨h.out.below f.out,h.fr⟩
theorem DM.nil(w:World)(base:Nat)(d:Nat→Option (Int×Int)):DM w base (.slice none 0 0) 0 d (fun _=>none) (fun _=>0):=
 ⟨⟨World.ownsRow_nil _ _ _ _,fun i hi=>j0,fun i hi=>j0⟩,fun i hi=>j0⟩
theorem DM.sen(h:DM w base v k d A C){b:Nat}(hb:b<base)(i:Nat)(u:Value):DM (w.setCell ⟨b,i,none⟩ u) base v k d A C:=by
 have hg:w.grownBy (w.setCell ⟨b,i,none⟩ u) (some b):=zBK (zCP w b) i u;refine⟨h.out.kept hg ?_ (fun j hj hp e=>?_),h.fr⟩
 · rcases hv:v.ownBlock with _ | g
   · exact Or.inl rfl
   · refine Or.inr fun e=>?_;have:=(h.out.own.lt g hv).1;injection e with e;omega
 · have:=h.fr j hj hp;injection e with e;omega
theorem DM.app(h:DM w base v k d A C){dk:Option (Int×Int)}{a1:Option Addr}{c1:Nat}
 (ho:w'.ownsRow base 53 4 v' (k+1) (zAv (zCm d A C) k++ [.bool (zAj dk),.bool (decide (zA1 dk<0)),.slice a1 (nl (zA1 dk).natAbs) c1,.int .i64 (zA7 dk)]))
 (hg:w.grownBy w' v.ownBlock) (hv:v'.ownBlock=v.ownBlock∨v'.ownBlock=some w.heap.size) (hm:Mag w a1 (nl (zA1 dk).natAbs) c1 (zA1 dk).natAbs) (hf:0<nl (zA1 dk).natAbs→base≤ab a1) (hne:0<nl (zA1 dk).natAbs→some (ab a1)≠v.ownBlock) :
 DM w' base v' (k+1) (fun i=>if i=k then dk else d i) (fun i=>if i=k then a1 else A i) (fun i=>if i=k then c1 else C i):=by
 have h2:=h.out.congr (d':=fun i=>if i=k then dk else d i) (fun i hi=>(if_neg j0).symm);have e2:zAv (zCm d A C) k=zAv (zCm (fun i=>if i=k then dk else d i) A C) k:=zBA fun i hi=>by unfold zCm;simp only[if_neg (show ¬i=k by omega)]
 rw[e2]at ho;refine⟨h2.app (by simp only[if_true];exact ho) hg hv (by simp only[if_true];exact hm) (by simp only[if_true];exact hne),fun i hi=>?_⟩
 by_cases hk:i=k
 · simp only[if_pos hk];exact hf
 · simp only[if_neg hk];exact h.fr i j0
end
theorem DM.mono{w:World}{base base' k:Nat}{v:Value}{d:Nat→Option (Int×Int)}{A:Nat→Option Addr}{C:Nat→Nat}(h:DM w base v k d A C)(hb:base'≤base):DM w base' v k d A C:=
 ⟨⟨⟨h.out.own.1,h.out.own.2.imp id fun⟨g,c,cur,e,hbg,r⟩=>⟨g,c,cur,e,Nat.le_trans hb hbg,r⟩⟩,h.out.m,h.out.ap⟩,fun i hi hp=>Nat.le_trans hb (h.fr i hi hp)⟩
theorem N3.own{W W':World}{b base:Nat}{x0 x1 x2:Value}{v:Value}{k:Nat}{d:Nat→Option (Int×Int)}{A:Nat→Option Addr}{C:Nat→Nat}(h:N3 W b x0 x1 x2)(hd:DM W base v k d A C)(hb:b<base)(hg:W.grownBy W' v.ownBlock):N3 W' b x0 x1 x2:=by
 have hne:some b≠v.ownBlock:=fun e=>by have:=(hd.out.own.lt b e.symm).1;omega
 have hblk:=hg.block b h.lt hne;have hc:∀i,W'.cell? ⟨b,i,none⟩=W.cell? ⟨b,i,none⟩:=fun i=>World.cell?_of_block (a:=⟨b,i,none⟩) hblk;exact⟨(hc 0).trans h.c0,(hc 1).trans h.c1,(hc 2).trans h.c2,fun i=>(World.frozen?_of_block (a:=⟨b,i,none⟩) hblk).trans (h.z i),Nat.lt_of_lt_of_le h.lt hg.size⟩
theorem N3.se2{W:World}{b:Nat}{x0 x1 x2:Value}(h:N3 W b x0 x1 x2)(y:Value):N3 (W.setCell ⟨b,2,none⟩ y) b x0 x1 y:=by
 obtain⟨c0,c1,c2,c3,c4⟩:=h;exact⟨jj,jj,jj,fun i=>jj,by simpa using c4⟩
theorem N3.sen{W:World}{b g:Nat}{x0 x1 x2:Value}(h:N3 W b x0 x1 x2)(ne:b≠g)(i:Nat)(y:Value):N3 (W.setCell ⟨g,i,none⟩ y) b x0 x1 x2:=
 ⟨(zAm ne _ _ _).trans h.c0,(zAm ne _ _ _).trans h.c1,(zAm ne _ _ _).trans h.c2,fun j=>(zAs j _ _).trans (h.z j),jW⟩
def Fin'(X:Nat→Nat):Prop:=∀i,X i<18446744073709551616∧zAA (X i)=true
theorem Fin'.up{X:Nat→Nat}(h:Fin' X){k y:Nat}(h1:y<18446744073709551616)(h2:zAA y=true):Fin' (fun i=>if i=k then y else X i):=fun i=>by
 by_cases e:i=k
 · simp only[if_pos e];exact⟨h1,h2⟩
 · simp only[if_neg e];exact h i
theorem zTl{P:Program}{f:FuncId}{args:Array Value}{W:World}(h:Calls P f args W fun o w'=>∃x:Nat,x<18446744073709551616∧o=.returned (.int .u64 ((x:Nat):Int))∧W=w'):Calls P f args W fun o w'=>∃x:Nat,x<18446744073709551616∧o=.returned (.int .u64 ((x:Nat):Int))∧From W w':=
 h.mono fun _ _ ⟨x,h1,h2,h3⟩=>⟨x,h1,h2,⟨by subst h3;exact Below.refl _ _⟩⟩
theorem zTD{P:Program}{f:FuncId}{args:Array Value}{W:World}{R:Nat→Prop}(h:Calls P f args W fun o w'=>∃y:Nat,R y∧o=.returned (.int .u64 ((y:Nat):Int))∧Below W.heap.size W w'):Calls P f args W fun o w'=>∃y:Nat,R y∧o=.returned (.int .u64 ((y:Nat):Int))∧From W w':=
 h.mono fun _ _ ⟨y,h1,h3,h4⟩=>⟨y,h1,h3,⟨h4⟩⟩
attribute [local irreducible] Calls
end Go.Proofs.YtmbkgapknoammaaGreatDoor
namespace Go.Proofs.YtmbkgapknoammaaGreatDoor
open Go.RowKit Sp
structure Val(r c q:Nat)(S I F:Nat→Nat):Prop where
 z:S 0=0
 e:S c=q
 m:∀t,t<c→S t≤S (t+1)
 a:∀t x,t<c→S t≤x→x<S (t+1)→I x<r∧(S t<x→I (x-1)<I x)
 f:∀x,F x<18446744073709551616∧zAA (F x)=true
theorem Val.mono{r c q:Nat}{S I F:Nat→Nat}(h:Val r c q S I F):∀d t,t+d≤c→S t≤S (t+d):=by
 intro d
 induction d with
 | zero=>intro t _;exact Nat.le_refl _
 | succ d ih=>intro t ht;exact Nat.le_trans (ih t j0) (h.m (t+d) j0)
theorem Val.le{r c q:Nat}{S I F:Nat→Nat}(h:Val r c q S I F){t:Nat}(ht:t≤c):S t≤q:=by
 have:=h.mono (c-t) t j0;rwa[show t+(c-t)=c by omega,h.e]at this
def lk(I F:Nat→Nat)(i a:Nat):Nat→Option Nat
 | 0=>none
 | n+1=>match lk I F i a n with
  | some y=>some y
  | none=>if I (a+n)=i then some (F (a+n))else none
def atv(S I F:Nat→Nat)(i j:Nat):Nat:=(lk I F i (S j) (S (j+1)-S j)).getD 0
def stv(S I F:Nat→Nat)(i j:Nat):Bool:=(lk I F i (S j) (S (j+1)-S j)).isSome
theorem zP9{I F I' F':Nat→Nat}{i a:Nat} :∀n,(∀x,a≤x→x<a+n→I x=I' x∧F x=F' x)→lk I F i a n=lk I' F' i a n:=by
 intro n
 induction n with
 | zero=>intro _;rfl
 | succ n ih=>
  intro h;simp only[lk];rw[ih fun x h1 h2=>h x h1 j0,(h (a+n) j0 j0).1,(h (a+n) j0 j0).2]
theorem zGu{I F:Nat→Nat}{i a:Nat} :∀n,(∀x,a≤x→x<a+n→I x≠i)→lk I F i a n=none:=by
 intro n
 induction n with
 | zero=>intro _;rfl
 | succ n ih=>
  intro h;simp only[lk];rw[ih fun x h1 h2=>h x h1 j0];simp only[if_neg (h (a+n) j0 j0)]
theorem zR3{I F:Nat→Nat}{i a y:Nat} :∀d n,lk I F i a n=some y→lk I F i a (n+d)=some y:=by
 intro d
 induction d with
 | zero=>intro n h;exact h
 | succ d ih=>intro n h;show(match lk I F i a (n+d)with | some y=>some y | none=>_)=_;rw[ih n h]
theorem zQg{I F:Nat→Nat}{i a n x:Nat}(hn:a≤x)(hx:x<a+n)(h0:∀y,a≤y→y<x→I y≠i)(h:I x=i):lk I F i a n=some (F x):=by
 have h1:lk I F i a (x-a)=none:=zGu _ fun y h1 h2=>h0 y h1 j0;have h2:lk I F i a (x-a+1)=some (F x):=by
  simp only[lk];rw[h1];simp only[show a+(x-a)=x by omega,if_pos h]
 have:=zR3 (n-(x-a+1)) _ h2;rwa[show x-a+1+(n-(x-a+1))=n by omega]at this
theorem zJD{I F:Nat→Nat}{i a y:Nat} :∀n,lk I F i a n=some y→∃x,a≤x∧x<a+n∧I x=i∧F x=y:=by
 intro n
 induction n with
 | zero=>intro h;cases h
 | succ n ih=>
  intro h;simp only[lk]at h
  cases h1:lk I F i a n with
  | some y'=>
   rw[h1]at h;simp only[Option.some.injEq]at h;obtain⟨x,h2,h3,h4,h5⟩:=ih (by rw[h1,h]);exact⟨x,h2,j0,h4,h5⟩
  | none=>
   rw[h1]at h;simp only at h
   split at h
   · rename_i hi;injection h with h;exact⟨a+n,j0,j0,hi,h⟩
   · cases h
theorem zO4{r c q:Nat}{S I F:Nat→Nat}(h:Val r c q S I F)(i j:Nat):atv S I F i j<18446744073709551616∧zAA (atv S I F i j)=true:=by
 unfold atv
 cases h1:lk I F i (S j) (S (j+1)-S j)with
 | none=>exact⟨ja,ja⟩
 | some y=>obtain⟨x,_,_,_,rfl⟩:=zJD _ h1;exact h.f x
theorem zKi{S I F:Nat→Nat}{P:Nat→Prop}(h0:P 0)(h:∀x,P (F x))(i j:Nat):P (atv S I F i j):=by
 unfold atv
 cases h1:lk I F i (S j) (S (j+1)-S j)with
 | none=>exact h0
 | some y=>obtain⟨x,_,_,_,rfl⟩:=zJD _ h1;exact h x
theorem zFb{l:List Nat}{x t:Nat}(h:t<l.length):(l++ [x]).getD t 0=l.getD t 0:=by
 rw[List.getD_eq_getElem?_getD,List.getD_eq_getElem?_getD,List.getElem?_append_left h]
theorem zFc{l:List Nat}{x n:Nat}(h:l.length=n):(l++ [x]).getD n 0=x:=by
 subst h;rw[List.getD_eq_getElem?_getD,List.getElem?_append_right (Nat.le_refl _),Nat.sub_self];rfl
structure GV(r j k:Nat)(S I:List Nat)(q:Nat):Prop where
 sl:S.length=j+1
 il:I.length=q
 z:S.getD 0 0=0
 m:∀t,t<j→S.getD t 0≤S.getD (t+1) 0
 l:S.getD j 0≤q
 a:∀t x,t<j→S.getD t 0≤x→x<S.getD (t+1) 0→I.getD x 0<r∧(S.getD t 0<x→I.getD (x-1) 0<I.getD x 0)
 b:∀x,S.getD j 0≤x→x<q→I.getD x 0<k∧(S.getD j 0<x→I.getD (x-1) 0<I.getD x 0)
section
variable {r j k q:Nat}{S I:List Nat}
theorem GV.start(r:Nat):GV r 0 0 [0] [] 0:=⟨rfl,rfl,rfl,fun t h=>j0,Nat.le_refl _,fun t x h=>j0,fun x _ h=>j0⟩
theorem GV.mono(h:GV r j k S I q):∀d t,t+d≤j→S.getD t 0≤S.getD (t+d) 0:=by
 intro d
 induction d with
 | zero=>intro t _;exact Nat.le_refl _
 | succ d ih=>intro t ht;exact Nat.le_trans (ih t j0) (h.m (t+d) j0)
theorem GV.le(h:GV r j k S I q){t:Nat}(ht:t≤j):S.getD t 0≤q:=by
 have h1:=h.mono (j-t) t j0;rw[show t+(j-t)=j by omega]at h1;exact Nat.le_trans h1 h.l
theorem GV.skip(h:GV r j k S I q):GV r j (k+1) S I q:=
 ⟨h.sl,h.il,h.z,h.m,h.l,h.a,fun x h1 h2=>⟨by have:=(h.b x h1 h2).1;omega,(h.b x h1 h2).2⟩⟩
theorem GV.put(h:GV r j k S I q):GV r j (k+1) S (I++ [k]) (q+1):=by
 have e:∀x,x<q→(I++ [k]).getD x 0=I.getD x 0:=fun x hx=>zFb (by rw[h.il];exact hx);refine⟨h.sl,by rw[List.length_append,h.il];rfl,h.z,h.m,by have:=h.l;omega,fun t x h0 h1 h2=>?_,fun x h1 h2=>?_⟩
 · have hq:x<q:=Nat.lt_of_lt_of_le h2 (h.le (t:=t+1) j0);rw[e x hq,e (x-1) j0];exact h.a t x h0 h1 h2
 · by_cases hx:x=q
   · subst hx;rw[zFc h.il];refine⟨j0,fun h3=>?_⟩;rw[e (x-1) j0];exact(h.b (x-1) j0 j0).1
   · rw[e x j0,e (x-1) j0];have:=h.b x h1 j0;exact⟨j0,this.2⟩
theorem GV.close(h:GV r j k S I q)(hk:k≤r):GV r (j+1) 0 (S++ [q]) I q:=by
 have e:∀x,x≤j→(S++ [q]).getD x 0=S.getD x 0:=fun x hx=>zFb (by rw[h.sl];omega);have e1:(S++ [q]).getD (j+1) 0=q:=zFc h.sl;refine⟨by rw[List.length_append,h.sl];rfl,h.il,by rw[e 0 j0];exact h.z,fun t ht=>?_,by rw[e1];exact Nat.le_refl _,fun t x h0 h1 h2=>?_,fun x h1 h2=>by rw[e1]at h1;omega⟩
 · by_cases hj:t=j
   · subst hj;rw[e1,e t j0];exact h.l
   · rw[e t j0,e (t+1) j0];exact h.m t j0
 · by_cases hj:t=j
   · subst hj;rw[e1]at h2;rw[e t j0]at h1 ⊢;have:=h.b x h1 h2;exact⟨j0,this.2⟩
   · rw[e t j0]at h1 ⊢;rw[e (t+1) j0]at h2;exact h.a t x j0 h1 h2
theorem GV.val{c:Nat}{F:Nat→Nat}(h:GV r c 0 S I q)(hF:∀x,F x<18446744073709551616∧zAA (F x)=true):Val r c q (fun t=>S.getD t 0) (fun t=>I.getD t 0) F:=by
 refine⟨h.z,?_,h.m,h.a,hF⟩;show S.getD c 0=q;have h1:=h.l
 by_cases h2:S.getD c 0<q
 · exact absurd (h.b _ (Nat.le_refl _) h2).1 (Nat.not_lt_zero _)
 · exact j0
end
structure Con(r j k:Nat)(S I:List Nat)(X:Nat→Nat)(q:Nat)(E:Nat→Nat→Option Nat):Prop where
 c:∀t i,t<j→i<r→lk (fun t=>I.getD t 0) X i (S.getD t 0) (S.getD (t+1) 0-S.getD t 0)=E i t
 o:∀i,lk (fun t=>I.getD t 0) X i (S.getD j 0) (q-S.getD j 0)=if i<k then E i j else none
section
variable {r j k q:Nat}{S I:List Nat}{X:Nat→Nat}{E:Nat→Nat→Option Nat}
theorem Con.start(r:Nat)(X:Nat→Nat)(E:Nat→Nat→Option Nat):Con r 0 0 [0] [] X 0 E:=⟨fun t i h=>j0,fun i=>by rw[if_neg j0];rfl⟩
theorem Con.skip(h:Con r j k S I X q E)(hE:E k j=none):Con r j (k+1) S I X q E:=⟨h.c,fun i=>by
 rw[h.o i]
 by_cases hi:i=k
 · subst hi;rw[if_neg j0,if_pos j0,hE]
 · by_cases h2:i<k
   · rw[if_pos h2,if_pos j0]
   · rw[if_neg h2,if_neg j0]⟩
theorem Con.put(h:Con r j k S I X q E)(g:GV r j k S I q){y:Nat}(hE:E k j=some y):Con r j (k+1) S (I++ [k]) (fun t=>if t=q then y else X t) (q+1) E:=by
 have e:∀x,x<q→(I++ [k]).getD x 0=I.getD x 0:=fun x hx=>zFb (by rw[g.il];exact hx);have c1:∀i a n,a+n≤q→lk (fun t=>(I++ [k]).getD t 0) (fun t=>if t=q then y else X t) i a n=lk (fun t=>I.getD t 0) X i a n:=fun i a n ha=>zP9 n fun x h1 h2=>⟨e x j0,if_neg j0⟩;refine⟨fun t i h0 h1=>?_,fun i=>?_⟩
 · have h2:=g.m t h0;have h3:=g.le (t:=t+1) j0;rw[c1 i _ _ j0];exact h.c t i h0 h1
 · have h3:=g.l;rw[show q+1-S.getD j 0=q-S.getD j 0+1 by omega];simp only[lk];rw[c1 i _ _ j0,h.o i];have e3:S.getD j 0+(q-S.getD j 0)=q:=j0;simp only[e3,zFc g.il,if_true]
   by_cases hi:i=k
   · subst hi;rw[if_neg (Nat.lt_irrefl i),if_pos (Nat.lt_succ_self i),hE];simp
   · by_cases h2:i<k
     · rw[if_pos h2,if_pos (show i<k+1 by omega)]
       cases E i j with
       | none=>simp only;rw[if_neg (show ¬k=i by omega)]
       | some z=>rfl
     · rw[if_neg h2,if_neg (show ¬i<k+1 by omega)];simp only;rw[if_neg (show ¬k=i by omega)]
theorem Con.close(h:Con r j r S I X q E)(g:GV r j r S I q):Con r (j+1) 0 (S++ [q]) I X q E:=by
 have e:∀x,x≤j→(S++ [q]).getD x 0=S.getD x 0:=fun x hx=>zFb (by rw[g.sl];omega);have e1:(S++ [q]).getD (j+1) 0=q:=zFc g.sl;refine⟨fun t i h0 h1=>?_,fun i=>by rw[if_neg j0,e1,Nat.sub_self];rfl⟩
 by_cases hj:t=j
 · subst hj;rw[e1,e t j0,h.o i,if_pos h1]
 · rw[e t j0,e (t+1) j0];exact h.c t i j0 h1
end
end Go.Proofs.YtmbkgapknoammaaGreatDoor

/-
  Variables of five words that a drawn region makes and fills: how far it has come. No function of the program in sight.
-/
import Derived.Test.YtmbkgapknoammaaGreatDoorZuTj
import Derived.Test.YtmbkgapknoammaaGreatDoorZuRj
namespace Go.Proofs.YtmbkgapknoammaaGreatDoor
open Go.RowKit Sp
def zCO{α:Type}(a b c d:α)(j:Nat):α:=match j with | 0=>a | 1=>b | 2=>c | _=>d
def up1{α:Type}(f:Nat→α)(i:Nat)(v:α):Nat→α:=fun j=>if j=i then v else f j
theorem zBR{α:Type}(f:Nat→α)(i:Nat)(v:α):up1 f i v i=v:=if_pos rfl
theorem zAL{α:Type}(f:Nat→α){i j:Nat}(h:j≠i)(v:α):up1 f i v j=f j:=if_neg h
theorem zBQ{f:Nat→Bool}{i j:Nat}(h:up1 f i true j=true):j=i∨(j≠i∧f j=true):=by
 by_cases hj:j=i
 · exact Or.inl hj
 · rw[zAL _ hj]at h;exact Or.inr ⟨hj,h⟩
def Box(w:World)(b:Nat):Prop:=∃x0 x1 x2 x3 x4,N5 w b x0 x1 x2 x3 x4
theorem Box.spec{w:World}{b:Nat}(h:Box w b):N5 w b (Exists.choose h) (Exists.choose (Exists.choose_spec h)) (Exists.choose (Exists.choose_spec (Exists.choose_spec h))) (Exists.choose (Exists.choose_spec (Exists.choose_spec (Exists.choose_spec h)))) (Exists.choose (Exists.choose_spec (Exists.choose_spec (Exists.choose_spec (Exists.choose_spec h))))):=Exists.choose_spec (Exists.choose_spec (Exists.choose_spec (Exists.choose_spec (Exists.choose_spec h))))
theorem N5.set5{W:World}{b:Nat}{x0 x1 x2 x3 x4:Value}(h:N5 W b x0 x1 x2 x3 x4)(y0 y1 y2 y3 y4:Value):N5 (((((W.setCell ⟨b,0,none⟩ y0).setCell ⟨b,1,none⟩ y1).setCell ⟨b,2,none⟩ y2).setCell ⟨b,3,none⟩ y3).setCell ⟨b,4,none⟩ y4) b y0 y1 y2 y3 y4:=by
 obtain⟨c0,c1,c2,c3,c4,c5,c6⟩:=h;exact⟨jj,jj,jj,jj,jj,fun i=>jj,Xa⟩
theorem N5.st5{W:World}{b g:Nat}{x0 x1 x2 x3 x4:Value}(h:N5 W b x0 x1 x2 x3 x4)(ne:b≠g)(y0 y1 y2 y3 y4:Value):N5 (((((W.setCell ⟨g,0,none⟩ y0).setCell ⟨g,1,none⟩ y1).setCell ⟨g,2,none⟩ y2).setCell ⟨g,3,none⟩ y3).setCell ⟨g,4,none⟩ y4) b x0 x1 x2 x3 x4:=by
 obtain⟨c0,c1,c2,c3,c4,c5,c6⟩:=h;have k:∀(V:World) (i j:Nat) (y:Value),(V.setCell ⟨g,i,none⟩ y).cell? ⟨b,j,none⟩=V.cell? ⟨b,j,none⟩:=fun V i j y=>zAm ne _ _ _;refine⟨?_,?_,?_,?_,?_,fun i=>?_,Xa⟩
 · rw[k,k,k,k,k];exact c0
 · rw[k,k,k,k,k];exact c1
 · rw[k,k,k,k,k];exact c2
 · rw[k,k,k,k,k];exact c3
 · rw[k,k,k,k,k];exact c4
 · rw[zAs,zAs,zAs,zAs,zAs];exact c5 i
theorem Mag.st5{W:World}{a:Option Addr}{n c x g:Nat}(h:Mag W a n c x)(ne:0<n→ab a≠g)(y0 y1 y2 y3 y4:Value):Mag (((((W.setCell ⟨g,0,none⟩ y0).setCell ⟨g,1,none⟩ y1).setCell ⟨g,2,none⟩ y2).setCell ⟨g,3,none⟩ y3).setCell ⟨g,4,none⟩ y4) a n c x:=((((h.set ne 0 y0).set ne 1 y1).set ne 2 y2).set ne 3 y3).set ne 4 y4
structure NS(w0:World)(I:Nat→Int)(d:Nat→Option (Int×Int))(al ca st:Nat→Bool)(B:Nat→Nat)(A:Nat→Option Addr)(C:Nat→Nat)(w:World):Prop where
 beh:Below w0.heap.size w0 w
 bx:∀i,al i=true→w0.heap.size≤B i∧Box w (B i)
 ne:∀i j,i≠j→al i=true→al j=true→B i≠B j
 nu:∀i,ca i=true→Mag w (A i) (nl (zA1 (d i)).natAbs) (C i) (zA1 (d i)).natAbs
 fr:∀i j,al i=true→ca j=true→0<nl (zA1 (d j)).natAbs→ab (A j)≠B i
 se:∀i,st i=true→al i=true∧ca i=true∧N5 w (B i) (.int .i64 (I i)) (.bool (zAj (d i))) (.bool (decide (zA1 (d i)<0))) (.slice (A i) (nl (zA1 (d i)).natAbs) (C i)) (.int .i64 (zA7 (d i)))
section
variable {w0 w:World}{I:Nat→Int}{d:Nat→Option (Int×Int)}{al ca st:Nat→Bool}{B:Nat→Nat}{A:Nat→Option Addr}{C:Nat→Nat}
theorem NS.start(w0:World)(I:Nat→Int)(d:Nat→Option (Int×Int))(B:Nat→Nat)(A:Nat→Option Addr)(C:Nat→Nat):NS w0 I d (fun _=>false) (fun _=>false) (fun _=>false) B A C w0:=
 ⟨Below.refl _ _,fun _ h=>absurd h Bool.false_ne_true,fun _ _ _ h=>absurd h Bool.false_ne_true,fun _ h=>absurd h Bool.false_ne_true,fun _ _ h=>absurd h Bool.false_ne_true,fun _ h=>absurd h Bool.false_ne_true⟩
theorem NS.alloc(h:NS w0 I d al ca st B A C w)(i:Nat)(hi:al i=false)(x0 x1 x2 x3 x4:Value)(t:TypeId):NS w0 I d (up1 al i true) ca st (up1 B i w.heap.size) A C (w.alloc (.cells #[x0,x1,x2,x3,x4] t)):=by
 have B0:Below w.heap.size w (w.alloc (.cells #[x0,x1,x2,x3,x4] t)):=(Below.refl _ _).alloc (Nat.le_refl _) _;have hsz:=h.beh.size;refine⟨h.beh.alloc hsz _,fun j hj=>?_,fun j l hne hj hl=>?_,fun j hj=>(h.nu j hj).below B0,fun j l hj hl hp=>?_,fun j hj=>?_⟩
 · rcases zBQ hj with rfl | ⟨hji,hj⟩
   · rw[zBR];exact⟨hsz,_,_,_,_,_,N5.made w t x0 x1 x2 x3 x4 rfl⟩
   · rw[zAL _ hji];obtain⟨h1,y0,y1,y2,y3,y4,h2⟩:=h.bx j hj;exact⟨h1,_,_,_,_,_,h2.below B0⟩
 · rcases zBQ hj with hji | ⟨hji,hj'⟩ <;> rcases zBQ hl with hli | ⟨hli,hl'⟩
   · exact absurd (hji.trans hli.symm) hne
   · rw[hji,zBR,zAL _ hli];obtain⟨_,y0,y1,y2,y3,y4,h2⟩:=h.bx l hl';have:=h2.lt;omega
   · rw[hli,zBR,zAL _ hji];obtain⟨_,y0,y1,y2,y3,y4,h2⟩:=h.bx j hj';have:=h2.lt;omega
   · rw[zAL _ hji,zAL _ hli];exact h.ne j l hne hj' hl'
 · rcases zBQ hj with rfl | ⟨hji,hj⟩
   · rw[zBR];have:=(h.nu l hl).old hp;omega
   · rw[zAL _ hji];exact h.fr j l hj hl hp
 · exact KE
theorem NS.on(h:NS w0 I d al ca st B A C w){w':World}(hb:From w w'):NS w0 I d al ca st B A C w':=by
 have B0:=hb.out;refine⟨h.beh.trans (B0.mono h.beh.size),fun j hj=>?_,h.ne,fun j hj=>(h.nu j hj).below B0,h.fr,fun j hj=>?_⟩
 · obtain⟨h1,y0,y1,y2,y3,y4,h2⟩:=h.bx j hj;exact⟨h1,_,_,_,_,_,h2.below B0⟩
 · exact Xq
theorem NS.num(h:NS w0 I d al ca st B A C w)(j:Nat)(hj:ca j=false)(a:Option Addr)(c:Nat)(hm:Mag w a (nl (zA1 (d j)).natAbs) c (zA1 (d j)).natAbs)
 (hf:∀i,al i=true→0<nl (zA1 (d j)).natAbs→ab a≠B i):NS w0 I d al (up1 ca j true) st B (up1 A j a) (up1 C j c) w:=by
 refine⟨h.beh,h.bx,h.ne,fun i hi=>?_,fun i l hi hl hp=>?_,fun i hi=>?_⟩
 · rcases zBQ hi with rfl | ⟨hij,hi⟩
   · rw[zBR,zBR];exact hm
   · rw[zAL _ hij,zAL _ hij];exact h.nu i hi
 · rcases zBQ hl with rfl | ⟨hlj,hl⟩
   · rw[zBR];exact hf i hi hp
   · rw[zAL _ hlj];exact h.fr i l hi hl hp
 · exact KD
theorem NS.call(h:NS w0 I d al ca st B A C w)(j:Nat)(hj:ca j=false){w':World}(hb:From w w')(a:Option Addr)(c:Nat)(hm:Mag w' a (nl (zA1 (d j)).natAbs) c (zA1 (d j)).natAbs)
 (hf:0<nl (zA1 (d j)).natAbs→w.heap.size≤ab a):NS w0 I d al (up1 ca j true) st B (up1 A j a) (up1 C j c) w':=
 (h.on hb).num j hj a c hm fun i hi hp=>by
  obtain⟨_,y0,y1,y2,y3,y4,h2⟩:=h.bx i hi;have:=h2.lt;have:=hf hp;omega
theorem NS.pick(h:NS w0 I d al ca st B A C w)(j i:Nat)(hj:ca j=false)(hi:ca i=true)(e:d j=d i):NS w0 I d al (up1 ca j true) st B (up1 A j (A i)) (up1 C j (C i)) w:=
 h.num j hj _ _ (by rw[e];exact h.nu i hi) fun l hl hp=>h.fr l i hl hi (by rw[←e];exact hp)
theorem NS.store(h:NS w0 I d al ca st B A C w)(i:Nat)(hal:al i=true)(hca:ca i=true):NS w0 I d al ca (up1 st i true) B A C (((((w.setCell ⟨B i,0,none⟩ (.int .i64 (I i))).setCell ⟨B i,1,none⟩ (.bool (zAj (d i)))).setCell ⟨B i,2,none⟩ (.bool (decide (zA1 (d i)<0)))).setCell ⟨B i,3,none⟩ (.slice (A i) (nl (zA1 (d i)).natAbs) (C i))).setCell ⟨B i,4,none⟩ (.int .i64 (zA7 (d i)))):=by
 obtain⟨hb,z0,z1,z2,z3,z4,hz⟩:=h.bx i hal;refine⟨((((h.beh.setCell hb _).setCell hb _).setCell hb _).setCell hb _).setCell hb _,fun j hj=>?_,h.ne,fun j hj=>Mag.st5 (h.nu j hj) (h.fr i j hal hj) _ _ _ _ _,h.fr,fun j hj=>?_⟩
 · obtain⟨h1,y0,y1,y2,y3,y4,h2⟩:=h.bx j hj;refine⟨h1,?_⟩
   by_cases e:j=i
   · subst e;exact⟨_,_,_,_,_,h2.set5 _ _ _ _ _⟩
   · exact⟨_,_,_,_,_,h2.st5 (h.ne j i e hj hal) _ _ _ _ _⟩
 · rcases zBQ hj with rfl | ⟨hji,hj⟩
   · exact⟨hal,hca,hz.set5 _ _ _ _ _⟩
   · obtain⟨h1,h2,h3⟩:=h.se j hj;exact⟨h1,h2,h3.st5 (h.ne j i hji h1 hal) _ _ _ _ _⟩
end
def AllI(F:Nat→Oper→Prop):Nat→List Oper→Prop
 | _,[]=>True
 | k,o::r=>F k o∧AllI F (k+1) r
theorem AllI.nil{F:Nat→Oper→Prop}{k:Nat} :AllI F k []:=trivial
theorem AllI.cons{F:Nat→Oper→Prop}{k:Nat}{o:Oper}{r:List Oper}(h:F k o)(hr:AllI F (k+1) r):AllI F k (o::r):=⟨h,hr⟩
theorem AllI.get{F:Nat→Oper→Prop}{l:List Oper} :∀ {k:Nat},AllI F k l→∀i o,l[i]? =some o→F (k+i) o:=by
 induction l with
 | nil=>intro k _ i o h;simp at h
 | cons p r ih=>
  intro k h i o ho
  cases i with
  | zero=>simp at ho;subst ho;exact h.1
  | succ i=>simp at ho;have:=ih h.2 i o ho;rwa[Nat.add_assoc,Nat.add_comm 1]at this
theorem tkz{P:Program}{ops:Array Oper}{Q:Exit→Act→World→Prop}{md:Region.Mode}{S:World→Prop}{fuel:Nat}{l:Array Bool}{ts ts':Array Value}{D:List Deferred}{w:World}(i t:Nat)(v:Value){o:Oper}
 (hi:ops[i]? =some o:=by rfl) (hd:o.dst=some t:=by rfl) (hs:Region.noSelect ops=true:=by kernel_rfl) (hf:Region.free md ops l i=true:=by kernel_rfl) (hr:(Region.ready md ops l).contains i=true:=by kernel_rfl)
 (hQ:∀c a w,Q (.panic c) (a.put o.dst v) w→Q (.panic c) a w:=by exact fun _ _ _ h=>h) (hw:Region.wanted o (yielded ops ts)=true:=by rfl)
 (hts:ts.setIfInBounds t v=ts':=by(simp only[List.setIfInBounds_toArray,List.set_cons_zero,List.set_cons_succ];exact rfl))
 (hy:∀w,S w→(execOp (Act.eval ⟨ts,D⟩) o).run P w=.ok (.value v) w) (hS:S w)
 (h:wpAnyH P md ops Q S fuel (l.setIfInBounds i true) ⟨ts',D⟩ w):wpAnyH P md ops Q S (fuel+1) l ⟨ts,D⟩ w:=by
 subst hts;refine wpAnyH_take hi hs hf hr hQ (Or.inl ⟨hw,hy⟩) hS ?_;rw[hd];exact h
def PT(b:Bool)(n:Nat):Value:=if b then .pointer (some ⟨n,0,none⟩)else undef
theorem zCY(n:Nat):PT true n=.pointer (some ⟨n,0,none⟩):=rfl
def zAV(ts:Array Value):List (Nat×Value)→Array Value
 | []=>ts
 | (i,v)::r=>(zAV ts r).setIfInBounds i v
section
variable {P:Program}{ops:Array Oper}{Q:Exit→Act→World→Prop}
theorem zCa{id:Nat}{a:Act}{w:World}(hm:P.follows .mixedOrders=true)
 (h:∀w0,From w w0→wpAnyH P .any ops Q (fun w'=>Below w0.heap.size w0 w') ops.size (Array.replicate ops.size false) a w0):(Code.region id ops true).wp P Q a w:=
 wp_region_held_drew (S:=fun w'=>Below w.drew.heap.size w.drew w') hm (Below.refl _ _) fun _=>h w.drew ⟨(Below.refl _ _).drew⟩
end
end Go.Proofs.YtmbkgapknoammaaGreatDoor
namespace Go.Proofs.YtmbkgapknoammaaGreatDoor
open Go.RowKit Sp
def BoxD(w:World)(b:Nat):Prop:=∃v s sl f,DB w b v s sl f
theorem BoxD.spec{w:World}{b:Nat}(h:BoxD w b):DB w b (Exists.choose h) (Exists.choose (Exists.choose_spec h)) (Exists.choose (Exists.choose_spec (Exists.choose_spec h))) (Exists.choose (Exists.choose_spec (Exists.choose_spec (Exists.choose_spec h)))):=
 Exists.choose_spec (Exists.choose_spec (Exists.choose_spec (Exists.choose_spec h)))
theorem DB.below{W W':World}{b:Nat}{v s:Bool}{sl:Value}{f:Int}(h:DB W b v s sl f)(hb:Below W.heap.size W W'):DB W' b v s sl f:=⟨h.out.below hb⟩
theorem DB.lt{W:World}{b:Nat}{v s:Bool}{sl:Value}{f:Int}(h:DB W b v s sl f):b<W.heap.size:=h.out.lt
theorem DB.made(W:World)(t:TypeId)(v s:Bool)(sl:Value)(f:Int){n:Nat}(hn:n=W.heap.size):DB (W.alloc (.cells #[.bool v,.bool s,sl,.int .i64 f] t)) n v s sl f:=⟨DyV.made' W t v s sl f hn⟩
structure ND(w0:World)(d:Nat→Option (Int×Int))(al ca st:Nat→Bool)(B:Nat→Nat)(A:Nat→Option Addr)(C:Nat→Nat)(w:World):Prop where
 beh:Below w0.heap.size w0 w
 bx:∀i,al i=true→w0.heap.size≤B i∧BoxD w (B i)
 ne:∀i j,i≠j→al i=true→al j=true→B i≠B j
 nu:∀i,ca i=true→Mag w (A i) (nl (zA1 (d i)).natAbs) (C i) (zA1 (d i)).natAbs
 fr:∀i j,al i=true→ca j=true→0<nl (zA1 (d j)).natAbs→ab (A j)≠B i
 se:∀i,st i=true→al i=true∧ca i=true∧DB w (B i) (zAj (d i)) (decide (zA1 (d i)<0)) (.slice (A i) (nl (zA1 (d i)).natAbs) (C i)) (zA7 (d i))
section
variable {w0 w:World}{d:Nat→Option (Int×Int)}{al ca st:Nat→Bool}{B:Nat→Nat}{A:Nat→Option Addr}{C:Nat→Nat}
theorem ND.start(w0:World)(d:Nat→Option (Int×Int))(B:Nat→Nat)(A:Nat→Option Addr)(C:Nat→Nat):ND w0 d (fun _=>false) (fun _=>false) (fun _=>false) B A C w0:=
 ⟨Below.refl _ _,fun _ h=>absurd h Bool.false_ne_true,fun _ _ _ h=>absurd h Bool.false_ne_true,fun _ h=>absurd h Bool.false_ne_true,fun _ _ h=>absurd h Bool.false_ne_true,fun _ h=>absurd h Bool.false_ne_true⟩
theorem ND.alloc(h:ND w0 d al ca st B A C w)(i:Nat)(hi:al i=false)(v s:Bool)(sl:Value)(f:Int)(t:TypeId):ND w0 d (up1 al i true) ca st (up1 B i w.heap.size) A C (w.alloc (.cells #[.bool v,.bool s,sl,.int .i64 f] t)):=by
 have B0:Below w.heap.size w (w.alloc (.cells #[.bool v,.bool s,sl,.int .i64 f] t)):=(Below.refl _ _).alloc (Nat.le_refl _) _;have hsz:=h.beh.size;refine⟨h.beh.alloc hsz _,fun j hj=>?_,fun j l hne hj hl=>?_,fun j hj=>(h.nu j hj).below B0,fun j l hj hl hp=>?_,fun j hj=>?_⟩
 · rcases zBQ hj with rfl | ⟨hji,hj⟩
   · rw[zBR];exact⟨hsz,_,_,_,_,DB.made w t v s sl f rfl⟩
   · rw[zAL _ hji];obtain⟨h1,y0,y1,y2,y3,h2⟩:=h.bx j hj;exact⟨h1,_,_,_,_,h2.below B0⟩
 · rcases zBQ hj with hji | ⟨hji,hj'⟩ <;> rcases zBQ hl with hli | ⟨hli,hl'⟩
   · exact absurd (hji.trans hli.symm) hne
   · rw[hji,zBR,zAL _ hli];obtain⟨_,y0,y1,y2,y3,h2⟩:=h.bx l hl';have:=h2.lt;omega
   · rw[hli,zBR,zAL _ hji];obtain⟨_,y0,y1,y2,y3,h2⟩:=h.bx j hj';have:=h2.lt;omega
   · rw[zAL _ hji,zAL _ hli];exact h.ne j l hne hj' hl'
 · rcases zBQ hj with rfl | ⟨hji,hj⟩
   · rw[zBR];have:=(h.nu l hl).old hp;omega
   · rw[zAL _ hji];exact h.fr j l hj hl hp
 · exact KE
theorem ND.on(h:ND w0 d al ca st B A C w){w':World}(hb:From w w'):ND w0 d al ca st B A C w':=by
 have B0:=hb.out;refine⟨h.beh.trans (B0.mono h.beh.size),fun j hj=>?_,h.ne,fun j hj=>(h.nu j hj).below B0,h.fr,fun j hj=>?_⟩
 · obtain⟨h1,y0,y1,y2,y3,h2⟩:=h.bx j hj;exact⟨h1,_,_,_,_,h2.below B0⟩
 · exact Xq
theorem ND.num(h:ND w0 d al ca st B A C w)(j:Nat)(hj:ca j=false)(a:Option Addr)(c:Nat)(hm:Mag w a (nl (zA1 (d j)).natAbs) c (zA1 (d j)).natAbs)
 (hf:∀i,al i=true→0<nl (zA1 (d j)).natAbs→ab a≠B i):ND w0 d al (up1 ca j true) st B (up1 A j a) (up1 C j c) w:=by
 refine⟨h.beh,h.bx,h.ne,fun i hi=>?_,fun i l hi hl hp=>?_,fun i hi=>?_⟩
 · rcases zBQ hi with rfl | ⟨hij,hi⟩
   · rw[zBR,zBR];exact hm
   · rw[zAL _ hij,zAL _ hij];exact h.nu i hi
 · rcases zBQ hl with rfl | ⟨hlj,hl⟩
   · rw[zBR];exact hf i hi hp
   · rw[zAL _ hlj];exact h.fr i l hi hl hp
 · exact KD
theorem ND.call(h:ND w0 d al ca st B A C w)(j:Nat)(hj:ca j=false){w':World}(hb:From w w')(a:Option Addr)(c:Nat)(hm:Mag w' a (nl (zA1 (d j)).natAbs) c (zA1 (d j)).natAbs)
 (hf:0<nl (zA1 (d j)).natAbs→w.heap.size≤ab a):ND w0 d al (up1 ca j true) st B (up1 A j a) (up1 C j c) w':=
 (h.on hb).num j hj a c hm fun i hi hp=>by
  obtain⟨_,y0,y1,y2,y3,h2⟩:=h.bx i hi;have:=h2.lt;have:=hf hp;omega
theorem ND.pick(h:ND w0 d al ca st B A C w)(j i:Nat)(hj:ca j=false)(hi:ca i=true)(e:d j=d i):ND w0 d al (up1 ca j true) st B (up1 A j (A i)) (up1 C j (C i)) w:=
 h.num j hj _ _ (by rw[e];exact h.nu i hi) fun l hl hp=>h.fr l i hl hi (by rw[←e];exact hp)
theorem ND.store(h:ND w0 d al ca st B A C w)(i:Nat)(hal:al i=true)(hca:ca i=true):ND w0 d al ca (up1 st i true) B A C ((((w.setCell ⟨B i,0,none⟩ (.bool (zAj (d i)))).setCell ⟨B i,1,none⟩ (.bool (decide (zA1 (d i)<0)))).setCell ⟨B i,2,none⟩ (.slice (A i) (nl (zA1 (d i)).natAbs) (C i))).setCell ⟨B i,3,none⟩ (.int .i64 (zA7 (d i)))):=by
 obtain⟨hb,z0,z1,z2,z3,hz⟩:=h.bx i hal;refine⟨(((h.beh.setCell hb _).setCell hb _).setCell hb _).setCell hb _,fun j hj=>?_,h.ne,fun j hj=>Mag.st4 (h.nu j hj) (h.fr i j hal hj) _ _ _ _,h.fr,fun j hj=>?_⟩
 · obtain⟨h1,y0,y1,y2,y3,h2⟩:=h.bx j hj;refine⟨h1,?_⟩
   by_cases e:j=i
   · subst e;exact⟨_,_,_,_,h2.pt4 _ _ _ _⟩
   · exact⟨_,_,_,_,h2.st4 (h.ne j i e hj hal) _ _ _ _⟩
 · rcases zBQ hj with rfl | ⟨hji,hj⟩
   · exact⟨hal,hca,hz.pt4 _ _ _ _⟩
   · obtain⟨h1,h2,h3⟩:=h.se j hj;exact⟨h1,h2,h3.st4 (h.ne j i hji h1 hal) _ _ _ _⟩
end
def DT(b:Bool)(d:Option (Int×Int))(a:Option Addr)(c:Nat):Value:=
 if b then .agg #[.bool (zAj d),.bool (decide (zA1 d<0)),.slice a (nl (zA1 d).natAbs) c,.int .i64 (zA7 d)]else undef
theorem zBG(d:Option (Int×Int))(a:Option Addr)(c:Nat):DT true d a c=.agg #[.bool (zAj d),.bool (decide (zA1 d<0)),.slice a (nl (zA1 d).natAbs) c,.int .i64 (zA7 d)]:=rfl
section
variable {P:Program}{ops:Array Oper}{Q:Exit→Act→World→Prop}{md:Region.Mode}
def NdK(w0:World)(d:Nat→Option (Int×Int))(Lf:(Nat→Bool)→(Nat→Bool)→(Nat→Bool)→(Nat→Bool)→Array Bool)(Tf:(Nat→Bool)→(Nat→Bool)→(Nat→Bool)→(Nat→Nat)→(Nat→Option Addr)→(Nat→Nat)→List (Nat×Value))(X:(Nat→Bool)→(Nat→Bool)→(Nat→Bool)→(Nat→Bool)→(Nat→Option Addr)→(Nat→Nat)→Prop)
 (ts:Array Value) (D:List Deferred) (al ca st ex:Nat→Bool) (i:Nat) (K:Act→World→Prop):Prop:=
 ∀al' ca' st' ex' B' A' C' a' w',(Lf al ca st ex).setIfInBounds i true=Lf al' ca' st' ex'→a'=⟨zAV ts (Tf al' ca' ex' B' A' C'),D⟩→X al' ca' st' ex' A' C'→ND w0 d al' ca' st' B' A' C' w'→K a' w'
theorem zEL{fuel:Nat}{l:Array Bool}{a:Act}{w:World}(w0:World)(d:Nat→Option (Int×Int))
 (Lf:(Nat→Bool)→(Nat→Bool)→(Nat→Bool)→(Nat→Bool)→Array Bool) (Tf:(Nat→Bool)→(Nat→Bool)→(Nat→Bool)→(Nat→Nat)→(Nat→Option Addr)→(Nat→Nat)→List (Nat×Value)) (X:(Nat→Bool)→(Nat→Bool)→(Nat→Bool)→(Nat→Bool)→(Nat→Option Addr)→(Nat→Nat)→Prop)
 {ts:Array Value} {D:List Deferred} (ha:a=⟨ts,D⟩) {al ca st ex:Nat→Bool} {B:Nat→Nat} {A:Nat→Option Addr} {C:Nat→Nat} (hN:ND w0 d al ca st B A C w)
 (hX:X al ca st ex A C) (hl:l=Lf al ca st ex) (hf:zAV ts (Tf al ca ex B A C)=ts) (hfu:left l≤fuel) (hd:(ops.toList.zipIdx.all fun p=>p.1.after.all fun e=>!Region.binds md e||decide (e.on<p.2))=true)
 (hz:∀al ca st ex,(Lf al ca st ex).size=ops.size)
 (hstep:∀al ca st ex B A C w,ND w0 d al ca st B A C w→X al ca st ex A C→From w0 w→AllI (fun i o=>(Lf al ca st ex).getD i true=false→(∀e∈o.after,Region.binds md e=true→(Lf al ca st ex).getD e.on false=true) →
  ∀K:Act→World→Prop,Shut (NdK w0 d Lf Tf X ts D al ca st ex i K) →
   if Region.wanted o (yielded ops (zAV ts (Tf al ca ex B A C)))=true then Oper.wp P o ⟨zAV ts (Tf al ca ex B A C),D⟩ w K Q else K (Act.put ⟨zAV ts (Tf al ca ex B A C),D⟩ o.dst undef) w) 0 ops.toList)
 (hend:∀al ca st ex B A C w,ND w0 d al ca st B A C w→X al ca st ex A C→From w0 w→(∀i,i<ops.size→(Lf al ca st ex).getD i false=true)→Q .normal ⟨zAV ts (Tf al ca ex B A C),D⟩ w) :
 wpAnyH P md ops Q (fun w'=>Below w0.heap.size w0 w') fuel l a w:=by
 refine zKn (I:=fun l a w=>∃al ca st ex B A C,l=Lf al ca st ex∧a=⟨zAV ts (Tf al ca ex B A C),D⟩∧X al ca st ex A C∧ND w0 d al ca st B A C w) hd ?_ ?_ ?_ fuel l a w hfu ⟨al,ca,st,ex,B,A,C,hl,by rw[ha,hf],hX,hN⟩
 · rintro l a w ⟨al,ca,st,ex,B,A,C,rfl,rfl,_⟩;exact hz _ _ _ _
 · rintro l a w ⟨al,ca,st,ex,B,A,C,rfl,rfl,hX,hN⟩ i o ho h1 h2;refine wpOp_step ho fun K hK=>?_;have h:=(hstep al ca st ex B A C w hN hX ⟨hN.beh⟩).get i o (by simpa using ho);rw[Nat.zero_add]at h;exact h h1 h2 K fun al' ca' st' ex' B' A' C' a' w' e1 e2 e3 e4=>hK a' w' ⟨e4.beh,al',ca',st',ex',B',A',C',e1,e2,e3,e4⟩
 · rintro l a w ⟨al,ca,st,ex,B,A,C,rfl,rfl,hX,hN⟩ h;exact hend al ca st ex B A C w hN hX ⟨hN.beh⟩ (by rw[←hz al ca st ex];exact h)
variable {ts:Array Value}{D:List Deferred}{w0 w w':World}{d:Nat→Option (Int×Int)}{Lf:(Nat→Bool)→(Nat→Bool)→(Nat→Bool)→(Nat→Bool)→Array Bool}{Tf:(Nat→Bool)→(Nat→Bool)→(Nat→Bool)→(Nat→Nat)→(Nat→Option Addr)→(Nat→Nat)→List (Nat×Value)}{X:(Nat→Bool)→(Nat→Bool)→(Nat→Bool)→(Nat→Bool)→(Nat→Option Addr)→(Nat→Nat)→Prop}
 {al ca st ex:Nat→Bool} {B:Nat→Nat} {A:Nat→Option Addr} {C:Nat→Nat} {i:Nat} {K:Act→World→Prop} {a':Act}
theorem zIm(hK:Shut (NdK w0 d Lf Tf X ts D al ca st ex i K))
 (hN:ND w0 d al ca st B A C w) (j:Nat) (hj:ca j=false) {a:Option Addr} {c:Nat} (hX:X al (up1 ca j true) st ex (up1 A j a) (up1 C j c)) (hb:From w w') (hm:BI w' a (nl (zA1 (d j)).natAbs) c (zA1 (d j)).natAbs) (hf:0<nl (zA1 (d j)).natAbs→w.heap.size≤ab a)
 (e1:(Lf al ca st ex).setIfInBounds i true=Lf al (up1 ca j true) st ex:=by rfl) (e2:a'=⟨zAV ts (Tf al (up1 ca j true) ex B (up1 A j a) (up1 C j c)),D⟩:=by(simp only[zAV,List.setIfInBounds_toArray,List.set_cons_zero,List.set_cons_succ] <;> rfl)):K a' w':=
 hK.out al (up1 ca j true) st ex B (up1 A j a) (up1 C j c) a' w' e1 e2 hX (hN.call j hj hb a c hm.out hf)
theorem zME(hK:Shut (NdK w0 d Lf Tf X ts D al ca st ex i K))
 (hN:ND w0 d al ca st B A C w) (j:Nat) (hj:al j=false) {v s:Bool} {sl:Value} {f:Int} {t:TypeId} (hX:X (up1 al j true) ca st ex A C)
 (e1:(Lf al ca st ex).setIfInBounds i true=Lf (up1 al j true) ca st ex:=by rfl) (e2:a'=⟨zAV ts (Tf (up1 al j true) ca ex (up1 B j w.heap.size) A C),D⟩:=by(simp only[zAV,List.setIfInBounds_toArray,List.set_cons_zero,List.set_cons_succ] <;> rfl)):K a' (w.alloc (.cells #[.bool v,.bool s,sl,.int .i64 f] t)):=
 hK.out (up1 al j true) ca st ex (up1 B j w.heap.size) A C a' _ e1 e2 hX (hN.alloc j hj v s sl f t)
theorem zMD(hK:Shut (NdK w0 d Lf Tf X ts D al ca st ex i K))
 (j:Nat) (hN:ND w0 d al ca (up1 st j true) B A C w') (hX:X al ca (up1 st j true) ex A C)
 (e2:a'=⟨zAV ts (Tf al ca ex B A C),D⟩) (e1:(Lf al ca st ex).setIfInBounds i true=Lf al ca (up1 st j true) ex:=by rfl):K a' w':=
 hK.out al ca (up1 st j true) ex B A C a' w' e1 e2 hX hN
end
end Go.Proofs.YtmbkgapknoammaaGreatDoor

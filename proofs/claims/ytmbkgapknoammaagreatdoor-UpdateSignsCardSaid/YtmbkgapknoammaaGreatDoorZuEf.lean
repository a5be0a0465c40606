/-
  Walks: sparseref24.Square, At.
-/
import Derived.Test.YtmbkgapknoammaaGreatDoorZuYi
import Derived.Test.YtmbkgapknoammaaGreatDoorZuPo
import Derived.Test.YtmbkgapknoammaaGreatDoorZuEc
import Derived.Test.YtmbkgapknoammaaGreatDoorZuEe
import Derived.Test.YtmbkgapknoammaaGreatDoorZuEm
import Derived.BigQuiet
set_option maxRecDepth 100000
set_option maxHeartbeats 20000000
namespace Go.Proofs.YtmbkgapknoammaaGreatDoor
open Go.RowKit Sp
attribute [local irreducible] Calls
theorem zGc(w:World)[Tb w](n q:Nat)(hn:n≤64)(hq:q≤4096)(aS aI aV:Option Addr)(cS cI cV:Nat)(S I F:Nat→Nat)[hM:MX w n n aS cS aI q cI aV cV S I F](al:Option Addr)(cl:Nat)(L:Nat→Int)[hL:IZ w al n cl L](hp:zDi L n n=true):Calls Tryz.prog 69 #[.agg #[.int .i64 n,.int .i64 n,.slice aS (n+1) cS,.slice aI q cI,.slice aV q cV],.slice al n cl] w fun o w'=>o=.returned (.int .i64 0)∧From w w':=by
 have l1:=hM.s.lim;have l2:=hM.s.fits;have l3:=hM.i.lim;have l4:=hM.i.fits;have l5:=hM.v.lim;have l6:=hM.v.fits;have HOK:=Lib.hid hM.ok;have HC:=fun W [Tb W] [k:MX W n n aS cS aI q cI aV cV S I F]=>Lib.hid (frm (zBT W n n q hn hn hq aS aI aV cS cI cV S I F));have HP:=fun W [IZ W al n cl L]=>Lib.hid (zES W al n cl j0 L hp);clear hp;go_enter Tryz.func69,Tryz.ntmps69;go_wp2_with fail;refine(HC _).out.mono ?_;rintro o w1 ⟨rfl,b1⟩;haveI B1:Bag w w1 [box w.heap.size 69 [.int .i64 n,.int .i64 n,.slice aS (n+1) cS,.slice aI q cI,.slice aV q cV]]:=by
  haveI:=(Bag.nil w).var 69 [.int .i64 n,.int .i64 n,.slice aS (n+1) cS,.slice aI q cI,.slice aV q cV] rfl;exact inferInstance
 haveI iV:=B1.vb 0 rfl;go_wp2_with fail;refine(HP _).out.mono ?_;rintro o w2 ⟨rfl,b2⟩;go_wp2_with fail;go_ret;exact⟨rfl,⟨zbh⟩⟩
theorem zMi(w:World)[Tb w](n q:Nat)(hn:n≤64)(hq:q≤4096)(aS aI aV:Option Addr)(cS cI cV:Nat)(S I F:Nat→Nat)[hM:MX w n n aS cS aI q cI aV cV S I F](al:Option Addr)(cl:Nat)(l:List Nat)[hL:IZ w al n cl (fun t=>((l.getD t 0:Nat):Int))](hl:∀t,t<n→l.getD t 0<n)(i j:Nat)(hi:i<n)(hj:j<n):Calls Tryz.prog 72 #[.agg #[.int .i64 n,.int .i64 n,.slice aS (n+1) cS,.slice aI q cI,.slice aV q cV],.slice al n cl,.int .i64 i,.int .i64 j] w fun o w'=>zAM w (fof (pAt S I F l i j)) o w':=by
 have l1:=hM.s.lim;have l2:=hM.s.fits;have l3:=hM.i.lim;have l4:=hM.i.fits;have l5:=hM.v.lim;have l6:=hM.v.fits;have HOK:=Lib.hid hM.ok;have HA:=fun W i j (hi:i<n) (hj:j<n) [Tb W] [k:MX W n n aS cS aI q cI aV cV S I F]=>Lib.hid (frm (zJi W n n q hn hn hq aS aI aV cS cI cV S I F i j hi hj));have h1:=hl i hi;have h2:=hl j hj;have hLL:=hL.out;have l7:=hLL.fits;have l8:=hLL.lim;have y1:=hLL.idx i hi;have y2:=hLL.idx j hj;haveI z1:CE w (ab al) (ao al+i) (.int .i64 ((l.getD i 0:Nat):Int)):=⟨hLL.cell i hi,hLL.old j0⟩;haveI z2:CE w (ab al) (ao al+j) (.int .i64 ((l.getD j 0:Nat):Int)):=⟨hLL.cell j hj,hLL.old j0⟩;have hv:Hid (pAt S I F l i j<18446744073709551616):=Lib.hid (by
  unfold pAt atv
  cases h:lk I F (max (l.getD i 0) (l.getD j 0)) (S (min (l.getD i 0) (l.getD j 0))) (S (min (l.getD i 0) (l.getD j 0)+1)-S (min (l.getD i 0) (l.getD j 0)))with
  | none=>show 0<_;omega
  | some y=>
   obtain⟨x,_,_,_,e⟩:=zJD _ h;show y<_;rw[←e];exact(HOK.out.f x).1)
 have hpe:pAt S I F l i j=atv S I F (max (l.getD i 0) (l.getD j 0)) (min (l.getD i 0) (l.getD j 0)):=rfl;obtain⟨x,hx⟩:∃x,x=l.getD i 0:=⟨_,rfl⟩;obtain⟨y,hy⟩:∃y,y=l.getD j 0:=⟨_,rfl⟩;rw[←hx]at h1 z1 hpe;rw[←hy]at h2 z2 hpe;have HAx:=fun W [Tb W] [k:MX W n n aS cS aI q cI aV cV S I F]=>HA W (max x y) (min x y) j0 j0;rw[←hpe]at HAx;have ht1:((max x y:Nat):Int)=max (x:Int) (y:Int):=j0
 have ht2:((min x y:Nat):Int)=min (x:Int) (y:Int):=j0
 rw[ht1,ht2]at HAx;have HO:=fun W [Tb W]=>Lib.hid (frF (zD3 W (pAt S I F l i j) hv.out tb));clear hx hy hpe HA hl;generalize pAt S I F l i j=v at *;go_enter Tryz.func72,Tryz.ntmps72;go_wp2_with fail;have B0:Bag w _ [box w.heap.size 69 [.int .i64 n,.int .i64 n,.slice aS (n+1) cS,.slice aI q cI,.slice aV q cV]]:=@Bag.al _ _ _ (.cells #[.bool false,.bool false,.slice none 0 0,.int .i64 0] 53) ((Bag.nil w).var 69 [.int .i64 n,.int .i64 n,.slice aS (n+1) cS,.slice aI q cI,.slice aV q cV] rfl);have e0:((w.alloc (.cells #[.int .i64 n,.int .i64 n,.slice aS (n+1) cS,.slice aI q cI,.slice aV q cV] 69)).alloc (.cells #[.bool false,.bool false,.slice none 0 0,.int .i64 0] 53)).heap.size=w.heap.size+2:=jz
 have iR:DB ((w.alloc (.cells #[.int .i64 n,.int .i64 n,.slice aS (n+1) cS,.slice aI q cI,.slice aV q cV] 69)).alloc (.cells #[.bool false,.bool false,.slice none 0 0,.int .i64 0] 53)) (w.heap.size+1) false false (.slice none 0 0) 0:=inferInstance;haveI iV:=B0.vb 0 rfl;haveI bw:=B0.fr';generalize (w.alloc (.cells _ 69)).alloc (.cells _ 53)=wr at *;refine bgj (fun w'=>Below wr.heap.size wr w') [] je (zbh) (fun hHeld=>?_);simp only[List.size_toArray,List.length_cons,List.length_nil,Nat.reduceAdd,Array.replicate_succ,Array.replicate_zero,List.push_toArray,List.nil_append,List.cons_append];refine tk 0 11 [2,3,8,9] ?_;refine tk 1 12 [2,3,8,9] ?_;refine tk 2 13 [3,8,9] ?_;refine tk 3 14 [8,9] ?_;refine tk 4 15 [6,7,9] ?_;refine tk 5 16 [6,7,9] ?_;refine tk 6 17 [7,9] ?_;refine tk 7 18 [9] ?_;refine tk 8 9 [9] ?_;refine tk 9 10 [] ?_;refine enj je ?_ _;go_wp2_with fail;refine(HAx _).out.mono ?_;rintro o w1 ⟨rfl,b1⟩;go_wp2_with fail;refine(HO _).out.mono ?_;rintro o w3 ⟨a3,c3,rfl,i3,b3,f3⟩;have e1:=b1.out.size;simp at e1;go_wp2_with fail;refine bodyPost_ret (v:=.agg #[.bool (zAj (fof v)),.bool (decide (zA1 (fof v)<0)),.slice a3 (nl (zA1 (fof v)).natAbs) c3,.int .i64 (zA7 (fof v))]) (by simp only[results,Tryz.results72];go_simp) rfl ?_;exact⟨a3,c3,rfl,Mag.st4 i3.out (fun h=>by have:=f3 h;omega) _ _ _ _,zbh,fun h=>by have:=f3 h;omega⟩
end Go.Proofs.YtmbkgapknoammaaGreatDoor
set_option maxRecDepth 100000
set_option maxHeartbeats 20000000
namespace Go.Proofs.YtmbkgapknoammaaGreatDoor
open Go.RowKit Sp
def vE(n m:Nat)(X:Nat→Nat)(c:Int):Int:=if c≠0 then c else if m≠n then 2 else if zBI X n=true then 0 else 4
theorem zHT(n:Nat)(S:Nat→Nat)(I:Nat→Int):ckE n S I=0∨ckE n S I=240:=by
 by_cases h:Iok n S I
 · exact Or.inl (zKc h)
 · exact Or.inr (zKd h)
def byO(X:Nat→Nat)(O:Nat→Int)(k:Nat):Nat:=X (O k).toNat
theorem FCK.pos{n q:Nat}{O:Nat→Int}{S V:Nat→Nat}(h:FCK n q O S V){k:Nat}(hk:k<n):∃m:Nat,O k=(m:Int)∧m<n∧(O k).toNat=m:=by
 obtain⟨h1,h2,_⟩:=zEC h.p hk;exact⟨(O k).toNat,j0,j0,rfl⟩
attribute [local irreducible] Calls
theorem zKO(w:World)(a:Option Addr)(n c:Nat)(X:Nat→Nat)[hx:FZ w a n c X]:Calls Tryz.prog 102 #[.slice a n c] w fun o w'=>o=.returned (.bool (zBI X n))∧From w w':=by
 have l1:=hx.out.fits;have l2:=hx.out.lim;have HF:=fun W x=>Lib.hid (frw (zC3 W x));obtain⟨R,hR⟩:∃R,R=zBI X n:=⟨_,rfl⟩;have HR:=Lib.hid hR;rw[←hR];clear hR;go_enter Tryz.func102,Tryz.ntmps102;go_wp2_with fail
 go_loopw [3] (fun x wr=>∃k:Nat,k≤n∧x=.int .i64 k∧(∀i,i<k→zAA (X i)=true)∧Below w.heap.size w wr) (fun x _=>n-(intOf x).toNat)
 case atStart=>exact⟨0,j0,rfl,fun i h=>j0,Below.refl _ _⟩
 case round=>
  obtain⟨k,hk,rfl,hA,hbr⟩:=hrel;haveI bw:From w wr:=⟨hbr⟩;have HA:=Lib.hid hA;clear hbr hA
  by_cases hlt:k<n
  · have k1:=(inferInstance:FZ wr a n c X).out;have i1:=k1.idx k hlt;haveI z1:CE wr (ab a) (ao a+k) (.int .u64 ((X k:Nat):Int)):=⟨k1.cell k hlt,k1.old j0⟩;have HFk:=fun W=>HF W (X k)
    cases hh:zAA (X k)with
    | true=>
     have HA':=Lib.hid (show∀i,i<k+1→zAA (X i)=true from fun i hi=>by
      rcases Nat.lt_succ_iff_lt_or_eq.1 hi with h | h
      · exact HA.out i h
      · rw[h];exact hh)
     rw[hh]at HFk;obtain⟨x,hxe⟩:∃x,x=X k:=⟨_,rfl⟩;rw[←hxe]at z1 HFk;clear k1 hh hxe;go_wp2_with fail;refine(HFk _).out.mono ?_;rintro o w3 ⟨rfl,b3⟩;go_wp2_with fail;go_roundw
     case rel=>exact⟨k+1,j0,jm,HA'.out,zbh⟩
     case measure=>exact jb
    | false=>
     have HNO:Hid (R=false):=Lib.hid (by rw[HR.out];exact zEe hlt hh);rw[hh]at HFk;generalize X k=x at *;clear k1 hh;go_wp2_with fail;refine(HFk _).out.mono ?_;rintro o w3 ⟨rfl,b3⟩;go_wp2_with fail;go_ret;exact⟨K9,⟨zbh⟩⟩
  · obtain rfl:k=n:=j0;have HYES:Hid (R=true):=Lib.hid (by rw[HR.out];exact(zDg X k).2 HA.out);go_wp2_with fail;go_ret;exact⟨X3,bw⟩
theorem zHo(w:World)[Tb w](n q:Nat)(aO aS aI aV:Option Addr)(cO cS cI cV:Nat)(O I:Nat→Int)(S V:Nat→Nat)(hn:n≤200)(hq:q≤10000)[hf:FM w n q aO cO aS cS aI cI aV cV O S I V](aw:Option Addr)(m cw:Nat)(X:Nat→Nat)[hX:FZ w aw m cw X]:Calls Tryz.prog 65 #[.agg #[.slice aO n cO,.slice aS (n+1) cS,.slice aI q cI,.slice aV q cV],.slice aw m cw] w fun o w'=>o=.returned (.int .i64 (vE n m X (ckE n S I)))∧From w w':=by
 have l1:=hf.o.fits;have l2:=hf.o.lim;have l3:=hf.s.fits;have l4:=hf.s.lim;have l5:=hf.i.fits;have l6:=hf.i.lim;have l7:=hf.v.fits;have l8:=hf.v.lim;have l9:=hX.out.fits;have l10:=hX.out.lim;have HC:=fun W [Tb W] [FM W n q aO cO aS cS aI cI aV cV O S I V]=>Lib.hid (zIe W n q aO aS aI aV cO cS cI cV O I S V hn hq);have HF:=fun W [FZ W aw m cw X]=>Lib.hid (zKO W aw m cw X);rcases zHT n S I with hc | hc
 · rw[hc]at HC ⊢;unfold vE;rw[if_neg j0]
   by_cases hm:m=n
   · subst hm;rw[if_neg j0]
     cases hA:zBI X m with
     | true=>
      rw[hA]at HF;rw[if_pos rfl];go_enter Tryz.func65,Tryz.ntmps65;go_wp2_with fail;refine(HC _).out.mono ?_;rintro o w1 ⟨rfl,b1⟩;go_wp2_with fail;refine(HF _).out.mono ?_;rintro o w2 ⟨rfl,b2⟩;go_wp2_with fail;go_ret;exact⟨rfl,⟨zbh⟩⟩
     | false=>
      rw[hA]at HF;rw[if_neg Bool.false_ne_true];go_enter Tryz.func65,Tryz.ntmps65;go_wp2_with fail;refine(HC _).out.mono ?_;rintro o w1 ⟨rfl,b1⟩;go_wp2_with fail;refine(HF _).out.mono ?_;rintro o w2 ⟨rfl,b2⟩;go_wp2_with fail;go_ret;exact⟨rfl,⟨zbh⟩⟩
   · rw[if_pos hm];have h1:((m:Int) != (n:Int))=true:=Kq;go_enter Tryz.func65,Tryz.ntmps65;go_wp2_with fail;refine(HC _).out.mono ?_;rintro o w1 ⟨rfl,b1⟩;go_wp2_with fail;go_ret;exact⟨rfl,⟨zbh⟩⟩
 · rw[hc]at HC ⊢;unfold vE;rw[if_pos j0];go_enter Tryz.func65,Tryz.ntmps65;go_wp2_with fail;refine(HC _).out.mono ?_;rintro o w1 ⟨rfl,b1⟩;go_wp2_with fail;go_ret;exact⟨rfl,⟨zbh⟩⟩
theorem zHp(w:World)(n q:Nat)(aO aS aI aV:Option Addr)(cO cS cI cV:Nat)(O I:Nat→Int)(S V:Nat→Nat)(_hn:n≤200)(_hq:q≤10000)[hf:FM w n q aO cO aS cS aI cI aV cV O S I V](aw:Option Addr)(cw:Nat)(X:Nat→Nat)[hX:FZ w aw n cw X]:Calls Tryz.prog 66 #[.agg #[.slice aO n cO,.slice aS (n+1) cS,.slice aI q cI,.slice aV q cV],.slice aw n cw] w fun o w'=>∃b,o=.returned (.slice (some ⟨b,0,none⟩) n n)∧Bag w w' [arr b 4 n fun k=>.bool (!zB0 (byO X O k))]:=by
 have l1:=hf.o.fits;have l2:=hf.o.lim;have l3:=hf.s.fits;have l4:=hf.s.lim;have l5:=hf.i.fits;have l6:=hf.i.lim;have l7:=hf.v.fits;have l8:=hf.v.lim;have l9:=hX.out.fits;have l10:=hX.out.lim;have HOK:=Lib.hid hf.ok;have HZ:=fun W x (hx:x<18446744073709551616)=>Lib.hid (frw (zEZ W x hx));have hmk:=fun W=>zE1 (P:=Tryz.prog) (t:=23) (e:=4) (z:=.bool false) (b:=1) je je rfl j0 n j0 W;go_enter Tryz.func66,Tryz.ntmps66;go_wp2_with fail;have B0:=(Bag.nil1 w (.cells #[.slice aO n cO,.slice aS (n+1) cS,.slice aI q cI,.slice aV q cV] 27)).make 4 (.bool false) n (n:=w.heap.size+1) jz
 go_loopw [6] (fun x wr=>∃k:Nat,k≤n∧x=.int .i64 k∧VB wr w.heap.size [.slice aO n cO,.slice aS (n+1) cS,.slice aI q cI,.slice aV q cV]∧Bag w wr [arr (w.heap.size+1) 4 n fun i=>.bool (decide (i<k)&&!zB0 (byO X O i))]) (fun x _=>n-(intOf x).toNat)
 case atStart=>exact⟨0,j0,rfl,inferInstance,B0.to 0 rfl (fun h=>h.congr fun i _=>by rw[decide_eq_false (Nat.not_lt_zero i)];rfl) fun _ h=>h⟩
 case round=>
  clear B0;obtain⟨k,hk,rfl,iV,iB⟩:=hrel;haveI bw:=iB.fr'
  by_cases hlt:k<n
  · obtain⟨p,hp1,hp2,hp3⟩:=HOK.out.pos hlt;have k1:=(inferInstance:FM wr n q aO cO aS cS aI cI aV cV O S I V);have k2:=(inferInstance:FZ wr aw n cw X).out;have y1:=k1.o.idx k hlt;haveI z1:CE wr (ab aO) (ao aO+k) (.int .i64 (p:Int)):=⟨by rw[←hp1];exact k1.o.cell k hlt,k1.o.old j0⟩;have y2:=k2.idx p hp2;haveI z2:CE wr (ab aw) (ao aw+p) (.int .u64 ((X p:Nat):Int)):=⟨k2.cell p hp2,k2.old j0⟩;have y3:=fun W=>zCz 23 (w.heap.size+1) k n n hlt W;haveI z3:WE wr (w.heap.size+1) k (.bool false):=by
     have:=iB.we 0 rfl hlt;rwa[decide_eq_false (Nat.lt_irrefl k),Bool.false_and]at this
    have HZk:=fun W=>HZ W (X p) (k2.b p hp2);have HX:=Lib.hid (show byO X O k=X p by unfold byO;rw[hp3]);generalize X p=x at *;clear k1 k2 hp1 hp3;go_wp2_with fail;refine(HZk _).out.mono ?_;rintro o w3 ⟨rfl,b3⟩;have B3:Bag w w3 _:=inferInstance;have B4:=B3.st 0 rfl k (.bool (!zB0 x));have HB:Hid (Bag w _ [arr (w.heap.size+1) 4 n fun i=>.bool (decide (i<k+1)&&!zB0 (byO X O i))]):=Lib.hid (B4.to 0 rfl (fun h=>h.congr fun i _=>by
     show(if i=k then Value.bool (!zB0 x)else .bool (decide (i<k)&&!zB0 (byO X O i)))=.bool (decide (i<k+1)&&!zB0 (byO X O i))
     by_cases e:i=k
     · rw[if_pos e,e,HX.out,decide_eq_true j0];rfl
     · rw[if_neg e,show decide (i<k+1)=decide (i<k)from decide_eq_decide.2 j0]) fun _ h=>h)
    have V3:VB (w3.setCell ⟨w.heap.size+1,k,none⟩ (.bool (!zB0 x))) w.heap.size [.slice aO n cO,.slice aS (n+1) cS,.slice aI q cI,.slice aV q cV]:=(inferInstance:VB w3 w.heap.size _).se j0 k _;clear B4 HX;generalize zB0 x=z at *;go_wp2_with fail;go_roundw
    case rel=>exact⟨k+1,j0,jm,V3,HB.out⟩
    case measure=>exact jb
  · obtain rfl:k=n:=j0;have B5:=iB.to 0 (t':=arr (w.heap.size+1) 4 k fun i=>.bool (!zB0 (byO X O i))) rfl (fun h=>h.congr fun i hi=>by rw[decide_eq_true hi];rfl) fun _ h=>h;go_wp2_with fail;go_ret;exact⟨_,rfl,B5⟩
def fl(e:Int)(n:Nat):Nat:=if e=0 then n else 0
theorem Bag.nix(w w':World)(b:Below w.heap.size w w')(X:Nat→Nat):Bag w w' [zBZ none 0 0 X]:=
 ((Bag.nil w).on b).new (Below.refl _ _) (show Fls w' none 0 0 X from⟨j0,j0,j0,fun i hi=>j0,fun i hi=>j0,j0⟩) fun g hg=>QL
theorem zFB(w:World)[Tb w](n q:Nat)(aO aS aI aV:Option Addr)(cO cS cI cV:Nat)(O I:Nat→Int)(S V:Nat→Nat)(hn:n≤200)(hq:q≤10000)[hf:FM w n q aO cO aS cS aI cI aV cV O S I V](aw:Option Addr)(m cw:Nat)(X:Nat→Nat)[hX:FZ w aw m cw X]:Calls Tryz.prog 62 #[.agg #[.slice aO n cO,.slice aS (n+1) cS,.slice aI q cI,.slice aV q cV],.slice aw m cw] w fun o w'=>∃oa oc,o=.returned (.tuple #[.slice oa (fl (vE n m X (ckE n S I)) n) oc,.int .i64 (vE n m X (ckE n S I))])∧Bag w w' [zBZ oa (fl (vE n m X (ckE n S I)) n) oc (byO X O)]:=by
 have l1:=hf.o.fits;have l2:=hf.o.lim;have l3:=hf.s.fits;have l4:=hf.s.lim;have l5:=hf.i.fits;have l6:=hf.i.lim;have l7:=hf.v.fits;have l8:=hf.v.lim;have l9:=hX.out.fits;have l10:=hX.out.lim;have HOK:=Lib.hid hf.ok;have HC:=fun W [Tb W] [FM W n q aO cO aS cS aI cI aV cV O S I V]=>Lib.hid (zIK W n q aO aS aI aV cO cS cI cV O I S V hn hq);have HF:=fun W x=>Lib.hid (frw (zDH W x));rcases zHT n S I with hc | hc
 · by_cases hm:m=n
   · subst hm;have HR:Hid (vE m m X (ckE m S I)=if zBI X m=true then 0 else 4):=Lib.hid (by unfold vE;rw[hc,if_neg j0,if_neg j0]);generalize vE m m X (ckE m S I)=R at *;rw[hc]at HC;clear hc;have hmk:=fun W=>zE1 (P:=Tryz.prog) (t:=25) (e:=37) (z:=.int .u64 0) (b:=8) je je rfl j0 m j0 W;go_enter Tryz.func62,Tryz.ntmps62;go_wp2_with fail;refine(HC _).out.mono ?_;rintro o w1 ⟨rfl,b1⟩;have B0:=((Bag.nil w).on (w':=w1) zbh).make 37 (.int .u64 0) m (n:=w1.heap.size) rfl;go_wp2_with fail
     go_loopw [8,9,27] (fun _ _ x wr=>∃k:Nat,k≤m∧x=.int .i64 k∧(∀t,t<k→zAA (byO X O t)=true)∧From w1 wr∧Bag w wr [arr w1.heap.size 37 m fun t=>if t<k then .int .u64 ((byO X O t:Nat):Int)else .int .u64 0]) (fun _ _ x _=>m-(intOf x).toNat)
     case atStart=>exact⟨0,j0,rfl,fun t h=>j0,⟨zbh⟩,B0.to 0 rfl (fun h=>h.congr fun i _=>by rw[if_neg (Nat.not_lt_zero i)]) fun _ h=>h⟩
     case round=>
      clear B0;obtain⟨k,hk,rfl,hA,bw,iB⟩:=hrel;have HA:=Lib.hid hA;clear hA
      by_cases hlt:k<m
      · obtain⟨p,hp1,hp2,hp3⟩:=HOK.out.pos hlt;have k1:=(inferInstance:FM wr m q aO cO aS cS aI cI aV cV O S I V);have k2:=(inferInstance:FZ wr aw m cw X).out;have y1:=k1.o.idx k hlt;haveI z1:CE wr (ab aO) (ao aO+k) (.int .i64 (p:Int)):=⟨by rw[←hp1];exact k1.o.cell k hlt,k1.o.old j0⟩;have y2:=k2.idx p hp2;haveI z2:CE wr (ab aw) (ao aw+p) (.int .u64 ((X p:Nat):Int)):=⟨k2.cell p hp2,k2.old j0⟩;have y3:=fun W=>zCz 25 w1.heap.size k m m hlt W;haveI z3:WE wr w1.heap.size k (.int .u64 0):=by
         have:=iB.we 0 rfl hlt;rwa[if_neg (Nat.lt_irrefl k)]at this
        have HX:=Lib.hid (show byO X O k=X p by unfold byO;rw[hp3]);have HFk:=fun W=>HF W (X p)
        cases hh:zAA (X p)with
        | true=>
         rw[hh]at HFk;have HA':=Lib.hid (show∀t,t<k+1→zAA (byO X O t)=true from fun t ht=>by
          rcases Nat.lt_succ_iff_lt_or_eq.1 ht with h | h
          · exact HA.out t h
          · rw[h,HX.out];exact hh)
         clear hh;generalize X p=x at *;clear k1 k2 hp1 hp3;go_wp2_with fail;refine(HFk _).out.mono ?_;rintro o w3 ⟨rfl,b3⟩;have B4:=(inferInstance:Bag w w3 _).st 0 rfl k (.int .u64 (x:Int));have HB:Hid (Bag w _ [arr w1.heap.size 37 m fun t=>if t<k+1 then .int .u64 ((byO X O t:Nat):Int)else .int .u64 0]):=Lib.hid (B4.to 0 rfl (fun h=>h.congr fun i _=>by
          show(if i=k then Value.int .u64 (x:Int)else if i<k then .int .u64 ((byO X O i:Nat):Int)else .int .u64 0)=if i<k+1 then .int .u64 ((byO X O i:Nat):Int)else .int .u64 0
          by_cases e:i=k
          · rw[if_pos e,e,HX.out,if_pos j0]
          · rw[if_neg e]
            by_cases e2:i<k
            · rw[if_pos e2,if_pos j0]
            · rw[if_neg e2,if_neg j0]) fun _ h=>h)
         have F4:From w1 (w3.setCell ⟨w1.heap.size,k,none⟩ (.int .u64 (x:Int))):=⟨(zbh:Below w1.heap.size w1 w3).setCell (Nat.le_refl _) _⟩;clear B4 HX;go_wp2_with fail;go_roundw
         case rel=>exact⟨k+1,j0,jm,HA'.out,F4,HB.out⟩
         case measure=>exact jb
        | false=>
         rw[hh]at HFk;have HN:Hid (R=4):=Lib.hid (by rw[HR.out,if_neg (by rw[zEe hp2 hh];exact Bool.false_ne_true)]);clear hh HR;generalize X p=x at *;clear k1 k2 hp1 hp3;go_wp2_with fail;refine(HFk _).out.mono ?_;rintro o w3 ⟨rfl,b3⟩;go_wp2_with fail;rw[HN.out]
         go_ret2
         exact⟨none,0,rfl,Bag.nix w _ zbh _⟩
      · obtain rfl:k=m:=j0;have HY:Hid (R=0):=Lib.hid (by
         rw[HR.out,if_pos];refine(zDg X k).2 fun i hi=>?_;obtain⟨t,ht,e⟩:=HOK.out.onto hi;have:=HA.out t ht;unfold byO at this;rwa[e,Int.toNat_natCast]at this)
        have hbb:∀i,i<k→byO X O i<18446744073709551616:=fun i hi=>by
         obtain⟨p,hp1,hp2,hp3⟩:=HOK.out.pos hi;unfold byO;rw[hp3];exact hX.out.b p hp2
        have B5:Bag w wr [zBZ (some ⟨w1.heap.size,0,none⟩) k k (byO X O)]:=iB.to 0 rfl (fun h=>zPV h j0 (fun i hi=>by rw[if_pos hi]) hbb) fun g hg=>hg.2.symm;clear HC HF HA iB;go_wp2_with fail;rw[HY.out]
        go_ret2
        exact⟨_,_,rfl,B5⟩
   · have HR:Hid (vE n m X (ckE n S I)=2):=Lib.hid (by unfold vE;rw[hc,if_neg j0,if_pos hm]);generalize vE n m X (ckE n S I)=R at *;rw[hc]at HC;have h1:((m:Int) != (n:Int))=true:=Kq;go_enter Tryz.func62,Tryz.ntmps62;go_wp2_with fail;refine(HC _).out.mono ?_;rintro o w1 ⟨rfl,b1⟩;go_wp2_with fail;rw[HR.out]
     go_ret2
     exact⟨none,0,rfl,Bag.nix w _ zbh _⟩
 · have HR:Hid (vE n m X (ckE n S I)=240):=Lib.hid (by unfold vE;rw[hc,if_pos j0]);generalize vE n m X (ckE n S I)=R at *;rw[hc]at HC;go_enter Tryz.func62,Tryz.ntmps62;go_wp2_with fail;refine(HC _).out.mono ?_;rintro o w1 ⟨rfl,b1⟩;go_wp2_with fail;rw[HR.out]
   go_ret2
   exact⟨none,0,rfl,Bag.nix w _ zbh _⟩
end Go.Proofs.YtmbkgapknoammaaGreatDoor

/-
  Walks: sparselaw29.awake.
-/
import Derived.Test.YtmbkgapknoammaaGreatDoorZuEw
import Derived.Test.YtmbkgapknoammaaGreatDoorZuS3
set_option maxRecDepth 100000
set_option maxHeartbeats 20000000
namespace Go.Proofs.YtmbkgapknoammaaGreatDoor
open Go.RowKit Sp
attribute [local irreducible] Calls
theorem zIq{w:World}{b n:Nat}{l:List Nat}{L:Nat→Int}(h:w.ownsRow 0 3 1 (.slice (some ⟨b,0,none⟩) n n) n (zA2 l))(hL:∀t,t<n→((l.getD t 0:Nat):Int)=L t):Ils w (some ⟨b,0,none⟩) n n L:=by
 obtain⟨_,_,e,z,_⟩:=zAP h;injection e with e1 _ e3
 subst e1 e3;exact⟨z.fits,z.lim,z.addr,fun i hi=>by rw[←hL i hi];exact z.cell i hi,z.old⟩
theorem zIz{w:World}{b n:Nat}{l:List Nat}{L:Nat→Nat}(h:w.ownsRow 0 37 1 (.slice (some ⟨b,0,none⟩) n n) n (zAI l))(hL:∀t,t<n→l.getD t 0=L t)(hb:∀t,t<n→L t<18446744073709551616):Fls w (some ⟨b,0,none⟩) n n L:=by
 obtain⟨_,_,e,z,_⟩:=zD4 h fun i hi=>by rw[hL i hi];exact hb i hi
 injection e with e1 _ e3
 subst e1 e3;exact⟨z.fits,z.lim,z.addr,fun i hi=>by rw[←hL i hi];exact z.cell i hi,hb,z.old⟩
theorem zIQ(w:World)[Tb w]:Calls Tryz.prog 14 #[] w fun o w'=>o=.returned (.bool true)∧From w w':=by
 have H3:=fun W [Tb W]=>Lib.hid (show Calls Tryz.prog 39 #[.int .i64 3,.int .i64 0] W fun o w'=>o=.returned (.int .u64 4613937818241073152)∧From W w' from by
  have e:zAu (nrm 3 0) 0=4613937818241073152:=jY
  have:=frm (zBJ W 3 0 ja ja tb);rwa[e]at this)
 have H4:=fun W [Tb W]=>Lib.hid (show Calls Tryz.prog 39 #[.int .i64 4,.int .i64 0] W fun o w'=>o=.returned (.int .u64 4616189618054758400)∧From W w' from by
  have e:zAu (nrm 4 0) 0=4616189618054758400:=jY
  have:=frm (zBJ W 4 0 ja ja tb);rwa[e]at this)
 have H5:=fun W [Tb W]=>Lib.hid (show Calls Tryz.prog 39 #[.int .i64 5,.int .i64 0] W fun o w'=>o=.returned (.int .u64 4617315517961601024)∧From W w' from by
  have e:zAu (nrm 5 0) 0=4617315517961601024:=jY
  have:=frm (zBJ W 5 0 ja ja tb);rwa[e]at this)
 have HF:FCK 1 1 (fun _=>0) (fun t=>t) (fun _=>4613937818241073152):=⟨⟨[0],List.Perm.refl _,fun k hk=>by rw[Nat.lt_one_iff.1 hk];rfl⟩,rfl,rfl,fun j _=>Nat.lt_succ_self j,fun _ _=>ja,fun _ _=>jY,fun _ _=>jY⟩;have HUP:=fun W aO aS aI aV aw [Tb W] [FM W 1 1 aO 1 aS 2 aI 1 aV 1 (fun _=>0) (fun t=>t) (fun t=>(((fun _=>0:Nat→Nat) t:Nat):Int)) (fun _=>4613937818241073152)] [FZ W aw 1 1 fun _=>4616189618054758400]=>Lib.hid (zI4 W 1 1 aO aS aI aV 1 2 1 1 (fun _=>0) (fun t=>t) (fun _=>0) (fun _=>4613937818241073152) ja ja aw 1 1 fun _=>4616189618054758400);have HDN:=fun W aO aS aI aV aw [Tb W] [FM W 1 1 aO 1 aS 2 aI 1 aV 1 (fun _=>0) (fun t=>t) (fun t=>(((fun _=>0:Nat→Nat) t:Nat):Int)) (fun _=>4613937818241073152)] [FZ W aw 1 1 fun _=>4616189618054758400]=>Lib.hid (zG3 W 1 1 aO aS aI aV 1 2 1 1 (fun _=>0) (fun t=>t) (fun _=>0) (fun _=>4613937818241073152) ja ja aw 1 1 fun _=>4616189618054758400);go_enter Tryz.func14,Tryz.ntmps14;go_wp2_with fail;refine(H3 _).out.mono ?_;rintro o w1 ⟨rfl,b1⟩;go_wp2_with fail;refine(H4 _).out.mono ?_;rintro o w2 ⟨rfl,b2⟩;go_wp2_with fail;refine(H5 _).out.mono ?_;rintro o w3 ⟨rfl,b3⟩;go_wp2_with fail;have BB:=((((((Bag.nil w3).lit 3 1 [.int .i64 0] (m:=1) (n:=w3.heap.size) rfl ja rfl).lit 3 1 [.int .i64 0,.int .i64 1] (m:=2) (n:=w3.heap.size+1) jz ja rfl).lit 3 1 [.int .i64 0] (m:=1) (n:=w3.heap.size+1+1) jz ja rfl).lit 37 1 [.int .u64 4613937818241073152] (m:=1) (n:=w3.heap.size+1+1+1) jz ja rfl).var 27 [.slice (some ⟨w3.heap.size,0,none⟩) 1 1,.slice (some ⟨w3.heap.size+1,0,none⟩) 2 2,.slice (some ⟨w3.heap.size+1+1,0,none⟩) 1 1,.slice (some ⟨w3.heap.size+1+1+1,0,none⟩) 1 1] (n:=w3.heap.size+1+1+1+1) jz).lit 37 1 [.int .u64 4616189618054758400] (m:=1) (n:=w3.heap.size+1+1+1+1+1) jz ja rfl;have z0:=zIq (l:= [0]) (L:=fun _=>0) (BB.own 0 rfl) fun t ht=>KL
 have z1:=zIq (l:= [0,1]) (L:=fun t=>((t:Nat):Int)) (BB.own 1 rfl) fun t ht=>by
  rcases t with _ | _ | t
  · exact jA
  · exact jA
  · exact j0
 have z2:=zIq (l:= [0]) (L:=fun t=>(((fun _=>0:Nat→Nat) t:Nat):Int)) (BB.own 2 rfl) fun t ht=>KL
 have z3:=zIz (l:= [4613937818241073152]) (L:=fun _=>4613937818241073152) (BB.own 3 rfl) (fun t ht=>KL) fun _ _=>ja
 have z4:=zIz (l:= [4616189618054758400]) (L:=fun _=>4616189618054758400) (BB.own 5 rfl) (fun t ht=>KL) fun _ _=>ja
 haveI hFM:=FM.mk z0 z1 z2 z3 HF;haveI hFZ:FZ _ _ 1 1 (fun _=>4616189618054758400):=⟨z4⟩;have bb:=BB.fr';refine(HUP _ _ _ _ _ _).out.mono ?_;rintro o w4 (⟨hz,_⟩ | ⟨_,oO,oS,oI,oV,dO,dS,dI,dV,rfl,hB⟩)
 · exact absurd zTs hz
 rw[zTH,zTQ]at hB;rw[zTH];have e1:([0]:List Nat).length=1:=rfl;rw[e1]at hB ⊢;haveI b4:=hB.fr';have zz:Fls w4 oV 1 dV (fun t=>([4617315517961601024]:List Nat).getD t 0):=hB.at 3 rfl;haveI zc:CE w4 (ab oV) (ao oV) (.int .u64 4617315517961601024):=⟨zz.cell 0 j0,zz.old j0⟩;have yx:∀W,(Instr.indexAt 25 (.slice oV 1 dV) (.int .i64 0)).run Tryz.prog W=.ok (.pointer (some ⟨ab oV,ao oV,none⟩)) W:=fun W=>zz.idx 0 j0 W;clear HUP hB zz z0 z1 z2 z3 z4 H3 H4 H5 HF BB;go_wp2_with fail;have B2:=((Bag.nil w4).var 27 [.slice oO 1 dO,.slice oS (1+1) dS,.slice oI 1 dI,.slice oV 1 dV] rfl).lit 37 1 [.int .u64 4616189618054758400] (m:=1) (n:=w4.heap.size+1) jz ja rfl;have z5:=zIz (l:= [4616189618054758400]) (L:=fun _=>4616189618054758400) (B2.own 1 rfl) (fun t ht=>KL) fun _ _=>ja
 haveI hFZ2:FZ _ _ 1 1 (fun _=>4616189618054758400):=⟨z5⟩;haveI b6:=B2.fr';haveI iV2:=B2.vb 0 rfl;clear z5 B2;refine(HDN _ _ _ _ _ _).out.mono ?_;rintro o w5 (⟨_,rfl,b5⟩ | ⟨hz,_⟩)
 · haveI b5':=b5;rw[zO3];clear HDN;go_wp2_with fail;go_ret;exact⟨rfl,⟨zbh⟩⟩
 · rw[zO3]at hz;exact absurd hz ja
end Go.Proofs.YtmbkgapknoammaaGreatDoor
set_option maxRecDepth 100000
set_option maxHeartbeats 20000000
namespace Go.Proofs.YtmbkgapknoammaaGreatDoor
open Go.RowKit Sp
theorem zPq{w:World}{b N n:Nat}{y:Nat→Nat}(h:(zE5 b N n y).P w)(hy:∀i,i<n→y i<18446744073709551616):Fls w (some ⟨b,0,none⟩) n N y:=by
 obtain⟨h0,h1,f,h2,h3⟩:=h;exact⟨h0,h1,fun _=>rfl,fun i hi=>by
  show w.cell? ⟨b,0+i,none⟩=_;rw[Nat.zero_add,h2.cell (show i<N by omega),h3 i hi],hy,fun _=>h2.lt⟩
theorem PKS.fm{w0 w:World}{B:List It}{k:Nat}{b:Nat→Nat→Nat}{P:Nat→Nat→Bool}{l:List Nat}{oO oS oI oV:Option Addr}{dO dS dI dV:Nat}(h:PKS k b P)(hl:l.Perm (List.range k))(hB:Bag w0 w (zBb oO k dO (fun t=>((l.getD t 0:Nat):Int))::zBb oS (k+1) dS (fun t=>((pkS k P t:Nat):Int))::row 3 1 (.slice oI (pkS k P k) dI) (pkS k P k) (zA2 (cat (zAb k P) k))::zBZ oV (pkS k P k) dV (pkV b k P)::B)):FM w k (pkS k P k) oO dO oS dS oI dI oV dV (fun t=>((l.getD t 0:Nat):Int)) (pkS k P) (fun t=>((pkI k P t:Nat):Int)) (pkV b k P):=by
 obtain⟨_,_,hv,hI,_⟩:=zAP (hB.own 2 rfl);injection hv with e1 _ e3
 subst e1 e3;exact⟨hB.at 0 rfl,hB.at 1 rfl,hI,hB.at 3 rfl,h.fck hl⟩
attribute [local irreducible] Calls
theorem zGW(w:World)[Tb w](a:Option Addr)(m cap:Nat)(L:Nat→Nat)[hL:FZ w a m cap L](n style kind:Int)(za:Option Addr)(zn zc:Nat)(zf:Nat→Bool)[hZ:BZ w za zn zc zf]:Calls Tryz.prog 7 #[.slice a m cap,.int .i64 n,.int .i64 style,.int .i64 kind,.slice za zn zc] w fun o w'=>o=.returned (.bool true)∧From w w':=by
 have HPK:=fun W [Tb W] [FZ W a m cap L] [BZ W za zn zc zf]=>Lib.hid (zKY W a m cap L n style kind za zn zc zf);have HAW:=fun W [Tb W]=>Lib.hid (zIQ W);go_enter Tryz.func7,Tryz.ntmps7;go_wp2_with fail;refine(HPK _).out.mono ?_;rintro o w1 ⟨k,b,P,l,y,oO,oS,oI,oV,dO,dS,dI,dV,wb,N,hk,rfl,hB,hP,hl,hy⟩;haveI b1:=hB.fr';haveI hF:=hP.fm hl hB;haveI hW:FZ w1 (some ⟨wb,0,none⟩) k N y:=⟨zPq (hB.at 4 rfl) fun i _=>(hy i).1⟩;have c1:=hF.o.fits;have c2:=hF.o.lim;have c3:=hF.s.fits;have c4:=hF.s.lim;have c5:=hF.i.fits;have c6:=hF.i.lim;have c7:=hF.v.fits;have c8:=hF.v.lim;have c9:=hW.out.fits;have c10:=hW.out.lim;have hq:=zQ9 k P k;have hq2:k*(k+1)≤5*6:=Nat.mul_le_mul hk j0;have HU:=fun W [Tb W] [FM W k (pkS k P k) oO dO oS dS oI dI oV dV (fun t=>((l.getD t 0:Nat):Int)) (pkS k P) (fun t=>((pkI k P t:Nat):Int)) (pkV b k P)] [FZ W (some ⟨wb,0,none⟩) k N y]=>Lib.hid (zLt W k (pkS k P k) oO oS oI oV dO dS dI dV (fun t=>((l.getD t 0:Nat):Int)) (pkS k P) (pkI k P) (pkV b k P) j0 j0 (some ⟨wb,0,none⟩) k N y);have HR:=fun W [Tb W] [FM W k (pkS k P k) oO dO oS dS oI dI oV dV (fun t=>((l.getD t 0:Nat):Int)) (pkS k P) (fun t=>((pkI k P t:Nat):Int)) (pkV b k P)] [FZ W (some ⟨wb,0,none⟩) k N y]=>Lib.hid (zIb W k (pkS k P k) oO oS oI oV dO dS dI dV (fun t=>((l.getD t 0:Nat):Int)) (pkS k P) (pkI k P) (pkV b k P) j0 j0 (some ⟨wb,0,none⟩) k N y);have HI:=fun W a a' n c c' L [IZ W a n c L] [IZ W a' n c' L]=>Lib.hid (zMU W a a' n c c' L L fun _ _=>rfl);generalize zC4 (pkS k P) (pkI k P) (pkV b k P) (byO y (fun t=>((l.getD t 0:Nat):Int))) k=X at *;generalize vE k k y (ckE k (pkS k P) fun t=>((pkI k P t:Nat):Int))=e at *;generalize fl e X.length=m2 at *;generalize (pkS k P k)=qq at *;generalize pkS k P=Sk at *;generalize pkI k P=Ik at *;generalize pkV b k P=Vk at *;clear hB HPK hP hy hq hq2;go_wp2_with fail;refine(HU _).out.mono ?_;rintro o w2 ⟨xa,xc,rfl,hx,b2⟩;have x1:=hx.out.fits;have x2:=hx.out.lim;go_wp2_with fail;refine(HR _).out.mono ?_;rintro o w3 ⟨ya,yc,rfl,hy,b3⟩;have x3:=hy.out.fits;have x4:=hy.out.lim;go_wp2_with fail;refine(HI _ _ _ _ _ _ _).out.mono ?_;rintro o w4 ⟨rfl,b4⟩;go_wp2_with fail;refine(HAW _).out.mono ?_;rintro o w5 ⟨rfl,b5⟩;go_wp2_with fail;go_ret;exact⟨rfl,⟨zbh⟩⟩
theorem zGX(w:World)(hT:Tab w)(a:Option Addr)(n0 cap:Nat)(L:Nat→Nat)(hL:Fls w a n0 cap L)(n style kind:Int)(za:Option Addr)(zn zc:Nat)(zf:Nat→Bool)(hZ:Bls w za zn zc zf):Calls Tryz.prog 7 #[.slice a n0 cap,.int .i64 n,.int .i64 style,.int .i64 kind,.slice za zn zc] w fun o w'=>o=.returned (.bool true)∧Below w.heap.size w w':=by
 haveI:Tb w:=⟨hT⟩;haveI:FZ w a n0 cap L:=⟨hL⟩;haveI:BZ w za zn zc zf:=⟨hZ⟩;exact(zGW w a n0 cap L n style kind za zn zc zf).mono fun _ _ h=>⟨h.1,h.2.out⟩
end Go.Proofs.YtmbkgapknoammaaGreatDoor

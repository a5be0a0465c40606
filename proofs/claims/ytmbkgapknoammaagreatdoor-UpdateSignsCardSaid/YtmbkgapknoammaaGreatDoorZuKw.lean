/-
  Walks: the reference's dyads: Root.
-/
import Derived.Test.YtmbkgapknoammaaGreatDoorZuRzd
import Derived.Test.YtmbkgapknoammaaGreatDoorZuS3
import Derived.Test.YtmbkgapknoammaaGreatDoorZuTj
import Derived.Test.YtmbkgapknoammaaGreatDoorZuFP
import Derived.Test.YtmbkgapknoammaaGreatDoorZuRa
import Derived.Test.YtmbkgapknoammaaGreatDoorZuGo
import Derived.Test.YtmbkgapknoammaaGreatDoorZuBf
import Derived.Test.YtmbkgapknoammaaGreatDoorZuCm
import Derived.Test.YtmbkgapknoammaaGreatDoorZuKs
set_option maxRecDepth 100000
set_option maxHeartbeats 20000000
namespace Go.Proofs.YtmbkgapknoammaaGreatDoor
open Go.RowKit Sp
attribute [local irreducible] Calls
def rtk(A:Nat)(E n:Int):Nat:=(max (2*n+6-zA4 A) 0).toNat+(if(E-max (2*n+6-zA4 A) 0)%2=0 then 0 else 1)
theorem zJa(A:Nat)(E n:Int):(E-(rtk A E n:Nat))%2=0:=by
 unfold rtk;split <;> omega
theorem zLY(w:World)(a:Option Addr)(cap A r:Nat)(E n:Int)(hx:Mag w a (nl A) cap A)(hA:zA4 A≤131072)(hE0: -300000≤E)(hE1:E≤300000)(hn0:0≤n)(hn1:n≤4096)(K M:Nat)(hK:K=rtk A E n)(hM:M=A*2^K)(h1:r*r≤M)(h2:M<(r+1)*(r+1)):Calls Tryz.prog 145 #[.agg #[.bool false,.slice a (nl A) cap],.int .i64 E,.int .i64 n] w fun e w'=>∃a c,e=.returned (.tuple #[.agg #[.bool false,.slice a (nl r) c],.int .i64 ((E-K)/2),.bool (decide (r*r≠M))])∧BI w' a (nl r) c r∧From w w'∧(0<nl r→w.heap.size≤ab a):=by
 have HM:BI w a (nl A) cap A:=⟨hx⟩;have lA:nl A≤549755813887:=Nat.le_trans (zAh _) j0;have HL:=fun W [i:BI W a (nl A) cap A]=>Lib.hid (frm (zBu W false a (nl A) cap A i.out j0));have he:=zJa A E n;rw[←hK]at he;obtain⟨l,hl⟩:∃l,l=zA4 A:=⟨_,rfl⟩;rw[←hl]at HL;obtain⟨k0,hk0⟩:∃k:Int,k=max (2*n+6-(l:Int)) 0:=⟨_,rfl⟩;have hKk:(K:Int)=k0+(if(E-k0)%2=0 then 0 else 1):=by rw[hK,hk0,hl];unfold rtk;split <;> omega
 have hK1:K≤8300:=by
  have:k0≤8200:=j0
  split at hKk <;> omega
 have hMl:zA4 M≤262144:=by
  rw[hM];by_cases h0:A=0
  · rw[h0,Nat.zero_mul];decide
  · rw[zAc j0 K];omega
 have lM:nl M≤549755813887:=Nat.le_trans (zAh _) j0;have hrM:r≤M:=by
  rcases Nat.eq_zero_or_pos r with h | h
  · exact j0
  · exact Nat.le_trans (Nat.le_mul_of_pos_left r h) h1
 have lr:nl r≤549755813887:=Nat.le_trans (zAN hrM) lM;have HS:=fun W [i:BI W a (nl A) cap A]=>Lib.hid (show Calls Tryz.prog 86 #[.agg #[.bool false,.slice a (nl A) cap],.int .i64 (K:Int)] W fun e w'=>∃a c,e=.returned (.agg #[.bool false,.slice a (nl M) c])∧BI w' a (nl M) c M∧From W w'∧(0<nl M→W.heap.size≤ab a)from by
  have:=zCj W false a (nl A) cap A K i.out j0 j0;rw[show sgn false A*2^K=(M:Int)by rw[hM];simp[sgn]]at this;exact zOe this)
 have HQ:=fun W b c [i:BI W b (nl M) c M]=>Lib.hid (zOe (zLU W b c M r i.out j0 h1 h2));have HP:=fun W b c [i:BI W b (nl r) c r]=>Lib.hid (show Calls Tryz.prog 56 #[.agg #[.bool false,.slice b (nl r) c],.agg #[.bool false,.slice b (nl r) c]] W fun e w'=>∃a c,e=.returned (.agg #[.bool false,.slice a (nl (r*r)) c])∧BI w' a (nl (r*r)) c (r*r)∧From W w'∧(0<nl (r*r)→W.heap.size≤ab a)from by
  have:=zJf W false false b b (nl r) (nl r) c c r r i.out i.out j0 j0;rw[show sgn false r*sgn false r=((r*r:Nat):Int)by simp[sgn]]at this;exact zOe this)
 have lP:nl (r*r)≤549755813887:=Nat.le_trans (zAN h1) lM;have HC:=fun W b c b' c' [i:BI W b (nl (r*r)) c (r*r)] [j:BI W b' (nl M) c' M]=>Lib.hid (frm (zJh W false false b b' _ _ c c' (r*r) M i.out j.out j0 j0));obtain⟨u,hu⟩:∃u,u=zAq (sgn false (r*r)) (sgn false M):=⟨_,rfl⟩;rw[←hu]at HC;have hu1:(u != 0)=decide (r*r≠M):=by
  rw[hu,Bool.eq_iff_iff,bne_iff_ne,decide_eq_true_eq];unfold zAq sgn;simp;split <;> (try split) <;> omega
 rw[←hu1];have t1:IntKind.i64.wrap (2*n)=2*n:=jg
 have t2:IntKind.i64.wrap (2*n+6)=2*n+6:=jg
 have t3:max (IntKind.i64.wrap (2*n+6-(l:Int))) 0=k0:=by rw[hk0,IntKind.wrap_i64];omega
 have t3':max (wrap64 (2*n+6-(l:Int))) 0=k0:=by rw[hk0];unfold wrap64;omega
 have t4:max (2*n+6-(l:Int)) 0=k0:=hk0.symm;have t5:IntKind.i64.wrap (E-k0)=E-k0:=jg
 have t6:IntKind.i64.wrap (E-(K:Int))=E-K:=jg
 have t5':wrap64 (E-k0)=E-k0:=jD
 have t6':wrap64 (E-(K:Int))=E-K:=jD
 have t7:(E-(K:Int)).tdiv 2=(E-K)/2:=by
  obtain⟨j,hj⟩:∃j,E-(K:Int)=2*j:=⟨(E-K)/2,j0⟩;rw[hj,Int.mul_comm,Int.mul_tdiv_cancel _ ja,Int.mul_ediv_cancel _ ja]
 have t8:IntKind.i64.wrap ((E-(K:Int))/2)=(E-K)/2:=jg
 have hpar:(k0=K∧(E-k0).tmod 2=0)∨(k0+1=K∧(E-k0).tmod 2≠0):=by
  have htm:=Int.tmod_eq_emod (a:=E-k0) (b:=2)
  by_cases h:(E-k0)%2=0
  · left;refine⟨by rw[if_pos h]at hKk;omega,?_⟩
    exact Int.tmod_eq_zero_of_dvd (Int.dvd_of_emod_eq_zero h)
  · right;refine⟨by rw[if_neg h]at hKk;omega,fun q=>h ?_⟩
    exact Int.emod_eq_zero_of_dvd (Int.dvd_of_tmod_eq_zero q)
 generalize hv:(E-(K:Int))/2=v at *;have HPAR:=Lib.hid hpar;clear hK he hl hk0 hKk hK1 hMl hM hrM h1 h2 lM lr lP hu hu1 hpar hv;go_enter Tryz.func145,Tryz.ntmps145;go_wp2_with fail;refine(HL _).out.mono ?_;rintro e w1 ⟨rfl,b1⟩
 go_upto_if 22 with fail
 go_cut [9] (fun t wx=>t=.int .i64 (K:Int)∧From w1 wx)
 case first=>
  clear t6 t6' t7 t8;rcases HPAR.out with⟨e1,e2⟩ | ⟨e1,e2⟩
  · have e3:((E-k0).tmod 2 != 0)=false:=(by rw[e2];rfl);go_wp2_with fail
    go_meet
    exact⟨by first | rfl | rw[e1],⟨zbh⟩⟩
  · have e3:((E-k0).tmod 2 != 0)=true:=(by simpa using e2);have e4:IntKind.i64.wrap (k0+1)=K:=jg;have e5:wrap64 (k0+1)=K:=jD;go_wp2_with fail
    go_meet
    exact⟨by first | rfl | rw[e1],⟨zbh⟩⟩
 case rest=>
  obtain⟨rfl,b2⟩:=hcut;generalize wc=v1 at *;clear HPAR t1 t2 t3 t4 t5 t3' t5' HL;go_wp2_with fail;refine(HS _).out.mono ?_;rintro e w3 ⟨a3,c3,rfl,i3,b3,f3⟩;obtain⟨n1,n2⟩:=zL3 w3 (w.heap.size+1);go_wp2_with fail;refine(HQ _ _ _).out.mono ?_;rintro e w4 ⟨a4,c4,rfl,i4,b4,f4⟩;haveI k3:NA a3 (nl M) (w.heap.size+1):=⟨zF5 f3⟩;haveI k4:NA a4 (nl r) (w.heap.size+1):=⟨zF5 f4⟩;go_wp2_with fail
  first
  | go_region_held3 (fun w'=>w'.cell? ⟨w.heap.size+1,0,none⟩=some (.bool false)∧w'.cell? ⟨w.heap.size+1,1,none⟩=some (.slice a4 (nl r) c4)∧w'.cell? ⟨w3.heap.size,0,none⟩=some (.bool false)∧w'.cell? ⟨w3.heap.size,1,none⟩=some (.slice a3 (nl M) c3)) (first | (go_simp;done))
   (first
    | (go_at_call 56;refine(HP _ _ _).out.mono ?_;rintro e w5 ⟨a5,c5,rfl,i5,b5,f5⟩)
    | (go_at_call 97;refine(HC _ _ _ _ _).out.mono ?_;rintro e w6 ⟨rfl,b6⟩)
    | fail)
  | fail "region"
  all_goals(
   go_wp2_with fail;refine bodyPost_ret (v:=.tuple #[.agg #[.bool false,.slice a4 (nl r) c4],.int .i64 v,.bool (u != 0)]) (by simp only[results,Tryz.results145];go_simp) rfl ?_;exact⟨a4,c4,rfl,inferInstance,⟨zbh⟩,zC6 b4 f4⟩)
end Go.Proofs.YtmbkgapknoammaaGreatDoor
set_option maxRecDepth 100000
set_option maxHeartbeats 20000000
namespace Go.Proofs.YtmbkgapknoammaaGreatDoor
open Go.RowKit Sp
attribute [local irreducible] Calls
def qtk(X Y:Nat)(p:Int):Nat:=(max (p+2+zA4 Y-zA4 X) 0).toNat
theorem zKI(w:World)(a a':Option Addr)(cap cap' X Y:Nat)(p:Int)(hx:Mag w a (nl X) cap X)(hy:Mag w a' (nl Y) cap' Y)(hX:zA4 X≤131072)(hY:zA4 Y≤131072)(hy0:0<Y)(hp0:0≤p)(hp1:p≤4096)(K Q R:Nat)(hK:K=qtk X Y p)(hQ:Q=X*2^K/Y)(hR:R=X*2^K%Y):Calls Tryz.prog 146 #[.agg #[.bool false,.slice a (nl X) cap],.agg #[.bool false,.slice a' (nl Y) cap'],.int .i64 p] w fun e w'=>∃a c,e=.returned (.tuple #[.agg #[.bool false,.slice a (nl Q) c],.int .i64 (-(K:Int)),.bool (decide (R≠0))])∧BI w' a (nl Q) c Q∧From w w'∧(0<nl Q→w.heap.size≤ab a):=by
 haveI I1:BI w a (nl X) cap X:=⟨hx⟩;haveI I2:BI w a' (nl Y) cap' Y:=⟨hy⟩;have lX:nl X≤549755813887:=Nat.le_trans (zAh _) j0;have lY:nl Y≤549755813887:=Nat.le_trans (zAh _) j0;have HL:=fun W [i:BI W a (nl X) cap X]=>Lib.hid (frm (zBu W false a (nl X) cap X i.out j0));have HM:=fun W [i:BI W a' (nl Y) cap' Y]=>Lib.hid (frm (zBu W false a' (nl Y) cap' Y i.out j0));have hKi:(K:Int)=max (p+2+zA4 Y-zA4 X) 0:=by rw[hK];unfold qtk;omega
 have hKl:K≤140000:=j0
 obtain⟨M,hM⟩:∃M,M=X*2^K:=⟨_,rfl⟩;rw[←hM]at hQ hR;have lM:nl M≤549755813887:=by
  have:zA4 M≤300000:=by
   rw[hM];rcases Nat.eq_zero_or_pos X with h | h
   · rw[h,Nat.zero_mul];decide
   · rw[zAc h K];omega
  exact Nat.le_trans (zAh _) j0
 have lR:nl R≤549755813887:=Nat.le_trans (zAN (by rw[hR];exact Nat.mod_le _ _)) lM;have HS:=fun W [i:BI W a (nl X) cap X]=>Lib.hid (show Calls Tryz.prog 86 #[.agg #[.bool false,.slice a (nl X) cap],.int .i64 (K:Int)] W fun e w'=>∃a c,e=.returned (.agg #[.bool false,.slice a (nl M) c])∧BI w' a (nl M) c M∧From W w'∧(0<nl M→W.heap.size≤ab a)from by
  have:=zCj W false a (nl X) cap X K i.out j0 j0;rw[show sgn false X*2^K=(M:Int)by rw[hM];simp[sgn]]at this;exact zOe this)
 have HD:=fun W b c [i:BI W b (nl M) c M] [j:BI W a' (nl Y) cap' Y]=>Lib.hid (zSG (zEW W b a' c cap' M Y i.out j.out lM lY hy0));rw[←hQ,←hR]at HD;have HG:=fun W b c [i:BI W b (nl R) c R]=>Lib.hid (frm (zCi W false b (nl R) c R i.out j0));obtain⟨g,hg⟩:∃g,g=sg (sgn false R):=⟨_,rfl⟩;rw[←hg]at HG;have hgm:(g != 0)=decide (R≠0):=by rw[hg,zLO,zAg]
 rw[←hgm];obtain⟨lx,hlx⟩:∃l:Int,l=(zA4 X:Int):=⟨_,rfl⟩;obtain⟨ly,hly⟩:∃l:Int,l=(zA4 Y:Int):=⟨_,rfl⟩;rw[←hlx]at HL hKi;rw[←hly]at HM hKi;have t1:IntKind.i64.wrap (p+2)=p+2:=jg
 have t2:IntKind.i64.wrap (p+2+ly)=p+2+ly:=jg
 have t3:IntKind.i64.wrap (p+2+ly-lx)=p+2+ly-lx:=jg
 have t4:max (p+2+ly-lx) 0=(K:Int):=hKi.symm;have t5:IntKind.i64.wrap (-(K:Int))= -(K:Int):=jg
 have t6:wrap64 (-(K:Int))= -(K:Int):=jD
 clear hK hKi hKl hM hQ hR lX lY lM lR hg hgm hlx hly;generalize (K:Int)=k at *;go_enter Tryz.func146,Tryz.ntmps146;go_wp2_with fail
 first
 | go_region_held3 (fun w'=>w'.cell? ⟨w.heap.size,0,none⟩=some (.bool false)∧w'.cell? ⟨w.heap.size,1,none⟩=some (.slice a (nl X) cap)∧w'.cell? ⟨w.heap.size+1,0,none⟩=some (.bool false)∧w'.cell? ⟨w.heap.size+1,1,none⟩=some (.slice a' (nl Y) cap')) (first | (go_simp;done))
  (first
   | (go_at_call 90;refine(HM _).out.mono ?_;rintro e w1 ⟨rfl,b1⟩)
   | (go_at_call 90;refine(HL _).out.mono ?_;rintro e w2 ⟨rfl,b2⟩)
   | fail)
 | fail "region"
 all_goals(
  go_upto_region 2 with fail
  go_cut [10] (fun pz wx=>∃z aq cq ar cr,pz=.pointer (some ⟨z,0,none⟩)∧BB wx (w.heap.size+1+1) false (.slice aq (nl Q) cq)∧BB wx z false (.slice ar (nl R) cr)∧BI wx aq (nl Q) cq Q∧BI wx ar (nl R) cr R∧Beh w wx∧NA aq (nl Q) (w.heap.size+1+1)∧NB z (w.heap.size+1+1)∧(0<nl Q→w.heap.size≤ab aq))
  case first=>
   first
   | go_region_held3 (fun w'=>w'.cell? ⟨w.heap.size,0,none⟩=some (.bool false)∧w'.cell? ⟨w.heap.size,1,none⟩=some (.slice a (nl X) cap)∧w'.cell? ⟨w.heap.size+1,0,none⟩=some (.bool false)∧w'.cell? ⟨w.heap.size+1,1,none⟩=some (.slice a' (nl Y) cap')) (first | (go_simp;done))
    (first
     | (go_at_call 86;refine(HS _).out.mono ?_;rintro e w3 ⟨a3,c3,rfl,i3,b3,f3⟩)
     | (go_at_call 168;refine(HD _ _ _).out.mono ?_;rintro e w4 ⟨a4,c4,a5,c5,rfl,i4,i5,b4,f4,f5⟩;haveI g4:=FA.mk f4;haveI g5:=FA.mk f5)
     | fail)
   | fail "region"
   all_goals(
    go_wp2_with fail
    go_meet
    exact⟨_,a4,c4,a5,c5,rfl,inferInstance,inferInstance,inferInstance,inferInstance,inferInstance,inferInstance,inferInstance,zC6 b4 f4⟩)
  case rest=>
   obtain⟨z,aq,cq,ar,cr,rfl,V1,V2,i6,i7,b5,k6,k7,f6⟩:=hcut;generalize wc=v1 at *;clear HS HD HL HM;go_wp2_with fail
   first
   | go_region_held3 (fun w'=>w'.cell? ⟨w.heap.size+1+1,0,none⟩=some (.bool false)∧w'.cell? ⟨w.heap.size+1+1,1,none⟩=some (.slice aq (nl Q) cq)∧w'.cell? ⟨z,0,none⟩=some (.bool false)∧w'.cell? ⟨z,1,none⟩=some (.slice ar (nl R) cr)) (first | (go_simp;done))
    (first
     | (go_at_call 59;refine(HG _ _ _).out.mono ?_;rintro e w5 ⟨rfl,b6⟩)
     | fail)
   | fail "region"
   all_goals(
    go_wp2_with fail;refine bodyPost_ret (v:=.tuple #[.agg #[.bool false,.slice aq (nl Q) cq],.int .i64 (-k),.bool (g != 0)]) (by simp only[results,Tryz.results146];go_simp) rfl ?_;exact⟨aq,cq,rfl,inferInstance,⟨zbh⟩,f6⟩))
end Go.Proofs.YtmbkgapknoammaaGreatDoor
set_option maxRecDepth 100000
set_option maxHeartbeats 20000000
namespace Go.Proofs.YtmbkgapknoammaaGreatDoor
open Go.RowKit Sp
attribute [local irreducible] Calls
theorem zJK{M p:Nat}(h:2*p≤zA4 M):p≤zA4 (isq M):=by
 rcases Nat.lt_or_ge (zA4 (isq M)) p with k | k
 · exfalso;have h1:=zAz (isq M);have h2:isq M+1≤2^(p-1):=Nat.le_trans h1 (Nat.pow_le_pow_right ja j0);have h3:=zDD M;have h4:(isq M+1)*(isq M+1)≤2^(p-1)*2^(p-1):=Nat.mul_le_mul h2 h2;rw[←Nat.pow_add]at h4;have h5:zA4 M≤p-1+(p-1):=zAC (Nat.lt_of_lt_of_le h3 h4);omega
 · exact k
theorem zKU(w:World)(v s:Bool)(A:Option Addr)(n c:Nat)(e:Int)(d:Option (Int×Int))(mode:Int)(hx:DyIs w v s A n c e d)(hT:Tab w):Calls Tryz.prog 112 #[.agg #[.bool v,.bool s,.slice A n c,.int .i64 e],.int .i64 mode] w fun e w'=>e=.returned (.int .u64 (zBc d mode:Nat))∧Below w.heap.size w w':=by
 have HT:Tb w:=⟨hT⟩;have HX:DS w v s A n c e d:=⟨hx⟩;have hN:=hx.1.isN;have HN:=fun W [i:DS W v s A n c e d] [Tb W]=>Lib.hid (zRU hN (zAQ W i.out tb));have hB:=zAd hN;have HG:=fun W b c [i:BI W b (nl (zA1 d).natAbs) c (zA1 d).natAbs]=>Lib.hid (frm (zEj W b c (zA1 d) _ rfl i.out (zAZ j0)));clear hx
 cases hb:zAj d with
 | true=>
  rw[show zBc d mode=zK1 by rw[zBB hb];rfl];show Calls _ _ _ _ fun e w'=>e=.returned (.int .u64 9221120237041090560)∧Below w.heap.size w w';go_enter Tryz.func112,Tryz.ntmps112;go_wp2_with fail;refine(HN _).out.mono ?_;rintro e w1 ⟨a1,c1,rfl,i1,b1,j1,f1⟩;haveI k1:NA a1 (nl (zA1 d).natAbs) w.heap.size:=⟨zJu f1⟩;go_wp2_with fail;go_ret;exact⟨rfl,zbh⟩
 | false=>
  obtain⟨m,E,hd⟩:∃m E,d=some (m,E):=⟨_,_,zIB hb⟩;obtain⟨z,hz⟩:∃z,z=zA1 d:=⟨_,rfl⟩;have hzm:z=m:=by rw[hz,hd];rfl
  have hdE:zA7 d=E:=by rw[hd];rfl
  rcases zBx z with⟨hs,hq⟩ | ⟨hs,hq⟩ | ⟨hs,hq⟩
  · rw[show zBc d mode=zK1 by rw[hd];show(if m<0 then _ else _)=_;rw[if_pos j0]];show Calls _ _ _ _ fun e w'=>e=.returned (.int .u64 9221120237041090560)∧Below w.heap.size w w';rw[←hz,hs]at HG;rw[←hz]at HN;clear hzm hd hdE hz hs hB;have z0:decide (z<0)=true:=(by simpa using hq);rw[z0]at HG HN;clear hq;go_enter Tryz.func112,Tryz.ntmps112;go_wp2_with fail;refine(HN _).out.mono ?_;rintro e w1 ⟨a1,c1,rfl,i1,b1,j1,f1⟩;haveI k1:NA a1 (nl z.natAbs) w.heap.size:=⟨zJu f1⟩;go_wp2_with fail;refine(HG _ _ _).out.mono ?_;rintro e w2 ⟨rfl,b2⟩;go_wp2_with fail;go_ret;exact⟨rfl,zbh⟩
  · rw[show zBc d mode=0 by rw[hd];show(if m<0 then _ else if m=0 then _ else _)=_;rw[if_neg j0,if_pos j0]];show Calls _ _ _ _ fun e w'=>e=.returned (.int .u64 0)∧Below w.heap.size w w';rw[←hz,hs]at HG;rw[←hz]at HN;clear hzm hd hdE hz hs hB;have z0:decide (z<0)=false:=jq;rw[z0]at HG HN;clear hq;go_enter Tryz.func112,Tryz.ntmps112;go_wp2_with fail;refine(HN _).out.mono ?_;rintro e w1 ⟨a1,c1,rfl,i1,b1,j1,f1⟩;haveI k1:NA a1 (nl z.natAbs) w.heap.size:=⟨zJu f1⟩;go_wp2_with fail;refine(HG _ _ _).out.mono ?_;rintro e w2 ⟨rfl,b2⟩;go_wp2_with fail;refine(HG _ _ _).out.mono ?_;rintro e w3 ⟨rfl,b3⟩;go_wp2_with fail;go_ret;exact⟨rfl,zbh⟩
  · obtain⟨K,hK⟩:∃K,K=rtk z.natAbs E 60:=⟨_,rfl⟩;obtain⟨M,hM⟩:∃M,M=z.natAbs*2^K:=⟨_,rfl⟩;rw[←hz,hdE]at hB;have hMb:zA4 M=zA4 z.natAbs+K:=(by rw[hM];exact zAc j0 K);have hKb:126≤zA4 z.natAbs+K∧K≤200:=(by rw[hK];unfold rtk;split <;> omega);have hrb:63≤zA4 (isq M):=zJK j0;have hrl:zA4 (isq M)≤140000:=by
     have h1:isq M≤M:=by
      rcases Nat.eq_zero_or_pos (isq M)with h | h
      · exact j0
      · exact Nat.le_trans (Nat.le_mul_of_pos_left _ h) (zDE M)
     have:=zBC h1;omega
    have hv:zBc d mode=zCg false (isq M) ((E-(K:Nat))/2) (decide (isq M*isq M≠M)) mode:=by
     rw[hd];show(if m<0 then _ else if m=0 then _ else _)=_;rw[if_neg j0,if_neg j0,hM,hzm];have hr:=zLX m E 56;have e1:zA4 (m.natAbs*2^rsh m E 56)=zA4 m.natAbs+rsh m E 56:=zAc j0 _;refine zIt E mode (zGe m E 56) (by rw[hK];exact zJa _ _ _) (zJK (p:=54) j0) ?_;rw[←hzm,←hM];omega
    have HR:=fun W b c [i:BI W b (nl z.natAbs) c z.natAbs]=>Lib.hid (zLY W b c z.natAbs (isq M) E 60 i.out j0 j0 j0 j0 j0 K M hK hM (zDE M) (zDD M));have HO:=fun W b c [i:BI W b (nl (isq M)) c (isq M)] [Tb W]=>Lib.hid (frm (zCv W false (decide (isq M*isq M≠M)) b c (isq M) ((E-(K:Nat))/2) mode i.out (by rcases Nat.eq_zero_or_pos (isq M)with h | h;rw[h]at hrb;exact absurd hrb ja;exact h) j0 j0 j0 (fun _=>j0) tb));rw[hv];generalize ((zCg false (isq M) ((E-(K:Nat))/2) (decide (isq M*isq M≠M)) mode:Nat):Int)=u at *;generalize decide (isq M*isq M≠M)=mo at *;generalize (E-(K:Nat))/2=x2 at *;generalize isq M=r at *;rw[←hz,hs]at HG;rw[←hz,hdE]at HN;have z0:decide (z<0)=false:=jq;rw[z0]at HG HN;clear hq;clear hv hrl hrb hKb hMb hM hK hB hzm hd hdE hz hs;go_enter Tryz.func112,Tryz.ntmps112;go_wp2_with fail;refine(HN _).out.mono ?_;rintro e w1 ⟨a1,c1,rfl,i1,b1,j1,f1⟩;haveI k1:NA a1 (nl z.natAbs) w.heap.size:=⟨zJu f1⟩;go_wp2_with fail;refine(HG _ _ _).out.mono ?_;rintro e w2 ⟨rfl,b2⟩;go_wp2_with fail;refine(HG _ _ _).out.mono ?_;rintro e w3 ⟨rfl,b3⟩;go_wp2_with fail;refine(HR _ _ _).out.mono ?_;rintro e w4 ⟨a4,c4,rfl,i4,b4,f4⟩;haveI T4:Tb w4:=⟨hT.below zbh⟩;go_wp2_with fail;refine(HO _ _ _).out.mono ?_;rintro e w5 ⟨rfl,b5⟩;go_wp2_with fail;go_ret;exact⟨rfl,zbh⟩
theorem zJl{A B K p:Nat}(hA:0<A)(hB:0<B)(h:zA4 B+p≤zA4 A+K):p≤zA4 (A*2^K/B):=by
 rcases Nat.lt_or_ge (zA4 (A*2^K/B)) p with k | k
 · exfalso;have h1:A*2^K/B<2^(p-1):=Nat.lt_of_lt_of_le (zAz _) (Nat.pow_le_pow_right ja j0);rw[Nat.div_lt_iff_lt_mul hB]at h1;have h2:2^(p-1)*B<2^(p-1)*2^zA4 B:=Nat.mul_lt_mul_of_pos_left (zAz B) (Nat.pow_pos ja);rw[←Nat.pow_add]at h2;have h3:=zAc hA K;have h4:=zAC (Nat.lt_trans h1 h2);omega
 · exact k
theorem zMk(w:World)(v s:Bool)(A:Option Addr)(n c:Nat)(e:Int)(d:Option (Int×Int))(v' s':Bool)(A':Option Addr)(n' c':Nat)(e':Int)(d':Option (Int×Int))(mode:Int)(hx:DyIs w v s A n c e d)(hy:DyIs w v' s' A' n' c' e' d')(hT:Tab w):Calls Tryz.prog 113 #[.agg #[.bool v,.bool s,.slice A n c,.int .i64 e],.agg #[.bool v',.bool s',.slice A' n' c',.int .i64 e'],.int .i64 mode] w fun e w'=>e=.returned (.int .u64 (zEH d d' mode:Nat))∧Below w.heap.size w w':=by
 have HT:Tb w:=⟨hT⟩;have HX:DS w v s A n c e d:=⟨hx⟩;have HY:DS w v' s' A' n' c' e' d':=⟨hy⟩;have hN:=hx.1.isN;have hN':=hy.1.isN;have HN:=fun W [i:DS W v s A n c e d] [Tb W]=>Lib.hid (zRU hN (zAQ W i.out tb));have HN2:=fun W [i:DS W v' s' A' n' c' e' d'] [Tb W]=>Lib.hid (zRU hN' (zAQ W i.out tb));have hB:=zAd hN;have hB':=zAd hN';obtain⟨u,hu⟩:∃u:Int,u=((zEH d d' mode:Nat):Int):=⟨_,rfl⟩;rw[←hu];have hU:=Lib.hid hu;clear hx hy hu;go_enter Tryz.func113,Tryz.ntmps113
 go_upto_region 1 with fail
 go_cut [] (fun wx=>∃a1 c1 a2 c2,DB wx w.heap.size (zAj d) (decide (zA1 d<0)) (.slice a1 (nl (zA1 d).natAbs) c1) (zA7 d)∧DB wx (w.heap.size+1) (zAj d') (decide (zA1 d'<0)) (.slice a2 (nl (zA1 d').natAbs) c2) (zA7 d')∧BI wx a1 (nl (zA1 d).natAbs) c1 (zA1 d).natAbs∧BI wx a2 (nl (zA1 d').natAbs) c2 (zA1 d').natAbs∧Beh w wx)
 case first=>
  first
  | go_region_with (first
   | (go_at_call 51;refine(HN _).out.mono ?_;rintro o w1 ⟨a1,c1,rfl,i1,b1,j1,f1⟩;haveI g1:=FA.mk f1)
   | (go_at_call 51;refine(HN2 _).out.mono ?_;rintro o w2 ⟨a2,c2,rfl,i2,b2,j2,f2⟩;haveI g2:=FA.mk f2)
   | fail)
  | fail "region"
  all_goals(
   go_wp2_with fail
   go_meet
   exact⟨a1,c1,a2,c2,inferInstance,inferInstance,inferInstance,inferInstance,inferInstance⟩)
 case rest=>
  obtain⟨a1,c1,a2,c2,V1,V2,j1,j2,b3⟩:=hcut;generalize wc=v1 at *;clear HN HN2;haveI T1:Tb v1:=⟨hT.below b3.out⟩
  cases hb:zAj d with
  | true=>
   obtain rfl:u=9221120237041090560:=(by rw[hU.out,zBB hb];rfl);clear hU;go_wp2_with fail;go_ret;exact⟨rfl,zbh⟩
  | false=>
  cases hb':zAj d' with
  | true=>
   obtain rfl:u=9221120237041090560:=(by rw[hU.out,zBB hb',zIB hb];rfl);clear hU;go_wp2_with fail;go_ret;exact⟨rfl,zbh⟩
  | false=>
  obtain⟨m,E,hd⟩:∃m E,d=some (m,E):=⟨_,_,zIB hb⟩;obtain⟨m',E',hd'⟩:∃m E,d'=some (m,E):=⟨_,_,zIB hb'⟩;subst hd hd';have V1:DB v1 w.heap.size false (decide (m<0)) (.slice a1 (nl m.natAbs) c1) E:=V1;have V2:DB v1 (w.heap.size+1) false (decide (m'<0)) (.slice a2 (nl m'.natAbs) c2) E':=V2;have j1:BI v1 a1 (nl m.natAbs) c1 m.natAbs:=j1;have j2:BI v1 a2 (nl m'.natAbs) c2 m'.natAbs:=j2;have hB:zA4 m.natAbs≤131072∧ -65536≤E∧E≤65536:=hB;have hB':zA4 m'.natAbs≤131072∧ -65536≤E'∧E'≤65536:=hB';have HG:=fun W b c [i:BI W b (nl m.natAbs) c m.natAbs]=>Lib.hid (frm (zEj W b c m _ rfl i.out (zAZ j0)));have HG2:=fun W b c [i:BI W b (nl m'.natAbs) c m'.natAbs]=>Lib.hid (frm (zEj W b c m' _ rfl i.out (zAZ j0)));have hu:u=(((if m'=0 then zK1 else if m=0 then 0 else zCg (decide (m<0) != decide (m'<0)) (m.natAbs*2^qsh m m' 56/m'.natAbs) (E-qsh m m' 56-E') (decide (m.natAbs*2^qsh m m' 56%m'.natAbs≠0)) mode:Nat)):Int):=hU.out;clear hN hN' hU hb hb' HX HY
  by_cases hz':m'=0
  · obtain rfl:u=9221120237041090560:=(by rw[hu,if_pos hz'];rfl);have hs:sg m'=0:=(by rw[hz'];rfl);rw[hs]at HG2;clear hs hz' hu hB hB';go_wp2_with fail;refine(HG2 _ _ _).out.mono ?_;rintro o w3 ⟨rfl,b3⟩;go_wp2_with fail;go_ret;exact⟨rfl,zbh⟩
  · obtain⟨g',hg'⟩:∃g,g=sg m':=⟨_,rfl⟩;have hg1:(g'==0)=false:=by rw[hg',beq_eq_false_iff_ne];rcases zBx m' with⟨h,q⟩ | ⟨h,q⟩ | ⟨h,q⟩ <;> omega
    have hg2:¬g'=0:=(by simpa using hg1);rw[←hg']at HG2;clear hg';rw[if_neg hz']at hu
    by_cases hz:m=0
    · obtain rfl:u=0:=(by rw[hu,if_pos hz];rfl);have hs:sg m=0:=(by rw[hz];rfl);rw[hs]at HG;clear hs hz' hz hu hB hB';go_wp2_with fail;refine(HG2 _ _ _).out.mono ?_;rintro o w3 ⟨rfl,b3⟩;go_wp2_with fail;refine(HG _ _ _).out.mono ?_;rintro o w4 ⟨rfl,b4⟩;go_wp2_with fail;go_ret;exact⟨rfl,zbh⟩
    · obtain⟨g,hg⟩:∃g,g=sg m:=⟨_,rfl⟩;have hk1:(g==0)=false:=by rw[hg,beq_eq_false_iff_ne];rcases zBx m with⟨h,q⟩ | ⟨h,q⟩ | ⟨h,q⟩ <;> omega
      have hk2:¬g=0:=(by simpa using hk1);rw[←hg]at HG;clear hg;rw[if_neg hz]at hu;obtain⟨K,hK⟩:∃K,K=qtk m.natAbs m'.natAbs 60:=⟨_,rfl⟩;have hl:61≤zA4 (m.natAbs*2^K/m'.natAbs):=zJl j0 j0 (by rw[hK];unfold qtk;omega);have hl':54≤zA4 (m.natAbs*2^qsh m m' 56/m'.natAbs):=zJl j0 j0 QH;have hKl:K≤140000:=(by rw[hK];unfold qtk;omega);have hQl:zA4 (m.natAbs*2^K/m'.natAbs)≤300000:=by
       have h1:=zBC (Nat.div_le_self (m.natAbs*2^K) m'.natAbs);rw[zAc j0 K]at h1;omega
      have hq:=zLf (decide (m<0) != decide (m'<0)) (A:=m.natAbs) (B:=m'.natAbs) (k:=qsh m m' 56) (k':=K) (E-E') mode j0 hl' j0;rw[show E-(qsh m m' 56:Int)-E'=E-E'-(qsh m m' 56:Nat)by omega,hq]at hu;have HR:=fun W b c b' c' [i:BI W b (nl m.natAbs) c m.natAbs] [j:BI W b' (nl m'.natAbs) c' m'.natAbs]=>Lib.hid (zKI W b b' c c' m.natAbs m'.natAbs 60 i.out j.out hB.1 hB'.1 j0 j0 j0 K _ _ hK rfl rfl);have HA:=fun W b c [i:BI W b (nl m.natAbs) c m.natAbs]=>Lib.hid (zOe (zJj W b c m _ rfl i.out (zAZ j0)));have HA2:=fun W b c [i:BI W b (nl m'.natAbs) c m'.natAbs]=>Lib.hid (zOe (zJj W b c m' _ rfl i.out (zAZ j0)));have HO:=fun W b c [i:BI W b (nl (m.natAbs*2^K/m'.natAbs)) c (m.natAbs*2^K/m'.natAbs)] [Tb W]=>Lib.hid (frm (zCv W (decide (m<0) != decide (m'<0)) (decide (m.natAbs*2^K%m'.natAbs≠0)) b c (m.natAbs*2^K/m'.natAbs) (E-E'-(K:Nat)) mode i.out (by rcases Nat.eq_zero_or_pos (m.natAbs*2^K/m'.natAbs)with h | h;rw[h]at hl;exact absurd hl ja;exact h) j0 j0 j0 (fun _=>j0) tb));rw[←hu,show(decide (m<0) != decide (m'<0))=!(decide (m<0)==decide (m'<0))from rfl]at HO;have t1:IntKind.i64.wrap (E-E')=E-E':=jg;have t2:wrap64 (E-E')=E-E':=jD;have t3:IntKind.i64.wrap (E-E'+ -(K:Int))=E-E'-(K:Nat):=jg;have t4:wrap64 (E-E'+ -(K:Int))=E-E'-(K:Nat):=jD;have t5:E-E'+ -(K:Int)=E-E'-(K:Nat):=j0;have t6:wrap64 (E-E'-(K:Nat))=E-E'-(K:Nat):=jD;generalize decide (m.natAbs*2^K%m'.natAbs≠0)=mo at *;generalize m.natAbs*2^K/m'.natAbs=Q at *;generalize E-E'-((K:Nat):Int)=x2 at *;clear hu hq hQl hKl hl hl' hK hz hz' hB hB';go_wp2_with fail;refine(HG2 _ _ _).out.mono ?_;rintro o w3 ⟨rfl,b3⟩;go_wp2_with fail;refine(HG _ _ _).out.mono ?_;rintro o w4 ⟨rfl,b4⟩;go_wp2_with fail
      go_cut [7,8,9] (fun p7 x8 x9 wx=>∃z aq cq,p7=.pointer (some ⟨z,0,none⟩)∧x8=.int .i64 (-(K:Int))∧x9=.bool mo∧BB wx z false (.slice aq (nl Q) cq)∧BI wx aq (nl Q) cq Q∧From w4 wx)
      case first=>
       first
       | go_region_held3 (fun w'=>w'.cell? ⟨w.heap.size,1,none⟩=some (.bool (decide (m<0)))∧w'.cell? ⟨w.heap.size,2,none⟩=some (.slice a1 (nl m.natAbs) c1)∧w'.cell? ⟨w.heap.size+1,1,none⟩=some (.bool (decide (m'<0)))∧w'.cell? ⟨w.heap.size+1,2,none⟩=some (.slice a2 (nl m'.natAbs) c2)) (first | (go_simp;done))
        (first
         | (go_at_call 60;refine(HA _ _ _).out.mono ?_;rintro o w5 ⟨a5,c5,rfl,i5,b5,f5⟩)
         | (go_at_call 60;refine(HA2 _ _ _).out.mono ?_;rintro o w6 ⟨a6,c6,rfl,i6,b6,f6⟩)
         | (go_at_call 146;refine(HR _ _ _ _ _).out.mono ?_;rintro o w7 ⟨a7,c7,rfl,i7,b7,f7⟩;haveI g7:=FA.mk f7)
         | fail)
       | fail "region"
       all_goals(
        go_wp2_with fail
        go_meet
        exact⟨_,a7,c7,rfl,rfl,rfl,inferInstance,inferInstance,⟨zbh⟩⟩)
      case rest=>
       obtain⟨z,aq,cq,rfl,rfl,rfl,V5,i8,b8⟩:=hcut;generalize wc=v2 at *;clear HR HA HA2 HG HG2;go_wp2_with fail;refine(HO _ _ _).out.mono ?_;rintro o w9 ⟨rfl,b9⟩;go_wp2_with fail;go_ret;exact⟨rfl,zbh⟩
end Go.Proofs.YtmbkgapknoammaaGreatDoor
set_option maxRecDepth 100000
set_option maxHeartbeats 20000000
namespace Go.Proofs.YtmbkgapknoammaaGreatDoor
open Go.RowKit Sp
attribute [local irreducible] Calls
theorem zMd(w:World)(v s v' s':Bool)(A A':Option Addr)(n n' c c':Nat)(e e':Int)(d d':Option (Int×Int))(hx:DyIs w v s A n c e d)(hy:DyIs w v' s' A' n' c' e' d')(hT:Tab w):Calls Tryz.prog 23 #[.agg #[.bool v,.bool s,.slice A n c,.int .i64 e],.agg #[.bool v',.bool s',.slice A' n' c',.int .i64 e']] w (zAM w (zAO d d')):=by
 obtain⟨u,hu⟩:∃u,u=zAO d d':=⟨_,rfl⟩;rw[←hu];have HT:Tb w:=⟨hT⟩;have HX:DS w v s A n c e d:=⟨hx⟩;have HY:DS w v' s' A' n' c' e' d':=⟨hy⟩;have hN:=hx.1.isN;have hN':=hy.1.isN;have HN:=fun W [i:DS W v s A n c e d] [Tb W]=>Lib.hid (zRU hN (zAQ W i.out tb));have HN2:=fun W [i:DS W v' s' A' n' c' e' d'] [Tb W]=>Lib.hid (zRU hN' (zAQ W i.out tb));have HB:=fun W=>Lib.hid (frm (zD2 W));have hB:=zAd hN;have hB':=zAd hN';have hU:=Lib.hid hu;clear hx hy hu;go_enter Tryz.func23,Tryz.ntmps23
 go_upto_region 1 with fail
 go_cut [] (fun wx=>∃a1 c1 a2 c2,DB wx w.heap.size (zAj d) (decide (zA1 d<0)) (.slice a1 (nl (zA1 d).natAbs) c1) (zA7 d)∧DB wx (w.heap.size+1) (zAj d') (decide (zA1 d'<0)) (.slice a2 (nl (zA1 d').natAbs) c2) (zA7 d')∧DB wx (w.heap.size+1+1) false false (.slice none 0 0) 0∧BI wx a1 (nl (zA1 d).natAbs) c1 (zA1 d).natAbs∧BI wx a2 (nl (zA1 d').natAbs) c2 (zA1 d').natAbs∧Beh w wx)
 case first=>
  first
  | go_region_with (first
   | (go_at_call 51;refine(HN _).out.mono ?_;rintro o w1 ⟨a1,c1,rfl,i1,b1,j1,f1⟩;haveI g1:=FA.mk f1)
   | (go_at_call 51;refine(HN2 _).out.mono ?_;rintro o w2 ⟨a2,c2,rfl,i2,b2,j2,f2⟩;haveI g2:=FA.mk f2)
   | fail)
  | fail "region"
  all_goals(
   go_wp2_with fail
   go_meet
   exact⟨a1,c1,a2,c2,inferInstance,inferInstance,inferInstance,inferInstance,inferInstance,inferInstance⟩)
 case rest=>
  obtain⟨a1,c1,a2,c2,V1,V2,V3,j1,j2,b3⟩:=hcut;generalize wc=v1 at *;clear HN HN2;haveI T1:Tb v1:=⟨hT.below b3.out⟩
  cases hb:zAj d with
  | true=>
   obtain rfl:u=none:=(by rw[hU.out,zBB hb];cases d' <;> rfl);clear hU;go_wp2_with fail;refine(HB _).out.mono ?_;rintro o w8 ⟨rfl,b8⟩;go_wp2_with fail;refine bodyPost_ret (v:=.agg #[.bool true,.bool false,.slice none 0 0,.int .i64 0]) (by simp only[results,Tryz.results23];go_simp) rfl ?_;exact⟨none,0,rfl,Mag.nil _,zbh,nl0⟩
  | false=>
  cases hb':zAj d' with
  | true=>
   obtain rfl:u=none:=(by rw[hU.out,zBB hb',zIB hb];rfl);clear hU;go_wp2_with fail;refine(HB _).out.mono ?_;rintro o w8 ⟨rfl,b8⟩;go_wp2_with fail;refine bodyPost_ret (v:=.agg #[.bool true,.bool false,.slice none 0 0,.int .i64 0]) (by simp only[results,Tryz.results23];go_simp) rfl ?_;exact⟨none,0,rfl,Mag.nil _,zbh,nl0⟩
  | false=>
  obtain⟨m,E,hd⟩:∃m E,d=some (m,E):=⟨_,_,zIB hb⟩;obtain⟨m',E',hd'⟩:∃m E,d'=some (m,E):=⟨_,_,zIB hb'⟩;subst hd hd';have V1:DB v1 w.heap.size false (decide (m<0)) (.slice a1 (nl m.natAbs) c1) E:=V1;have V2:DB v1 (w.heap.size+1) false (decide (m'<0)) (.slice a2 (nl m'.natAbs) c2) E':=V2;have j1:BI v1 a1 (nl m.natAbs) c1 m.natAbs:=j1;have j2:BI v1 a2 (nl m'.natAbs) c2 m'.natAbs:=j2;have hB:zA4 m.natAbs≤131072∧ -65536≤E∧E≤65536:=hB;have hB':zA4 m'.natAbs≤131072∧ -65536≤E'∧E'≤65536:=hB';have hu:u=nrm (m*m') (E+E'):=hU.out;clear hN hN' hU hb hb' HX HY;obtain⟨Z,hZ⟩:∃Z,Z=m*m':=⟨_,rfl⟩;obtain⟨K,hK⟩:∃K,K=E+E':=⟨_,rfl⟩;have hblZ:zA4 Z.natAbs≤262145:=by
   rw[hZ,Int.natAbs_mul];have:=zDs m.natAbs m'.natAbs;omega
  rw[←hZ,←hK]at hu;have nu:IsN u:=by rw[hu];exact zCR _ _
  have HC:=fun W b c b' c' [i:BI W b (nl m.natAbs) c m.natAbs] [j:BI W b' (nl m'.natAbs) c' m'.natAbs]=>Lib.hid (frb (zSe W b b' c c' m m' Z hZ i.out j.out (zAZ j0) (zAZ j0)));have HM:=fun W b c [i:BI W b (nl Z.natAbs) c Z.natAbs] [Tb W]=>Lib.hid (zRU nu (zGf W b c Z K u hu i.out tb (zAZ j0) j0 j0));have t1:IntKind.i64.wrap (E+E')=K:=jg
  have t2:wrap64 (E+E')=K:=jD
  clear hu hZ hK nu hblZ hB hB';go_wp2_with fail
  first
  | go_region_held3 (fun w'=>w'.cell? ⟨w.heap.size,1,none⟩=some (.bool (decide (m<0)))∧w'.cell? ⟨w.heap.size,2,none⟩=some (.slice a1 (nl m.natAbs) c1)∧w'.cell? ⟨w.heap.size,3,none⟩=some (.int .i64 E)∧w'.cell? ⟨w.heap.size+1,1,none⟩=some (.bool (decide (m'<0)))∧w'.cell? ⟨w.heap.size+1,2,none⟩=some (.slice a2 (nl m'.natAbs) c2)∧w'.cell? ⟨w.heap.size+1,3,none⟩=some (.int .i64 E')) (first | (go_simp;done)) (first
   | (go_at_call 56;refine(HC _ _ _ _ _).out.mono ?_;rintro o w6 ⟨a6,c6,rfl,i6,b6,f6⟩;haveI T6:Tb w6:=⟨hT.below zbh⟩)
   | (go_at_call 54;refine(HM _ _ _).out.mono ?_;rintro o w9 ⟨a9,c9,rfl,i9,b9,j9,f9⟩;haveI g9:=FA.mk f9)
   | fail)
  | fail "region"
  all_goals(
   go_wp2_with fail;refine bodyPost_ret (v:=.agg #[.bool (zAj u),.bool (decide (zA1 u<0)),.slice a9 (nl (zA1 u).natAbs) c9,.int .i64 (zA7 u)]) (by simp only[results,Tryz.results23];go_simp) rfl ?_;exact⟨a9,c9,rfl,BI.out,zbh,zC6 b9 f9⟩)
end Go.Proofs.YtmbkgapknoammaaGreatDoor
namespace Go.Proofs.YtmbkgapknoammaaGreatDoor
open Go.RowKit Sp
attribute [local irreducible] Calls
class FZ(W:World)(a:Option Addr)(n c:Nat)(X:outParam (Nat→Nat)):Prop where out:Fls W a n c X
section
variable {W:World}{a:Option Addr}{n c:Nat}{X:Nat→Nat}
instance FZ.dr[h:FZ W a n c X]:FZ W.drew a n c X:=⟨h.out.below (Below.refl _ _).drew⟩
instance FZ.dn(q:Nat)[h:FZ W a n c X]:FZ (W.drewN q) a n c X:=⟨h.out.below (below_drewN (Below.refl _ _) _)⟩
instance FZ.al(o:Obj)[h:FZ W a n c X]:FZ (W.alloc o) a n c X:=⟨h.out.below ((Below.refl _ _).alloc (Nat.le_refl _) _)⟩
instance FZ.fr(L:World)[k:From L W][h:FZ L a n c X]:FZ W a n c X:=⟨h.out.below k.out⟩
end
theorem frT{P:Program}{f:FuncId}{args:Array Value}{W:World}{n:Nat}{X:Nat→Nat}(h:Calls P f args W fun e w'=>∃oa ocap,e=.returned (.slice oa n ocap)∧Fls w' oa n ocap X∧Below W.heap.size W w'):Calls P f args W fun e w'=>∃oa ocap,e=.returned (.slice oa n ocap)∧FZ w' oa n ocap X∧From W w':=
 h.mono fun _ _ ⟨a,c,he,hm,hb⟩=>⟨a,c,he,⟨hm⟩,⟨hb⟩⟩
end Go.Proofs.YtmbkgapknoammaaGreatDoor

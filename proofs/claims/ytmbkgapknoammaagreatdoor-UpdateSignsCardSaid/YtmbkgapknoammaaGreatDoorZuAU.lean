import Derived.WalkKit
import Derived.Lib.Hide
import Derived.Deep.QuietTactic
import Derived.Laws.CopyOwn
theorem j0{p:Prop}(h:p:=by omega):p:=h
theorem j6{p:Prop}(h:p:=by repeat(first | exact Below.refl _ _ | refine Below.drew ?_ | refine below_drewN ?_ _ | refine Below.alloc ?_ (by simp <;> omega) _ | refine Below.setCell ?_ (by simp <;> omega) _)):p:=h
theorem j7{p:Prop}(h:p:=by have hszw:=hbw.size;repeat(with_reducible first | refine Below.setCell ?_ (by first | omega | (simp <;> omega)) _ | refine Below.alloc ?_ (by first | omega | (simp <;> omega)) _ | refine Below.drew ?_ | refine below_drewN ?_ _ | exact hbw)):p:=h
theorem j8{p:Prop}(h:p:=by first | omega | (simp <;> omega)):p:=h
theorem ja{p:Prop}(h:p:=by decide):p:=h
theorem jb{p:Prop}(h:p:=by simp[intOf];omega):p:=h
theorem jc{p:Prop}(h:p:=by simp <;> omega):p:=h
theorem jd{p:Prop}(h:p:=by repeat(with_reducible first | refine Mag.set ?_ (fun h=>by have:=hfr1 h;omega) _ _ | refine Mag.drew ?_ | refine Mag.alloc ?_ _ | refine Mag.drewN ?_ _ | refine Mag.below ?_ (Below.drew (Below.refl _ _)) | refine Mag.below ?_ ((Below.refl _ _).alloc (Nat.le_refl _) _) | exact hm1)):p:=h
theorem je{p:Prop}(h:p:=by kernel_rfl):p:=h
theorem jf{p:Prop}(h:p:=by repeat(with_reducible first | refine Mag.set ?_ (fun h=>by have:=hfr2 h;omega) _ _ | refine Mag.drew ?_ | refine Mag.alloc ?_ _ | refine Mag.drewN ?_ _ | refine Mag.below ?_ (Below.drew (Below.refl _ _)) | refine Mag.below ?_ ((Below.refl _ _).alloc (Nat.le_refl _) _) | exact hm2)):p:=h
theorem jg{p:Prop}(h:p:=by rw[IntKind.wrap_i64];omega):p:=h
theorem jh{p:Prop}(h:p:=by first | (refine Big0.below (?_:Big0 _ _) hb6;(repeat(first | assumption | (refine Big0.made _ _ _ ?_;first | rfl | (simp;done)) | with_reducible refine Big0.drew ?_ | with_reducible refine Big0.alloc ?_ _));done) | fail):p:=h
theorem ji{p:Prop}(h:p:=by intro w hSw;haveI:=hSw.1;haveI:=hSw.2;go_simp;(try with_reducible rfl)):p:=h
theorem jj{p:Prop}(h:p:=by go_simp):p:=h
theorem jk{p:Prop}(h:p:=by first | (refine Big0.below (?_:Big0 _ _) hb5;(repeat(first | assumption | (refine Big0.made _ _ _ ?_;first | rfl | (simp;done)) | with_reducible refine Big0.drew ?_ | with_reducible refine Big0.alloc ?_ _));done) | fail):p:=h
theorem jl{p:Prop}(h:p:=by infer_instance):p:=h
theorem jm{p:Prop}(h:p:=by go_num):p:=h
theorem jn{p:Prop}(h:p:=by have hszw:=(B1).size;repeat(with_reducible first | refine Below.setCell ?_ (by first | omega | (simp <;> omega)) _ | refine Below.alloc ?_ (by first | omega | (simp <;> omega)) _ | refine Below.drew ?_ | refine below_drewN ?_ _ | exact B1)):p:=h
theorem jo{p:Prop}(h:p:=by intro w hSw;haveI:VB w xb [.slice t1 l.length s1,.slice t2 lv.length s2]:=hSw;go_simp;(try with_reducible rfl)):p:=h
theorem jp{p:Prop}(h:p:=by repeat(with_reducible first | refine Mag.set ?_ (fun h=>by have:=hfr6 h;omega) _ _ | refine Mag.drew ?_ | refine Mag.alloc ?_ _ | refine Mag.drewN ?_ _ | refine Mag.below ?_ (Below.drew (Below.refl _ _)) | refine Mag.below ?_ ((Below.refl _ _).alloc (Nat.le_refl _) _) | exact hm6)):p:=h
theorem jq{p:Prop}(h:p:=by simp;omega):p:=h
theorem jr{p:Prop}(h:p:=by rw[World.size_alloc];omega):p:=h
theorem js{p:Prop}(h:p:=by haveI:From w0 w:=⟨hSw⟩;go_simp):p:=h
theorem ju{p:Prop}(h:p:=by rw[beq_eq_false_iff_ne];omega):p:=h
theorem jv{p:Prop}(h:p:=by have hszw:=(B2).size;repeat(with_reducible first | refine Below.setCell ?_ (by first | omega | (simp <;> omega)) _ | refine Below.alloc ?_ (by first | omega | (simp <;> omega)) _ | refine Below.drew ?_ | refine below_drewN ?_ _ | exact B2)):p:=h
theorem jw{p:Prop}(h:p:=by as_aux_lemma=>kernel_rfl):p:=h
theorem jx{p:Prop}(h:p:=by rw[World.cell?_alloc_new];rfl):p:=h
theorem jy{p:Prop}(h:p:=by first | (refine Big0.below (?_:Big0 _ _) hb4;(repeat(first | assumption | (refine Big0.made _ _ _ ?_;first | rfl | (simp;done)) | with_reducible refine Big0.drew ?_ | with_reducible refine Big0.alloc ?_ _));done) | fail):p:=h
theorem jz{p:Prop}(h:p:=by simp):p:=h
theorem jA{p:Prop}(h:p:=by rfl):p:=h
theorem jB{p:Prop}(h:p:=by have:=hf1 h;simpa using this):p:=h
theorem jC{p:Prop}(h:p:=by repeat(with_reducible first | refine Mag.set ?_ (fun h=>by have:=hfr1 h;omega) _ _ | refine Mag.drew ?_ | refine Mag.alloc ?_ _ | refine Mag.drewN ?_ _ | refine Mag.below ?_ (Below.drew (Below.refl _ _)) | refine Mag.below ?_ ((Below.refl _ _).alloc (Nat.le_refl _) _) | exact hm1')):p:=h
theorem jD{p:Prop}(h:p:=by unfold wrap64;omega):p:=h
theorem jE{p:Prop}(h:p:=by have:=hfr1 h;omega):p:=h
theorem jF{p:Prop}(h:p:=by have hszw:=(hbw2).size;repeat(with_reducible first | refine Below.setCell ?_ (by first | omega | (simp <;> omega)) _ | refine Below.alloc ?_ (by first | omega | (simp <;> omega)) _ | refine Below.drew ?_ | refine below_drewN ?_ _ | exact hbw2)):p:=h
theorem jG{p:Prop}(h:p:=by rw[IntKind.wrap_u64];omega):p:=h
theorem jH{p:Prop}(h:p:=by intro w hSw;haveI:From w6 w:=⟨hSw⟩;go_simp;(try with_reducible rfl)):p:=h
theorem jI{p:Prop}(h:p:=by intro w hSw;skip;go_simp;(try with_reducible rfl)):p:=h
theorem jJ{p:Prop}(h:p:=by unfold maxLen;omega):p:=h
theorem jK{p:Prop}(h:p:=by have:=hb.size;simpa using this):p:=h
theorem jL{p:Prop}(h:p:=by have:=hfr h;omega):p:=h
theorem jM{p:Prop}(h:p:=by intro h;cases h):p:=h
theorem jN{p:Prop}(h:p:=by rw[hb.cell (p:=⟨ab a,ao a+i,none⟩) (h.old (by omega))];exact h.cell i hi):p:=h
theorem jP{p:Prop}(h:p:=by repeat(with_reducible first | refine Mag.set ?_ (fun h=>by have:=hfr8 h;omega) _ _ | refine Mag.drew ?_ | refine Mag.alloc ?_ _ | refine Mag.drewN ?_ _ | refine Mag.below ?_ (Below.drew (Below.refl _ _)) | refine Mag.below ?_ ((Below.refl _ _).alloc (Nat.le_refl _) _) | exact hm8)):p:=h
theorem jQ{p:Prop}(h:p:=by repeat(with_reducible first | refine Mag.set ?_ (fun h=>by have:=hfr h;omega) _ _ | refine Mag.drew ?_ | refine Mag.alloc ?_ _ | refine Mag.drewN ?_ _ | refine Mag.below ?_ (Below.drew (Below.refl _ _)) | refine Mag.below ?_ ((Below.refl _ _).alloc (Nat.le_refl _) _) | exact hm1)):p:=h
theorem jR{p:Prop}(h:p:=by rw[zAX];omega):p:=h
theorem jS{p:Prop}(h:p:=by have:=f.out.size;have:=h.out.lt;omega):p:=h
theorem jT{p:Prop}(h:p:=by have hq:=hf1 h;(try simp at hq);omega):p:=h
theorem jU{p:Prop}(h:p:=by have hszw:=(hB4).size;repeat(with_reducible first | refine Below.setCell ?_ (by first | omega | (simp <;> omega)) _ | refine Below.alloc ?_ (by first | omega | (simp <;> omega)) _ | refine Below.drew ?_ | refine below_drewN ?_ _ | exact hB4)):p:=h
theorem jV{p:Prop}(h:p:=by have hszw:=(hB2).size;repeat(with_reducible first | refine Below.setCell ?_ (by first | omega | (simp <;> omega)) _ | refine Below.alloc ?_ (by first | omega | (simp <;> omega)) _ | refine Below.drew ?_ | refine below_drewN ?_ _ | exact hB2)):p:=h
theorem jW{p:Prop}(h:p:=by rw[World.size_setCell];exact h.lt):p:=h
theorem jX{p:Prop}(h:p:=by have:=HT.out;omega):p:=h
theorem jY{p:Prop}(h:p:=by decide +kernel):p:=h
theorem K0{p:Prop}(h:p:=by have:=hF1 h;have:=B0.size;omega):p:=h
theorem K1{p:Prop}(h:p:=by first | (refine Big0.below (?_:Big0 _ _) hb3;(repeat(first | assumption | (refine Big0.made _ _ _ ?_;first | rfl | (simp;done)) | with_reducible refine Big0.drew ?_ | with_reducible refine Big0.alloc ?_ _));done) | fail):p:=h
theorem K2{p:Prop}(h:p:=by unfold zAq;split <;> (try split) <;> omega):p:=h
theorem K3{p:Prop}(h:p:=by unfold zAq;split <;> (try split) <;> constructor <;> intro h <;> omega):p:=h
theorem K4{p:Prop}(h:p:=by have:=hfr2 h;omega):p:=h
theorem K5{p:Prop}(h:p:=by rw[World.size_alloc];exact Nat.le_succ _):p:=h
theorem K6{p:Prop}(h:p:=by simp only[zAV,h1,h2,zCY,zBG,List.setIfInBounds_toArray,List.set_cons_zero,List.set_cons_succ] <;> rfl):p:=h
theorem K7{p:Prop}(h:p:=by rw[decide_eq_false_iff_not];omega):p:=h
theorem K8{p:Prop}(h:p:=by rw[World.size_setCell];omega):p:=h
theorem K9{p:Prop}(h:p:=by rw[HNO.out] <;> rfl):p:=h
theorem Ka{p:Prop}(h:p:=by rw[beq_eq_false_iff_ne];have:=zBz (x:=z.natAbs) (by omega);omega):p:=h
theorem Kb{p:Prop}(h:p:=by repeat(with_reducible first | refine Below.setCell ?_ (by simp <;> omega) _ | refine Below.alloc ?_ (by simp <;> omega) _ | refine Below.drew ?_ | refine below_drewN ?_ _ | exact Below.refl _ _)):p:=h
theorem Kd{p:Prop}(h:p:=by rw[←Int.natCast_mul];omega):p:=h
theorem Ke{p:Prop}(h:p:=by rw[if_neg (by omega)];exact hlb'.out):p:=h
theorem Kf{p:Prop}(h:p:=by rw[List.getElem?_set_self hl]):p:=h
theorem Kh{p:Prop}(h:p:=by simp only[zAV,List.setIfInBounds_toArray,List.set_cons_zero,List.set_cons_succ] <;> rfl):p:=h
theorem Ki{p:Prop}(h:p:=by have:=hF1 h;have:=Vx0.out.lt;omega):p:=h
theorem Kj{p:Prop}(h:p:=by rw[List.length_append];exact hll2):p:=h
theorem Kk{p:Prop}(h:p:=by rw[decide_eq_true_eq];omega):p:=h
theorem Kl{p:Prop}(h:p:=by repeat(with_reducible first | refine Mag.set ?_ (fun h=>by have:=hfr1 h;omega) _ _ | refine Mag.drew ?_ | refine Mag.alloc ?_ _ | refine Mag.drewN ?_ _ | exact hm1)):p:=h
theorem Km{p:Prop}(h:p:=by rw[hw0];infer_instance):p:=h
theorem Kn{p:Prop}(h:p:=by have:=hfr6 h;omega):p:=h
theorem Ko{p:Prop}(h:p:=by have hq:=hf2 h;(try simp at hq);omega):p:=h
theorem Kp{p:Prop}(h:p:=by have:=f1 h;simp at this;omega):p:=h
theorem Kq{p:Prop}(h:p:=by rw[bne_iff_ne];omega):p:=h
theorem Kr{p:Prop}(h:p:=by rw[World.size_alloc]):p:=h
theorem Ks{p:Prop}(h:p:=by intro u hu;simp at hu;subst hu;rfl):p:=h
theorem Kt{p:Prop}(h:p:=by first | (go_simp;done) | exact hc5 _ _ (by go_simp) (hO2 _ (by simp))):p:=h
theorem Ku{p:Prop}(h:p:=by first | (go_simp;done) | exact hc4 _ _ (by go_simp) (hO1 _ (by simp))):p:=h
theorem Kv{p:Prop}(h:p:=by repeat(with_reducible first | refine Mag.set ?_ frdr _ _ | refine Mag.drew ?_ | refine Mag.drewN ?_ _ | refine Mag.alloc ?_ _ | exact Md2)):p:=h
theorem Kw{p:Prop}(h:p:=by have:=f5 h;omega):p:=h
theorem Kx{p:Prop}(h:p:=by have:=f.out.size;have:=h.lt;omega):p:=h
theorem Kz{p:Prop}(h:p:=by rw[List.length_append];rfl):p:=h
theorem KA{p:Prop}(h:p:=by intro (hl:al 0=false) _ K hK;simp[go_sem];exact zME hK hN 0 hl hX):p:=h
theorem KB{p:Prop}(h:p:=by rw[IntKind.wrap_i64];simp;omega):p:=h
theorem KC{p:Prop}(h:p:=by have:=hF2 h;have:=B1.size;omega):p:=h
theorem KD{p:Prop}(h:p:=by obtain⟨h1,h2,h3⟩:=h.se i hi;have hij:i≠j:=fun e=>(by rw[e,hj]at h2;cases h2);rw[zAL _ hij,zAL _ hij,zAL _ hij];exact⟨h1,h2,h3⟩):p:=h
theorem KE{p:Prop}(h:p:=by obtain⟨h1,h2,h3⟩:=h.se j hj;have hji:j≠i:=fun e=>(by rw[e,hi]at h1;cases h1);rw[zAL _ hji,zAL _ hji];exact⟨h1,h2,h3.below B0⟩):p:=h
theorem KF{p:Prop}(h:p:=by rw[←hg.2];exact hb hg.1):p:=h
theorem KG{p:Prop}(h:p:=by repeat(with_reducible first | refine DyV.set ?_ nr _ _ | refine DyV.drew ?_ | refine DyV.drewN ?_ _ | exact Vr6.out)):p:=h
theorem KH{p:Prop}(h:p:=by have:=(List.getElem?_eq_some_iff.1 hu).1;simpa using this):p:=h
theorem KI{p:Prop}(h:p:=by repeat(with_reducible first | refine Mag.set ?_ frs _ _ | refine Mag.drew ?_ | refine Mag.drewN ?_ _ | exact Ms16)):p:=h
theorem KL{p:Prop}(h:p:=by rw[Nat.lt_one_iff.1 ht];rfl):p:=h
theorem KM{p:Prop}(h:p:=by cases h):p:=h
theorem KO{p:Prop}(h:p:=by rw[World.cell?_of_block (w:=w) (w':=w') (a:=⟨ab a,ao a+i,none⟩) (hb (ab a) ⟨by omega,rfl⟩)];exact h.cell i hi):p:=h
theorem KP{p:Prop}(h:p:=by show w.heap.size≤b5;omega):p:=h
theorem KQ{p:Prop}(h:p:=by simp only[zAV,h1,h2,zDP,zDQ,List.setIfInBounds_toArray,List.set_cons_zero,List.set_cons_succ] <;> rfl):p:=h
theorem KR{p:Prop}(h:p:=by rw[show g=w.heap.size from hg];exact Nat.le_refl _):p:=h
theorem KS{p:Prop}(h:p:=by have:=hb2.size;simp at this;omega):p:=h
theorem KT{p:Prop}(h:p:=by simpa using h):p:=h
theorem KU{p:Prop}(h:p:=by repeat(first | exact Below.refl _ _ | refine Below.drew ?_ | refine Below.alloc ?_ (by simp) _)):p:=h
theorem KV{p:Prop}(h:p:=by rw[size_madeCells,Nat.mul_one]):p:=h
theorem KW{p:Prop}(h:p:=by rw[zDI];simpa using h1):p:=h
theorem KX{p:Prop}(h:p:=by intro v' w' h1 h2 _ h4;exact h v' w' h1 h2 h4):p:=h
theorem KY{p:Prop}(h:p:=by simp[go_sem]):p:=h
theorem KZ{p:Prop}(h:p:=by have:=f4 h;simp at this;omega):p:=h
theorem Q1{p:Prop}(h:p:=by rw[HC.out,zAX];go_num):p:=h
theorem Q2{p:Prop}(h:p:=by rw[World.size_setCell];exact Nat.le_refl _):p:=h
theorem Q4{p:Prop}(h:p:=by simp[intOf]):p:=h
theorem Q5{p:Prop}(h:p:=by simp[Value.ownBlock]):p:=h
theorem Q6{p:Prop}(h:p:=by rw[beq_iff_eq];omega):p:=h
theorem Q7{p:Prop}(h:p:=by unfold maxLen at hcm;omega):p:=h
theorem Q8{p:Prop}(h:p:=by rw[World.drewN_drewN,World.drewN_drewN]):p:=h
theorem Q9{p:Prop}(h:p:=by rw[Nat.div_lt_iff_lt_mul zCZ,zAX];omega):p:=h
theorem Qb{p:Prop}(h:p:=by rw[zCe hd hki,Array.getElem?_setIfInBounds_ne (Ne.symm hki)];exact hdig k hk):p:=h
theorem Qd{p:Prop}(h:p:=by rw[World.size_alloc,World.size_alloc]):p:=h
theorem Qe{p:Prop}(h:p:=by have h:=BF.wx 6 rfl hlt;simpa using h):p:=h
theorem Qf{p:Prop}(h:p:=by have h:=A1.out.oi;rw[hIq]at h;exact h):p:=h
theorem Qg{p:Prop}(h:p:=by go_wp2_with fail;go_ret;exact⟨rfl,bw⟩):p:=h
theorem Qh{p:Prop}(h:p:=by simpa using hz):p:=h
theorem Qi{p:Prop}(h:p:=by simp[BitVec.toNat_ofInt]):p:=h
theorem Qj{p:Prop}(h:p:=by show arr (if a=i then wr.heap.size else g a) _ _ _=_;rw[if_neg (by omega)]):p:=h
theorem Qm{p:Prop}(h:p:=by rw[hlen];omega):p:=h
theorem Qn{p:Prop}(h:p:=by rw[hd];exact zCM W (fS f) b 2 c m e h (by omega) ht (by omega) (by omega)):p:=h
theorem Qo{p:Prop}(h:p:=by rw[Nat.div_lt_iff_lt_mul (zAo j),←zAw,show n+1+j=j+n+1 by omega];exact hZ):p:=h
theorem Qq{p:Prop}(h:p:=by rw[hfl2];exact⟨⟨by omega,by omega,by omega,fun i hi=>by omega,by omega⟩⟩):p:=h
theorem Qr{p:Prop}(h:p:=by obtain⟨_,_,e,h2,_⟩:=zAP h;injection e with e1 _ e3;subst e1 e3;exact h2):p:=h
theorem Qs{p:Prop}(h:p:=by have:=hf6 h;omega):p:=h
theorem Qt{p:Prop}(h:p:=by rw[List.getD_eq_getElem?_getD,List.getElem?_eq_getElem (by omega)];rfl):p:=h
theorem Qu{p:Prop}(h:p:=by simp[zFT]):p:=h
theorem Qv{p:Prop}(h:p:=by rw[hza];omega):p:=h
theorem Qw{p:Prop}(h:p:=by rw[hP.length_eq,List.length_range]):p:=h
theorem Qx{p:Prop}(h:p:=by have:=hF2 h;have:=Vr1.out.lt;omega):p:=h
theorem Qy{p:Prop}(h:p:=by unfold rlg at hq;omega):p:=h
theorem Qz{p:Prop}(h:p:=by subst h0;rw[zBr]at k;injection k with k;injection k with h2 h3;omega):p:=h
theorem QA{p:Prop}(h:p:=by rw[HST.out,HL.out];rfl):p:=h
theorem QB{p:Prop}(h:p:=by have:=Vt5.out.lt;omega):p:=h
theorem QC{p:Prop}(h:p:=by have:=Vs5.out.lt;omega):p:=h
theorem QD{p:Prop}(h:p:=by have:=Vb5.out.lt;omega):p:=h
theorem QE{p:Prop}(h:p:=by have:=Va5.out.lt;omega):p:=h
theorem QF{p:Prop}(h:p:=by first | exact Nat.le_refl _ | (simp;done) | omega | (simp <;> omega)):p:=h
theorem QG{p:Prop}(h:p:=by unfold zE9;omega):p:=h
theorem QH{p:Prop}(h:p:=by unfold qsh;omega):p:=h
theorem QI{p:Prop}(h:p:=by show arr (if i=i then wr.heap.size else g i) _ _ _=_;rw[if_pos rfl]):p:=h
theorem QJ{p:Prop}(h:p:=by show 0<18446744073709551616;omega):p:=h
theorem QK{p:Prop}(h:p:=by rw[h.length_eq,List.length_range]):p:=h
theorem QL{p:Prop}(h:p:=by have:=hg.1;omega):p:=h
theorem QN{p:Prop}(h:p:=by have:=h.cell (lo+i) (by omega);rw[←Nat.add_assoc]at this;exact this):p:=h
theorem QO{p:Prop}(h:p:=by have:=f4 h;omega):p:=h
theorem QP{p:Prop}(h:p:=by rw[←zMH hy.lt HI.out hZ];exact hrowi.store (k+q) cc (by omega) hcc):p:=h
theorem QQ{p:Prop}(h:p:=by rw[List.getD_eq_getElem?_getD,List.getElem?_eq_getElem ht];exact e):p:=h
theorem QS{p:Prop}(h:p:=by intro (hl:al 1=false) _ K hK;simp[go_sem];exact zME hK hN 1 hl hX):p:=h
theorem QT{p:Prop}(h:p:=by rw[zEc _ _ _ HZ.out,←zBN rfl];exact hrow.store k _ hlt (zA5 _ _)):p:=h
theorem QU{p:Prop}(h:p:=by repeat(first | exact i1.out.on | refine Mag.set ?_ (zF5 f1) _ _)):p:=h
theorem QV{p:Prop}(h:p:=by split <;> omega):p:=h
theorem QX{p:Prop}(h:p:=by rw[hR1] <;> rfl):p:=h
theorem QY{p:Prop}(h:p:=by have:=hb2.size;simpa using this):p:=h
theorem X2{p:Prop}(h:p:=by rw[List.getD_eq_getElem?_getD,List.getElem?_eq_getElem ht];rfl):p:=h
theorem X3{p:Prop}(h:p:=by rw[HYES.out] <;> rfl):p:=h
theorem X4{p:Prop}(h:p:=by show _=_;rw[zCB,hy2,zAX];omega):p:=h
theorem X6{p:Prop}(h:p:=by rw[hk];unfold rlg;rw[IntKind.wrap_i64,IntKind.wrap_i64];omega):p:=h
theorem X7{p:Prop}(h:p:=by repeat(first | exact i3.out | refine Mag.set ?_ (zF5 f3) _ _)):p:=h
theorem X8{p:Prop}(h:p:=by have:=hf2 h;simp at this;omega):p:=h
theorem Xa{p:Prop}(h:p:=by simpa using c6):p:=h
theorem Xb{p:Prop}(h:p:=by simpa using c3):p:=h
theorem Xc{p:Prop}(h:p:=by rw[←hs];exact iB.we 0 rfl hmn):p:=h
theorem Xd{p:Prop}(h:p:=by rw[zDd];rfl):p:=h
theorem Xe{p:Prop}(h:p:=by rw[zAe];exact hrow0):p:=h
theorem Xg{p:Prop}(h:p:=by rw[HW.out.1,←zBN rfl];exact hrow.store k _ hlt (zA5 d k)):p:=h
theorem Xh{p:Prop}(h:p:=by have:=hfr8 h;omega):p:=h
theorem Xi{p:Prop}(h:p:=by rw[←hm];exact k1.cell k hlt):p:=h
theorem Xj{p:Prop}(h:p:=by rw[if_pos e,decide_eq_true e,Bool.or_true,Bool.or_true]):p:=h
theorem Xk{p:Prop}(h:p:=by unfold rsh;split <;> omega):p:=h
theorem Xl{p:Prop}(h:p:=by show _=_;rw[zCB,zAX];omega):p:=h
theorem Xm{p:Prop}(h:p:=by rw[←hg.2];exact h.old hg.1):p:=h
theorem Xn{p:Prop}(h:p:=by rw[List.length_drop];omega):p:=h
theorem Xo{p:Prop}(h:p:=by have:=hf6 h;(try simp at this);have:=Vt5.out.lt;omega):p:=h
theorem Xp{p:Prop}(h:p:=by have:=f1' h;omega):p:=h
theorem Xq{p:Prop}(h:p:=by obtain⟨h1,h2,h3⟩:=h.se j hj;exact⟨h1,h2,h3.below B0⟩):p:=h
theorem Xr{p:Prop}(h:p:=by subst hk;simp only[if_pos];exact hap _ _ hm.old hne):p:=h
theorem Xs{p:Prop}(h:p:=by split <;> first | exact zGN _ | exact Int.le_refl _):p:=h
theorem Xt{p:Prop}(h:p:=by rw[zFj,←zBN rfl];exact hrow.store k _ hlt (zA5 _ _)):p:=h

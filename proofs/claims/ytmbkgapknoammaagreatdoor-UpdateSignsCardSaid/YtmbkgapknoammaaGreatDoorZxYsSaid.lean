/-
  UpdateSigns: for every input the law returns true. Conditions: the library's table of bits.TrailingZeros32 is as it was laid (the row's own list).
-/
import Derived.Test.YtmbkgapknoammaaGreatDoorZxYs
import Derived.Test.YtmbkgapknoammaaGreatDoorZxYsFa
import Derived.Test.YtmbkgapknoammaaGreatDoorZuPFa
import Derived.Test.YtmbkgapknoammaaGreatDoorZuPFb
import Derived.Test.YtmbkgapknoammaaGreatDoorZuPFc
set_option maxRecDepth 100000
set_option maxHeartbeats 8000000
namespace Go.Proofs.YtmbkgapknoammaaGreatDoor
open Go.ChangeShapes Go.WideShapes Go.ChangeAt Go.RowKit Sp
theorem own:ownKnob Tryz.prog.godebug=none:=by kernel_rfl
theorem gTab : Tryz.prog.globalNamed "math/bits.deBruijn32tab" = some 0 := by kernel_rfl
theorem gTabType:(Tryz.prog.globals[0]?).map (·.type)=some 193 :=by kernel_rfl
theorem undTab:Tryz.prog.underlying 193 =some (.array 32 5):=by kernel_rfl
theorem cellsTab:Tryz.prog.cellsOf 193 =32:=by kernel_rfl
theorem cellsU8:Tryz.prog.cellsOf 5 =1:=by kernel_rfl
theorem tab_of_laid{W:World}(h:laidMetH Tryz.prog Rows.updateSignsRow.laid W):Tab W:=by
 have ht : Lib.TabIs Tryz.prog W "math/bits.deBruijn32tab" .u8 (tab32.map fun k : Nat => Int.ofNat k) := Lib.tabIs_of_head (rest := []) gTab gTabType undTab Tryz.underlying5 cellsU8 cellsTab h;refine ⟨fun i hi => ?_, zDn (ht.cell gTab 0 (by decide))⟩;rw [ht.cell gTab i (by simpa [tab32] using hi)];have : ∀ k : Fin 32, (tab32.map fun k : Nat => Int.ofNat k).getD k.val 0 = ((tab32.getD k.val 0 : Nat) : Int) := by decide
 rw[this ⟨i,hi⟩]
theorem lt64{k:Nat}(h:(Int.ofNat k)≤18446744073709551615):k<18446744073709551616:=by
 have:((k:Nat):Int)≤18446744073709551615:=h;omega
theorem post_of_below{H:Type}{enc:TypeId×Value→H}{P:Program}{f:Func}{s:ChangeSpec}{apart fresh handsOn:Bool}{W W':World}{args:Array Value}{v:Value}{ds gs:List (DataW H)}{before pa pv:List MemPlace}
 (hW:DataW.Whole enc P f.params.toList s.vars apart W args.toList ds gs before)
 (hres:∀(b:Nat) (sp:Nat→Bool) (hd:Bool),DataW.TrodAll enc P W' b sp hd f.resultTypes.toList (v.resultList f.resultTypes.size) (s.fn H (ds++gs)).results [])
 (hargs:∀sp:Nat→Bool,(∀p∈before,sp p.block=true)→DataW.TrodAll enc P W' 0 sp true f.params.toList args.toList (s.fn H (ds++gs)).args pa)
 (hvars:∀sp:Nat→Bool,(∀p∈before,sp p.block=true)→DataW.TrodVars enc P W' sp s.vars (s.fn H (ds++gs)).vars pv) (hb:Below W.heap.size W W') :
 s.post enc P f apart fresh handsOn false W args v W':=by
 have hold:∀p∈before,(fun b=>decide (b<W.heap.size)) p.block=true:=fun p hp=>by simpa using hW.lt p hp
 exact⟨ds,gs,before,[],pa,pv,hW,hres _ _ _,hargs _ hold,hvars _ hold,hb.frame _,fun h=>by cases h⟩
theorem contract(H:Type)(enc:TypeId×Value→H)(W:World)(base:Nat)(args:Array Value)(ds gs:List (DataW H))(before:List MemPlace)
 (hval:∀(j:Nat) t v,Tryz.f5.params[j]? =some t→args[j]? =some v→Value.okWide Tryz.prog W .any base t v)
 (hW:DataW.Whole enc Tryz.prog Tryz.f5.params.toList Rows.updateSignsSpec.vars false W args.toList ds gs before) (hL:laidMetH Tryz.prog Rows.updateSignsRow.laid W) :
 Calls Tryz.prog 5 args W fun e W'=>∃v,e=.returned v∧Rows.updateSignsSpec.post enc Tryz.prog Tryz.f5 false true false false W args v W':=by
 have hW':=hW;obtain⟨p,q,hA0,hV,rfl,hfz,hnd⟩:=hW;have hA:DataW.TrodAll enc Tryz.prog W 0 (fun _=>true) true Tryz.f5.params.toList args.toList ds p:=hA0;rw[Tryz.params5]at hA hval;obtain⟨v0,vs0,d0,ds0,p0,q0,hargs0,rfl,rfl,h0,r0⟩:=trodAll_cons hA;obtain⟨v1,vs1,d1,ds1,p1,q1,hargs1,rfl,rfl,h1,r1⟩:=trodAll_cons r0;obtain⟨v2,vs2,d2,ds2,p2,q2,hargs2,rfl,rfl,h2,r2⟩:=trodAll_cons r1;obtain⟨v3,vs3,d3,ds3,p3,q3,hargs3,rfl,rfl,h3,r3⟩:=trodAll_cons r2;obtain⟨rfl,rfl,rfl⟩:=trodAll_nil r3;subst hargs3;subst hargs2;subst hargs1;obtain rfl:args=#[v0,v1,v2,v3]:=by cases args;simp_all
 obtain⟨rfl,rfl⟩:=trodVars_none hV;clear hA0;have hlt:=hW'.lt;have k0:=h0;obtain⟨a0,n0,c0,L0,rfl,M0⟩:=zKo (fun _=>rfl) (hval 0 22 v0 rfl rfl) h0;obtain⟨e1,rfl,rfl,rfl,wf1⟩:=open_int Tryz.underlying3 (hval 1 3 v1 rfl rfl) h1;have u1:=bounds_i64 wf1;obtain⟨e2,rfl,rfl,rfl,wf2⟩:=open_int Tryz.underlying3 (hval 2 3 v2 rfl rfl) h2;have u2:=bounds_i64 wf2;obtain⟨e3,rfl,rfl,rfl,wf3⟩:=open_int Tryz.underlying3 (hval 3 3 v3 rfl rfl) h3;have u3:=bounds_i64 wf3;refine(usignlaw_all W (tab_of_laid hL) a0 n0 c0 L0 M0 e1 e2 e3).mono fun e W' ⟨he,hb⟩=>?_;subst he;exact⟨_,rfl,post_of_below (pa:=_) (pv:= []) hW' (fun _ _ _=>trodAll_cons_mk (shut_bool Tryz.underlying4 _) trodAll_mk0)
  (fun sp hsp=>trodAll_cons_mk (zGY zMa zOD k0 hb (fun x hx=>hlt x (by simp[hx])) sp (fun x hx=>hsp x (by simp[hx]))) (trodAll_cons_mk (shut_int Tryz.underlying3 wf1) (trodAll_cons_mk (shut_int Tryz.underlying3 wf2) (trodAll_cons_mk (shut_int Tryz.underlying3 wf3) trodAll_mk0)))) (fun _ _=>rfl) hb⟩
noncomputable def laidWorld(os:Os):World:=
 { World.holding Tryz.prog os ⟨#[],#[],[]⟩with heap:=(World.holding Tryz.prog os ⟨#[],#[],[]⟩).heap.modify 0 fun
  | .cells _ t frozen=>.cells (tab32.map fun k:Nat=>Value.int .u8 (Int.ofNat k)).toArray t frozen
  | o=>o }
theorem laid_met(os:Os):laidMet Tryz.prog Rows.updateSignsRow.laid ((laidWorld os).forCall (fun _ _=>0) ⟨#[],#[Value.slice none 0 0,Value.int .i64 0,Value.int .i64 0,Value.int .i64 0],[]⟩).memory:=
 laidMet_of_run' 8 (by kernel_rfl) (by kernel_rfl)
theorem reads(os:Os){H:Type}(enc:TypeId×Value→H):∃places,DataW.whole enc Tryz.prog ((laidWorld os).forCall (fun _ _=>0) ⟨#[],#[Value.slice none 0 0,Value.int .i64 0,Value.int .i64 0,Value.int .i64 0],[]⟩).memory Tryz.f5.params.toList Rows.updateSignsSpec.vars false #[Value.slice none 0 0,Value.int .i64 0,Value.int .i64 0,Value.int .i64 0].toList 8=some ([.nil,.lit (.int .i64 0),.lit (.int .i64 0),.lit (.int .i64 0)],[],places):=
 ⟨[],by kernel_rfl⟩
theorem lifted(os:Os)(started:os.Started)(H:Type)(enc:TypeId×Value→H)(F:Stop.Interp):ReturnsInHanded {} Tryz.checked os 5 .any ((OpenSpec.ofChange Rows.updateSignsSpec).preRow enc Tryz.prog Tryz.f5 Rows.updateSignsRow.domain false Rows.updateSignsRow.laid) (((OpenSpec.ofChange Rows.updateSignsSpec).at F).post enc Tryz.prog Tryz.f5 false true false false):=by
 obtain⟨places,hx⟩:=reads os enc;refine returnsInHanded_of_row (C:=Tryz.checked) (s:=OpenSpec.ofChange Rows.updateSignsSpec) own started (by kernel_rfl) Tryz.func5
  (witness_row_at (enc:=enc) (C:=Tryz.checked) false (laidWorld os) #[Value.slice none 0 0,Value.int .i64 0,Value.int .i64 0,Value.int .i64 0] rfl (by kernel_rfl) (by kernel_rfl) (by kernel_rfl)
   (OpenSpec.preRow_of_cond 8 hx (by kernel_rfl) (fun k hk=>by cases hk) (by kernel_rfl) (laid_met os))) ?_
 intro W base args ds gs before hval hW _ _ _ hL _ _;exact contract H enc W base args ds gs before hval hW hL
theorem closed_facts:joinedFacts Tryz.pinned.checked.prog 5 Tryz.f5 (OpenSpec.ofChange Rows.updateSignsSpec).bare Rows.updateSignsRow=true:=by
 unfold joinedFacts
 repeat' (with_reducible refine and_true_mk ?_ ?_)
 · as_aux_lemma=>kernel_rfl
 · exact pf_laidOut
 · exact pf_rowed
 · as_aux_lemma=>kernel_rfl
 · as_aux_lemma=>kernel_rfl
 · as_aux_lemma=>kernel_rfl
 · as_aux_lemma=>kernel_rfl
 · as_aux_lemma=>kernel_rfl
 · as_aux_lemma=>kernel_rfl
 · exact fact_inp
 · exact fact_unf
 · exact fact_rec
 · exact fact_nam
 · as_aux_lemma=>kernel_rfl
 · as_aux_lemma=>kernel_rfl
 · as_aux_lemma=>kernel_rfl
 · as_aux_lemma=>kernel_rfl
 · as_aux_lemma=>kernel_rfl
 · as_aux_lemma=>kernel_rfl
 · as_aux_lemma=>kernel_rfl
 · as_aux_lemma=>kernel_rfl
 · as_aux_lemma=>kernel_rfl
 · as_aux_lemma=>kernel_rfl
 · as_aux_lemma=>kernel_rfl
 · exact pf_heard
 · exact pf_enter
 · (rw[pf_lifts];rfl)
 · as_aux_lemma=>kernel_rfl
 · as_aux_lemma=>kernel_rfl
 · as_aux_lemma=>kernel_rfl
 · as_aux_lemma=>kernel_rfl
 · as_aux_lemma=>kernel_rfl
theorem said:Rows.UpdateSignsSaid:=
 OpenClaim.holds_of_cond 5 Tryz.f5 rfl rfl rfl rfl rfl rfl rfl ⟨rfl,rfl,rfl,rfl,rfl⟩ rfl rfl rfl rfl rfl (by as_aux_lemma=>kernel_rfl) Tryz.func5 closed_facts
  (of_decide_eq_true (by as_aux_lemma=>kernel_rfl)) (by unfold Func.isWrapper;first | (rw[if_pos (by decide +kernel)];kernel_rfl) | (rw[if_neg (by decide +kernel)];exact⟨rfl,rfl⟩))
  (fun os started H enc _ F=>by rw[OpenClaim.pre_eq_preRow];exact lifted os started H enc F)
end Go.Proofs.YtmbkgapknoammaaGreatDoor

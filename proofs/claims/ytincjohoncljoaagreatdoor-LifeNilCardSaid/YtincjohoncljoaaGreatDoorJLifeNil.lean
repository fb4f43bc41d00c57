/-
  Proved: the statement LifeNilCardSaid, as the row gives it, under no condition of its own.
-/
import Derived.Test.YtincjohoncljoaaGreatDoorLfT10
import Derived.Test.YtincjohoncljoaaGreatDoorLfA
set_option linter.all false
set_option linter.unusedSimpArgs false
set_option linter.unusedVariables false
set_option maxHeartbeats 16000000
namespace Go.Proofs.YtincjohoncljoaaGreatDoor
open Go Go.Sl Go.ChangeShapes Go.WideShapes Go.ChangeAt Go.RowKit
set_option maxRecDepth 100000
theorem contract_LifeNil (H:Type) (enc:TypeId × Value→H) (W:World) (base:Nat) (args:Array Value) (ds gs:List (DataW H)) (before:List MemPlace)
  (hval:∀ (j:Nat) t v,Tryz.f5.params[j]?=some t→args[j]?=some v→Value.okWide Tryz.prog W .any base t v)
  (hW:DataW.Whole enc Tryz.prog Tryz.f5.params.toList Rows.lifeNilSpec.vars false W args.toList ds gs before) (hL:laidMetH Tryz.prog Rows.lifeNilRow.laid W) :
  Calls Tryz.prog 5 args W fun e W' => ∃ v,e=.returned v∧Rows.lifeNilSpec.post enc Tryz.prog Tryz.f5 false true false false W args v W':=by
 have hT:Tab W:=tab_laid hL
 have hW':=hW
 obtain ⟨p,q,hA0,hV,hbef,hfz,hnd⟩:=hW
 have hA:DataW.TrodAll enc Tryz.prog W 0 (fun _ => true) true Tryz.f5.params.toList args.toList ds p:=hA0
 have hAk:=hA
 rw [Tryz.params5] at hA hval
 obtain ⟨rfl,rfl⟩:=trodVars_none hV
 obtain ⟨v0,vs0,d0,ds0,p0,q0,hargs,rfl,hp,h0,r0⟩:=trodAll_cons hA
 obtain ⟨v1,vs1,d1,ds1,p1,q1,rfl,rfl,rfl,h1,r1⟩:=trodAll_cons r0
 obtain ⟨v2,vs2,d2,ds2,p2,q2,rfl,rfl,rfl,h2,r2⟩:=trodAll_cons r1
 obtain ⟨v3,vs3,d3,ds3,p3,q3,rfl,rfl,rfl,h3,r3⟩:=trodAll_cons r2
 obtain ⟨rfl,rfl,rfl⟩:=trodAll_nil r3
 obtain rfl:args=#[v0,v1,v2,v3]:=by cases args; simp_all
 obtain ⟨fuel0,hf0⟩:=h0
 obtain ⟨z0,rfl,hz0⟩:∃ z,v0=.int .i64 z∧-9223372036854775808≤z∧z≤9223372036854775807:=by
  obtain ⟨z,hzv⟩:=okWide_int u3 (hval 0 3 v0 rfl rfl)
  subst hzv
  obtain ⟨m,e,_,hw⟩:=DataW.trod_int u3 hf0
  cases e
  exact ⟨_,rfl,wf_bd hw⟩
 obtain ⟨fuel1,hf1⟩:=h1
 obtain ⟨z1,rfl,hz1⟩:∃ z,v1=.int .i64 z∧-9223372036854775808≤z∧z≤9223372036854775807:=by
  obtain ⟨z,hzv⟩:=okWide_int u3 (hval 1 3 v1 rfl rfl)
  subst hzv
  obtain ⟨m,e,_,hw⟩:=DataW.trod_int u3 hf1
  cases e
  exact ⟨_,rfl,wf_bd hw⟩
 obtain ⟨fuel2,hf2⟩:=h2
 obtain ⟨z2,rfl,hz2⟩:∃ z,v2=.int .u64 z∧0≤z∧z≤18446744073709551615:=by
  obtain ⟨z,hzv⟩:=okWide_int u30 (hval 2 30 v2 rfl rfl)
  subst hzv
  obtain ⟨m,e,_,hw⟩:=DataW.trod_int u30 hf2
  cases e
  exact ⟨_,rfl,wf_bd hw⟩
 obtain ⟨cs3,rfl,_⟩:=okWide_struct ty40.und (hval 3 40 v3 rfl rfl)
 obtain ⟨fuel3,hf3⟩:=h3
 obtain ⟨y3,hcs3,hy3⟩:=hdC_of (flat_read _ flat40 hf3)
 obtain rfl:cs3=(hdC y3).toArray:=by have:cs3.toList=hdC y3:=hcs3; rw [← this]
 have walk:=(lifeNil_pure z0 z1 z2 y3).calls hT
 refine walk.mono fun e W' ⟨he,hb⟩ => ?_
 subst he
 exact ⟨_,rfl,law_post kids full (by rw [Tryz.params5]; decide) hW' hAk rfl hbef rfl rfl rfl rfl u4 hb⟩
theorem lifted_LifeNil (os:Os) (started:os.Started) (H:Type) (enc:TypeId × Value→H) (F:Stop.Interp) :
  ReturnsInHanded {} Tryz.checked os 5 .any ((OpenSpec.ofChange Rows.lifeNilSpec).preRow enc Tryz.prog Tryz.f5 Rows.lifeNilRow.domain false Rows.lifeNilRow.laid) (((OpenSpec.ofChange Rows.lifeNilSpec).at F).post enc Tryz.prog Tryz.f5 false true false false):=by
 have hx:DataW.whole enc Tryz.prog ((laidWorld os).forCall (fun _ _ => 0) ⟨#[],#[.int .i64 0,.int .i64 0,.int .u64 0,.agg #[.int .i64 0,.int .i64 0]],[]⟩).memory Tryz.f5.params.toList Rows.lifeNilSpec.vars false (#[.int .i64 0,.int .i64 0,.int .u64 0,.agg #[.int .i64 0,.int .i64 0]]:Array Value).toList 8=some ([.lit (.int .i64 0),.lit (.int .i64 0),.lit (.int .u64 0),.agg [.lit (.int .i64 0),.lit (.int .i64 0)]],[],[]):=by kernel_rfl
 refine returnsInHanded_of_row (C:=Tryz.checked) (s:=OpenSpec.ofChange Rows.lifeNilSpec) own started zk Tryz.func5
  (witness_row_atRef (enc:=enc) (C:=Tryz.checked) false (laidWorld os) #[.int .i64 0,.int .i64 0,.int .u64 0,.agg #[.int .i64 0,.int .i64 0]] rfl zk zk zk
   (OpenSpec.preRow_of_cond 8 hx zk (fun k hk => by cases hk) zk (laid_met os _))) ?_
 intro W base args ds gs before hval hW _ _ _ hL _ _
 exact contract_LifeNil H enc W base args ds gs before hval hW hL
theorem ip_LifeNil:(Rows.lifeNilRow.inPlace == Tryz.prog.inPlace 5)=true:=by kernel_rfl
theorem uf_LifeNil:(Rows.lifeNilRow.unfollowed == Tryz.prog.unfollowed 5)=true:=by kernel_rfl
theorem rc_LifeNil:(Rows.lifeNilRow.recurses == Tryz.prog.recurses 5)=true:=by kernel_rfl
theorem vn_LifeNil:(Rows.lifeNilRow.named == Tryz.prog.varsNamed 5)=true:=by kernel_rfl
theorem pk_LifeNil:(Rows.lifeNilRow.plainKeys == Tryz.prog.plainKeys)=true:=by kernel_rfl
theorem lf_LifeNil:(Rows.lifeNilRow.lifted == Tryz.prog.liftsFinal)=true:=by kernel_rfl
theorem mk_LifeNil:(Tryz.prog.make == some Rows.lifeNilRow.make)=true:=by kernel_rfl
theorem wr_LifeNil:Tryz.f5.isWrapper Tryz.prog Rows.lifeNilRow.wrapper Rows.lifeNilRow.mainSum:=by unfold Func.isWrapper; first | (rw [if_pos (by decide +kernel)]; kernel_rfl) | (rw [if_neg (by decide +kernel)]; exact ⟨rfl,rfl⟩)
theorem nmd_LifeNil:Tryz.prog.funcNamed Rows.lifeNilRow.func=some 5:=by kernel_rfl
theorem jf_LifeNil:joinedFacts Tryz.prog 5 Tryz.f5 Rows.lifeNilSpec Rows.lifeNilRow=true:=joined_parts zk p_laid p_rowed zk zk zk p_stops zk p_knobs ip_LifeNil uf_LifeNil rc_LifeNil vn_LifeNil zk zk zk zk zk zk zk zk zk pk_LifeNil zk p_heard p_enter lf_LifeNil mk_LifeNil zk zk zk zk
theorem said_LifeNil:Rows.LifeNilSaid :=
 OpenClaim.holds_of_cond 5 Tryz.f5 rfl rfl rfl rfl rfl rfl rfl ⟨rfl,rfl,rfl,rfl,rfl⟩ rfl rfl rfl rfl rfl nmd_LifeNil Tryz.func5 jf_LifeNil
  (of_decide_eq_true zk) wr_LifeNil
  (fun os started H enc _ F => by rw [OpenClaim.pre_eq_preRow]; exact lifted_LifeNil os started H enc F)
theorem plain_LifeNil (f:FuncId) (fn:Func) (hf:Tryz.pinned.checked.prog.funcNamed "detent/detentlaw30.LifeNil"=some f) (hfn:Tryz.pinned.checked.prog.funcs[f]?=some fn) :
  false=Tryz.pinned.checked.prog.looks []∧∀ (j:Nat) t,fn.params[j]?=some t→Tryz.pinned.checked.prog.wantsStandIn t=false:=by
 obtain rfl:f=5:=Option.some.inj ((show Tryz.prog.funcNamed "detent/detentlaw30.LifeNil"=some 5 by kernel_rfl).symm.trans hf) |>.symm
 obtain rfl:fn=Tryz.f5:=(Option.some.inj (Tryz.func5.symm.trans hfn)).symm
 refine ⟨by kernel_rfl,fun j t ht => ?_⟩
 rw [Tryz.params5] at ht
 have hm:=Array.mem_of_getElem? ht
 have hall:∀ t ∈ (#[3,3,30,40]:Array TypeId),Tryz.prog.wantsStandIn t=false:=by
  intro t ht
  simp only [List.mem_toArray,List.mem_cons,List.not_mem_nil,or_false] at ht
  rcases ht with rfl | rfl | rfl | rfl <;> kernel_rfl
 exact hall t hm
theorem lifeNil_card:Rows.LifeNilCardSaid :=
 Claim7.holds_tied_plain_at .later [] _ _ _ _ said_LifeNil (fun _ h => by cases h) zk (fun _ h => by cases h) lifeNil_row_tie rfl ⟨rfl,rfl⟩ zk rfl plain_LifeNil (goes_none p_goes rfl)
end Go.Proofs.YtincjohoncljoaaGreatDoor

/-
  Proved: the statement LifeUsesCardSaid, as the row gives it, under no condition of its own.
-/
import Derived.Test.YtincjohoncljoaaGreatDoorLfT10
import Derived.Test.YtincjohoncljoaaGreatDoorLfA
set_option linter.all false
set_option linter.unusedSimpArgs false
set_option linter.unusedVariables false
set_option maxHeartbeats 16000000
namespace Go.Proofs.YtincjohoncljoaaGreatDoor
open Go Go.Sl Go.ChangeShapes Go.WideShapes Go.ChangeAt Go.RowKit
set_option maxRecDepth 100000
theorem flat4:Flat Tryz.prog 0 4 [.bool]:=Flat.leaf (k:=.bool) ty4
theorem ce4:Tryz.prog.cellsOf 4=1:=by kernel_rfl
def boolC (s:Bool):List Value:=[.bool s]
theorem boolC_len (s:Bool):(boolC s).length=1:=rfl
theorem boolC_of {cs:List Value} (h:Leafs [.bool] cs):∃ v:Bool,cs=boolC v∧True:=by
 obtain ⟨a0,c0,rfl,⟨m0,rfl⟩,h0⟩:=leafs_cons h
 obtain rfl:=leafs_nil h0
 exact ⟨m0,rfl,trivial⟩
theorem boolC_map:∀ l:List Bool,l.flatMap boolC=l.map Value.bool
 | []=>rfl
 | x::l=>by rw [List.flatMap_cons,boolC_map l]; rfl
instance:Inhabited Bool:=⟨false⟩
theorem u53:Tryz.prog.underlying 53=some (.slice 4):=by kernel_rfl
theorem contract_LifeUses (H:Type) (enc:TypeId × Value→H) (W:World) (base:Nat) (args:Array Value) (ds gs:List (DataW H)) (before:List MemPlace)
  (hval:∀ (j:Nat) t v,Tryz.f4.params[j]?=some t→args[j]?=some v→Value.okWide Tryz.prog W .any base t v)
  (hW:DataW.Whole enc Tryz.prog Tryz.f4.params.toList Rows.lifeUsesSpec.vars false W args.toList ds gs before) (hL:laidMetH Tryz.prog Rows.lifeUsesRow.laid W) :
  Calls Tryz.prog 4 args W fun e W'=>∃ v,e=.returned v∧Rows.lifeUsesSpec.post enc Tryz.prog Tryz.f4 false true false false W args v W':=by
 have hT:Tab W:=tab_laid hL
 have hW':=hW
 obtain ⟨p,q,hA0,hV,hbef,hfz,hnd⟩:=hW
 have hA:DataW.TrodAll enc Tryz.prog W 0 (fun _=>true) true Tryz.f4.params.toList args.toList ds p:=hA0
 have hAk:=hA
 rw [Tryz.params4] at hA hval
 obtain ⟨rfl,rfl⟩:=trodVars_none hV
 obtain ⟨v0,vs0,d0,ds0,p0,q0,hargs,rfl,hp,h0,r0⟩:=trodAll_cons hA
 obtain ⟨v1,vs1,d1,ds1,p1,q1,rfl,rfl,rfl,h1,r1⟩:=trodAll_cons r0
 obtain ⟨v2,vs2,d2,ds2,p2,q2,rfl,rfl,rfl,h2,r2⟩:=trodAll_cons r1
 obtain ⟨rfl,rfl,rfl⟩:=trodAll_nil r2
 obtain rfl:args=#[v0,v1,v2]:=by cases args; simp_all
 obtain ⟨fuel0,hf0⟩:=h0
 obtain ⟨z0,rfl,hz0⟩:∃ z,v0=.int .i64 z∧-9223372036854775808≤z∧z≤9223372036854775807:=by
  obtain ⟨z,hzv⟩:=okWide_int u3 (hval 0 3 v0 rfl rfl)
  subst hzv
  obtain ⟨m,e,_,hw⟩:=DataW.trod_int u3 hf0
  cases e
  exact ⟨_,rfl,wf_bd hw⟩
 obtain ⟨fuel1,hf1⟩:=h1
 obtain ⟨z1,rfl,hz1⟩:∃ z,v1=.int .i64 z∧-9223372036854775808≤z∧z≤9223372036854775807:=by
  obtain ⟨z,hzv⟩:=okWide_int u3 (hval 1 3 v1 rfl rfl)
  subst hzv
  obtain ⟨m,e,_,hw⟩:=DataW.trod_int u3 hf1
  cases e
  exact ⟨_,rfl,wf_bd hw⟩
 obtain ⟨ad2,len2,cap2,rfl⟩:=okWide_slice u53 (hval 2 53 v2 rfl rfl)
 obtain ⟨fuel2,hf2⟩:=h2
 obtain ⟨l2,rfl,hcap2,hmax2,hok2,hrow2⟩:=flat_rows (f:=boolC) u53 flat4 ce4 zd (fun _ h=>boolC_of h) boolC_len hf2
 rw [boolC_map] at hrow2
 have walk:=(lifeUses_pure (pr:=z0) (us:=z1) (capw:=cap2) (Nat.le_trans hcap2 (Nat.le_trans hmax2 zd))).calls ⟨hT,hrow2⟩
 refine walk.mono fun e W' ⟨he,hb⟩=>?_
 subst he
 exact ⟨_,rfl,law_post kids full (by rw [Tryz.params4]; decide) hW' hAk rfl hbef rfl rfl rfl rfl u4 hb⟩
theorem lifted_LifeUses (os:Os) (started:os.Started) (H:Type) (enc:TypeId × Value→H) (F:Stop.Interp) :
  ReturnsInHanded {} Tryz.checked os 4 .any ((OpenSpec.ofChange Rows.lifeUsesSpec).preRow enc Tryz.prog Tryz.f4 Rows.lifeUsesRow.domain false Rows.lifeUsesRow.laid) (((OpenSpec.ofChange Rows.lifeUsesSpec).at F).post enc Tryz.prog Tryz.f4 false true false false):=by
 have hx:DataW.whole enc Tryz.prog ((laidWorld os).forCall (fun _ _=>0) ⟨#[],#[.int .i64 0,.int .i64 0,.slice none 0 0],[]⟩).memory Tryz.f4.params.toList Rows.lifeUsesSpec.vars false (#[.int .i64 0,.int .i64 0,.slice none 0 0]:Array Value).toList 8=some ([.lit (.int .i64 0),.lit (.int .i64 0),.nil],[],[]):=by kernel_rfl
 refine returnsInHanded_of_row (C:=Tryz.checked) (s:=OpenSpec.ofChange Rows.lifeUsesSpec) own started zk Tryz.func4
  (witness_row_atRef (enc:=enc) (C:=Tryz.checked) false (laidWorld os) #[.int .i64 0,.int .i64 0,.slice none 0 0] rfl zk zk zk
   (OpenSpec.preRow_of_cond 8 hx zk (fun k hk=>by cases hk) zk (laid_met os _))) ?_
 intro W base args ds gs before hval hW _ _ _ hL _ _
 exact contract_LifeUses H enc W base args ds gs before hval hW hL
theorem ip_LifeUses:(Rows.lifeUsesRow.inPlace == Tryz.prog.inPlace 4)=true:=by kernel_rfl
theorem uf_LifeUses:(Rows.lifeUsesRow.unfollowed == Tryz.prog.unfollowed 4)=true:=by kernel_rfl
theorem rc_LifeUses:(Rows.lifeUsesRow.recurses == Tryz.prog.recurses 4)=true:=by kernel_rfl
theorem vn_LifeUses:(Rows.lifeUsesRow.named == Tryz.prog.varsNamed 4)=true:=by kernel_rfl
theorem pk_LifeUses:(Rows.lifeUsesRow.plainKeys == Tryz.prog.plainKeys)=true:=by kernel_rfl
theorem lf_LifeUses:(Rows.lifeUsesRow.lifted == Tryz.prog.liftsFinal)=true:=by kernel_rfl
theorem mk_LifeUses:(Tryz.prog.make == some Rows.lifeUsesRow.make)=true:=by kernel_rfl
theorem wr_LifeUses:Tryz.f4.isWrapper Tryz.prog Rows.lifeUsesRow.wrapper Rows.lifeUsesRow.mainSum:=by unfold Func.isWrapper; first | (rw [if_pos (by decide +kernel)]; kernel_rfl) | (rw [if_neg (by decide +kernel)]; exact ⟨rfl,rfl⟩)
theorem nmd_LifeUses:Tryz.prog.funcNamed Rows.lifeUsesRow.func=some 4:=by kernel_rfl
theorem jf_LifeUses:joinedFacts Tryz.prog 4 Tryz.f4 Rows.lifeUsesSpec Rows.lifeUsesRow=true:=joined_parts zk p_laid p_rowed zk zk zk p_stops zk p_knobs ip_LifeUses uf_LifeUses rc_LifeUses vn_LifeUses zk zk zk zk zk zk zk zk zk pk_LifeUses zk p_heard p_enter lf_LifeUses mk_LifeUses zk zk zk zk
theorem said_LifeUses:Rows.LifeUsesSaid :=
 OpenClaim.holds_of_cond 4 Tryz.f4 rfl rfl rfl rfl rfl rfl rfl ⟨rfl,rfl,rfl,rfl,rfl⟩ rfl rfl rfl rfl rfl nmd_LifeUses Tryz.func4 jf_LifeUses
  (of_decide_eq_true zk) wr_LifeUses
  (fun os started H enc _ F=>by rw [OpenClaim.pre_eq_preRow]; exact lifted_LifeUses os started H enc F)
theorem plain_LifeUses (f:FuncId) (fn:Func) (hf:Tryz.pinned.checked.prog.funcNamed "detent/detentlaw30.LifeUses"=some f) (hfn:Tryz.pinned.checked.prog.funcs[f]?=some fn) :
  false=Tryz.pinned.checked.prog.looks []∧∀ (j:Nat) t,fn.params[j]?=some t→Tryz.pinned.checked.prog.wantsStandIn t=false:=by
 obtain rfl:f=4:=Option.some.inj ((show Tryz.prog.funcNamed "detent/detentlaw30.LifeUses"=some 4 by kernel_rfl).symm.trans hf) |>.symm
 obtain rfl:fn=Tryz.f4:=(Option.some.inj (Tryz.func4.symm.trans hfn)).symm
 refine ⟨by kernel_rfl,fun j t ht=>?_⟩
 rw [Tryz.params4] at ht
 have hm:=Array.mem_of_getElem? ht
 have hall:∀ t∈(#[3,3,53]:Array TypeId),Tryz.prog.wantsStandIn t=false:=by
  intro t ht
  simp only [List.mem_toArray,List.mem_cons,List.not_mem_nil,or_false] at ht
  rcases ht with rfl | rfl | rfl <;> kernel_rfl
 exact hall t hm
theorem lifeUses_card:Rows.LifeUsesCardSaid :=
 Claim7.holds_tied_plain_at .later [] _ _ _ _ said_LifeUses (fun _ h=>by cases h) zk (fun _ h=>by cases h) lifeUses_row_tie rfl ⟨rfl,rfl⟩ zk rfl plain_LifeUses (goes_none p_goes rfl)
end Go.Proofs.YtincjohoncljoaaGreatDoor

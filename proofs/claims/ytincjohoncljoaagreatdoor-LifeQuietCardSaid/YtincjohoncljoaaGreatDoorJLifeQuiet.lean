/-
  Proved: the statement LifeQuietCardSaid, as the row gives it, under no condition of its own.
-/
import Derived.Test.YtincjohoncljoaaGreatDoorLqT10
import Derived.Test.YtincjohoncljoaaGreatDoorLqA
set_option linter.all false
set_option linter.unusedSimpArgs false
set_option linter.unusedVariables false
set_option maxHeartbeats 16000000
namespace Go.Proofs.YtincjohoncljoaaGreatDoor
open Go Go.Sl Go.ChangeShapes Go.WideShapes Go.ChangeAt Go.RowKit
set_option maxRecDepth 100000
theorem K2 (H:Type) (enc:TypeId × Value→H) (W:World) (base:Nat) (args:Array Value) (ds gs:List (DataW H)) (before:List MemPlace)
  (hval:∀ (j:Nat) t v,Tryz.f6.params[j]?=some t→args[j]?=some v→Value.okWide Tryz.prog W .any base t v)
  (hW:DataW.Whole enc Tryz.prog Tryz.f6.params.toList Rows.lifeQuietSpec.vars false W args.toList ds gs before) (hL:laidMetH Tryz.prog Rows.lifeQuietRow.laid W) :
  Calls Tryz.prog 6 args W fun e W'=>∃ v,e=.returned v∧Rows.lifeQuietSpec.post enc Tryz.prog Tryz.f6 false true false false W args v W':=by
 have hT:Tab W:=qiZ hL
 have hW':=hW
 obtain ⟨p,q,hA0,hV,hbef,hfz,hnd⟩:=hW
 have hA:DataW.TrodAll enc Tryz.prog W 0 (fun _=>true) true Tryz.f6.params.toList args.toList ds p:=hA0
 have hAk:=hA
 rw [Tryz.params6] at hA hval
 obtain ⟨rfl,rfl⟩:=trodVars_none hV
 obtain ⟨v0,vs0,d0,ds0,p0,q0,hargs,rfl,hp,h0,r0⟩:=trodAll_cons hA
 obtain ⟨v1,vs1,d1,ds1,p1,q1,rfl,rfl,rfl,h1,r1⟩:=trodAll_cons r0
 obtain ⟨v2,vs2,d2,ds2,p2,q2,rfl,rfl,rfl,h2,r2⟩:=trodAll_cons r1
 obtain ⟨v3,vs3,d3,ds3,p3,q3,rfl,rfl,rfl,h3,r3⟩:=trodAll_cons r2
 obtain ⟨v4,vs4,d4,ds4,p4,q4,rfl,rfl,rfl,h4,r4⟩:=trodAll_cons r3
 obtain ⟨v5,vs5,d5,ds5,p5,q5,rfl,rfl,rfl,h5,r5⟩:=trodAll_cons r4
 obtain ⟨rfl,rfl,rfl⟩:=trodAll_nil r5
 obtain rfl:args=#[v0,v1,v2,v3,v4,v5]:=by cases args; simp_all
 obtain ⟨fuel0,hf0⟩:=h0
 obtain ⟨z0,rfl,hz0⟩:∃ z,v0=.int .i64 z∧-9223372036854775808≤z∧z≤9223372036854775807:=by
  obtain ⟨z,hzv⟩:=okWide_int u3 (hval 0 3 v0 rfl rfl)
  subst hzv
  obtain ⟨m,e,_,hw⟩:=DataW.trod_int u3 hf0
  cases e
  exact ⟨_,rfl,qgu hw⟩
 obtain ⟨fuel1,hf1⟩:=h1
 obtain ⟨z1,rfl,hz1⟩:∃ z,v1=.int .i64 z∧-9223372036854775808≤z∧z≤9223372036854775807:=by
  obtain ⟨z,hzv⟩:=okWide_int u3 (hval 1 3 v1 rfl rfl)
  subst hzv
  obtain ⟨m,e,_,hw⟩:=DataW.trod_int u3 hf1
  cases e
  exact ⟨_,rfl,qgu hw⟩
 obtain ⟨fuel2,hf2⟩:=h2
 obtain ⟨z2,rfl,hz2⟩:∃ z,v2=.int .u64 z∧0≤z∧z≤18446744073709551615:=by
  obtain ⟨z,hzv⟩:=okWide_int u30 (hval 2 30 v2 rfl rfl)
  subst hzv
  obtain ⟨m,e,_,hw⟩:=DataW.trod_int u30 hf2
  cases e
  exact ⟨_,rfl,qgu hw⟩
 obtain ⟨fuel3,hf3⟩:=h3
 obtain ⟨z3,rfl,hz3⟩:∃ z,v3=.int .u64 z∧0≤z∧z≤18446744073709551615:=by
  obtain ⟨z,hzv⟩:=okWide_int u30 (hval 3 30 v3 rfl rfl)
  subst hzv
  obtain ⟨m,e,_,hw⟩:=DataW.trod_int u30 hf3
  cases e
  exact ⟨_,rfl,qgu hw⟩
 obtain ⟨n3,rfl⟩:∃ n:Nat,z3=(n:Int):=⟨z3.toNat,by omega⟩
 obtain ⟨fuel4,hf4⟩:=h4
 obtain ⟨z4,rfl⟩:=okWide_bool u4 (hval 4 4 v4 rfl rfl)
 obtain ⟨fuel5,hf5⟩:=h5
 obtain ⟨z5,rfl⟩:=okWide_bool u4 (hval 5 4 v5 rfl rfl)
 have walk:=(qcp (z:=z0) (pr:=z1) (k:=z2) (a:=n3) (dv:=z4) (pv:=z5) zO zO).calls hT
 refine walk.mono fun e W' ⟨he,hb⟩=>?_
 subst he
 exact ⟨_,rfl,qjN kids full (by rw [Tryz.params6]; decide) hW' hAk rfl hbef rfl rfl rfl rfl u4 hb⟩
theorem qa3 (os:Os) (started:os.Started) (H:Type) (enc:TypeId × Value→H) (F:Stop.Interp) :
  ReturnsInHanded {} Tryz.checked os 6 .any ((OpenSpec.ofChange Rows.lifeQuietSpec).preRow enc Tryz.prog Tryz.f6 Rows.lifeQuietRow.domain false Rows.lifeQuietRow.laid) (((OpenSpec.ofChange Rows.lifeQuietSpec).at F).post enc Tryz.prog Tryz.f6 false true false false):=by
 have hx:DataW.whole enc Tryz.prog ((laidWorld os).forCall (fun _ _=>0) ⟨#[],#[.int .i64 0,.int .i64 0,.int .u64 0,.int .u64 0,.bool false,.bool false],[]⟩).memory Tryz.f6.params.toList Rows.lifeQuietSpec.vars false (#[.int .i64 0,.int .i64 0,.int .u64 0,.int .u64 0,.bool false,.bool false]:Array Value).toList 8=some ([.lit (.int .i64 0),.lit (.int .i64 0),.lit (.int .u64 0),.lit (.int .u64 0),.lit (.bool false),.lit (.bool false)],[],[]):=by kernel_rfl
 refine returnsInHanded_of_row (C:=Tryz.checked) (s:=OpenSpec.ofChange Rows.lifeQuietSpec) own started zk Tryz.func6
  (witness_row_atRef (enc:=enc) (C:=Tryz.checked) false (laidWorld os) #[zi 0,zi 0,zu 0,zu 0,.bool false,.bool false] rfl zk zk zk
   (OpenSpec.preRow_of_cond 8 hx zk (fun k hk=>by cases hk) zk (qjO os _))) ?_
 intro W base args ds gs before hval hW _ _ _ hL _ _
 exact K2 H enc W base args ds gs before hval hW hL
theorem qdY:(Rows.lifeQuietRow.inPlace == Tryz.prog.inPlace 6)=true:=by kernel_rfl
theorem qdE:(Rows.lifeQuietRow.unfollowed == Tryz.prog.unfollowed 6)=true:=by kernel_rfl
theorem qdM:(Rows.lifeQuietRow.recurses == Tryz.prog.recurses 6)=true:=by kernel_rfl
theorem qdD:(Rows.lifeQuietRow.named == Tryz.prog.varsNamed 6)=true:=by kernel_rfl
theorem qdN:(Rows.lifeQuietRow.plainKeys == Tryz.prog.plainKeys)=true:=by kernel_rfl
theorem qdU:(Rows.lifeQuietRow.lifted == Tryz.prog.liftsFinal)=true:=by kernel_rfl
theorem qdR:(Tryz.prog.make == some Rows.lifeQuietRow.make)=true:=by kernel_rfl
theorem qdz:Tryz.f6.isWrapper Tryz.prog Rows.lifeQuietRow.wrapper Rows.lifeQuietRow.mainSum:=by unfold Func.isWrapper; first | (rw [if_pos (by decide +kernel)]; kernel_rfl) | (rw [if_neg (by decide +kernel)]; exact ⟨rfl,rfl⟩)
theorem qc2:Tryz.prog.funcNamed Rows.lifeQuietRow.func=some 6:=by kernel_rfl
theorem qdX:joinedFacts Tryz.prog 6 Tryz.f6 Rows.lifeQuietSpec Rows.lifeQuietRow=true:=qdW zk qpr qne zk zk zk qnd zk qnf qdY qdE qdM qdD zk zk zk zk zk zk zk zk zk qdN zk qng qnh qdU qdR zk zk zk zk
theorem said_LifeQuiet:Rows.LifeQuietSaid:=
 OpenClaim.holds_of_cond 6 Tryz.f6 rfl rfl rfl rfl rfl rfl rfl ⟨rfl,rfl,rfl,rfl,rfl⟩ rfl rfl rfl rfl rfl qc2 Tryz.func6 qdX
  (of_decide_eq_true zk) qdz
  (fun os started H enc _ F=>by rw [OpenClaim.pre_eq_preRow]; exact qa3 os started H enc F)
theorem qbC (f:FuncId) (fn:Func) (hf:Tryz.pinned.checked.prog.funcNamed "detent/detentlaw30.LifeQuiet"=some f) (hfn:Tryz.pinned.checked.prog.funcs[f]?=some fn) :
  false=Tryz.pinned.checked.prog.looks []∧∀ (j:Nat) t,fn.params[j]?=some t→Tryz.pinned.checked.prog.wantsStandIn t=false:=by
 obtain rfl:f=6:=Option.some.inj ((show Tryz.prog.funcNamed "detent/detentlaw30.LifeQuiet"=some 6 by kernel_rfl).symm.trans hf) |>.symm
 obtain rfl:fn=Tryz.f6:=(Option.some.inj (Tryz.func6.symm.trans hfn)).symm
 refine ⟨by kernel_rfl,fun j t ht=>?_⟩
 rw [Tryz.params6] at ht
 have hm:=Array.mem_of_getElem? ht
 have hall:∀ t∈(#[3,3,30,30,4,4]:Array TypeId),Tryz.prog.wantsStandIn t=false:=by
  intro t ht
  simp only [List.mem_toArray,List.mem_cons,List.not_mem_nil,or_false] at ht
  rcases ht with rfl | rfl | rfl | rfl | rfl | rfl <;> kernel_rfl
 exact hall t hm
theorem lifeQuiet_card:Rows.LifeQuietCardSaid:=
 Claim7.holds_tied_plain_at .later [] _ _ _ _ said_LifeQuiet (fun _ h=>by cases h) zk (fun _ h=>by cases h) lifeQuiet_row_tie rfl ⟨rfl,rfl⟩ zk rfl qbC (qhX qps rfl)
end Go.Proofs.YtincjohoncljoaaGreatDoor

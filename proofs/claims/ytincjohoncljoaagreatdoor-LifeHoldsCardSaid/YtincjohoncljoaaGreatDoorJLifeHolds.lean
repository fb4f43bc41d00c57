/-
  Proved: the statement LifeHoldsCardSaid, as the row gives it, under no condition of its own.
-/
import Derived.Test.YtincjohoncljoaaGreatDoorLhT8
import Derived.Test.YtincjohoncljoaaGreatDoorLhT9
import Derived.Test.YtincjohoncljoaaGreatDoorLhA
set_option linter.all false
set_option linter.unusedSimpArgs false
set_option linter.unusedVariables false
set_option maxHeartbeats 16000000
namespace Go.Proofs.YtincjohoncljoaaGreatDoor
open Go Go.Sl Go.ChangeShapes Go.WideShapes Go.ChangeAt Go.RowKit
set_option maxRecDepth 100000
theorem qmU:Zd Tryz.prog 1 32 [.int .i64,.int .i64,.int .i64,.int .i64,.int .i64,.int .u64,.int .u64]:=(Zd.struct qgF zk zk (.cons (ks:=[.int .i64]) zd rfl zk (Zd.leaf (k:=.int .i64) ty3) (.cons (ks:=[.int .i64]) zd rfl zk (Zd.leaf (k:=.int .i64) ty3) (.cons (ks:=[.int .i64]) zd rfl zk (Zd.leaf (k:=.int .i64) ty3) (.cons (ks:=[.int .i64]) zd rfl zk (Zd.leaf (k:=.int .i64) ty3) (.cons (ks:=[.int .i64]) zd rfl zk (Zd.leaf (k:=.int .i64) ty3) (.cons (ks:=[.int .u64]) zd rfl zk (Zd.leaf (k:=.int .u64) zX) (.cons (ks:=[.int .u64]) zd rfl zk (Zd.leaf (k:=.int .u64) zX) .nil))))))))
theorem ce32:Tryz.prog.cellsOf 32=7:=by kernel_rfl
theorem u22:Tryz.prog.underlying 22=some (.slice 32):=by kernel_rfl
theorem XR (H:Type) (enc:TypeId × Value→H) (W:World) (base:Nat) (args:Array Value) (ds gs:List (DataW H)) (before:List MemPlace)
  (hval:∀ (j:Nat) t v,Tryz.f3.params[j]?=some t→args[j]?=some v→Value.okWide Tryz.prog W .any base t v)
  (hW:DataW.Whole enc Tryz.prog Tryz.f3.params.toList Rows.lifeHoldsSpec.vars false W args.toList ds gs before) (hL:laidMetH Tryz.prog Rows.lifeHoldsRow.laid W) :
  Calls Tryz.prog 3 args W fun e W'=>∃ v,e=.returned v∧Rows.lifeHoldsSpec.post enc Tryz.prog Tryz.f3 false true false false W args v W':=by
 have hT:Tab W:=qgS hL
 have hW':=hW
 obtain ⟨p,q,hA0,hV,hbef,hfz,hnd⟩:=hW
 have hA:DataW.TrodAll enc Tryz.prog W 0 (fun _=>true) true Tryz.f3.params.toList args.toList ds p:=hA0
 have hAk:=hA
 rw [Tryz.params3] at hA hval
 obtain ⟨rfl,rfl⟩:=trodVars_none hV
 obtain ⟨v0,vs0,d0,ds0,p0,q0,hargs,rfl,hp,h0,r0⟩:=trodAll_cons hA
 obtain ⟨v1,vs1,d1,ds1,p1,q1,rfl,rfl,rfl,h1,r1⟩:=trodAll_cons r0
 obtain ⟨rfl,rfl,rfl⟩:=trodAll_nil r1
 obtain rfl:args=#[v0,v1]:=by cases args; simp_all
 obtain ⟨fuel0,hf0⟩:=h0
 obtain ⟨z0,rfl,hz0⟩:∃ z,v0=.int .i64 z∧-9223372036854775808≤z∧z≤9223372036854775807:=by
  obtain ⟨z,hzv⟩:=okWide_int u3 (hval 0 3 v0 rfl rfl)
  subst hzv
  obtain ⟨m,e,_,hw⟩:=DataW.trod_int u3 hf0
  cases e
  exact ⟨_,rfl,qlP hw⟩
 obtain ⟨ad1,len1,cap1,rfl⟩:=okWide_slice u22 (hval 1 22 v1 rfl rfl)
 obtain ⟨fuel1,hf1⟩:=h1
 obtain ⟨l1,rfl,hcap1,hmax1,hok1,hrow1⟩:=qfZ (f:=laC) u22 qmU ce32 zd (fun _ h=>qmM h) qeZ hf1
 have walk:=(qa9 (z:=z0) (acts:=l1) (capa:=cap1) (Nat.le_trans hcap1 (Nat.le_trans hmax1 zd)) hok1).calls ⟨hT,hrow1⟩
 refine walk.mono fun e W' ⟨he,hb⟩=>?_
 subst he
 exact ⟨_,rfl,qhx kids full (by rw [Tryz.params3]; decide) hW' hAk rfl hbef rfl rfl rfl rfl u4 hb⟩
theorem K0 (os:Os) (started:os.Started) (H:Type) (enc:TypeId × Value→H) (F:Stop.Interp) :
  ReturnsInHanded {} Tryz.checked os 3 .any ((OpenSpec.ofChange Rows.lifeHoldsSpec).preRow enc Tryz.prog Tryz.f3 Rows.lifeHoldsRow.domain false Rows.lifeHoldsRow.laid) (((OpenSpec.ofChange Rows.lifeHoldsSpec).at F).post enc Tryz.prog Tryz.f3 false true false false):=by
 have hx:DataW.whole enc Tryz.prog ((laidWorld os).forCall (fun _ _=>0) ⟨#[],#[.int .i64 0,.slice none 0 0],[]⟩).memory Tryz.f3.params.toList Rows.lifeHoldsSpec.vars false (#[.int .i64 0,.slice none 0 0]:Array Value).toList 8=some ([.lit (.int .i64 0),.nil],[],[]):=by kernel_rfl
 refine returnsInHanded_of_row (C:=Tryz.checked) (s:=OpenSpec.ofChange Rows.lifeHoldsSpec) own started zk Tryz.func3
  (witness_row_atRef (enc:=enc) (C:=Tryz.checked) false (laidWorld os) #[zi 0,.slice none 0 0] rfl zk zk zk
   (OpenSpec.preRow_of_cond 8 hx zk (fun k hk=>by cases hk) zk (qhy os _))) ?_
 intro W base args ds gs before hval hW _ _ _ hL _ _
 exact XR H enc W base args ds gs before hval hW hL
theorem qcv:(Rows.lifeHoldsRow.inPlace == Tryz.prog.inPlace 3)=true:=by kernel_rfl
theorem qcb:(Rows.lifeHoldsRow.unfollowed == Tryz.prog.unfollowed 3)=true:=by kernel_rfl
theorem qcj:(Rows.lifeHoldsRow.recurses == Tryz.prog.recurses 3)=true:=by kernel_rfl
theorem qca:(Rows.lifeHoldsRow.named == Tryz.prog.varsNamed 3)=true:=by kernel_rfl
theorem qck:(Rows.lifeHoldsRow.plainKeys == Tryz.prog.plainKeys)=true:=by kernel_rfl
theorem qcr:(Rows.lifeHoldsRow.lifted == Tryz.prog.liftsFinal)=true:=by kernel_rfl
theorem qcn:(Tryz.prog.make == some Rows.lifeHoldsRow.make)=true:=by kernel_rfl
theorem qb7:Tryz.f3.isWrapper Tryz.prog Rows.lifeHoldsRow.wrapper Rows.lifeHoldsRow.mainSum:=by unfold Func.isWrapper; first | (rw [if_pos (by decide +kernel)]; kernel_rfl) | (rw [if_neg (by decide +kernel)]; exact ⟨rfl,rfl⟩)
theorem qbG:Tryz.prog.funcNamed Rows.lifeHoldsRow.func=some 3:=by kernel_rfl
theorem qcu:joinedFacts Tryz.prog 3 Tryz.f3 Rows.lifeHoldsSpec Rows.lifeHoldsRow=true:=qct zk qmB qkw zk zk zk qkv zk qkx qcv qcb qcj qca zk zk zk zk zk zk zk zk zk qck zk qky qkz qcr qcn zk zk zk zk
theorem said_LifeHolds:Rows.LifeHoldsSaid:=
 OpenClaim.holds_of_cond 3 Tryz.f3 rfl rfl rfl rfl rfl rfl rfl ⟨rfl,rfl,rfl,rfl,rfl⟩ rfl rfl rfl rfl rfl qbG Tryz.func3 qcu
  (of_decide_eq_true zk) qb7
  (fun os started H enc _ F=>by rw [OpenClaim.pre_eq_preRow]; exact K0 os started H enc F)
theorem qaw (f:FuncId) (fn:Func) (hf:Tryz.pinned.checked.prog.funcNamed "detent/detentlaw30.LifeHolds"=some f) (hfn:Tryz.pinned.checked.prog.funcs[f]?=some fn) :
  false=Tryz.pinned.checked.prog.looks []∧∀ (j:Nat) t,fn.params[j]?=some t→Tryz.pinned.checked.prog.wantsStandIn t=false:=by
 obtain rfl:f=3:=Option.some.inj ((show Tryz.prog.funcNamed "detent/detentlaw30.LifeHolds"=some 3 by kernel_rfl).symm.trans hf) |>.symm
 obtain rfl:fn=Tryz.f3:=(Option.some.inj (Tryz.func3.symm.trans hfn)).symm
 refine ⟨by kernel_rfl,fun j t ht=>?_⟩
 rw [Tryz.params3] at ht
 have hm:=Array.mem_of_getElem? ht
 have hall:∀ t∈(#[3,22]:Array TypeId),Tryz.prog.wantsStandIn t=false:=by
  intro t ht
  simp only [List.mem_toArray,List.mem_cons,List.not_mem_nil,or_false] at ht
  rcases ht with rfl | rfl <;> kernel_rfl
 exact hall t hm
theorem lifeHolds_card:Rows.LifeHoldsCardSaid:=
 Claim7.holds_tied_plain_at .later [] _ _ _ _ said_LifeHolds (fun _ h=>by cases h) zk (fun _ h=>by cases h) lifeHolds_row_tie rfl ⟨rfl,rfl⟩ zk rfl qaw (qfT qmC rfl)
end Go.Proofs.YtincjohoncljoaaGreatDoor

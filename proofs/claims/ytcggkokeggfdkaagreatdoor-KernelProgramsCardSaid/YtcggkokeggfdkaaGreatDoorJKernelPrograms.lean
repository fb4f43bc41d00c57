/-
  Proved: the statement KernelProgramsCardSaid, as the row gives it, under no condition of its own.
-/
import Derived.Test.YtcggkokeggfdkaaGreatDoorKpT1
import Derived.Test.YtcggkokeggfdkaaGreatDoorKpT4
import Derived.Test.YtcggkokeggfdkaaGreatDoorKpA
set_option linter.all false
set_option linter.unusedSimpArgs false
set_option linter.unusedVariables false
set_option maxHeartbeats 16000000
namespace Go.Proofs.YtcggkokeggfdkaaGreatDoor
open Go Go.Sl Go.ChangeShapes Go.WideShapes Go.ChangeAt Go.RowKit
set_option maxRecDepth 100000
theorem qh2:Qi Tryz.prog 1 86 [.int .i64,.int .i64,.int .i64,.int .i64,.int .i64]:=(Qi.struct ty86 zk zk (.cons (ks:=[.int .i64]) zd rfl zk (Qi.leaf (k:=.int .i64) ty3) (.cons (ks:=[.int .i64]) zd rfl zk (Qi.leaf (k:=.int .i64) ty3) (.cons (ks:=[.int .i64]) zd rfl zk (Qi.leaf (k:=.int .i64) ty3) (.cons (ks:=[.int .i64]) zd rfl zk (Qi.leaf (k:=.int .i64) ty3) (.cons (ks:=[.int .i64]) zd rfl zk (Qi.leaf (k:=.int .i64) ty3) .nil))))))
theorem agg86:JN Tryz.prog 86=true:=by kernel_rfl
theorem gt86:Tryz.prog.eqGuardType Tryz.prog.depth 86=false:=by kernel_rfl
theorem ce86:Tryz.prog.cellsOf 86=5:=by kernel_rfl
theorem u22:Tryz.prog.underlying 22=some (.slice 86):=by kernel_rfl
theorem k22:Tryz.prog.cellsOf 22=1:=by kernel_rfl
theorem Zq (H:Type) (enc:TypeId × Value→H) (W:World) (base:Nat) (args:Array Value) (ds gs:List (DataW H)) (before:List MemPlace)
  (hval:∀ (j:Nat) t v,Tryz.f3.params[j]?=some t→args[j]?=some v→Value.okWide Tryz.prog W .any base t v)
  (hW:DataW.Whole enc Tryz.prog Tryz.f3.params.toList Rows.kernelProgramsSpec.vars false W args.toList ds gs before) (hL:laidMetH Tryz.prog Rows.kernelProgramsRow.laid W) :
  Calls Tryz.prog 3 args W fun e W'=>∃ v,e=.returned v∧Rows.kernelProgramsSpec.post enc Tryz.prog Tryz.f3 false true false false W args v W':=by
 have hT:qaR W:=qdD hL
 have hW':=hW
 obtain ⟨p,q,hA0,hV,hbef,hfz,hnd⟩:=hW
 have hA:DataW.TrodAll enc Tryz.prog W 0 (fun _=>true) true Tryz.f3.params.toList args.toList ds p:=hA0
 have hAk:=hA
 rw [Tryz.params3] at hA hval
 obtain ⟨rfl,rfl⟩:=trodVars_none hV
 obtain ⟨v0,vs0,d0,ds0,p0,q0,hargs,rfl,hp,h0,r0⟩:=trodAll_cons hA
 obtain ⟨v1,vs1,d1,ds1,p1,q1,rfl,rfl,rfl,h1,r1⟩:=trodAll_cons r0
 obtain ⟨rfl,rfl,rfl⟩:=trodAll_nil r1
 obtain rfl:args=#[v0,v1]:=by cases args; simp_all
 obtain ⟨ad0,len0,cap0,rfl⟩:=okWide_slice u22 (hval 0 22 v0 rfl rfl)
 obtain ⟨fuel0,hf0⟩:=h0
 obtain ⟨l0,rfl,hcap0,hmax0,hok0,hrow0⟩:=qc6 (f:=Ins.cells) u22 qh2 ce86 zd (fun _ h=>Ins.cells_of h) Ins.cells_len hf0
 have hio0:z7 l0:=fun x hx=>⟨(hok0 x hx).1,(hok0 x hx).2.1,(hok0 x hx).2.2.1,(hok0 x hx).2.2.2.1,(hok0 x hx).2.2.2.2⟩
 obtain ⟨fuel1,hf1⟩:=h1
 obtain ⟨z1,rfl⟩:=okWide_bool u4 (hval 1 4 v1 rfl rfl)
 have walk:=(Jo (cap:=cap0) (sl:=z1) hio0).calls ⟨hT,hrow0⟩
 refine walk.mono fun e W' ⟨he,hb⟩=>?_
 subst he
 exact ⟨_,rfl,qd3 kids full (by rw [Tryz.params3]; decide) hW' hAk rfl hbef rfl rfl rfl rfl u4 hb⟩
theorem ZR (os:Os) (started:os.Started) (H:Type) (enc:TypeId × Value→H) (F:Stop.Interp) :
  ReturnsInHanded {} Tryz.checked os 3 .any ((OpenSpec.ofChange Rows.kernelProgramsSpec).preRow enc Tryz.prog Tryz.f3 Rows.kernelProgramsRow.domain false Rows.kernelProgramsRow.laid) (((OpenSpec.ofChange Rows.kernelProgramsSpec).at F).post enc Tryz.prog Tryz.f3 false true false false):=by
 have hx:DataW.whole enc Tryz.prog ((laidWorld os).forCall (fun _ _=>0) ⟨#[],#[.slice none 0 0,.bool false],[]⟩).memory Tryz.f3.params.toList Rows.kernelProgramsSpec.vars false (#[.slice none 0 0,.bool false]:Array Value).toList 8=some ([.nil,.lit (.bool false)],[],[]):=by kernel_rfl
 refine returnsInHanded_of_row (C:=Tryz.checked) (s:=OpenSpec.ofChange Rows.kernelProgramsSpec) own started zk Tryz.func3
  (witness_row_atRef (enc:=enc) (C:=Tryz.checked) false (laidWorld os) #[.slice none 0 0,.bool false] rfl zk zk zk
   (OpenSpec.preRow_of_cond 8 hx zk (fun k hk=>by cases hk) zk (qd4 os _))) ?_
 intro W base args ds gs before hval hW _ _ _ hL _ _
 exact Zq H enc W base args ds gs before hval hW hL
theorem Yh:(Rows.kernelProgramsRow.inPlace == Tryz.prog.inPlace 3)=true:=by kernel_rfl
theorem JX:(Rows.kernelProgramsRow.unfollowed == Tryz.prog.unfollowed 3)=true:=by kernel_rfl
theorem J4:(Rows.kernelProgramsRow.recurses == Tryz.prog.recurses 3)=true:=by kernel_rfl
theorem JW:(Rows.kernelProgramsRow.named == Tryz.prog.varsNamed 3)=true:=by kernel_rfl
theorem J5:(Rows.kernelProgramsRow.plainKeys == Tryz.prog.plainKeys)=true:=by kernel_rfl
theorem Yc:(Rows.kernelProgramsRow.lifted == Tryz.prog.liftsFinal)=true:=by kernel_rfl
theorem J7:(Tryz.prog.make == some Rows.kernelProgramsRow.make)=true:=by kernel_rfl
theorem JV:Tryz.f3.isWrapper Tryz.prog Rows.kernelProgramsRow.wrapper Rows.kernelProgramsRow.mainSum:=by unfold Func.isWrapper; first | (rw [if_pos (by decide +kernel)]; kernel_rfl) | (rw [if_neg (by decide +kernel)]; exact ⟨rfl,rfl⟩)
theorem QP:Tryz.prog.funcNamed Rows.kernelProgramsRow.func=some 3:=by kernel_rfl
theorem Yg:joinedFacts Tryz.prog 3 Tryz.f3 Rows.kernelProgramsSpec Rows.kernelProgramsRow=true:=KP zk qdT qb3 zk zk zk qfM zk qfN Yh JX J4 JW zk zk zk zk zk zk zk zk zk J5 zk qfO qfP Yc J7 zk zk zk zk
theorem said_KernelPrograms:Rows.KernelProgramsSaid:=
 OpenClaim.holds_of_cond 3 Tryz.f3 rfl rfl rfl rfl rfl rfl rfl ⟨rfl,rfl,rfl,rfl,rfl⟩ rfl rfl rfl rfl rfl QP Tryz.func3 Yg
  (of_decide_eq_true zk) JV
  (fun os started H enc _ F=>by rw [OpenClaim.pre_eq_preRow]; exact ZR os started H enc F)
def QG (P:Program) (g:FuncId):Bool:=!([]:List FuncId).contains g && (P.funcs[g]?).any fun fn=>match fn.body with | some c=>c.looks P | none=>false
theorem qd1 (P:Program):P.looks []=(List.range P.funcs.size).any (QG P):=rfl
theorem qhK:(List.range Tryz.prog.funcs.size).length≤60*11:=by rw [List.length_range]; decide +kernel
theorem q_k0:(((List.range Tryz.prog.funcs.size).drop (60*0)).take 60).any (QG Tryz.prog)=false:=by kernel_rfl
theorem q_k1:(((List.range Tryz.prog.funcs.size).drop (60*1)).take 60).any (QG Tryz.prog)=false:=by kernel_rfl
theorem q_k2:(((List.range Tryz.prog.funcs.size).drop (60*2)).take 60).any (QG Tryz.prog)=false:=by kernel_rfl
theorem q_k3:(((List.range Tryz.prog.funcs.size).drop (60*3)).take 60).any (QG Tryz.prog)=false:=by kernel_rfl
theorem q_k4:(((List.range Tryz.prog.funcs.size).drop (60*4)).take 60).any (QG Tryz.prog)=false:=by kernel_rfl
theorem q_k5:(((List.range Tryz.prog.funcs.size).drop (60*5)).take 60).any (QG Tryz.prog)=false:=by kernel_rfl
theorem q_k6:(((List.range Tryz.prog.funcs.size).drop (60*6)).take 60).any (QG Tryz.prog)=false:=by kernel_rfl
theorem q_k7:(((List.range Tryz.prog.funcs.size).drop (60*7)).take 60).any (QG Tryz.prog)=false:=by kernel_rfl
theorem q_k8:(((List.range Tryz.prog.funcs.size).drop (60*8)).take 60).any (QG Tryz.prog)=false:=by kernel_rfl
theorem q_k9:(((List.range Tryz.prog.funcs.size).drop (60*9)).take 60).any (QG Tryz.prog)=false:=by kernel_rfl
theorem q_k10:(((List.range Tryz.prog.funcs.size).drop (60*10)).take 60).any (QG Tryz.prog)=false:=by kernel_rfl
theorem qfG:false=Tryz.prog.looks []:=by
 rw [qd1]
 refine (X7 zd qhK fun j hj=>?_).symm
 match j,hj with
 | 0,_=>exact q_k0
 | 1,_=>exact q_k1
 | 2,_=>exact q_k2
 | 3,_=>exact q_k3
 | 4,_=>exact q_k4
 | 5,_=>exact q_k5
 | 6,_=>exact q_k6
 | 7,_=>exact q_k7
 | 8,_=>exact q_k8
 | 9,_=>exact q_k9
 | 10,_=>exact q_k10
 | n+11,h=>exact absurd h zO
theorem q_w22:Tryz.prog.wantsStandIn 22=false:=by kernel_rfl
theorem q_w4:Tryz.prog.wantsStandIn 4=false:=by kernel_rfl
theorem Z2 (f:FuncId) (fn:Func) (hf:Tryz.pinned.checked.prog.funcNamed "detent/detentlaw31.KernelPrograms"=some f) (hfn:Tryz.pinned.checked.prog.funcs[f]?=some fn) :
  false=Tryz.pinned.checked.prog.looks []∧∀ (j:Nat) t,fn.params[j]?=some t→Tryz.pinned.checked.prog.wantsStandIn t=false:=by
 obtain rfl:f=3:=Option.some.inj ((show Tryz.prog.funcNamed "detent/detentlaw31.KernelPrograms"=some 3 from QP).symm.trans hf) |>.symm
 obtain rfl:fn=Tryz.f3:=(Option.some.inj (Tryz.func3.symm.trans hfn)).symm
 refine ⟨qfG,fun j t ht=>?_⟩
 rw [Tryz.params3] at ht
 have hm:=Array.mem_of_getElem? ht
 have hall:∀ t∈(#[22,4]:Array TypeId),Tryz.prog.wantsStandIn t=false:=by
  intro t ht
  simp only [List.mem_toArray,List.mem_cons,List.not_mem_nil,or_false] at ht
  rcases ht with rfl | rfl
  ·exact q_w22
  ·exact q_w4
 exact hall t hm
theorem kernelPrograms_card:Rows.KernelProgramsCardSaid:=
 Claim7.holds_tied_plain_at .later [] _ _ _ _ said_KernelPrograms (fun _ h=>by cases h) zk (fun _ h=>by cases h) Zx rfl ⟨rfl,rfl⟩ zk rfl Z2 (qc4 qhN rfl)
end Go.Proofs.YtcggkokeggfdkaaGreatDoor

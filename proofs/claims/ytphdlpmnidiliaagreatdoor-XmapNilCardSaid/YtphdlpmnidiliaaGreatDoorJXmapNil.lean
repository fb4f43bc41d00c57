/-
  Proved: the statement XmapNilCardSaid, as the row gives it, under no condition of its own.
-/
import Derived.Test.YtphdlpmnidiliaaGreatDoorXmT6
import Derived.Test.YtphdlpmnidiliaaGreatDoorXmA
set_option linter.all false
set_option linter.unusedSimpArgs false
set_option linter.unusedVariables false
namespace Go.Proofs.YtphdlpmnidiliaaGreatDoor
open Go Go.Sl Go.ChangeShapes Go.WideShapes Go.ChangeAt Go.RowKit
set_option maxRecDepth 100000
set_option maxHeartbeats 2000000 in
theorem contract_XmapNil (H : Type) (enc : TypeId × Value → H) (W : World) (base : Nat) (args : Array Value) (ds gs : List (DataW H)) (before : List MemPlace)
    (hval : ∀ (j : Nat) t v, Tryz.f7.params[j]? = some t → args[j]? = some v → Value.okWide Tryz.prog W .any base t v)
    (hW : DataW.Whole enc Tryz.prog Tryz.f7.params.toList Rows.xmapNilSpec.vars false W args.toList ds gs before) (hL : laidMetH Tryz.prog Rows.xmapNilRow.laid W) :
    Calls Tryz.prog 7 args W fun e W' => ∃ v, e = .returned v ∧ Rows.xmapNilSpec.post enc Tryz.prog Tryz.f7 false true false false W args v W' := by
  have hT : Tab W := tab_laid hL
  have hW' := hW
  obtain ⟨p, q, hA0, hV, hbef, hfz, hnd⟩ := hW
  have hA : DataW.TrodAll enc Tryz.prog W 0 (fun _ => true) true Tryz.f7.params.toList args.toList ds p := hA0
  have hAk := hA
  rw [Tryz.params7] at hA hval
  obtain ⟨rfl, rfl⟩ := trodVars_none hV
  obtain ⟨v0, vs0, d0, ds0, p0, q0, hargs, rfl, hp, h0, r0⟩ := trodAll_cons hA
  obtain ⟨v1, vs1, d1, ds1, p1, q1, rfl, rfl, rfl, h1, r1⟩ := trodAll_cons r0
  obtain ⟨v2, vs2, d2, ds2, p2, q2, rfl, rfl, rfl, h2, r2⟩ := trodAll_cons r1
  obtain ⟨rfl, rfl, rfl⟩ := trodAll_nil r2
  obtain rfl : args = #[v0, v1, v2] := by cases args; simp_all
  obtain ⟨fuel0, hf0⟩ := h0
  obtain ⟨z0, rfl, hz0⟩ : ∃ z, v0 = .int .u64 z ∧ 0 ≤ z ∧ z ≤ 18446744073709551615 := by
    obtain ⟨z, hzv⟩ := okWide_int u22 (hval 0 22 v0 rfl rfl)
    subst hzv
    obtain ⟨m, e, _, hw⟩ := DataW.trod_int u22 hf0
    cases e
    exact ⟨_, rfl, wf_bd hw⟩
  obtain ⟨cs1, rfl, _⟩ := okWide_struct ty29.und (hval 1 29 v1 rfl rfl)
  obtain ⟨fuel1, hf1⟩ := h1
  obtain ⟨y1, hcs1, hy1⟩ := hdC_of (flat_read _ flat29 hf1)
  obtain rfl : cs1 = (hdC y1).toArray := by have : cs1.toList = hdC y1 := hcs1; rw [← this]
  obtain ⟨fuel2, hf2⟩ := h2
  obtain ⟨z2, rfl, hz2⟩ : ∃ z, v2 = .int .i64 z ∧ -9223372036854775808 ≤ z ∧ z ≤ 9223372036854775807 := by
    obtain ⟨z, hzv⟩ := okWide_int u3 (hval 2 3 v2 rfl rfl)
    subst hzv
    obtain ⟨m, e, _, hw⟩ := DataW.trod_int u3 hf2
    cases e
    exact ⟨_, rfl, wf_bd hw⟩
  have walk := (xmapNil_pure z0 z2 y1).calls hT
  refine walk.mono fun e W' ⟨he, hb⟩ => ?_
  subst he
  exact ⟨_, rfl, law_post kids full (by rw [Tryz.params7]; decide) hW' hAk rfl hbef rfl rfl rfl rfl u4 hb⟩
theorem lifted_XmapNil (os : Os) (started : os.Started) (H : Type) (enc : TypeId × Value → H) (F : Stop.Interp) :
    ReturnsInHanded {} Tryz.checked os 7 .any ((OpenSpec.ofChange Rows.xmapNilSpec).preRow enc Tryz.prog Tryz.f7 Rows.xmapNilRow.domain false Rows.xmapNilRow.laid) (((OpenSpec.ofChange Rows.xmapNilSpec).at F).post enc Tryz.prog Tryz.f7 false true false false) := by
  have hx : DataW.whole enc Tryz.prog ((laidWorld os).forCall (fun _ _ => 0) ⟨#[], #[.int .u64 0, .agg #[.int .i64 0, .int .i64 0], .int .i64 0], []⟩).memory Tryz.f7.params.toList Rows.xmapNilSpec.vars false (#[.int .u64 0, .agg #[.int .i64 0, .int .i64 0], .int .i64 0] : Array Value).toList 8 = some ([.lit (.int .u64 0), .agg [.lit (.int .i64 0), .lit (.int .i64 0)], .lit (.int .i64 0)], [], []) := by kernel_rfl
  refine returnsInHanded_of_row (C := Tryz.checked) (s := OpenSpec.ofChange Rows.xmapNilSpec) own started (by kernel_rfl) Tryz.func7
    (witness_row_atRef (enc := enc) (C := Tryz.checked) false (laidWorld os) #[.int .u64 0, .agg #[.int .i64 0, .int .i64 0], .int .i64 0] rfl (by kernel_rfl) (by kernel_rfl) (by kernel_rfl)
      (OpenSpec.preRow_of_cond 8 hx (by kernel_rfl) (fun k hk => by cases hk) (by kernel_rfl) (laid_met os _))) ?_
  intro W base args ds gs before hval hW _ _ _ hL _ _
  exact contract_XmapNil H enc W base args ds gs before hval hW hL
theorem said_XmapNil : Rows.XmapNilSaid :=
  OpenClaim.holds_of_cond 7 Tryz.f7 rfl rfl rfl rfl rfl rfl rfl ⟨rfl, rfl, rfl, rfl, rfl⟩ rfl rfl rfl rfl rfl (by kernel_rfl) Tryz.func7 (by kernel_rfl)
    (of_decide_eq_true (by kernel_rfl)) (by unfold Func.isWrapper; first | (rw [if_pos (by decide +kernel)]; kernel_rfl) | (rw [if_neg (by decide +kernel)]; exact ⟨rfl, rfl⟩))
    (fun os started H enc _ F => by rw [OpenClaim.pre_eq_preRow]; exact lifted_XmapNil os started H enc F)
theorem plain_XmapNil (f : FuncId) (fn : Func) (hf : Tryz.pinned.checked.prog.funcNamed "detent/detentlaw22.XmapNil" = some f) (hfn : Tryz.pinned.checked.prog.funcs[f]? = some fn) :
    false = Tryz.pinned.checked.prog.looks [] ∧ ∀ (j : Nat) t, fn.params[j]? = some t → Tryz.pinned.checked.prog.wantsStandIn t = false := by
  obtain rfl : f = 7 := Option.some.inj ((show Tryz.prog.funcNamed "detent/detentlaw22.XmapNil" = some 7 by kernel_rfl).symm.trans hf) |>.symm
  obtain rfl : fn = Tryz.f7 := (Option.some.inj (Tryz.func7.symm.trans hfn)).symm
  refine ⟨by kernel_rfl, fun j t ht => ?_⟩
  rw [Tryz.params7] at ht
  have hm := Array.mem_of_getElem? ht
  have hall : ∀ t ∈ (#[22, 29, 3] : Array TypeId), Tryz.prog.wantsStandIn t = false := by
    intro t ht
    simp only [List.mem_toArray, List.mem_cons, List.not_mem_nil, or_false] at ht
    rcases ht with rfl | rfl | rfl <;> kernel_rfl
  exact hall t hm
theorem xmapNil_card : Rows.XmapNilCardSaid :=
  Claim7.holds_tied_plain_at .later [] _ _ _ _ said_XmapNil (fun _ h => by cases h) (by kernel_rfl) (fun _ h => by cases h) xmapNil_row_tie rfl ⟨rfl, rfl⟩ (by kernel_rfl) rfl plain_XmapNil (by kernel_rfl)
end Go.Proofs.YtphdlpmnidiliaaGreatDoor

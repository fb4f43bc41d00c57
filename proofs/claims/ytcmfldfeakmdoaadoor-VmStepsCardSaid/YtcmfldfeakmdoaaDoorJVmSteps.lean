/-
  Proved: the statement VmStepsCardSaid, as the row gives it, under no condition of its own.
-/
import Derived.Test.YtcmfldfeakmdoaaDoorVmT5
import Derived.Test.YtcmfldfeakmdoaaDoorVmVmSteps1
import Derived.Test.YtcmfldfeakmdoaaDoorVmA
set_option linter.all false
set_option linter.unusedSimpArgs false
set_option linter.unusedVariables false
namespace Go.Proofs.YtcmfldfeakmdoaaDoor
open Go Go.Sl Go.ChangeShapes Go.WideShapes Go.ChangeAt Go.RowKit
set_option maxRecDepth 100000
set_option maxHeartbeats 2000000 in
theorem contract_VmSteps (H : Type) (enc : TypeId × Value → H) (W : World) (base : Nat) (args : Array Value) (ds gs : List (DataW H)) (before : List MemPlace)
    (hval : ∀ (j : Nat) t v, Tryd.f3.params[j]? = some t → args[j]? = some v → Value.okWide Tryd.prog W .any base t v)
    (hW : DataW.Whole enc Tryd.prog Tryd.f3.params.toList Rows.vmStepsSpec.vars false W args.toList ds gs before) (hL : laidMetH Tryd.prog Rows.vmStepsRow.laid W) :
    Calls Tryd.prog 3 args W fun e W' => ∃ v, e = .returned v ∧ Rows.vmStepsSpec.post enc Tryd.prog Tryd.f3 false true false false W args v W' := by
  have hT : Tab W := tab_laid hL
  have hW' := hW
  obtain ⟨p, q, hA0, hV, hbef, hfz, hnd⟩ := hW
  have hA : DataW.TrodAll enc Tryd.prog W 0 (fun _ => true) true Tryd.f3.params.toList args.toList ds p := hA0
  have hAk := hA
  rw [Tryd.params3] at hA hval
  obtain ⟨rfl, rfl⟩ := trodVars_none hV
  obtain ⟨v0, vs0, d0, ds0, p0, q0, hargs, rfl, hp, h0, r0⟩ := trodAll_cons hA
  obtain ⟨v1, vs1, d1, ds1, p1, q1, rfl, rfl, rfl, h1, r1⟩ := trodAll_cons r0
  obtain ⟨v2, vs2, d2, ds2, p2, q2, rfl, rfl, rfl, h2, r2⟩ := trodAll_cons r1
  obtain ⟨v3, vs3, d3, ds3, p3, q3, rfl, rfl, rfl, h3, r3⟩ := trodAll_cons r2
  obtain ⟨v4, vs4, d4, ds4, p4, q4, rfl, rfl, rfl, h4, r4⟩ := trodAll_cons r3
  obtain ⟨rfl, rfl, rfl⟩ := trodAll_nil r4
  obtain rfl : args = #[v0, v1, v2, v3, v4] := by cases args; simp_all
  obtain ⟨ad0, len0, cap0, rfl⟩ := okWide_slice u22 (hval 0 22 v0 rfl rfl)
  obtain ⟨fuel0, hf0⟩ := h0
  obtain ⟨l0, rfl, hcap0, hmax0, hok0, hrow0⟩ := flat_rows (f := Ins.cells) u22 flat80 ce80 (by decide) (fun _ h => Ins.cells_of h) Ins.cells_len hf0
  have hio0 : InsOk l0 := fun x hx => ⟨(hok0 x hx).1, (hok0 x hx).2.1, (hok0 x hx).2.2.1, (hok0 x hx).2.2.2.1, (hok0 x hx).2.2.2.2⟩
  obtain ⟨fuel1, hf1⟩ := h1
  obtain ⟨z1, rfl, hz1⟩ : ∃ z, v1 = .int .i64 z ∧ -9223372036854775808 ≤ z ∧ z ≤ 9223372036854775807 := by
    obtain ⟨z, hzv⟩ := okWide_int u3 (hval 1 3 v1 rfl rfl)
    subst hzv
    obtain ⟨m, e, _, hw⟩ := DataW.trod_int u3 hf1
    cases e
    exact ⟨_, rfl, wf_bd hw⟩
  obtain ⟨f1, hf01, _, hrem1, _⟩ := fuel_is (d := 256) hz1 (.inl rfl)
  obtain ⟨ad2, len2, cap2, rfl⟩ := okWide_slice u23 (hval 2 23 v2 rfl rfl)
  obtain ⟨fuel2, hf2⟩ := h2
  obtain ⟨l2, rfl, hcap2, hmax2, hok2, hrow2⟩ := flat_rows (f := vaC) u23 flat52 ce52 (by decide) (fun _ h => vaC_of h) vaC_len hf2
  obtain ⟨ad3, len3, cap3, rfl⟩ := okWide_slice u23 (hval 3 23 v3 rfl rfl)
  obtain ⟨fuel3, hf3⟩ := h3
  obtain ⟨l3, rfl, hcap3, hmax3, hok3, hrow3⟩ := flat_rows (f := vaC) u23 flat52 ce52 (by decide) (fun _ h => vaC_of h) vaC_len hf3
  obtain ⟨fuel4, hf4⟩ := h4
  obtain ⟨z4, rfl, hz4⟩ : ∃ z, v4 = .int .i64 z ∧ -9223372036854775808 ≤ z ∧ z ≤ 9223372036854775807 := by
    obtain ⟨z, hzv⟩ := okWide_int u3 (hval 4 3 v4 rfl rfl)
    subst hzv
    obtain ⟨m, e, _, hw⟩ := DataW.trod_int u3 hf4
    cases e
    exact ⟨_, rfl, wf_bd hw⟩
  obtain ⟨f4, hf04, _, hrem4, _⟩ := fuel_is (d := 20) hz4 (.inr (.inr (.inl rfl)))
  have walk := (vmSteps_pure (cap := cap0) (capl := cap2) (capn := cap3) hz1 hz4 hf01 hrem1 hf04 hrem4 (fun v hv => (hok2 v hv).2.2.2) (fun v hv => (hok3 v hv).2.2.2) hio0 hcap2 (by have := Nat.le_trans hcap3 hmax3; simp only [maxLen] at this; omega)).calls ⟨hT, hrow0, hrow2, hrow3⟩
  refine walk.mono fun e W' ⟨he, hb⟩ => ?_
  subst he
  exact ⟨_, rfl, law_post kids full (by rw [Tryd.params3]; decide) hW' hAk rfl hbef rfl rfl rfl rfl u4 hb⟩
theorem lifted_VmSteps (os : Os) (started : os.Started) (H : Type) (enc : TypeId × Value → H) (F : Stop.Interp) :
    ReturnsInHanded {} Tryd.checked os 3 .any ((OpenSpec.ofChange Rows.vmStepsSpec).preRow enc Tryd.prog Tryd.f3 Rows.vmStepsRow.domain false Rows.vmStepsRow.laid) (((OpenSpec.ofChange Rows.vmStepsSpec).at F).post enc Tryd.prog Tryd.f3 false true false false) := by
  have hx : DataW.whole enc Tryd.prog ((laidWorld os).forCall (fun _ _ => 0) ⟨#[], #[.slice none 0 0, .int .i64 0, .slice none 0 0, .slice none 0 0, .int .i64 0], []⟩).memory Tryd.f3.params.toList Rows.vmStepsSpec.vars false (#[.slice none 0 0, .int .i64 0, .slice none 0 0, .slice none 0 0, .int .i64 0] : Array Value).toList 8 = some ([.nil, .lit (.int .i64 0), .nil, .nil, .lit (.int .i64 0)], [], []) := by kernel_rfl
  refine returnsInHanded_of_row (C := Tryd.checked) (s := OpenSpec.ofChange Rows.vmStepsSpec) own started (by kernel_rfl) Tryd.func3
    (witness_row_atRef (enc := enc) (C := Tryd.checked) false (laidWorld os) #[.slice none 0 0, .int .i64 0, .slice none 0 0, .slice none 0 0, .int .i64 0] rfl (by kernel_rfl) (by kernel_rfl) (by kernel_rfl)
      (OpenSpec.preRow_of_cond 8 hx (by kernel_rfl) (fun k hk => by cases hk) (by kernel_rfl) (laid_met os _))) ?_
  intro W base args ds gs before hval hW _ _ _ hL _ _
  exact contract_VmSteps H enc W base args ds gs before hval hW hL
theorem said_VmSteps : Rows.VmStepsSaid :=
  OpenClaim.holds_of_cond 3 Tryd.f3 rfl rfl rfl rfl rfl rfl rfl ⟨rfl, rfl, rfl, rfl, rfl⟩ rfl rfl rfl rfl rfl (by kernel_rfl) Tryd.func3 (by kernel_rfl)
    (of_decide_eq_true (by kernel_rfl)) (by unfold Func.isWrapper; first | (rw [if_pos (by decide +kernel)]; kernel_rfl) | (rw [if_neg (by decide +kernel)]; exact ⟨rfl, rfl⟩))
    (fun os started H enc _ F => by rw [OpenClaim.pre_eq_preRow]; exact lifted_VmSteps os started H enc F)
theorem plain_VmSteps (f : FuncId) (fn : Func) (hf : Tryd.pinned.checked.prog.funcNamed "detent/detentlaw19.VmSteps" = some f) (hfn : Tryd.pinned.checked.prog.funcs[f]? = some fn) :
    false = Tryd.pinned.checked.prog.looks [] ∧ ∀ (j : Nat) t, fn.params[j]? = some t → Tryd.pinned.checked.prog.wantsStandIn t = false := by
  obtain rfl : f = 3 := Option.some.inj ((show Tryd.prog.funcNamed "detent/detentlaw19.VmSteps" = some 3 by kernel_rfl).symm.trans hf) |>.symm
  obtain rfl : fn = Tryd.f3 := (Option.some.inj (Tryd.func3.symm.trans hfn)).symm
  refine ⟨by kernel_rfl, fun j t ht => ?_⟩
  rw [Tryd.params3] at ht
  have hm := Array.mem_of_getElem? ht
  have hall : ∀ t ∈ (#[22, 3, 23, 23, 3] : Array TypeId), Tryd.prog.wantsStandIn t = false := by
    intro t ht
    simp only [List.mem_toArray, List.mem_cons, List.not_mem_nil, or_false] at ht
    rcases ht with rfl | rfl | rfl | rfl | rfl <;> kernel_rfl
  exact hall t hm
theorem vmSteps_card : Rows.VmStepsCardSaid :=
  Claim7.holds_tied_plain_at .later [] _ _ _ _ said_VmSteps (fun _ h => by cases h) (by kernel_rfl) (fun _ h => by cases h) vmSteps_row_tie rfl ⟨rfl, rfl⟩ (by kernel_rfl) rfl plain_VmSteps (by kernel_rfl)
end Go.Proofs.YtcmfldfeakmdoaaDoor

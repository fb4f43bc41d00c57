/-
  Proved: the statement VmEndsCardSaid, as the row gives it, under no condition of its own.
-/
import Derived.Test.YtcmfldfeakmdoaaDoorVmT5
import Derived.Test.YtcmfldfeakmdoaaDoorVmA
set_option linter.all false
set_option linter.unusedSimpArgs false
set_option linter.unusedVariables false
namespace Go.Proofs.YtcmfldfeakmdoaaDoor
open Go Go.Sl Go.ChangeShapes Go.WideShapes Go.ChangeAt Go.RowKit
set_option maxRecDepth 100000
set_option maxHeartbeats 2000000 in
theorem contract_VmEnds (H : Type) (enc : TypeId × Value → H) (W : World) (base : Nat) (args : Array Value) (ds gs : List (DataW H)) (before : List MemPlace)
    (hval : ∀ (j : Nat) t v, Tryd.f4.params[j]? = some t → args[j]? = some v → Value.okWide Tryd.prog W .any base t v)
    (hW : DataW.Whole enc Tryd.prog Tryd.f4.params.toList Rows.vmEndsSpec.vars false W args.toList ds gs before) (hL : laidMetH Tryd.prog Rows.vmEndsRow.laid W) :
    Calls Tryd.prog 4 args W fun e W' => ∃ v, e = .returned v ∧ Rows.vmEndsSpec.post enc Tryd.prog Tryd.f4 false true false false W args v W' := by
  have hT : Tab W := tab_laid hL
  have hW' := hW
  obtain ⟨p, q, hA0, hV, hbef, hfz, hnd⟩ := hW
  have hA : DataW.TrodAll enc Tryd.prog W 0 (fun _ => true) true Tryd.f4.params.toList args.toList ds p := hA0
  have hAk := hA
  rw [Tryd.params4] at hA hval
  obtain ⟨rfl, rfl⟩ := trodVars_none hV
  obtain ⟨v0, vs0, d0, ds0, p0, q0, hargs, rfl, hp, h0, r0⟩ := trodAll_cons hA
  obtain ⟨v1, vs1, d1, ds1, p1, q1, rfl, rfl, rfl, h1, r1⟩ := trodAll_cons r0
  obtain ⟨v2, vs2, d2, ds2, p2, q2, rfl, rfl, rfl, h2, r2⟩ := trodAll_cons r1
  obtain ⟨rfl, rfl, rfl⟩ := trodAll_nil r2
  obtain rfl : args = #[v0, v1, v2] := by cases args; simp_all
  obtain ⟨ad0, len0, cap0, rfl⟩ := okWide_slice u22 (hval 0 22 v0 rfl rfl)
  obtain ⟨fuel0, hf0⟩ := h0
  obtain ⟨l0, rfl, hcap0, hmax0, hok0, hrow0⟩ := flat_rows (f := Ins.cells) u22 flat80 ce80 (by decide) (fun _ h => Ins.cells_of h) Ins.cells_len hf0
  have hio0 : InsOk l0 := fun x hx => ⟨(hok0 x hx).1, (hok0 x hx).2.1, (hok0 x hx).2.2.1, (hok0 x hx).2.2.2.1, (hok0 x hx).2.2.2.2⟩
  obtain ⟨fuel1, hf1⟩ := h1
  obtain ⟨z1, rfl, hz1⟩ : ∃ z, v1 = .int .i64 z ∧ -9223372036854775808 ≤ z ∧ z ≤ 9223372036854775807 := by
    obtain ⟨z, hzv⟩ := okWide_int u3 (hval 1 3 v1 rfl rfl)
    subst hzv
    obtain ⟨m, e, _, hw⟩ := DataW.trod_int u3 hf1
    cases e
    exact ⟨_, rfl, wf_bd hw⟩
  obtain ⟨f1, hf01, _, hrem1, _⟩ := fuel_is (d := 256) hz1 (.inl rfl)
  obtain ⟨cs2, rfl, _⟩ := okWide_struct ty52.und (hval 2 52 v2 rfl rfl)
  obtain ⟨fuel2, hf2⟩ := h2
  obtain ⟨y2, hcs2, hy2⟩ := vaC_of (flat_read _ flat52 hf2)
  obtain rfl : cs2 = (vaC y2).toArray := by have : cs2.toList = vaC y2 := hcs2; rw [← this]
  have walk := (vmEnds_pure (z := z1) (v := y2) (cap := cap0) hz1 hf01 hrem1 hy2.2.2.2 hio0).calls ⟨hT, hrow0⟩
  refine walk.mono fun e W' ⟨he, hb⟩ => ?_
  subst he
  exact ⟨_, rfl, law_post kids full (by rw [Tryd.params4]; decide) hW' hAk rfl hbef rfl rfl rfl rfl u4 hb⟩
theorem lifted_VmEnds (os : Os) (started : os.Started) (H : Type) (enc : TypeId × Value → H) (F : Stop.Interp) :
    ReturnsInHanded {} Tryd.checked os 4 .any ((OpenSpec.ofChange Rows.vmEndsSpec).preRow enc Tryd.prog Tryd.f4 Rows.vmEndsRow.domain false Rows.vmEndsRow.laid) (((OpenSpec.ofChange Rows.vmEndsSpec).at F).post enc Tryd.prog Tryd.f4 false true false false) := by
  have hx : DataW.whole enc Tryd.prog ((laidWorld os).forCall (fun _ _ => 0) ⟨#[], #[.slice none 0 0, .int .i64 0, .agg #[.bool false, .int .i64 0, .int .i64 0, .int .i64 0, .int .u64 0]], []⟩).memory Tryd.f4.params.toList Rows.vmEndsSpec.vars false (#[.slice none 0 0, .int .i64 0, .agg #[.bool false, .int .i64 0, .int .i64 0, .int .i64 0, .int .u64 0]] : Array Value).toList 8 = some ([.nil, .lit (.int .i64 0), .agg [.lit (.bool false), .lit (.int .i64 0), .lit (.int .i64 0), .lit (.int .i64 0), .lit (.int .u64 0)]], [], []) := by kernel_rfl
  refine returnsInHanded_of_row (C := Tryd.checked) (s := OpenSpec.ofChange Rows.vmEndsSpec) own started (by kernel_rfl) Tryd.func4
    (witness_row_atRef (enc := enc) (C := Tryd.checked) false (laidWorld os) #[.slice none 0 0, .int .i64 0, .agg #[.bool false, .int .i64 0, .int .i64 0, .int .i64 0, .int .u64 0]] rfl (by kernel_rfl) (by kernel_rfl) (by kernel_rfl)
      (OpenSpec.preRow_of_cond 8 hx (by kernel_rfl) (fun k hk => by cases hk) (by kernel_rfl) (laid_met os _))) ?_
  intro W base args ds gs before hval hW _ _ _ hL _ _
  exact contract_VmEnds H enc W base args ds gs before hval hW hL
theorem said_VmEnds : Rows.VmEndsSaid :=
  OpenClaim.holds_of_cond 4 Tryd.f4 rfl rfl rfl rfl rfl rfl rfl ⟨rfl, rfl, rfl, rfl, rfl⟩ rfl rfl rfl rfl rfl (by kernel_rfl) Tryd.func4 (by kernel_rfl)
    (of_decide_eq_true (by kernel_rfl)) (by unfold Func.isWrapper; first | (rw [if_pos (by decide +kernel)]; kernel_rfl) | (rw [if_neg (by decide +kernel)]; exact ⟨rfl, rfl⟩))
    (fun os started H enc _ F => by rw [OpenClaim.pre_eq_preRow]; exact lifted_VmEnds os started H enc F)
theorem plain_VmEnds (f : FuncId) (fn : Func) (hf : Tryd.pinned.checked.prog.funcNamed "detent/detentlaw19.VmEnds" = some f) (hfn : Tryd.pinned.checked.prog.funcs[f]? = some fn) :
    false = Tryd.pinned.checked.prog.looks [] ∧ ∀ (j : Nat) t, fn.params[j]? = some t → Tryd.pinned.checked.prog.wantsStandIn t = false := by
  obtain rfl : f = 4 := Option.some.inj ((show Tryd.prog.funcNamed "detent/detentlaw19.VmEnds" = some 4 by kernel_rfl).symm.trans hf) |>.symm
  obtain rfl : fn = Tryd.f4 := (Option.some.inj (Tryd.func4.symm.trans hfn)).symm
  refine ⟨by kernel_rfl, fun j t ht => ?_⟩
  rw [Tryd.params4] at ht
  have hm := Array.mem_of_getElem? ht
  have hall : ∀ t ∈ (#[22, 3, 52] : Array TypeId), Tryd.prog.wantsStandIn t = false := by
    intro t ht
    simp only [List.mem_toArray, List.mem_cons, List.not_mem_nil, or_false] at ht
    rcases ht with rfl | rfl | rfl <;> kernel_rfl
  exact hall t hm
theorem vmEnds_card : Rows.VmEndsCardSaid :=
  Claim7.holds_tied_plain_at .later [] _ _ _ _ said_VmEnds (fun _ h => by cases h) (by kernel_rfl) (fun _ h => by cases h) vmEnds_row_tie rfl ⟨rfl, rfl⟩ (by kernel_rfl) rfl plain_VmEnds (by kernel_rfl)
end Go.Proofs.YtcmfldfeakmdoaaDoor

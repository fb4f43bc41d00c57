/-
  Proved: the statement ScriptPassesSaid, as the row gives it, under no condition of its own.
-/
import Derived.Test.YtkhkagjbeilbgaaJ1
import Derived.Test.YtkhkagjbeilbgaaS22
set_option linter.all false
set_option linter.unusedSimpArgs false
set_option linter.unusedVariables false
namespace Go.Proofs.Ytkhkagjbeilbgaa
open Go Go.Sl Go.ChangeShapes Go.WideShapes Go.ChangeAt Go.RowKit
set_option maxRecDepth 100000
theorem contract_ScriptPasses (H : Type) (enc : TypeId × Value → H) (W : World) (base : Nat) (args : Array Value) (ds gs : List (DataW H)) (before : List MemPlace)
    (hval : ∀ (j : Nat) t v, Try.f5.params[j]? = some t → args[j]? = some v → Value.okWide Try.prog W .any base t v)
    (hW : DataW.Whole enc Try.prog Try.f5.params.toList Rows.scriptPassesSpec.vars false W args.toList ds gs before) :
    Calls Try.prog 5 args W fun e W' => ∃ v, e = .returned v ∧ Rows.scriptPassesSpec.post enc Try.prog Try.f5 false true false false W args v W' := by
  have hW' := hW
  obtain ⟨p, q, hA0, hV, hbef, hfz, hnd⟩ := hW
  have hA : DataW.TrodAll enc Try.prog W 0 (fun _ => true) true Try.f5.params.toList args.toList ds p := hA0
  have hAk := hA
  rw [Try.params5] at hA hval
  obtain ⟨rfl, rfl⟩ := trodVars_none hV
  obtain ⟨v0, vs0, d0, ds0, p0, q0, hargs, rfl, hp, h0, r0⟩ := trodAll_cons hA
  obtain ⟨v1, vs1, d1, ds1, p1, q1, rfl, rfl, rfl, h1, r1⟩ := trodAll_cons r0
  obtain ⟨v2, vs2, d2, ds2, p2, q2, rfl, rfl, rfl, h2, r2⟩ := trodAll_cons r1
  obtain ⟨v3, vs3, d3, ds3, p3, q3, rfl, rfl, rfl, h3, r3⟩ := trodAll_cons r2
  obtain ⟨rfl, rfl, rfl⟩ := trodAll_nil r3
  obtain rfl : args = #[v0, v1, v2, v3] := by cases args; simp_all
  obtain ⟨ad0, len0, cap0, rfl⟩ := okWide_slice u39 (hval 0 39 v0 rfl rfl)
  obtain ⟨fuel0, hf0⟩ := h0
  obtain ⟨l0, rfl, hcap0, hmax0, hrow0, hg0⟩ := open_sts hf0
  obtain ⟨ad1, len1, cap1, rfl⟩ := okWide_slice u39 (hval 1 39 v1 rfl rfl)
  obtain ⟨fuel1, hf1⟩ := h1
  obtain ⟨l1, rfl, hcap1, hmax1, hrow1, hg1⟩ := open_sts hf1
  obtain ⟨n2, rfl, rfl, rfl, w2⟩ := open_int u5 (hval 2 5 v2 rfl rfl) h2
  have hk2 : 0 ≤ n2 ∧ n2 < 256 := by have := w2; simp [Lit.wf, IntKind.min, IntKind.max, IntKind.signed, IntKind.bits] at this; exact ⟨by omega, by omega⟩
  obtain ⟨ad3, len3, cap3, rfl⟩ := okWide_slice u22 (hval 3 22 v3 rfl rfl)
  obtain ⟨fuel3, hf3⟩ := h3
  obtain ⟨l3, rfl, hcap3, hmax3, hwf3, hrow3⟩ := open_row u22 u5 k5 hf3
  have hb3 : Go.Script.Bytes l3 := fun b hb => by have := hwf3 b hb; simp [Lit.wf, IntKind.min, IntKind.max, IntKind.signed, IntKind.bits] at this; exact ⟨by omega, by omega⟩
  have walk := (scriptPasses_pure (cap1 := cap0) (cap2 := cap1) hk2 hb3 hcap3).calls ⟨hrow0, hg0, hrow1, hg1, hrow3⟩
  refine walk.mono fun e W' ⟨he, hb⟩ => ?_
  subst he
  exact ⟨_, rfl, law_post kids full (by rw [Try.params5]; decide) hW' hAk rfl hbef rfl rfl rfl rfl u4 hb⟩
theorem lifted_ScriptPasses (os : Os) (started : os.Started) (H : Type) (enc : TypeId × Value → H) (F : Stop.Interp) :
    ReturnsInHanded {} Try.checked os 5 .any ((OpenSpec.ofChange Rows.scriptPassesSpec).preRow enc Try.prog Try.f5 Rows.scriptPassesRow.domain false Rows.scriptPassesRow.laid) (((OpenSpec.ofChange Rows.scriptPassesSpec).at F).post enc Try.prog Try.f5 false true false false) := by
  have hx : DataW.whole enc Try.prog ((laidWorld os).forCall (fun _ _ => 0) ⟨#[], #[.slice none 0 0, .slice none 0 0, .int .u8 0, .slice none 0 0], []⟩).memory Try.f5.params.toList Rows.scriptPassesSpec.vars false (#[.slice none 0 0, .slice none 0 0, .int .u8 0, .slice none 0 0] : Array Value).toList 8 = some ([.nil, .nil, .lit (.int .u8 0), .nil], [], []) := by kernel_rfl
  refine returnsInHanded_of_row (C := Try.checked) (s := OpenSpec.ofChange Rows.scriptPassesSpec) own started (by kernel_rfl) Try.func5
    (witness_row_atRef (enc := enc) (C := Try.checked) false (laidWorld os) #[.slice none 0 0, .slice none 0 0, .int .u8 0, .slice none 0 0] rfl (by kernel_rfl) (by kernel_rfl) (by kernel_rfl)
      (OpenSpec.preRow_of_cond 8 hx (by kernel_rfl) (fun k hk => by cases hk) (by kernel_rfl) (laid_met os _))) ?_
  intro W base args ds gs before hval hW _ _ _ _ _ _
  exact contract_ScriptPasses H enc W base args ds gs before hval hW
theorem said_ScriptPasses : Rows.ScriptPassesSaid :=
  OpenClaim.holds_of_cond 5 Try.f5 rfl rfl rfl rfl rfl rfl rfl ⟨rfl, rfl, rfl, rfl, rfl⟩ rfl rfl rfl rfl rfl (by kernel_rfl) Try.func5 (by kernel_rfl)
    (of_decide_eq_true (by kernel_rfl)) (by unfold Func.isWrapper; first | (rw [if_pos (by decide +kernel)]; kernel_rfl) | (rw [if_neg (by decide +kernel)]; exact ⟨rfl, rfl⟩))
    (fun os started H enc _ F => by rw [OpenClaim.pre_eq_preRow]; exact lifted_ScriptPasses os started H enc F)
end Go.Proofs.Ytkhkagjbeilbgaa

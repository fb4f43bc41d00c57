/-
  Proved: the statement FrameSetsCardSaid, as the row gives it, under no condition of its own.
-/
import Derived.Test.YtkhkagjbeilbgaaDoorJ0
import Derived.Test.YtkhkagjbeilbgaaDoorF15
set_option linter.all false
set_option linter.unusedSimpArgs false
set_option linter.unusedVariables false
namespace Go.Proofs.YtkhkagjbeilbgaaDoor
open Go Go.Sl Go.ChangeShapes Go.WideShapes Go.ChangeAt Go.RowKit
set_option maxRecDepth 100000
theorem u57 : Tryd.prog.underlying 57 = some (.slice 62) := by kernel_rfl
theorem k57 : Tryd.prog.cellsOf 57 = 1 := by kernel_rfl
theorem contract_FrameSets (H : Type) (enc : TypeId × Value → H) (W : World) (base : Nat) (args : Array Value) (ds gs : List (DataW H)) (before : List MemPlace)
    (hval : ∀ (j : Nat) t v, Tryd.f5.params[j]? = some t → args[j]? = some v → Value.okWide Tryd.prog W .any base t v)
    (hW : DataW.Whole enc Tryd.prog Tryd.f5.params.toList Rows.frameSetsSpec.vars false W args.toList ds gs before) (hL : laidMetH Tryd.prog Rows.frameSetsRow.laid W) :
    Calls Tryd.prog 5 args W fun e W' => ∃ v, e = .returned v ∧ Rows.frameSetsSpec.post enc Tryd.prog Tryd.f5 false true false false W args v W' := by
  have hT : Tab W := tab_laid hL
  have hW' := hW
  obtain ⟨p, q, hA0, hV, hbef, hfz, hnd⟩ := hW
  have hA : DataW.TrodAll enc Tryd.prog W 0 (fun _ => true) true Tryd.f5.params.toList args.toList ds p := hA0
  have hAk := hA
  rw [Tryd.params5] at hA hval
  obtain ⟨rfl, rfl⟩ := trodVars_none hV
  obtain ⟨v0, vs0, d0, ds0, p0, q0, hargs, rfl, hp, h0, r0⟩ := trodAll_cons hA
  obtain ⟨rfl, rfl, rfl⟩ := trodAll_nil r0
  obtain rfl : args = #[v0] := by cases args; simp_all
  obtain ⟨ad0, len0, cap0, rfl⟩ := okWide_slice u57 (hval 0 57 v0 rfl rfl)
  obtain ⟨fuel0, hf0⟩ := h0
  obtain ⟨l0, rfl, hcap0, hmax0, hok0, hrow0⟩ := flat_rows (f := acC) u57 flat62 ce62 (by decide) (fun _ h => acC_of h) acC_len hf0
  have walk := (frameSets_pure (cap := cap0) hok0 (Nat.le_trans hcap0 hmax0)).calls ⟨hT, hrow0⟩
  refine walk.mono fun e W' ⟨he, hb⟩ => ?_
  subst he
  exact ⟨_, rfl, law_post kids full (by rw [Tryd.params5]; decide) hW' hAk rfl hbef rfl rfl rfl rfl u4 hb⟩
theorem lifted_FrameSets (os : Os) (started : os.Started) (H : Type) (enc : TypeId × Value → H) (F : Stop.Interp) :
    ReturnsInHanded {} Tryd.checked os 5 .any ((OpenSpec.ofChange Rows.frameSetsSpec).preRow enc Tryd.prog Tryd.f5 Rows.frameSetsRow.domain false Rows.frameSetsRow.laid) (((OpenSpec.ofChange Rows.frameSetsSpec).at F).post enc Tryd.prog Tryd.f5 false true false false) := by
  have hx : DataW.whole enc Tryd.prog ((laidWorld os).forCall (fun _ _ => 0) ⟨#[], #[.slice none 0 0], []⟩).memory Tryd.f5.params.toList Rows.frameSetsSpec.vars false (#[.slice none 0 0] : Array Value).toList 8 = some ([.nil], [], []) := by kernel_rfl
  refine returnsInHanded_of_row (C := Tryd.checked) (s := OpenSpec.ofChange Rows.frameSetsSpec) own started (by kernel_rfl) Tryd.func5
    (witness_row_atRef (enc := enc) (C := Tryd.checked) false (laidWorld os) #[.slice none 0 0] rfl (by kernel_rfl) (by kernel_rfl) (by kernel_rfl)
      (OpenSpec.preRow_of_cond 8 hx (by kernel_rfl) (fun k hk => by cases hk) (by kernel_rfl) (laid_met os _))) ?_
  intro W base args ds gs before hval hW _ _ _ hL _ _
  exact contract_FrameSets H enc W base args ds gs before hval hW hL
theorem said_FrameSets : Rows.FrameSetsSaid :=
  OpenClaim.holds_of_cond 5 Tryd.f5 rfl rfl rfl rfl rfl rfl rfl ⟨rfl, rfl, rfl, rfl, rfl⟩ rfl rfl rfl rfl rfl (by kernel_rfl) Tryd.func5 (by kernel_rfl)
    (of_decide_eq_true (by kernel_rfl)) (by unfold Func.isWrapper; first | (rw [if_pos (by decide +kernel)]; kernel_rfl) | (rw [if_neg (by decide +kernel)]; exact ⟨rfl, rfl⟩))
    (fun os started H enc _ F => by rw [OpenClaim.pre_eq_preRow]; exact lifted_FrameSets os started H enc F)
theorem plain_FrameSets (f : FuncId) (fn : Func) (hf : Tryd.pinned.checked.prog.funcNamed "detent/detentlaw18.FrameSets" = some f) (hfn : Tryd.pinned.checked.prog.funcs[f]? = some fn) :
    false = Tryd.pinned.checked.prog.looks [] ∧ ∀ (j : Nat) t, fn.params[j]? = some t → Tryd.pinned.checked.prog.wantsStandIn t = false := by
  obtain rfl : f = 5 := Option.some.inj ((show Tryd.prog.funcNamed "detent/detentlaw18.FrameSets" = some 5 by kernel_rfl).symm.trans hf) |>.symm
  obtain rfl : fn = Tryd.f5 := (Option.some.inj (Tryd.func5.symm.trans hfn)).symm
  refine ⟨by kernel_rfl, fun j t ht => ?_⟩
  rw [Tryd.params5] at ht
  have hm := Array.mem_of_getElem? ht
  have hall : ∀ t ∈ (#[57] : Array TypeId), Tryd.prog.wantsStandIn t = false := by
    intro t ht
    simp only [List.mem_toArray, List.mem_cons, List.not_mem_nil, or_false] at ht
    subst ht <;> kernel_rfl
  exact hall t hm
theorem frameSets_card : Rows.FrameSetsCardSaid :=
  Claim7.holds_tied_plain_at .later [] _ _ _ _ said_FrameSets (fun _ h => by cases h) (by kernel_rfl) (fun _ h => by cases h) frameSets_row_tie rfl ⟨rfl, rfl⟩ (by kernel_rfl) rfl plain_FrameSets (by kernel_rfl)
end Go.Proofs.YtkhkagjbeilbgaaDoor

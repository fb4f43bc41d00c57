/-
  Proved: the statement CheckSleepsCardSaid, as the row gives it, under no condition of its own.
-/
import Derived.Test.YtpfoecmianohjaaDoorJ1
import Derived.Test.YtpfoecmianohjaaDoorC17
set_option linter.all false
set_option linter.unusedSimpArgs false
set_option linter.unusedVariables false
namespace Go.Proofs.YtpfoecmianohjaaDoor
open Go Go.Sl Go.ChangeShapes Go.WideShapes Go.ChangeAt Go.RowKit
set_option maxRecDepth 100000
theorem contract_CheckSleeps (H : Type) (enc : TypeId × Value → H) (W : World) (base : Nat) (args : Array Value) (ds gs : List (DataW H)) (before : List MemPlace)
    (hval : ∀ (j : Nat) t v, Tryd.f12.params[j]? = some t → args[j]? = some v → Value.okWide Tryd.prog W .any base t v)
    (hW : DataW.Whole enc Tryd.prog Tryd.f12.params.toList Rows.checkSleepsSpec.vars false W args.toList ds gs before) (hL : laidMetH Tryd.prog Rows.checkSleepsRow.laid W) :
    Calls Tryd.prog 12 args W fun e W' => ∃ v, e = .returned v ∧ Rows.checkSleepsSpec.post enc Tryd.prog Tryd.f12 false true false false W args v W' := by
  have hT : Tab W := tab_laid hL
  have hW' := hW
  obtain ⟨p, q, hA0, hV, hbef, hfz, hnd⟩ := hW
  have hA : DataW.TrodAll enc Tryd.prog W 0 (fun _ => true) true Tryd.f12.params.toList args.toList ds p := hA0
  have hAk := hA
  rw [Tryd.params12] at hA hval
  obtain ⟨rfl, rfl⟩ := trodVars_none hV
  obtain ⟨v0, vs0, d0, ds0, p0, q0, hargs, rfl, hp, h0, r0⟩ := trodAll_cons hA
  obtain ⟨rfl, rfl, rfl⟩ := trodAll_nil r0
  obtain rfl : args = #[v0] := by cases args; simp_all
  obtain ⟨ad, len, cap, rfl⟩ := okWide_slice u43 (hval 0 43 v0 rfl rfl)
  obtain ⟨fuel0, hf0⟩ := h0
  obtain ⟨l, rfl, hcap, hmax, hl, hrow⟩ := open_inss hf0
  have walk := (checkSleeps_pure hl hcap).calls ⟨hT, hrow⟩
  refine walk.mono fun e W' ⟨he, hb⟩ => ?_
  subst he
  exact ⟨_, rfl, law_post kids full (by rw [Tryd.params12]; decide) hW' hAk rfl hbef rfl rfl rfl rfl u4 hb⟩
theorem lifted_CheckSleeps (os : Os) (started : os.Started) (H : Type) (enc : TypeId × Value → H) (F : Stop.Interp) :
    ReturnsInHanded {} Tryd.checked os 12 .any ((OpenSpec.ofChange Rows.checkSleepsSpec).preRow enc Tryd.prog Tryd.f12 Rows.checkSleepsRow.domain false Rows.checkSleepsRow.laid) (((OpenSpec.ofChange Rows.checkSleepsSpec).at F).post enc Tryd.prog Tryd.f12 false true false false) := by
  have hx : DataW.whole enc Tryd.prog ((laidWorld os).forCall (fun _ _ => 0) ⟨#[], #[.slice none 0 0], []⟩).memory Tryd.f12.params.toList Rows.checkSleepsSpec.vars false (#[.slice none 0 0] : Array Value).toList 8 = some ([.nil], [], []) := by kernel_rfl
  refine returnsInHanded_of_row (C := Tryd.checked) (s := OpenSpec.ofChange Rows.checkSleepsSpec) own started (by kernel_rfl) Tryd.func12
    (witness_row_atRef (enc := enc) (C := Tryd.checked) false (laidWorld os) #[.slice none 0 0] rfl (by kernel_rfl) (by kernel_rfl) (by kernel_rfl)
      (OpenSpec.preRow_of_cond 8 hx (by kernel_rfl) (fun k hk => by cases hk) (by kernel_rfl) (laid_met os _))) ?_
  intro W base args ds gs before hval hW _ _ _ hL _ _
  exact contract_CheckSleeps H enc W base args ds gs before hval hW hL
theorem said_CheckSleeps : Rows.CheckSleepsSaid :=
  OpenClaim.holds_of_cond 12 Tryd.f12 rfl rfl rfl rfl rfl rfl rfl ⟨rfl, rfl, rfl, rfl, rfl⟩ rfl rfl rfl rfl rfl (by kernel_rfl) Tryd.func12 (by kernel_rfl)
    (of_decide_eq_true (by kernel_rfl)) (by unfold Func.isWrapper; first | (rw [if_pos (by decide +kernel)]; kernel_rfl) | (rw [if_neg (by decide +kernel)]; exact ⟨rfl, rfl⟩))
    (fun os started H enc _ F => by rw [OpenClaim.pre_eq_preRow]; exact lifted_CheckSleeps os started H enc F)
theorem plain_CheckSleeps (f : FuncId) (fn : Func) (hf : Tryd.pinned.checked.prog.funcNamed "detent/detentlaw17.CheckSleeps" = some f) (hfn : Tryd.pinned.checked.prog.funcs[f]? = some fn) :
    false = Tryd.pinned.checked.prog.looks [] ∧ ∀ (j : Nat) t, fn.params[j]? = some t → Tryd.pinned.checked.prog.wantsStandIn t = false := by
  obtain rfl : f = 12 := Option.some.inj ((show Tryd.prog.funcNamed "detent/detentlaw17.CheckSleeps" = some 12 by kernel_rfl).symm.trans hf) |>.symm
  obtain rfl : fn = Tryd.f12 := (Option.some.inj (Tryd.func12.symm.trans hfn)).symm
  refine ⟨by kernel_rfl, fun j t ht => ?_⟩
  rw [Tryd.params12] at ht
  have hm := Array.mem_of_getElem? ht
  have hall : ∀ t ∈ (#[43] : Array TypeId), Tryd.prog.wantsStandIn t = false := by
    intro t ht
    simp only [List.mem_toArray, List.mem_cons, List.not_mem_nil, or_false] at ht
    subst ht <;> kernel_rfl
  exact hall t hm
theorem checkSleeps_card : Rows.CheckSleepsCardSaid :=
  Claim7.holds_tied_plain_at .later [] _ _ _ _ said_CheckSleeps (fun _ h => by cases h) (by kernel_rfl) (fun _ h => by cases h) checkSleeps_row_tie rfl ⟨rfl, rfl⟩ (by kernel_rfl) rfl plain_CheckSleeps (by kernel_rfl)
end Go.Proofs.YtpfoecmianohjaaDoor

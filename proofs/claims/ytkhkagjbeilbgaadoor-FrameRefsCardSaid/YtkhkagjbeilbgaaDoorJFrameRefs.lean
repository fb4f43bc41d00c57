/-
  Proved: the statement FrameRefsCardSaid, as the row gives it, under no condition of its own.
-/
import Derived.Test.YtkhkagjbeilbgaaDoorJ0
set_option linter.all false
set_option linter.unusedSimpArgs false
set_option linter.unusedVariables false
namespace Go.Proofs.YtkhkagjbeilbgaaDoor
open Go Go.Sl Go.ChangeShapes Go.WideShapes Go.ChangeAt Go.RowKit
set_option maxRecDepth 100000
theorem contract_FrameRefs (H : Type) (enc : TypeId × Value → H) (W : World) (base : Nat) (args : Array Value) (ds gs : List (DataW H)) (before : List MemPlace)
    (hval : ∀ (j : Nat) t v, Tryd.f4.params[j]? = some t → args[j]? = some v → Value.okWide Tryd.prog W .any base t v)
    (hW : DataW.Whole enc Tryd.prog Tryd.f4.params.toList Rows.frameRefsSpec.vars false W args.toList ds gs before) (hL : laidMetH Tryd.prog Rows.frameRefsRow.laid W) :
    Calls Tryd.prog 4 args W fun e W' => ∃ v, e = .returned v ∧ Rows.frameRefsSpec.post enc Tryd.prog Tryd.f4 false true false false W args v W' := by
  have hT : Tab W := tab_laid hL
  have hW' := hW
  obtain ⟨p, q, hA0, hV, hbef, hfz, hnd⟩ := hW
  have hA : DataW.TrodAll enc Tryd.prog W 0 (fun _ => true) true Tryd.f4.params.toList args.toList ds p := hA0
  have hAk := hA
  rw [Tryd.params4] at hA hval
  obtain ⟨rfl, rfl⟩ := trodVars_none hV
  obtain ⟨v0, vs0, d0, ds0, p0, q0, hargs, rfl, hp, h0, r0⟩ := trodAll_cons hA
  obtain ⟨v1, vs1, d1, ds1, p1, q1, rfl, rfl, rfl, h1, r1⟩ := trodAll_cons r0
  obtain ⟨rfl, rfl, rfl⟩ := trodAll_nil r1
  obtain rfl : args = #[v0, v1] := by cases args; simp_all
  obtain ⟨ad0, len0, cap0, rfl⟩ := okWide_slice u35 (hval 0 35 v0 rfl rfl)
  obtain ⟨fuel0, hf0⟩ := h0
  obtain ⟨l0, rfl, hcap0, hmax0, hok0, hrow0⟩ := flat_rows (f := vaC) u35 flat55 ce55 (by decide) (fun _ h => vaC_of h) vaC_len hf0
  obtain ⟨ad1, len1, cap1, rfl⟩ := okWide_slice u36 (hval 1 36 v1 rfl rfl)
  obtain ⟨fuel1, hf1⟩ := h1
  obtain ⟨l1, rfl, hcap1, hmax1, hok1, hrow1⟩ := flat_rows (f := Ins.C) u36 flat46 ce46 (by decide) (fun _ h => Ins.C_of h) Ins.C_len hf1
  have walk := (frameRefs_pure (cap1 := cap1) hcap0 (fun v hv => (hok0 v hv).2.2.2) (fun x hx => (hok1 x hx).1) (Nat.le_trans hcap1 hmax1)).calls ⟨hT, hrow0, hrow1⟩
  refine walk.mono fun e W' ⟨he, hb⟩ => ?_
  subst he
  exact ⟨_, rfl, law_post kids full (by rw [Tryd.params4]; decide) hW' hAk rfl hbef rfl rfl rfl rfl u4 hb⟩
theorem lifted_FrameRefs (os : Os) (started : os.Started) (H : Type) (enc : TypeId × Value → H) (F : Stop.Interp) :
    ReturnsInHanded {} Tryd.checked os 4 .any ((OpenSpec.ofChange Rows.frameRefsSpec).preRow enc Tryd.prog Tryd.f4 Rows.frameRefsRow.domain false Rows.frameRefsRow.laid) (((OpenSpec.ofChange Rows.frameRefsSpec).at F).post enc Tryd.prog Tryd.f4 false true false false) := by
  have hx : DataW.whole enc Tryd.prog ((laidWorld os).forCall (fun _ _ => 0) ⟨#[], #[.slice none 0 0, .slice none 0 0], []⟩).memory Tryd.f4.params.toList Rows.frameRefsSpec.vars false (#[.slice none 0 0, .slice none 0 0] : Array Value).toList 8 = some ([.nil, .nil], [], []) := by kernel_rfl
  refine returnsInHanded_of_row (C := Tryd.checked) (s := OpenSpec.ofChange Rows.frameRefsSpec) own started (by kernel_rfl) Tryd.func4
    (witness_row_atRef (enc := enc) (C := Tryd.checked) false (laidWorld os) #[.slice none 0 0, .slice none 0 0] rfl (by kernel_rfl) (by kernel_rfl) (by kernel_rfl)
      (OpenSpec.preRow_of_cond 8 hx (by kernel_rfl) (fun k hk => by cases hk) (by kernel_rfl) (laid_met os _))) ?_
  intro W base args ds gs before hval hW _ _ _ hL _ _
  exact contract_FrameRefs H enc W base args ds gs before hval hW hL
theorem said_FrameRefs : Rows.FrameRefsSaid :=
  OpenClaim.holds_of_cond 4 Tryd.f4 rfl rfl rfl rfl rfl rfl rfl ⟨rfl, rfl, rfl, rfl, rfl⟩ rfl rfl rfl rfl rfl (by kernel_rfl) Tryd.func4 (by kernel_rfl)
    (of_decide_eq_true (by kernel_rfl)) (by unfold Func.isWrapper; first | (rw [if_pos (by decide +kernel)]; kernel_rfl) | (rw [if_neg (by decide +kernel)]; exact ⟨rfl, rfl⟩))
    (fun os started H enc _ F => by rw [OpenClaim.pre_eq_preRow]; exact lifted_FrameRefs os started H enc F)
theorem plain_FrameRefs (f : FuncId) (fn : Func) (hf : Tryd.pinned.checked.prog.funcNamed "detent/detentlaw18.FrameRefs" = some f) (hfn : Tryd.pinned.checked.prog.funcs[f]? = some fn) :
    false = Tryd.pinned.checked.prog.looks [] ∧ ∀ (j : Nat) t, fn.params[j]? = some t → Tryd.pinned.checked.prog.wantsStandIn t = false := by
  obtain rfl : f = 4 := Option.some.inj ((show Tryd.prog.funcNamed "detent/detentlaw18.FrameRefs" = some 4 by kernel_rfl).symm.trans hf) |>.symm
  obtain rfl : fn = Tryd.f4 := (Option.some.inj (Tryd.func4.symm.trans hfn)).symm
  refine ⟨by kernel_rfl, fun j t ht => ?_⟩
  rw [Tryd.params4] at ht
  have hm := Array.mem_of_getElem? ht
  have hall : ∀ t ∈ (#[35, 36] : Array TypeId), Tryd.prog.wantsStandIn t = false := by
    intro t ht
    simp only [List.mem_toArray, List.mem_cons, List.not_mem_nil, or_false] at ht
    rcases ht with rfl | rfl <;> kernel_rfl
  exact hall t hm
theorem frameRefs_card : Rows.FrameRefsCardSaid :=
  Claim7.holds_tied_plain_at .later [] _ _ _ _ said_FrameRefs (fun _ h => by cases h) (by kernel_rfl) (fun _ h => by cases h) frameRefs_row_tie rfl ⟨rfl, rfl⟩ (by kernel_rfl) rfl plain_FrameRefs (by kernel_rfl)
end Go.Proofs.YtkhkagjbeilbgaaDoor

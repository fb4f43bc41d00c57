/-
  Proved: the statement AluFoldsCardSaid, as the row gives it, under no condition of its own.
-/
import Derived.Test.YtpfoecmianohjaaDoorJ0
import Derived.Test.YtpfoecmianohjaaDoorA9
set_option linter.all false
set_option linter.unusedSimpArgs false
set_option linter.unusedVariables false
namespace Go.Proofs.YtpfoecmianohjaaDoor
open Go Go.Sl Go.ChangeShapes Go.WideShapes Go.ChangeAt Go.RowKit
set_option maxRecDepth 100000
theorem contract_AluFolds (H : Type) (enc : TypeId × Value → H) (W : World) (base : Nat) (args : Array Value) (ds gs : List (DataW H)) (before : List MemPlace)
    (hval : ∀ (j : Nat) t v, Tryd.f8.params[j]? = some t → args[j]? = some v → Value.okWide Tryd.prog W .any base t v)
    (hW : DataW.Whole enc Tryd.prog Tryd.f8.params.toList Rows.aluFoldsSpec.vars false W args.toList ds gs before) (hL : laidMetH Tryd.prog Rows.aluFoldsRow.laid W) :
    Calls Tryd.prog 8 args W fun e W' => ∃ v, e = .returned v ∧ Rows.aluFoldsSpec.post enc Tryd.prog Tryd.f8 false true false false W args v W' := by
  have hT : Tab W := tab_laid hL
  have hW' := hW
  obtain ⟨p, q, hA0, hV, hbef, hfz, hnd⟩ := hW
  have hA : DataW.TrodAll enc Tryd.prog W 0 (fun _ => true) true Tryd.f8.params.toList args.toList ds p := hA0
  have hAk := hA
  rw [Tryd.params8] at hA hval
  obtain ⟨rfl, rfl⟩ := trodVars_none hV
  obtain ⟨v0, vs0, d0, ds0, p0, q0, hargs, rfl, hp, h0, r0⟩ := trodAll_cons hA
  obtain ⟨v1, vs1, d1, ds1, p1, q1, rfl, rfl, rfl, h1, r1⟩ := trodAll_cons r0
  obtain ⟨v2, vs2, d2, ds2, p2, q2, rfl, rfl, rfl, h2, r2⟩ := trodAll_cons r1
  obtain ⟨rfl, rfl, rfl⟩ := trodAll_nil r2
  obtain rfl : args = #[v0, v1, v2] := by cases args; simp_all
  obtain ⟨n0, rfl, rfl, rfl, w0⟩ := open_int u3 (hval 0 3 v0 rfl rfl) h0
  obtain ⟨n1, rfl, rfl, rfl, w1⟩ := open_int u22 (hval 1 22 v1 rfl rfl) h1
  obtain ⟨ad, len, cap, rfl⟩ := okWide_slice u37 (hval 2 37 v2 rfl rfl)
  obtain ⟨fuel2, hf2⟩ := h2
  obtain ⟨l, rfl, hcap, hmax, hwf, hrow⟩ := open_row u37 u22 c22 hf2
  have hl : ∀ x ∈ l, Wd x := fun x hx => by have := hwf x hx; simp [Lit.wf, IntKind.min, IntKind.max, IntKind.signed, IntKind.bits] at this; exact ⟨by omega, by omega⟩
  have i0 : I64 n0 := by have := w0; simp [Lit.wf, IntKind.min, IntKind.max, IntKind.signed, IntKind.bits] at this; exact ⟨by omega, by omega⟩
  have i1 : Wd n1 := by have := w1; simp [Lit.wf, IntKind.min, IntKind.max, IntKind.signed, IntKind.bits] at this; exact ⟨by omega, by omega⟩
  have walk := (aluFolds_pure i0 i1 hl hcap).calls ⟨hT, hrow⟩
  refine walk.mono fun e W' ⟨he, hb⟩ => ?_
  subst he
  exact ⟨_, rfl, law_post kids full (by rw [Tryd.params8]; decide) hW' hAk rfl hbef rfl rfl rfl rfl u4 hb⟩
theorem lifted_AluFolds (os : Os) (started : os.Started) (H : Type) (enc : TypeId × Value → H) (F : Stop.Interp) :
    ReturnsInHanded {} Tryd.checked os 8 .any ((OpenSpec.ofChange Rows.aluFoldsSpec).preRow enc Tryd.prog Tryd.f8 Rows.aluFoldsRow.domain false Rows.aluFoldsRow.laid) (((OpenSpec.ofChange Rows.aluFoldsSpec).at F).post enc Tryd.prog Tryd.f8 false true false false) := by
  have hx : DataW.whole enc Tryd.prog ((laidWorld os).forCall (fun _ _ => 0) ⟨#[], #[.int .i64 0, .int .u64 0, .slice none 0 0], []⟩).memory Tryd.f8.params.toList Rows.aluFoldsSpec.vars false (#[.int .i64 0, .int .u64 0, .slice none 0 0] : Array Value).toList 8 = some ([.lit (.int .i64 0), .lit (.int .u64 0), .nil], [], []) := by kernel_rfl
  refine returnsInHanded_of_row (C := Tryd.checked) (s := OpenSpec.ofChange Rows.aluFoldsSpec) own started (by kernel_rfl) Tryd.func8
    (witness_row_atRef (enc := enc) (C := Tryd.checked) false (laidWorld os) #[.int .i64 0, .int .u64 0, .slice none 0 0] rfl (by kernel_rfl) (by kernel_rfl) (by kernel_rfl)
      (OpenSpec.preRow_of_cond 8 hx (by kernel_rfl) (fun k hk => by cases hk) (by kernel_rfl) (laid_met os _))) ?_
  intro W base args ds gs before hval hW _ _ _ hL _ _
  exact contract_AluFolds H enc W base args ds gs before hval hW hL
theorem said_AluFolds : Rows.AluFoldsSaid :=
  OpenClaim.holds_of_cond 8 Tryd.f8 rfl rfl rfl rfl rfl rfl rfl ⟨rfl, rfl, rfl, rfl, rfl⟩ rfl rfl rfl rfl rfl (by kernel_rfl) Tryd.func8 (by kernel_rfl)
    (of_decide_eq_true (by kernel_rfl)) (by unfold Func.isWrapper; first | (rw [if_pos (by decide +kernel)]; kernel_rfl) | (rw [if_neg (by decide +kernel)]; exact ⟨rfl, rfl⟩))
    (fun os started H enc _ F => by rw [OpenClaim.pre_eq_preRow]; exact lifted_AluFolds os started H enc F)
theorem plain_AluFolds (f : FuncId) (fn : Func) (hf : Tryd.pinned.checked.prog.funcNamed "detent/detentlaw16.AluFolds" = some f) (hfn : Tryd.pinned.checked.prog.funcs[f]? = some fn) :
    false = Tryd.pinned.checked.prog.looks [] ∧ ∀ (j : Nat) t, fn.params[j]? = some t → Tryd.pinned.checked.prog.wantsStandIn t = false := by
  obtain rfl : f = 8 := Option.some.inj ((show Tryd.prog.funcNamed "detent/detentlaw16.AluFolds" = some 8 by kernel_rfl).symm.trans hf) |>.symm
  obtain rfl : fn = Tryd.f8 := (Option.some.inj (Tryd.func8.symm.trans hfn)).symm
  refine ⟨by kernel_rfl, fun j t ht => ?_⟩
  rw [Tryd.params8] at ht
  have hm := Array.mem_of_getElem? ht
  have hall : ∀ t ∈ (#[3, 22, 37] : Array TypeId), Tryd.prog.wantsStandIn t = false := by
    intro t ht
    simp only [List.mem_toArray, List.mem_cons, List.not_mem_nil, or_false] at ht
    rcases ht with rfl | rfl | rfl <;> kernel_rfl
  exact hall t hm
theorem aluFolds_card : Rows.AluFoldsCardSaid :=
  Claim7.holds_tied_plain_at .later [] _ _ _ _ said_AluFolds (fun _ h => by cases h) (by kernel_rfl) (fun _ h => by cases h) aluFolds_row_tie rfl ⟨rfl, rfl⟩ (by kernel_rfl) rfl plain_AluFolds (by kernel_rfl)
end Go.Proofs.YtpfoecmianohjaaDoor

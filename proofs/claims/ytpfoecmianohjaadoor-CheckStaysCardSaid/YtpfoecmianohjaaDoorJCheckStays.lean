/-
  Proved: the statement CheckStaysCardSaid, as the row gives it, under no condition of its own.
-/
import Derived.Test.YtpfoecmianohjaaDoorJ2
import Derived.Test.YtpfoecmianohjaaDoorC20
set_option linter.all false
set_option linter.unusedSimpArgs false
set_option linter.unusedVariables false
namespace Go.Proofs.YtpfoecmianohjaaDoor
open Go Go.Sl Go.ChangeShapes Go.WideShapes Go.ChangeAt Go.RowKit
set_option maxRecDepth 100000
theorem contract_CheckStays (H : Type) (enc : TypeId × Value → H) (W : World) (base : Nat) (args : Array Value) (ds gs : List (DataW H)) (before : List MemPlace)
    (hval : ∀ (j : Nat) t v, Tryd.f13.params[j]? = some t → args[j]? = some v → Value.okWide Tryd.prog W .any base t v)
    (hW : DataW.Whole enc Tryd.prog Tryd.f13.params.toList Rows.checkStaysSpec.vars false W args.toList ds gs before) (hL : laidMetH Tryd.prog Rows.checkStaysRow.laid W) :
    Calls Tryd.prog 13 args W fun e W' => ∃ v, e = .returned v ∧ Rows.checkStaysSpec.post enc Tryd.prog Tryd.f13 false true false false W args v W' := by
  have hT : Tab W := tab_laid hL
  have hW' := hW
  obtain ⟨p, q, hA0, hV, hbef, hfz, hnd⟩ := hW
  have hA : DataW.TrodAll enc Tryd.prog W 0 (fun _ => true) true Tryd.f13.params.toList args.toList ds p := hA0
  have hAk := hA
  rw [Tryd.params13] at hA hval
  obtain ⟨rfl, rfl⟩ := trodVars_none hV
  obtain ⟨v0, vs0, d0, ds0, p0, q0, hargs, rfl, hp, h0, r0⟩ := trodAll_cons hA
  obtain ⟨v1, vs1, d1, ds1, p1, q1, rfl, rfl, rfl, h1, r1⟩ := trodAll_cons r0
  obtain ⟨v2, vs2, d2, ds2, p2, q2, rfl, rfl, rfl, h2, r2⟩ := trodAll_cons r1
  obtain ⟨rfl, rfl, rfl⟩ := trodAll_nil r2
  obtain rfl : args = #[v0, v1, v2] := by cases args; simp_all
  obtain ⟨adw, lenw, capw, rfl⟩ := okWide_slice u57 (hval 2 57 v2 rfl rfl)
  obtain ⟨fuel2, hf2⟩ := h2
  obtain ⟨ws, rfl, hways⟩ := open_boolrow hf2
  obtain ⟨ad, len, cap, rfl⟩ := okWide_slice u43 (hval 0 43 v0 rfl rfl)
  obtain ⟨fuel0, hf0⟩ := h0
  obtain ⟨l, rfl, hcap, hmax, hl, hrow⟩ := open_inss hf0
  obtain ⟨n1, rfl, rfl, rfl, w1⟩ := open_bool u4 (hval 1 4 v1 rfl rfl) h1
  have walk := (checkStays_pure (s := n1) (aw := adw) (capw := capw) hl hcap).calls ⟨hT, hrow, hways⟩
  refine walk.mono fun e W' ⟨he, hb⟩ => ?_
  subst he
  exact ⟨_, rfl, law_post kids full (by rw [Tryd.params13]; decide) hW' hAk rfl hbef rfl rfl rfl rfl u4 hb⟩
theorem lifted_CheckStays (os : Os) (started : os.Started) (H : Type) (enc : TypeId × Value → H) (F : Stop.Interp) :
    ReturnsInHanded {} Tryd.checked os 13 .any ((OpenSpec.ofChange Rows.checkStaysSpec).preRow enc Tryd.prog Tryd.f13 Rows.checkStaysRow.domain false Rows.checkStaysRow.laid) (((OpenSpec.ofChange Rows.checkStaysSpec).at F).post enc Tryd.prog Tryd.f13 false true false false) := by
  have hx : DataW.whole enc Tryd.prog ((laidWorld os).forCall (fun _ _ => 0) ⟨#[], #[.slice none 0 0, .bool false, .slice none 0 0], []⟩).memory Tryd.f13.params.toList Rows.checkStaysSpec.vars false (#[.slice none 0 0, .bool false, .slice none 0 0] : Array Value).toList 8 = some ([.nil, .lit (.bool false), .nil], [], []) := by kernel_rfl
  refine returnsInHanded_of_row (C := Tryd.checked) (s := OpenSpec.ofChange Rows.checkStaysSpec) own started (by kernel_rfl) Tryd.func13
    (witness_row_atRef (enc := enc) (C := Tryd.checked) false (laidWorld os) #[.slice none 0 0, .bool false, .slice none 0 0] rfl (by kernel_rfl) (by kernel_rfl) (by kernel_rfl)
      (OpenSpec.preRow_of_cond 8 hx (by kernel_rfl) (fun k hk => by cases hk) (by kernel_rfl) (laid_met os _))) ?_
  intro W base args ds gs before hval hW _ _ _ hL _ _
  exact contract_CheckStays H enc W base args ds gs before hval hW hL
theorem said_CheckStays : Rows.CheckStaysSaid :=
  OpenClaim.holds_of_cond 13 Tryd.f13 rfl rfl rfl rfl rfl rfl rfl ⟨rfl, rfl, rfl, rfl, rfl⟩ rfl rfl rfl rfl rfl (by kernel_rfl) Tryd.func13 (by kernel_rfl)
    (of_decide_eq_true (by kernel_rfl)) (by unfold Func.isWrapper; first | (rw [if_pos (by decide +kernel)]; kernel_rfl) | (rw [if_neg (by decide +kernel)]; exact ⟨rfl, rfl⟩))
    (fun os started H enc _ F => by rw [OpenClaim.pre_eq_preRow]; exact lifted_CheckStays os started H enc F)
theorem plain_CheckStays (f : FuncId) (fn : Func) (hf : Tryd.pinned.checked.prog.funcNamed "detent/detentlaw17.CheckStays" = some f) (hfn : Tryd.pinned.checked.prog.funcs[f]? = some fn) :
    false = Tryd.pinned.checked.prog.looks [] ∧ ∀ (j : Nat) t, fn.params[j]? = some t → Tryd.pinned.checked.prog.wantsStandIn t = false := by
  obtain rfl : f = 13 := Option.some.inj ((show Tryd.prog.funcNamed "detent/detentlaw17.CheckStays" = some 13 by kernel_rfl).symm.trans hf) |>.symm
  obtain rfl : fn = Tryd.f13 := (Option.some.inj (Tryd.func13.symm.trans hfn)).symm
  refine ⟨by kernel_rfl, fun j t ht => ?_⟩
  rw [Tryd.params13] at ht
  have hm := Array.mem_of_getElem? ht
  have hall : ∀ t ∈ (#[43, 4, 57] : Array TypeId), Tryd.prog.wantsStandIn t = false := by
    intro t ht
    simp only [List.mem_toArray, List.mem_cons, List.not_mem_nil, or_false] at ht
    rcases ht with rfl | rfl | rfl <;> kernel_rfl
  exact hall t hm
theorem checkStays_card : Rows.CheckStaysCardSaid :=
  Claim7.holds_tied_plain_at .later [] _ _ _ _ said_CheckStays (fun _ h => by cases h) (by kernel_rfl) (fun _ h => by cases h) checkStays_row_tie rfl ⟨rfl, rfl⟩ (by kernel_rfl) rfl plain_CheckStays (by kernel_rfl)
end Go.Proofs.YtpfoecmianohjaaDoor

/-
  Proved: the statement TimerOnceCardSaid, as the row gives it, under no condition of its own.
-/
import Derived.Test.YtcmfldfeakmdoaaGreatDoorToT7
import Derived.Test.YtcmfldfeakmdoaaGreatDoorToT8
import Derived.Test.YtcmfldfeakmdoaaGreatDoorToA
set_option linter.all false
set_option linter.unusedSimpArgs false
set_option linter.unusedVariables false
namespace Go.Proofs.YtcmfldfeakmdoaaGreatDoor
open Go Go.Sl Go.ChangeShapes Go.WideShapes Go.ChangeAt Go.RowKit
set_option maxRecDepth 100000
theorem u39 : Tryz.prog.underlying 39 = some (.slice 45) := by kernel_rfl
theorem k39 : Tryz.prog.cellsOf 39 = 1 := by kernel_rfl
set_option maxHeartbeats 2000000 in
theorem contract_TimerOnce (H : Type) (enc : TypeId × Value → H) (W : World) (base : Nat) (args : Array Value) (ds gs : List (DataW H)) (before : List MemPlace)
    (hval : ∀ (j : Nat) t v, Tryz.f4.params[j]? = some t → args[j]? = some v → Value.okWide Tryz.prog W .any base t v)
    (hW : DataW.Whole enc Tryz.prog Tryz.f4.params.toList Rows.timerOnceSpec.vars false W args.toList ds gs before) (hL : laidMetH Tryz.prog Rows.timerOnceRow.laid W) :
    Calls Tryz.prog 4 args W fun e W' => ∃ v, e = .returned v ∧ Rows.timerOnceSpec.post enc Tryz.prog Tryz.f4 false true false false W args v W' := by
  have hT : Tab W := tab_laid hL
  have hW' := hW
  obtain ⟨p, q, hA0, hV, hbef, hfz, hnd⟩ := hW
  have hA : DataW.TrodAll enc Tryz.prog W 0 (fun _ => true) true Tryz.f4.params.toList args.toList ds p := hA0
  have hAk := hA
  rw [Tryz.params4] at hA hval
  obtain ⟨rfl, rfl⟩ := trodVars_none hV
  obtain ⟨v0, vs0, d0, ds0, p0, q0, hargs, rfl, hp, h0, r0⟩ := trodAll_cons hA
  obtain ⟨v1, vs1, d1, ds1, p1, q1, rfl, rfl, rfl, h1, r1⟩ := trodAll_cons r0
  obtain ⟨rfl, rfl, rfl⟩ := trodAll_nil r1
  obtain rfl : args = #[v0, v1] := by cases args; simp_all
  obtain ⟨fuel0, hf0⟩ := h0
  obtain ⟨z0, rfl, hz0⟩ : ∃ z, v0 = .int .u64 z ∧ 0 ≤ z ∧ z ≤ 18446744073709551615 := by
    obtain ⟨z, hzv⟩ := okWide_int u22 (hval 0 22 v0 rfl rfl)
    subst hzv
    obtain ⟨m, e, _, hw⟩ := DataW.trod_int u22 hf0
    cases e
    exact ⟨_, rfl, wf_bd hw⟩
  obtain ⟨n0, rfl⟩ : ∃ n : Nat, z0 = (n : Int) := ⟨z0.toNat, by omega⟩
  obtain ⟨ad1, len1, cap1, rfl⟩ := okWide_slice u39 (hval 1 39 v1 rfl rfl)
  obtain ⟨fuel1, hf1⟩ := h1
  obtain ⟨l1, rfl, hcap1, hmax1, hok1, hrow1⟩ := flat_rows (f := tcC) u39 flat45 ce45 (by decide) (fun _ h => tcC_of h) tcC_len hf1
  have walk := (timerOnce_pure (now := n0) (acts := l1) (capa := cap1) (by omega) hok1 (Nat.le_trans hcap1 (Nat.le_trans hmax1 (by decide)))).calls ⟨hT, hrow1⟩
  refine walk.mono fun e W' ⟨he, hb⟩ => ?_
  subst he
  exact ⟨_, rfl, law_post kids full (by rw [Tryz.params4]; decide) hW' hAk rfl hbef rfl rfl rfl rfl u4 hb⟩
theorem lifted_TimerOnce (os : Os) (started : os.Started) (H : Type) (enc : TypeId × Value → H) (F : Stop.Interp) :
    ReturnsInHanded {} Tryz.checked os 4 .any ((OpenSpec.ofChange Rows.timerOnceSpec).preRow enc Tryz.prog Tryz.f4 Rows.timerOnceRow.domain false Rows.timerOnceRow.laid) (((OpenSpec.ofChange Rows.timerOnceSpec).at F).post enc Tryz.prog Tryz.f4 false true false false) := by
  have hx : DataW.whole enc Tryz.prog ((laidWorld os).forCall (fun _ _ => 0) ⟨#[], #[.int .u64 0, .slice none 0 0], []⟩).memory Tryz.f4.params.toList Rows.timerOnceSpec.vars false (#[.int .u64 0, .slice none 0 0] : Array Value).toList 8 = some ([.lit (.int .u64 0), .nil], [], []) := by kernel_rfl
  refine returnsInHanded_of_row (C := Tryz.checked) (s := OpenSpec.ofChange Rows.timerOnceSpec) own started (by kernel_rfl) Tryz.func4
    (witness_row_atRef (enc := enc) (C := Tryz.checked) false (laidWorld os) #[.int .u64 0, .slice none 0 0] rfl (by kernel_rfl) (by kernel_rfl) (by kernel_rfl)
      (OpenSpec.preRow_of_cond 8 hx (by kernel_rfl) (fun k hk => by cases hk) (by kernel_rfl) (laid_met os _))) ?_
  intro W base args ds gs before hval hW _ _ _ hL _ _
  exact contract_TimerOnce H enc W base args ds gs before hval hW hL
theorem said_TimerOnce : Rows.TimerOnceSaid :=
  OpenClaim.holds_of_cond 4 Tryz.f4 rfl rfl rfl rfl rfl rfl rfl ⟨rfl, rfl, rfl, rfl, rfl⟩ rfl rfl rfl rfl rfl (by kernel_rfl) Tryz.func4 (by kernel_rfl)
    (of_decide_eq_true (by kernel_rfl)) (by unfold Func.isWrapper; first | (rw [if_pos (by decide +kernel)]; kernel_rfl) | (rw [if_neg (by decide +kernel)]; exact ⟨rfl, rfl⟩))
    (fun os started H enc _ F => by rw [OpenClaim.pre_eq_preRow]; exact lifted_TimerOnce os started H enc F)
theorem plain_TimerOnce (f : FuncId) (fn : Func) (hf : Tryz.pinned.checked.prog.funcNamed "detent/detentlaw26.TimerOnce" = some f) (hfn : Tryz.pinned.checked.prog.funcs[f]? = some fn) :
    false = Tryz.pinned.checked.prog.looks [] ∧ ∀ (j : Nat) t, fn.params[j]? = some t → Tryz.pinned.checked.prog.wantsStandIn t = false := by
  obtain rfl : f = 4 := Option.some.inj ((show Tryz.prog.funcNamed "detent/detentlaw26.TimerOnce" = some 4 by kernel_rfl).symm.trans hf) |>.symm
  obtain rfl : fn = Tryz.f4 := (Option.some.inj (Tryz.func4.symm.trans hfn)).symm
  refine ⟨by kernel_rfl, fun j t ht => ?_⟩
  rw [Tryz.params4] at ht
  have hm := Array.mem_of_getElem? ht
  have hall : ∀ t ∈ (#[22, 39] : Array TypeId), Tryz.prog.wantsStandIn t = false := by
    intro t ht
    simp only [List.mem_toArray, List.mem_cons, List.not_mem_nil, or_false] at ht
    rcases ht with rfl | rfl <;> kernel_rfl
  exact hall t hm
theorem timerOnce_card : Rows.TimerOnceCardSaid :=
  Claim7.holds_tied_plain_at .later [] _ _ _ _ said_TimerOnce (fun _ h => by cases h) (by kernel_rfl) (fun _ h => by cases h) timerOnce_row_tie rfl ⟨rfl, rfl⟩ (by kernel_rfl) rfl plain_TimerOnce (by kernel_rfl)
end Go.Proofs.YtcmfldfeakmdoaaGreatDoor

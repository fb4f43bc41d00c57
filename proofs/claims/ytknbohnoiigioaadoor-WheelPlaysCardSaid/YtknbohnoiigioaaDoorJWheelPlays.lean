/-
  Proved: the statement WheelPlaysCardSaid, as the row gives it, under no condition of its own.
-/
import Derived.Test.YtknbohnoiigioaaDoorJ0
import Derived.Test.YtknbohnoiigioaaDoorW43
set_option linter.all false
set_option linter.unusedSimpArgs false
set_option linter.unusedVariables false
namespace Go.Proofs.YtknbohnoiigioaaDoor
open Go Go.Sl Go.ChangeShapes Go.WideShapes Go.ChangeAt Go.RowKit
set_option maxRecDepth 100000
theorem u89 : Tryd.prog.underlying 89 = some (.slice 62) := by kernel_rfl
theorem k89 : Tryd.prog.cellsOf 89 = 1 := by kernel_rfl
set_option maxHeartbeats 2000000 in
theorem contract_WheelPlays (H : Type) (enc : TypeId × Value → H) (W : World) (base : Nat) (args : Array Value) (ds gs : List (DataW H)) (before : List MemPlace)
    (hval : ∀ (j : Nat) t v, Tryd.f11.params[j]? = some t → args[j]? = some v → Value.okWide Tryd.prog W .any base t v)
    (hW : DataW.Whole enc Tryd.prog Tryd.f11.params.toList Rows.wheelPlaysSpec.vars false W args.toList ds gs before) (hL : laidMetH Tryd.prog Rows.wheelPlaysRow.laid W) :
    Calls Tryd.prog 11 args W fun e W' => ∃ v, e = .returned v ∧ Rows.wheelPlaysSpec.post enc Tryd.prog Tryd.f11 false true false false W args v W' := by
  have hT : Tab W := tab_laid hL
  have hW' := hW
  obtain ⟨p, q, hA0, hV, hbef, hfz, hnd⟩ := hW
  have hA : DataW.TrodAll enc Tryd.prog W 0 (fun _ => true) true Tryd.f11.params.toList args.toList ds p := hA0
  have hAk := hA
  rw [Tryd.params11] at hA hval
  obtain ⟨rfl, rfl⟩ := trodVars_none hV
  obtain ⟨v0, vs0, d0, ds0, p0, q0, hargs, rfl, hp, h0, r0⟩ := trodAll_cons hA
  obtain ⟨v1, vs1, d1, ds1, p1, q1, rfl, rfl, rfl, h1, r1⟩ := trodAll_cons r0
  obtain ⟨rfl, rfl, rfl⟩ := trodAll_nil r1
  obtain rfl : args = #[v0, v1] := by cases args; simp_all
  obtain ⟨fuel0, hf0⟩ := h0
  obtain ⟨z0, rfl, hz0⟩ : ∃ z, v0 = .int .u64 z ∧ 0 ≤ z ∧ z ≤ 18446744073709551615 := by
    obtain ⟨z, hzv⟩ := okWide_int u22 (hval 0 22 v0 rfl rfl)
    subst hzv
    obtain ⟨m, e, _, hw⟩ := DataW.trod_int u22 hf0
    cases e
    exact ⟨_, rfl, wf_bd hw⟩
  obtain ⟨n0, rfl⟩ : ∃ n : Nat, z0 = (n : Int) := ⟨z0.toNat, by omega⟩
  obtain ⟨ad1, len1, cap1, rfl⟩ := okWide_slice u89 (hval 1 89 v1 rfl rfl)
  obtain ⟨fuel1, hf1⟩ := h1
  obtain ⟨l1, rfl, hcap1, hmax1, hok1, hrow1⟩ := flat_rows (f := actC) u89 flat62 ce62 (by decide) (fun _ h => actC_of h) actC_len hf1
  have walk := (wheelPlays_pure (now := n0) (capa := cap1) (by omega) hok1 (Nat.le_trans hcap1 (Nat.le_trans hmax1 (by decide)))).calls ⟨hT, hrow1⟩
  refine walk.mono fun e W' ⟨he, hb⟩ => ?_
  subst he
  exact ⟨_, rfl, law_post kids full (by rw [Tryd.params11]; decide) hW' hAk rfl hbef rfl rfl rfl rfl u4 hb⟩
theorem lifted_WheelPlays (os : Os) (started : os.Started) (H : Type) (enc : TypeId × Value → H) (F : Stop.Interp) :
    ReturnsInHanded {} Tryd.checked os 11 .any ((OpenSpec.ofChange Rows.wheelPlaysSpec).preRow enc Tryd.prog Tryd.f11 Rows.wheelPlaysRow.domain false Rows.wheelPlaysRow.laid) (((OpenSpec.ofChange Rows.wheelPlaysSpec).at F).post enc Tryd.prog Tryd.f11 false true false false) := by
  have hx : DataW.whole enc Tryd.prog ((laidWorld os).forCall (fun _ _ => 0) ⟨#[], #[.int .u64 0, .slice none 0 0], []⟩).memory Tryd.f11.params.toList Rows.wheelPlaysSpec.vars false (#[.int .u64 0, .slice none 0 0] : Array Value).toList 8 = some ([.lit (.int .u64 0), .nil], [], []) := by kernel_rfl
  refine returnsInHanded_of_row (C := Tryd.checked) (s := OpenSpec.ofChange Rows.wheelPlaysSpec) own started (by kernel_rfl) Tryd.func11
    (witness_row_atRef (enc := enc) (C := Tryd.checked) false (laidWorld os) #[.int .u64 0, .slice none 0 0] rfl (by kernel_rfl) (by kernel_rfl) (by kernel_rfl)
      (OpenSpec.preRow_of_cond 8 hx (by kernel_rfl) (fun k hk => by cases hk) (by kernel_rfl) (laid_met os _))) ?_
  intro W base args ds gs before hval hW _ _ _ hL _ _
  exact contract_WheelPlays H enc W base args ds gs before hval hW hL
theorem said_WheelPlays : Rows.WheelPlaysSaid :=
  OpenClaim.holds_of_cond 11 Tryd.f11 rfl rfl rfl rfl rfl rfl rfl ⟨rfl, rfl, rfl, rfl, rfl⟩ rfl rfl rfl rfl rfl (by kernel_rfl) Tryd.func11 (by kernel_rfl)
    (of_decide_eq_true (by kernel_rfl)) (by unfold Func.isWrapper; first | (rw [if_pos (by decide +kernel)]; kernel_rfl) | (rw [if_neg (by decide +kernel)]; exact ⟨rfl, rfl⟩))
    (fun os started H enc _ F => by rw [OpenClaim.pre_eq_preRow]; exact lifted_WheelPlays os started H enc F)
theorem plain_WheelPlays (f : FuncId) (fn : Func) (hf : Tryd.pinned.checked.prog.funcNamed "detent/detentlaw07.WheelPlays" = some f) (hfn : Tryd.pinned.checked.prog.funcs[f]? = some fn) :
    false = Tryd.pinned.checked.prog.looks [] ∧ ∀ (j : Nat) t, fn.params[j]? = some t → Tryd.pinned.checked.prog.wantsStandIn t = false := by
  obtain rfl : f = 11 := Option.some.inj ((show Tryd.prog.funcNamed "detent/detentlaw07.WheelPlays" = some 11 by kernel_rfl).symm.trans hf) |>.symm
  obtain rfl : fn = Tryd.f11 := (Option.some.inj (Tryd.func11.symm.trans hfn)).symm
  refine ⟨by kernel_rfl, fun j t ht => ?_⟩
  rw [Tryd.params11] at ht
  have hm := Array.mem_of_getElem? ht
  have hall : ∀ t ∈ (#[22, 89] : Array TypeId), Tryd.prog.wantsStandIn t = false := by
    intro t ht
    simp only [List.mem_toArray, List.mem_cons, List.not_mem_nil, or_false] at ht
    rcases ht with rfl | rfl <;> kernel_rfl
  exact hall t hm
theorem wheelPlays_card : Rows.WheelPlaysCardSaid :=
  Claim7.holds_tied_plain_at .later [] _ _ _ _ said_WheelPlays (fun _ h => by cases h) (by kernel_rfl) (fun _ h => by cases h) wheelPlays_row_tie rfl ⟨rfl, rfl⟩ (by kernel_rfl) rfl plain_WheelPlays (by kernel_rfl)
end Go.Proofs.YtknbohnoiigioaaDoor

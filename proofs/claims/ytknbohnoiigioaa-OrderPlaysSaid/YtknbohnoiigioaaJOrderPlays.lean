/-
  Proved: the statement OrderPlaysSaid, as the row gives it, under no condition of its own.
-/
import Derived.Test.YtknbohnoiigioaaJ0
import Derived.Test.YtknbohnoiigioaaO12
set_option linter.all false
set_option linter.unusedSimpArgs false
set_option linter.unusedVariables false
namespace Go.Proofs.Ytknbohnoiigioaa
open Go Go.Sl Go.ChangeShapes Go.WideShapes Go.ChangeAt Go.RowKit
set_option maxRecDepth 100000
set_option maxHeartbeats 2000000 in
theorem contract_OrderPlays (H : Type) (enc : TypeId × Value → H) (W : World) (base : Nat) (args : Array Value) (ds gs : List (DataW H)) (before : List MemPlace)
    (hval : ∀ (j : Nat) t v, Try.f5.params[j]? = some t → args[j]? = some v → Value.okWide Try.prog W .any base t v)
    (hW : DataW.Whole enc Try.prog Try.f5.params.toList Rows.orderPlaysSpec.vars false W args.toList ds gs before) :
    Calls Try.prog 5 args W fun e W' => ∃ v, e = .returned v ∧ Rows.orderPlaysSpec.post enc Try.prog Try.f5 false true false false W args v W' := by
  have hW' := hW
  obtain ⟨p, q, hA0, hV, hbef, hfz, hnd⟩ := hW
  have hA : DataW.TrodAll enc Try.prog W 0 (fun _ => true) true Try.f5.params.toList args.toList ds p := hA0
  have hAk := hA
  rw [Try.params5] at hA hval
  obtain ⟨rfl, rfl⟩ := trodVars_none hV
  obtain ⟨v0, vs0, d0, ds0, p0, q0, hargs, rfl, hp, h0, r0⟩ := trodAll_cons hA
  obtain ⟨v1, vs1, d1, ds1, p1, q1, rfl, rfl, rfl, h1, r1⟩ := trodAll_cons r0
  obtain ⟨v2, vs2, d2, ds2, p2, q2, rfl, rfl, rfl, h2, r2⟩ := trodAll_cons r1
  obtain ⟨rfl, rfl, rfl⟩ := trodAll_nil r2
  obtain rfl : args = #[v0, v1, v2] := by cases args; simp_all
  obtain ⟨fuel0, hf0⟩ := h0
  obtain ⟨z0, rfl, hz0⟩ : ∃ z, v0 = .int .i64 z ∧ -9223372036854775808 ≤ z ∧ z ≤ 9223372036854775807 := by
    obtain ⟨z, hzv⟩ := okWide_int u3 (hval 0 3 v0 rfl rfl)
    subst hzv
    obtain ⟨m, e, _, hw⟩ := DataW.trod_int u3 hf0
    cases e
    exact ⟨_, rfl, wf_bd hw⟩
  obtain ⟨ad1, len1, cap1, rfl⟩ := okWide_slice u45 (hval 1 45 v1 rfl rfl)
  obtain ⟨fuel1, hf1⟩ := h1
  obtain ⟨l1, rfl, hcap1, hmax1, hok1, hrow1⟩ := flat_rows (f := actC) u45 flat47 ce47 (by decide) (fun _ h => actC_of h) actC_len hf1
  obtain ⟨fuel2, hf2⟩ := h2
  obtain ⟨z2, rfl, hz2⟩ : ∃ z, v2 = .int .i64 z ∧ -9223372036854775808 ≤ z ∧ z ≤ 9223372036854775807 := by
    obtain ⟨z, hzv⟩ := okWide_int u3 (hval 2 3 v2 rfl rfl)
    subst hzv
    obtain ⟨m, e, _, hw⟩ := DataW.trod_int u3 hf2
    cases e
    exact ⟨_, rfl, wf_bd hw⟩
  have walk := (orderPlays_pure (z := z0) (k := z2) (cap := cap1) (Nat.le_trans hcap1 hmax1)).calls hrow1
  refine walk.mono fun e W' ⟨he, hb⟩ => ?_
  subst he
  exact ⟨_, rfl, law_post kids full (by rw [Try.params5]; decide) hW' hAk rfl hbef rfl rfl rfl rfl u4 hb⟩
theorem lifted_OrderPlays (os : Os) (started : os.Started) (H : Type) (enc : TypeId × Value → H) (F : Stop.Interp) :
    ReturnsInHanded {} Try.checked os 5 .any ((OpenSpec.ofChange Rows.orderPlaysSpec).preRow enc Try.prog Try.f5 Rows.orderPlaysRow.domain false Rows.orderPlaysRow.laid) (((OpenSpec.ofChange Rows.orderPlaysSpec).at F).post enc Try.prog Try.f5 false true false false) := by
  have hx : DataW.whole enc Try.prog ((laidWorld os).forCall (fun _ _ => 0) ⟨#[], #[.int .i64 0, .slice none 0 0, .int .i64 0], []⟩).memory Try.f5.params.toList Rows.orderPlaysSpec.vars false (#[.int .i64 0, .slice none 0 0, .int .i64 0] : Array Value).toList 8 = some ([.lit (.int .i64 0), .nil, .lit (.int .i64 0)], [], []) := by kernel_rfl
  refine returnsInHanded_of_row (C := Try.checked) (s := OpenSpec.ofChange Rows.orderPlaysSpec) own started (by kernel_rfl) Try.func5
    (witness_row_atRef (enc := enc) (C := Try.checked) false (laidWorld os) #[.int .i64 0, .slice none 0 0, .int .i64 0] rfl (by kernel_rfl) (by kernel_rfl) (by kernel_rfl)
      (OpenSpec.preRow_of_cond 8 hx (by kernel_rfl) (fun k hk => by cases hk) (by kernel_rfl) (laid_met os _))) ?_
  intro W base args ds gs before hval hW _ _ _ _ _ _
  exact contract_OrderPlays H enc W base args ds gs before hval hW
theorem said_OrderPlays : Rows.OrderPlaysSaid :=
  OpenClaim.holds_of_cond 5 Try.f5 rfl rfl rfl rfl rfl rfl rfl ⟨rfl, rfl, rfl, rfl, rfl⟩ rfl rfl rfl rfl rfl (by kernel_rfl) Try.func5 (by kernel_rfl)
    (of_decide_eq_true (by kernel_rfl)) (by unfold Func.isWrapper; first | (rw [if_pos (by decide +kernel)]; kernel_rfl) | (rw [if_neg (by decide +kernel)]; exact ⟨rfl, rfl⟩))
    (fun os started H enc _ F => by rw [OpenClaim.pre_eq_preRow]; exact lifted_OrderPlays os started H enc F)
end Go.Proofs.Ytknbohnoiigioaa

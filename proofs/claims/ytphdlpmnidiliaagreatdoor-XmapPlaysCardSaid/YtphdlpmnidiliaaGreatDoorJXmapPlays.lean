/-
  Proved: the statement XmapPlaysCardSaid, as the row gives it, under no condition of its own.
-/
import Derived.Test.YtphdlpmnidiliaaGreatDoorXpT6
import Derived.Test.YtphdlpmnidiliaaGreatDoorXpT10
import Derived.Test.YtphdlpmnidiliaaGreatDoorXpA
set_option linter.all false
set_option linter.unusedSimpArgs false
set_option linter.unusedVariables false
namespace Go.Proofs.YtphdlpmnidiliaaGreatDoor
open Go Go.Sl Go.ChangeShapes Go.WideShapes Go.ChangeAt Go.RowKit
set_option maxRecDepth 100000
theorem u51 : Tryz.prog.underlying 51 = some (.slice 62) := by kernel_rfl
set_option maxHeartbeats 2000000 in
theorem contract_XmapPlays (H : Type) (enc : TypeId × Value → H) (W : World) (base : Nat) (args : Array Value) (ds gs : List (DataW H)) (before : List MemPlace)
    (hval : ∀ (j : Nat) t v, Tryz.f6.params[j]? = some t → args[j]? = some v → Value.okWide Tryz.prog W .any base t v)
    (hW : DataW.Whole enc Tryz.prog Tryz.f6.params.toList Rows.xmapPlaysSpec.vars false W args.toList ds gs before) (hL : laidMetH Tryz.prog Rows.xmapPlaysRow.laid W) :
    Calls Tryz.prog 6 args W fun e W' => ∃ v, e = .returned v ∧ Rows.xmapPlaysSpec.post enc Tryz.prog Tryz.f6 false true false false W args v W' := by
  have hT : Tab W := tab_laid hL
  have hW' := hW
  obtain ⟨p, q, hA0, hV, hbef, hfz, hnd⟩ := hW
  have hA : DataW.TrodAll enc Tryz.prog W 0 (fun _ => true) true Tryz.f6.params.toList args.toList ds p := hA0
  have hAk := hA
  rw [Tryz.params6] at hA hval
  obtain ⟨rfl, rfl⟩ := trodVars_none hV
  obtain ⟨v0, vs0, d0, ds0, p0, q0, hargs, rfl, hp, h0, r0⟩ := trodAll_cons hA
  obtain ⟨v1, vs1, d1, ds1, p1, q1, rfl, rfl, rfl, h1, r1⟩ := trodAll_cons r0
  obtain ⟨v2, vs2, d2, ds2, p2, q2, rfl, rfl, rfl, h2, r2⟩ := trodAll_cons r1
  obtain ⟨v3, vs3, d3, ds3, p3, q3, rfl, rfl, rfl, h3, r3⟩ := trodAll_cons r2
  obtain ⟨rfl, rfl, rfl⟩ := trodAll_nil r3
  obtain rfl : args = #[v0, v1, v2, v3] := by cases args; simp_all
  obtain ⟨fuel0, hf0⟩ := h0
  obtain ⟨z0, rfl, hz0⟩ : ∃ z, v0 = .int .i64 z ∧ -9223372036854775808 ≤ z ∧ z ≤ 9223372036854775807 := by
    obtain ⟨z, hzv⟩ := okWide_int u3 (hval 0 3 v0 rfl rfl)
    subst hzv
    obtain ⟨m, e, _, hw⟩ := DataW.trod_int u3 hf0
    cases e
    exact ⟨_, rfl, wf_bd hw⟩
  obtain ⟨fuel1, hf1⟩ := h1
  obtain ⟨z1, rfl, hz1⟩ : ∃ z, v1 = .int .i64 z ∧ -9223372036854775808 ≤ z ∧ z ≤ 9223372036854775807 := by
    obtain ⟨z, hzv⟩ := okWide_int u3 (hval 1 3 v1 rfl rfl)
    subst hzv
    obtain ⟨m, e, _, hw⟩ := DataW.trod_int u3 hf1
    cases e
    exact ⟨_, rfl, wf_bd hw⟩
  obtain ⟨fuel2, hf2⟩ := h2
  obtain ⟨z2, rfl, hz2⟩ : ∃ z, v2 = .int .i64 z ∧ -9223372036854775808 ≤ z ∧ z ≤ 9223372036854775807 := by
    obtain ⟨z, hzv⟩ := okWide_int u3 (hval 2 3 v2 rfl rfl)
    subst hzv
    obtain ⟨m, e, _, hw⟩ := DataW.trod_int u3 hf2
    cases e
    exact ⟨_, rfl, wf_bd hw⟩
  obtain ⟨ad3, len3, cap3, rfl⟩ := okWide_slice u51 (hval 3 51 v3 rfl rfl)
  obtain ⟨fuel3, hf3⟩ := h3
  obtain ⟨l3, rfl, hcap3, hmax3, hok3, hrow3⟩ := any_rows (f := axC) (ok := AxOk W) u51 axk62 (by decide) (fun h => ax_read h) axC_len hf3
  have walk := (xmapPlays_pure (kind := z0) (entries := z1) (words := z2) (acts := l3) (capa := cap3) (fun p hp => ⟨(hok3 p hp).1, (hok3 p hp).2.1, Nat.le_trans (hok3 p hp).2.1 (Nat.le_trans (hok3 p hp).2.2.1 (by decide))⟩) (Nat.le_trans hcap3 (Nat.le_trans hmax3 (by decide)))).calls ⟨hT, hrow3, fun p hp => (hok3 p hp).2.2.2⟩
  refine walk.mono fun e W' ⟨he, hb⟩ => ?_
  subst he
  exact ⟨_, rfl, law_post kids full (by rw [Tryz.params6]; decide) hW' hAk rfl hbef rfl rfl rfl rfl u4 hb⟩
theorem lifted_XmapPlays (os : Os) (started : os.Started) (H : Type) (enc : TypeId × Value → H) (F : Stop.Interp) :
    ReturnsInHanded {} Tryz.checked os 6 .any ((OpenSpec.ofChange Rows.xmapPlaysSpec).preRow enc Tryz.prog Tryz.f6 Rows.xmapPlaysRow.domain false Rows.xmapPlaysRow.laid) (((OpenSpec.ofChange Rows.xmapPlaysSpec).at F).post enc Tryz.prog Tryz.f6 false true false false) := by
  have hx : DataW.whole enc Tryz.prog ((laidWorld os).forCall (fun _ _ => 0) ⟨#[], #[.int .i64 0, .int .i64 0, .int .i64 0, .slice none 0 0], []⟩).memory Tryz.f6.params.toList Rows.xmapPlaysSpec.vars false (#[.int .i64 0, .int .i64 0, .int .i64 0, .slice none 0 0] : Array Value).toList 8 = some ([.lit (.int .i64 0), .lit (.int .i64 0), .lit (.int .i64 0), .nil], [], []) := by kernel_rfl
  refine returnsInHanded_of_row (C := Tryz.checked) (s := OpenSpec.ofChange Rows.xmapPlaysSpec) own started (by kernel_rfl) Tryz.func6
    (witness_row_atRef (enc := enc) (C := Tryz.checked) false (laidWorld os) #[.int .i64 0, .int .i64 0, .int .i64 0, .slice none 0 0] rfl (by kernel_rfl) (by kernel_rfl) (by kernel_rfl)
      (OpenSpec.preRow_of_cond 8 hx (by kernel_rfl) (fun k hk => by cases hk) (by kernel_rfl) (laid_met os _))) ?_
  intro W base args ds gs before hval hW _ _ _ hL _ _
  exact contract_XmapPlays H enc W base args ds gs before hval hW hL
theorem said_XmapPlays : Rows.XmapPlaysSaid :=
  OpenClaim.holds_of_cond 6 Tryz.f6 rfl rfl rfl rfl rfl rfl rfl ⟨rfl, rfl, rfl, rfl, rfl⟩ rfl rfl rfl rfl rfl (by kernel_rfl) Tryz.func6 (by kernel_rfl)
    (of_decide_eq_true (by kernel_rfl)) (by unfold Func.isWrapper; first | (rw [if_pos (by decide +kernel)]; kernel_rfl) | (rw [if_neg (by decide +kernel)]; exact ⟨rfl, rfl⟩))
    (fun os started H enc _ F => by rw [OpenClaim.pre_eq_preRow]; exact lifted_XmapPlays os started H enc F)
theorem plain_XmapPlays (f : FuncId) (fn : Func) (hf : Tryz.pinned.checked.prog.funcNamed "detent/detentlaw22.XmapPlays" = some f) (hfn : Tryz.pinned.checked.prog.funcs[f]? = some fn) :
    false = Tryz.pinned.checked.prog.looks [] ∧ ∀ (j : Nat) t, fn.params[j]? = some t → Tryz.pinned.checked.prog.wantsStandIn t = false := by
  obtain rfl : f = 6 := Option.some.inj ((show Tryz.prog.funcNamed "detent/detentlaw22.XmapPlays" = some 6 by kernel_rfl).symm.trans hf) |>.symm
  obtain rfl : fn = Tryz.f6 := (Option.some.inj (Tryz.func6.symm.trans hfn)).symm
  refine ⟨by kernel_rfl, fun j t ht => ?_⟩
  rw [Tryz.params6] at ht
  have hm := Array.mem_of_getElem? ht
  have hall : ∀ t ∈ (#[3, 3, 3, 51] : Array TypeId), Tryz.prog.wantsStandIn t = false := by
    intro t ht
    simp only [List.mem_toArray, List.mem_cons, List.not_mem_nil, or_false] at ht
    rcases ht with rfl | rfl | rfl | rfl <;> kernel_rfl
  exact hall t hm
theorem xmapPlays_card : Rows.XmapPlaysCardSaid :=
  Claim7.holds_tied_plain_at .later [] _ _ _ _ said_XmapPlays (fun _ h => by cases h) (by kernel_rfl) (fun _ h => by cases h) xmapPlays_row_tie rfl ⟨rfl, rfl⟩ (by kernel_rfl) rfl plain_XmapPlays (by kernel_rfl)
end Go.Proofs.YtphdlpmnidiliaaGreatDoor

/-
  Proved: the statement XmapOldestCardSaid, as the row gives it, under no condition of its own.
-/
import Derived.Test.YtphdlpmnidiliaaGreatDoorXmT6
import Derived.Test.YtphdlpmnidiliaaGreatDoorXmXmapOldest2
import Derived.Test.YtphdlpmnidiliaaGreatDoorXmA
set_option linter.all false
set_option linter.unusedSimpArgs false
set_option linter.unusedVariables false
namespace Go.Proofs.YtphdlpmnidiliaaGreatDoor
open Go Go.Sl Go.ChangeShapes Go.WideShapes Go.ChangeAt Go.RowKit
set_option maxRecDepth 100000
theorem flat4 : Flat Tryz.prog 0 4 [.bool] := Flat.leaf (k := .bool) ty4
theorem ce4 : Tryz.prog.cellsOf 4 = 1 := by kernel_rfl
def boolC (s : Bool) : List Value := [.bool s]
theorem boolC_len (s : Bool) : (boolC s).length = 1 := rfl
theorem boolC_of {cs : List Value} (h : Leafs [.bool] cs) : ∃ v : Bool, cs = boolC v ∧ True := by
  obtain ⟨a0, c0, rfl, ⟨m0, rfl⟩, h0⟩ := leafs_cons h
  obtain rfl := leafs_nil h0
  exact ⟨m0, rfl, trivial⟩
theorem boolC_map : ∀ l : List Bool, l.flatMap boolC = l.map Value.bool
  | [] => rfl
  | x :: l => by rw [List.flatMap_cons, boolC_map l]; rfl
instance : Inhabited Bool := ⟨false⟩
theorem u43 : Tryz.prog.underlying 43 = some (.slice 4) := by kernel_rfl
theorem k43 : Tryz.prog.cellsOf 43 = 1 := by kernel_rfl
set_option maxHeartbeats 2000000 in
theorem contract_XmapOldest (H : Type) (enc : TypeId × Value → H) (W : World) (base : Nat) (args : Array Value) (ds gs : List (DataW H)) (before : List MemPlace)
    (hval : ∀ (j : Nat) t v, Tryz.f4.params[j]? = some t → args[j]? = some v → Value.okWide Tryz.prog W .any base t v)
    (hW : DataW.Whole enc Tryz.prog Tryz.f4.params.toList Rows.xmapOldestSpec.vars false W args.toList ds gs before) (hL : laidMetH Tryz.prog Rows.xmapOldestRow.laid W) :
    Calls Tryz.prog 4 args W fun e W' => ∃ v, e = .returned v ∧ Rows.xmapOldestSpec.post enc Tryz.prog Tryz.f4 false true false false W args v W' := by
  have hT : Tab W := tab_laid hL
  have hW' := hW
  obtain ⟨p, q, hA0, hV, hbef, hfz, hnd⟩ := hW
  have hA : DataW.TrodAll enc Tryz.prog W 0 (fun _ => true) true Tryz.f4.params.toList args.toList ds p := hA0
  have hAk := hA
  rw [Tryz.params4] at hA hval
  obtain ⟨rfl, rfl⟩ := trodVars_none hV
  obtain ⟨v0, vs0, d0, ds0, p0, q0, hargs, rfl, hp, h0, r0⟩ := trodAll_cons hA
  obtain ⟨v1, vs1, d1, ds1, p1, q1, rfl, rfl, rfl, h1, r1⟩ := trodAll_cons r0
  obtain ⟨v2, vs2, d2, ds2, p2, q2, rfl, rfl, rfl, h2, r2⟩ := trodAll_cons r1
  obtain ⟨rfl, rfl, rfl⟩ := trodAll_nil r2
  obtain rfl : args = #[v0, v1, v2] := by cases args; simp_all
  obtain ⟨fuel0, hf0⟩ := h0
  obtain ⟨z0, rfl, hz0⟩ : ∃ z, v0 = .int .i64 z ∧ -9223372036854775808 ≤ z ∧ z ≤ 9223372036854775807 := by
    obtain ⟨z, hzv⟩ := okWide_int u3 (hval 0 3 v0 rfl rfl)
    subst hzv
    obtain ⟨m, e, _, hw⟩ := DataW.trod_int u3 hf0
    cases e
    exact ⟨_, rfl, wf_bd hw⟩
  obtain ⟨ad1, len1, cap1, rfl⟩ := okWide_slice u42 (hval 1 42 v1 rfl rfl)
  obtain ⟨fuel1, hf1⟩ := h1
  obtain ⟨l1, rfl, hcap1, hmax1, hwf1, hrow1⟩ := open_row u42 u22 k22 hf1
  have hu1 : ∀ x ∈ l1, 0 ≤ x ∧ x ≤ 18446744073709551615 := fun b hb => by have := hwf1 b hb; simp [Lit.wf, IntKind.min, IntKind.max, IntKind.signed, IntKind.bits] at this; exact ⟨by omega, by omega⟩
  obtain ⟨ad2, len2, cap2, rfl⟩ := okWide_slice u43 (hval 2 43 v2 rfl rfl)
  obtain ⟨fuel2, hf2⟩ := h2
  obtain ⟨l2, rfl, hcap2, hmax2, hok2, hrow2⟩ := flat_rows (f := boolC) u43 flat4 ce4 (by decide) (fun _ h => boolC_of h) boolC_len hf2
  rw [boolC_map] at hrow2
  have walk := (xmapOldest_pure (z := z0) (capk := cap1) (capf := cap2) hu1 (Nat.le_trans hcap1 (Nat.le_trans hmax1 (by decide))) (Nat.le_trans hcap2 (Nat.le_trans hmax2 (by decide)))).calls ⟨hT, hrow1, hrow2⟩
  refine walk.mono fun e W' ⟨he, hb⟩ => ?_
  subst he
  exact ⟨_, rfl, law_post kids full (by rw [Tryz.params4]; decide) hW' hAk rfl hbef rfl rfl rfl rfl u4 hb⟩
theorem lifted_XmapOldest (os : Os) (started : os.Started) (H : Type) (enc : TypeId × Value → H) (F : Stop.Interp) :
    ReturnsInHanded {} Tryz.checked os 4 .any ((OpenSpec.ofChange Rows.xmapOldestSpec).preRow enc Tryz.prog Tryz.f4 Rows.xmapOldestRow.domain false Rows.xmapOldestRow.laid) (((OpenSpec.ofChange Rows.xmapOldestSpec).at F).post enc Tryz.prog Tryz.f4 false true false false) := by
  have hx : DataW.whole enc Tryz.prog ((laidWorld os).forCall (fun _ _ => 0) ⟨#[], #[.int .i64 0, .slice none 0 0, .slice none 0 0], []⟩).memory Tryz.f4.params.toList Rows.xmapOldestSpec.vars false (#[.int .i64 0, .slice none 0 0, .slice none 0 0] : Array Value).toList 8 = some ([.lit (.int .i64 0), .nil, .nil], [], []) := by kernel_rfl
  refine returnsInHanded_of_row (C := Tryz.checked) (s := OpenSpec.ofChange Rows.xmapOldestSpec) own started (by kernel_rfl) Tryz.func4
    (witness_row_atRef (enc := enc) (C := Tryz.checked) false (laidWorld os) #[.int .i64 0, .slice none 0 0, .slice none 0 0] rfl (by kernel_rfl) (by kernel_rfl) (by kernel_rfl)
      (OpenSpec.preRow_of_cond 8 hx (by kernel_rfl) (fun k hk => by cases hk) (by kernel_rfl) (laid_met os _))) ?_
  intro W base args ds gs before hval hW _ _ _ hL _ _
  exact contract_XmapOldest H enc W base args ds gs before hval hW hL
theorem said_XmapOldest : Rows.XmapOldestSaid :=
  OpenClaim.holds_of_cond 4 Tryz.f4 rfl rfl rfl rfl rfl rfl rfl ⟨rfl, rfl, rfl, rfl, rfl⟩ rfl rfl rfl rfl rfl (by kernel_rfl) Tryz.func4 (by kernel_rfl)
    (of_decide_eq_true (by kernel_rfl)) (by unfold Func.isWrapper; first | (rw [if_pos (by decide +kernel)]; kernel_rfl) | (rw [if_neg (by decide +kernel)]; exact ⟨rfl, rfl⟩))
    (fun os started H enc _ F => by rw [OpenClaim.pre_eq_preRow]; exact lifted_XmapOldest os started H enc F)
theorem plain_XmapOldest (f : FuncId) (fn : Func) (hf : Tryz.pinned.checked.prog.funcNamed "detent/detentlaw22.XmapOldest" = some f) (hfn : Tryz.pinned.checked.prog.funcs[f]? = some fn) :
    false = Tryz.pinned.checked.prog.looks [] ∧ ∀ (j : Nat) t, fn.params[j]? = some t → Tryz.pinned.checked.prog.wantsStandIn t = false := by
  obtain rfl : f = 4 := Option.some.inj ((show Tryz.prog.funcNamed "detent/detentlaw22.XmapOldest" = some 4 by kernel_rfl).symm.trans hf) |>.symm
  obtain rfl : fn = Tryz.f4 := (Option.some.inj (Tryz.func4.symm.trans hfn)).symm
  refine ⟨by kernel_rfl, fun j t ht => ?_⟩
  rw [Tryz.params4] at ht
  have hm := Array.mem_of_getElem? ht
  have hall : ∀ t ∈ (#[3, 42, 43] : Array TypeId), Tryz.prog.wantsStandIn t = false := by
    intro t ht
    simp only [List.mem_toArray, List.mem_cons, List.not_mem_nil, or_false] at ht
    rcases ht with rfl | rfl | rfl <;> kernel_rfl
  exact hall t hm
theorem xmapOldest_card : Rows.XmapOldestCardSaid :=
  Claim7.holds_tied_plain_at .later [] _ _ _ _ said_XmapOldest (fun _ h => by cases h) (by kernel_rfl) (fun _ h => by cases h) xmapOldest_row_tie rfl ⟨rfl, rfl⟩ (by kernel_rfl) rfl plain_XmapOldest (by kernel_rfl)
end Go.Proofs.YtphdlpmnidiliaaGreatDoor

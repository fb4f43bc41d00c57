/-
  Proved: the statement OrderPassesSaid, as the row gives it, under no condition of its own.
-/
import Derived.Test.YtknbohnoiigioaaJ0
import Derived.Test.YtknbohnoiigioaaO13
set_option linter.all false
set_option linter.unusedSimpArgs false
set_option linter.unusedVariables false
namespace Go.Proofs.Ytknbohnoiigioaa
open Go Go.Sl Go.ChangeShapes Go.WideShapes Go.ChangeAt Go.RowKit
set_option maxRecDepth 100000
theorem flat9 : Flat Try.prog 0 9 [.string] := Flat.leaf (k := .string) ty9
theorem ce9 : Try.prog.cellsOf 9 = 1 := by kernel_rfl
def strC (s : ByteArray) : List Value := [.string s]
theorem strC_len (s : ByteArray) : (strC s).length = 1 := rfl
theorem strC_of {cs : List Value} (h : Leafs [.string] cs) : ∃ v : ByteArray, cs = strC v ∧ True := by
  obtain ⟨a0, c0, rfl, ⟨m0, rfl, e0⟩, h0⟩ := leafs_cons h
  obtain rfl := leafs_nil h0
  exact ⟨m0, rfl, trivial⟩
theorem strC_map : ∀ l : List ByteArray, l.flatMap strC = l.map Value.string
  | [] => rfl
  | x :: l => by rw [List.flatMap_cons, strC_map l]; rfl
instance : Inhabited ByteArray := ⟨⟨#[]⟩⟩
theorem flat4 : Flat Try.prog 0 4 [.bool] := Flat.leaf (k := .bool) ty4
theorem ce4 : Try.prog.cellsOf 4 = 1 := by kernel_rfl
def boolC (s : Bool) : List Value := [.bool s]
theorem boolC_len (s : Bool) : (boolC s).length = 1 := rfl
theorem boolC_of {cs : List Value} (h : Leafs [.bool] cs) : ∃ v : Bool, cs = boolC v ∧ True := by
  obtain ⟨a0, c0, rfl, ⟨m0, rfl⟩, h0⟩ := leafs_cons h
  obtain rfl := leafs_nil h0
  exact ⟨m0, rfl, trivial⟩
theorem boolC_map : ∀ l : List Bool, l.flatMap boolC = l.map Value.bool
  | [] => rfl
  | x :: l => by rw [List.flatMap_cons, boolC_map l]; rfl
instance : Inhabited Bool := ⟨false⟩
theorem u9 : Try.prog.underlying 9 = some .string := by kernel_rfl
theorem k9 : Try.prog.cellsOf 9 = 1 := by kernel_rfl
set_option maxHeartbeats 2000000 in
theorem contract_OrderPasses (H : Type) (enc : TypeId × Value → H) (W : World) (base : Nat) (args : Array Value) (ds gs : List (DataW H)) (before : List MemPlace)
    (hval : ∀ (j : Nat) t v, Try.f4.params[j]? = some t → args[j]? = some v → Value.okWide Try.prog W .any base t v)
    (hW : DataW.Whole enc Try.prog Try.f4.params.toList Rows.orderPassesSpec.vars false W args.toList ds gs before) :
    Calls Try.prog 4 args W fun e W' => ∃ v, e = .returned v ∧ Rows.orderPassesSpec.post enc Try.prog Try.f4 false true false false W args v W' := by
  have hW' := hW
  obtain ⟨p, q, hA0, hV, hbef, hfz, hnd⟩ := hW
  have hA : DataW.TrodAll enc Try.prog W 0 (fun _ => true) true Try.f4.params.toList args.toList ds p := hA0
  have hAk := hA
  rw [Try.params4] at hA hval
  obtain ⟨rfl, rfl⟩ := trodVars_none hV
  obtain ⟨v0, vs0, d0, ds0, p0, q0, hargs, rfl, hp, h0, r0⟩ := trodAll_cons hA
  obtain ⟨v1, vs1, d1, ds1, p1, q1, rfl, rfl, rfl, h1, r1⟩ := trodAll_cons r0
  obtain ⟨rfl, rfl, rfl⟩ := trodAll_nil r1
  obtain rfl : args = #[v0, v1] := by cases args; simp_all
  obtain ⟨ad0, len0, cap0, rfl⟩ := okWide_slice u35 (hval 0 35 v0 rfl rfl)
  obtain ⟨fuel0, hf0⟩ := h0
  obtain ⟨l0, rfl, hcap0, hmax0, hok0, hrow0⟩ := flat_rows (f := strC) u35 flat9 ce9 (by decide) (fun _ h => strC_of h) strC_len hf0
  obtain ⟨ad1, len1, cap1, rfl⟩ := okWide_slice u36 (hval 1 36 v1 rfl rfl)
  obtain ⟨fuel1, hf1⟩ := h1
  obtain ⟨l1, rfl, hcap1, hmax1, hok1, hrow1⟩ := flat_rows (f := boolC) u36 flat4 ce4 (by decide) (fun _ h => boolC_of h) boolC_len hf1
  rw [strC_map] at hrow0
  rw [boolC_map] at hrow1
  have walk := (orderPasses_pure (cap2 := cap1) hcap0 (Nat.le_trans hcap1 hmax1)).calls ⟨hrow0, hrow1⟩
  refine walk.mono fun e W' ⟨he, hb⟩ => ?_
  subst he
  exact ⟨_, rfl, law_post kids full (by rw [Try.params4]; decide) hW' hAk rfl hbef rfl rfl rfl rfl u4 hb⟩
theorem lifted_OrderPasses (os : Os) (started : os.Started) (H : Type) (enc : TypeId × Value → H) (F : Stop.Interp) :
    ReturnsInHanded {} Try.checked os 4 .any ((OpenSpec.ofChange Rows.orderPassesSpec).preRow enc Try.prog Try.f4 Rows.orderPassesRow.domain false Rows.orderPassesRow.laid) (((OpenSpec.ofChange Rows.orderPassesSpec).at F).post enc Try.prog Try.f4 false true false false) := by
  have hx : DataW.whole enc Try.prog ((laidWorld os).forCall (fun _ _ => 0) ⟨#[], #[.slice none 0 0, .slice none 0 0], []⟩).memory Try.f4.params.toList Rows.orderPassesSpec.vars false (#[.slice none 0 0, .slice none 0 0] : Array Value).toList 8 = some ([.nil, .nil], [], []) := by kernel_rfl
  refine returnsInHanded_of_row (C := Try.checked) (s := OpenSpec.ofChange Rows.orderPassesSpec) own started (by kernel_rfl) Try.func4
    (witness_row_atRef (enc := enc) (C := Try.checked) false (laidWorld os) #[.slice none 0 0, .slice none 0 0] rfl (by kernel_rfl) (by kernel_rfl) (by kernel_rfl)
      (OpenSpec.preRow_of_cond 8 hx (by kernel_rfl) (fun k hk => by cases hk) (by kernel_rfl) (laid_met os _))) ?_
  intro W base args ds gs before hval hW _ _ _ _ _ _
  exact contract_OrderPasses H enc W base args ds gs before hval hW
theorem said_OrderPasses : Rows.OrderPassesSaid :=
  OpenClaim.holds_of_cond 4 Try.f4 rfl rfl rfl rfl rfl rfl rfl ⟨rfl, rfl, rfl, rfl, rfl⟩ rfl rfl rfl rfl rfl (by kernel_rfl) Try.func4 (by kernel_rfl)
    (of_decide_eq_true (by kernel_rfl)) (by unfold Func.isWrapper; first | (rw [if_pos (by decide +kernel)]; kernel_rfl) | (rw [if_neg (by decide +kernel)]; exact ⟨rfl, rfl⟩))
    (fun os started H enc _ F => by rw [OpenClaim.pre_eq_preRow]; exact lifted_OrderPasses os started H enc F)
end Go.Proofs.Ytknbohnoiigioaa

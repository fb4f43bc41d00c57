/-
  Own work: contracts of functions that the statement reaches, and plain facts on what they compute; each theorem says its conditions.
-/
import Derived.Test.YtcmfldfeakmdoaaDoorVmT1
import Derived.Test.YtcmfldfeakmdoaaDoorVmS2
import Derived.Test.YtcmfldfeakmdoaaDoorVmS1
import Derived.Test.YtcmfldfeakmdoaaDoorVmA
set_option linter.all false
set_option linter.unusedSimpArgs false
set_option linter.unusedVariables false
namespace Go.Proofs.YtcmfldfeakmdoaaDoor
open Go Go.Sl
attribute [local irreducible] W
structure Ins where
  op : Int
  dst : Int
  src : Int
  off : Int
  imm : Int
def Ins.cells (x : Ins) : List Value := [.int .i64 x.op, .int .i64 x.dst, .int .i64 x.src, .int .i64 x.off, .int .i64 x.imm]
abbrev Ins.val (x : Ins) : Value := .agg #[.int .i64 x.op, .int .i64 x.dst, .int .i64 x.src, .int .i64 x.off, .int .i64 x.imm]
structure Ins.Ok (x : Ins) : Prop where
  op : I64 x.op
  dst : I64 x.dst
  src : I64 x.src
  off : I64 x.off
  imm : I64 x.imm
structure Uses where
  d : Bool
  s : Bool
  o : Bool
  i : Bool
abbrev Uses.val (u : Uses) : Value := .agg #[.bool u.d, .bool u.s, .bool u.o, .bool u.i]
def hasU (x : Ins) : Uses := ⟨decide (x.dst ≠ 0), decide (x.src ≠ 0), decide (x.off ≠ 0), decide (x.imm ≠ 0)⟩
def andU (u v : Uses) : Uses := ⟨u.d && v.d, u.s && v.s, u.o && v.o, u.i && v.i⟩
def isBy (op : Int) : Bool := decide (cls op = 1 ∧ 16 ≤ op ∨ cls op = 2 ∧ 48 ≤ op)
def usedU (op : Int) : Uses :=
  if op = 12 then ⟨true, false, false, false⟩ else if op = 32 then ⟨false, false, true, false⟩ else if op = 64 then ⟨true, false, true, false⟩ else if op = 65 then ⟨false, true, true, false⟩
  else if op = 66 ∨ op = 67 then ⟨true, true, true, false⟩ else if op = 72 then ⟨false, false, false, true⟩ else if op = 73 then ⟨false, false, false, false⟩ else ⟨true, isBy op, decide (cls op = 2), !isBy op⟩
set_option maxHeartbeats 1000000 in
theorem has_pure (x : Ins) : Pure Tryd.prog (Tab) 48 [.agg #[.int .i64 x.op, .int .i64 x.dst, .int .i64 x.src, .int .i64 x.off, .int .i64 x.imm]] (Uses.val (hasU x)) := by
  intro w0 H hT
  refine L_enter Tryd.func48 rfl Tryd.ntmps48 rfl rfl ?_
  refine W_sr ?_
  refine W_box rfl rfl rfl (fun b1 => ?_)
  refine W_alloc ty104 rfl rfl (fun b2 => ?_)
  refine W_nil ?_
  refine W_sr ?_
  refine W_fieldAddr rfl fld59_1 (by decide) rfl ?_
  refine W_load rfl ty3 rfl (Cell.own zM rfl) rfl ?_
  refine W_bin rfl rfl b_neq rfl ?_
  refine W_fieldAddr rfl fld59_2 (by decide) rfl ?_
  refine W_load rfl ty3 rfl (Cell.own zM rfl) rfl ?_
  refine W_bin rfl rfl b_neq rfl ?_
  refine W_fieldAddr rfl fld59_3 (by decide) rfl ?_
  refine W_load rfl ty3 rfl (Cell.own zM rfl) rfl ?_
  refine W_bin rfl rfl b_neq rfl ?_
  refine W_fieldAddr rfl fld59_4 (by decide) rfl ?_
  refine W_load rfl ty3 rfl (Cell.own zM rfl) rfl ?_
  refine W_bin rfl rfl b_neq rfl ?_
  refine W_build ty104 pl104 (.cons rfl rfl rfl rfl rfl (.cons rfl rfl rfl rfl rfl (.cons rfl rfl rfl rfl rfl (.cons rfl rfl rfl rfl rfl .nil)))) rfl zF rfl ?_
  refine W_storeA rfl rfl ty104 rfl rfl zM (Nat.le_of_ble_eq_true rfl) zF zU ?_
  refine W_nil ?_
  refine W_ret1cO (H2 := H) Tryd.results48 rfl (.nil _) ty104 rfl zM rfl (by first | exact hsubI | (repeat (first | exact HSub.refl _ | refine HSub.cons zT ?_ | refine HSub.app (by repeat (first | exact TakeS.here _ | apply TakeS.next | apply TakeS.app)) ?_ | refine HSub.drop ?_ | refine HSub.dropS ?_ | exact HSub.nil _))) ?_
  exact ⟨rfl, rfl⟩
set_option maxHeartbeats 1000000 in
theorem and_pure (u v : Uses) : Pure Tryd.prog (Tab) 50 [Uses.val u, Uses.val v] (Uses.val (andU u v)) := by
  intro w0 H hT
  refine L_enter Tryd.func50 rfl Tryd.ntmps50 rfl rfl ?_
  refine W_sr ?_
  refine W_box rfl rfl rfl (fun b2 => ?_)
  refine W_box rfl rfl rfl (fun b3 => ?_)
  refine W_alloc ty104 rfl rfl (fun b4 => ?_)
  refine W_nil ?_
  refine W_sr ?_
  refine W_fieldAddr rfl fld104_0 (by decide) rfl ?_
  refine W_load rfl ty4 rfl (Cell.own zM rfl) rfl ?_
  refine W_move rfl rfl ?_
  apply W_and
  iterate 4 exact rfl
  case h1 =>
    intro hg2
    refine W_gyes rfl rfl ?_
    refine W_fieldAddr rfl fld104_0 (by decide) rfl ?_
    refine W_gyes rfl rfl ?_
    refine W_load rfl ty4 rfl (Cell.own zM rfl) rfl ?_
    exact W_met rfl zR
  refine W_fieldAddr rfl fld104_1 (by decide) rfl ?_
  refine W_load rfl ty4 rfl (Cell.own zM rfl) rfl ?_
  refine W_move rfl rfl ?_
  apply W_and
  iterate 4 exact rfl
  case h1 =>
    intro hg8
    refine W_gyes rfl rfl ?_
    refine W_fieldAddr rfl fld104_1 (by decide) rfl ?_
    refine W_gyes rfl rfl ?_
    refine W_load rfl ty4 rfl (Cell.own zM rfl) rfl ?_
    exact W_met rfl zR
  refine W_fieldAddr rfl fld104_2 (by decide) rfl ?_
  refine W_load rfl ty4 rfl (Cell.own zM rfl) rfl ?_
  refine W_move rfl rfl ?_
  apply W_and
  iterate 4 exact rfl
  case h1 =>
    intro hg14
    refine W_gyes rfl rfl ?_
    refine W_fieldAddr rfl fld104_2 (by decide) rfl ?_
    refine W_gyes rfl rfl ?_
    refine W_load rfl ty4 rfl (Cell.own zM rfl) rfl ?_
    exact W_met rfl zR
  refine W_fieldAddr rfl fld104_3 (by decide) rfl ?_
  refine W_load rfl ty4 rfl (Cell.own zM rfl) rfl ?_
  refine W_move rfl rfl ?_
  apply W_and
  iterate 4 exact rfl
  case h1 =>
    intro hg20
    refine W_gyes rfl rfl ?_
    refine W_fieldAddr rfl fld104_3 (by decide) rfl ?_
    refine W_gyes rfl rfl ?_
    refine W_load rfl ty4 rfl (Cell.own zM rfl) rfl ?_
    exact W_met rfl zR
  refine W_build ty104 pl104 (.cons rfl rfl rfl rfl rfl (.cons rfl rfl rfl rfl rfl (.cons rfl rfl rfl rfl rfl (.cons rfl rfl rfl rfl rfl .nil)))) rfl zF rfl ?_
  refine W_storeA rfl rfl ty104 rfl rfl zM (Nat.le_of_ble_eq_true rfl) zF zU ?_
  refine W_nil ?_
  refine W_ret1cO (H2 := H) Tryd.results50 rfl (.nil _) ty104 rfl zM rfl (by first | exact hsubI | (repeat (first | exact HSub.refl _ | refine HSub.cons zT ?_ | refine HSub.app (by repeat (first | exact TakeS.here _ | apply TakeS.next | apply TakeS.app)) ?_ | refine HSub.drop ?_ | refine HSub.dropS ?_ | exact HSub.nil _))) ?_
  exact ⟨rfl, rfl⟩
set_option maxHeartbeats 1000000 in
theorem used_pure (op : Int) : Pure Tryd.prog (Tab) 51 [.int .i64 op] (Uses.val (usedU op)) := by
  intro w0 H hT
  refine L_enter Tryd.func51 rfl Tryd.ntmps51 rfl rfl ?_
  refine W_sr ?_
  refine W_alloc ty104 rfl rfl (fun b2 => ?_)
  refine W_nil ?_
  refine W_seq ?_
  refine W_sr ?_
  refine W_move rfl rfl ?_
  refine W_nil ?_
  refine W_block ?_
  refine W_sr ?_
  refine W_bin rfl rfl b_eql rfl ?_
  refine W_assign rfl rfl ?_
  refine W_nil ?_
  refine W_condS rfl (fun c0 => ?_) (fun c0 => ?_)
  · simp only [cond_true, cond_false, Bool.and_eq_true, Bool.or_eq_true, Bool.and_eq_false_iff, Bool.or_eq_false_iff, decide_eq_true_eq, decide_eq_false_iff_not, Bool.not_eq_true', Bool.not_eq_false', ne_eq, Decidable.not_not] at c0
    refine W_sr ?_
    refine W_build ty104 pl104 (.cons rfl rfl rfl rfl rfl .nil) rfl zF rfl ?_
    refine W_storeA rfl rfl ty104 rfl rfl zM (Nat.le_of_ble_eq_true rfl) zF zU ?_
    refine W_nil ?_
    refine W_ret1cO (H2 := H) Tryd.results51 rfl (.nil _) ty104 rfl zM rfl (by first | exact hsubI | (repeat (first | exact HSub.refl _ | refine HSub.cons zT ?_ | refine HSub.app (by repeat (first | exact TakeS.here _ | apply TakeS.next | apply TakeS.app)) ?_ | refine HSub.drop ?_ | refine HSub.dropS ?_ | exact HSub.nil _))) ?_
    exact ⟨by unfold usedU isBy; repeat (first | rw [if_pos (by omega)] | rw [if_neg (by omega)]), rfl⟩
  · simp only [cond_true, cond_false, Bool.and_eq_true, Bool.or_eq_true, Bool.and_eq_false_iff, Bool.or_eq_false_iff, decide_eq_true_eq, decide_eq_false_iff_not, Bool.not_eq_true', Bool.not_eq_false', ne_eq, Decidable.not_not] at c0
    refine W_sr ?_
    refine W_bin rfl rfl b_eql rfl ?_
    refine W_assign rfl rfl ?_
    refine W_nil ?_
    refine W_condS rfl (fun c1 => ?_) (fun c1 => ?_)
    · simp only [cond_true, cond_false, Bool.and_eq_true, Bool.or_eq_true, Bool.and_eq_false_iff, Bool.or_eq_false_iff, decide_eq_true_eq, decide_eq_false_iff_not, Bool.not_eq_true', Bool.not_eq_false', ne_eq, Decidable.not_not] at c1
      refine W_sr ?_
      refine W_build ty104 pl104 (.cons rfl rfl rfl rfl rfl .nil) rfl zF rfl ?_
      refine W_storeA rfl rfl ty104 rfl rfl zM (Nat.le_of_ble_eq_true rfl) zF zU ?_
      refine W_nil ?_
      refine W_ret1cO (H2 := H) Tryd.results51 rfl (.nil _) ty104 rfl zM rfl (by first | exact hsubI | (repeat (first | exact HSub.refl _ | refine HSub.cons zT ?_ | refine HSub.app (by repeat (first | exact TakeS.here _ | apply TakeS.next | apply TakeS.app)) ?_ | refine HSub.drop ?_ | refine HSub.dropS ?_ | exact HSub.nil _))) ?_
      exact ⟨by unfold usedU isBy; repeat (first | rw [if_pos (by omega)] | rw [if_neg (by omega)]), rfl⟩
    · simp only [cond_true, cond_false, Bool.and_eq_true, Bool.or_eq_true, Bool.and_eq_false_iff, Bool.or_eq_false_iff, decide_eq_true_eq, decide_eq_false_iff_not, Bool.not_eq_true', Bool.not_eq_false', ne_eq, Decidable.not_not] at c1
      refine W_sr ?_
      refine W_bin rfl rfl b_eql rfl ?_
      refine W_assign rfl rfl ?_
      refine W_nil ?_
      refine W_condS rfl (fun c2 => ?_) (fun c2 => ?_)
      · simp only [cond_true, cond_false, Bool.and_eq_true, Bool.or_eq_true, Bool.and_eq_false_iff, Bool.or_eq_false_iff, decide_eq_true_eq, decide_eq_false_iff_not, Bool.not_eq_true', Bool.not_eq_false', ne_eq, Decidable.not_not] at c2
        refine W_sr ?_
        refine W_build ty104 pl104 (.cons rfl rfl rfl rfl rfl (.cons rfl rfl rfl rfl rfl .nil)) rfl zF rfl ?_
        refine W_storeA rfl rfl ty104 rfl rfl zM (Nat.le_of_ble_eq_true rfl) zF zU ?_
        refine W_nil ?_
        refine W_ret1cO (H2 := H) Tryd.results51 rfl (.nil _) ty104 rfl zM rfl (by first | exact hsubI | (repeat (first | exact HSub.refl _ | refine HSub.cons zT ?_ | refine HSub.app (by repeat (first | exact TakeS.here _ | apply TakeS.next | apply TakeS.app)) ?_ | refine HSub.drop ?_ | refine HSub.dropS ?_ | exact HSub.nil _))) ?_
        exact ⟨by unfold usedU isBy; repeat (first | rw [if_pos (by omega)] | rw [if_neg (by omega)]), rfl⟩
      · simp only [cond_true, cond_false, Bool.and_eq_true, Bool.or_eq_true, Bool.and_eq_false_iff, Bool.or_eq_false_iff, decide_eq_true_eq, decide_eq_false_iff_not, Bool.not_eq_true', Bool.not_eq_false', ne_eq, Decidable.not_not] at c2
        refine W_sr ?_
        refine W_bin rfl rfl b_eql rfl ?_
        refine W_assign rfl rfl ?_
        refine W_nil ?_
        refine W_condS rfl (fun c3 => ?_) (fun c3 => ?_)
        · simp only [cond_true, cond_false, Bool.and_eq_true, Bool.or_eq_true, Bool.and_eq_false_iff, Bool.or_eq_false_iff, decide_eq_true_eq, decide_eq_false_iff_not, Bool.not_eq_true', Bool.not_eq_false', ne_eq, Decidable.not_not] at c3
          refine W_sr ?_
          refine W_build ty104 pl104 (.cons rfl rfl rfl rfl rfl (.cons rfl rfl rfl rfl rfl .nil)) rfl zF rfl ?_
          refine W_storeA rfl rfl ty104 rfl rfl zM (Nat.le_of_ble_eq_true rfl) zF zU ?_
          refine W_nil ?_
          refine W_ret1cO (H2 := H) Tryd.results51 rfl (.nil _) ty104 rfl zM rfl (by first | exact hsubI | (repeat (first | exact HSub.refl _ | refine HSub.cons zT ?_ | refine HSub.app (by repeat (first | exact TakeS.here _ | apply TakeS.next | apply TakeS.app)) ?_ | refine HSub.drop ?_ | refine HSub.dropS ?_ | exact HSub.nil _))) ?_
          exact ⟨by unfold usedU isBy; repeat (first | rw [if_pos (by omega)] | rw [if_neg (by omega)]), rfl⟩
        · simp only [cond_true, cond_false, Bool.and_eq_true, Bool.or_eq_true, Bool.and_eq_false_iff, Bool.or_eq_false_iff, decide_eq_true_eq, decide_eq_false_iff_not, Bool.not_eq_true', Bool.not_eq_false', ne_eq, Decidable.not_not] at c3
          refine W_seq ?_
          refine W_sr ?_
          refine W_bin rfl rfl b_eql rfl ?_
          refine W_assign rfl rfl ?_
          refine W_nil ?_
          refine W_condS rfl (fun c4 => ?_) (fun c4 => ?_)
          · simp only [cond_true, cond_false, Bool.and_eq_true, Bool.or_eq_true, Bool.and_eq_false_iff, Bool.or_eq_false_iff, decide_eq_true_eq, decide_eq_false_iff_not, Bool.not_eq_true', Bool.not_eq_false', ne_eq, Decidable.not_not] at c4
            refine W_skip ?_
            refine W_condT rfl rfl ?_
            refine W_sr ?_
            refine W_build ty104 pl104 (.cons rfl rfl rfl rfl rfl (.cons rfl rfl rfl rfl rfl (.cons rfl rfl rfl rfl rfl .nil))) rfl zF rfl ?_
            refine W_storeA rfl rfl ty104 rfl rfl zM (Nat.le_of_ble_eq_true rfl) zF zU ?_
            refine W_nil ?_
            refine W_ret1cO (H2 := H) Tryd.results51 rfl (.nil _) ty104 rfl zM rfl (by first | exact hsubI | (repeat (first | exact HSub.refl _ | refine HSub.cons zT ?_ | refine HSub.app (by repeat (first | exact TakeS.here _ | apply TakeS.next | apply TakeS.app)) ?_ | refine HSub.drop ?_ | refine HSub.dropS ?_ | exact HSub.nil _))) ?_
            exact ⟨by unfold usedU isBy; repeat (first | rw [if_pos (by omega)] | rw [if_neg (by omega)]), rfl⟩
          · simp only [cond_true, cond_false, Bool.and_eq_true, Bool.or_eq_true, Bool.and_eq_false_iff, Bool.or_eq_false_iff, decide_eq_true_eq, decide_eq_false_iff_not, Bool.not_eq_true', Bool.not_eq_false', ne_eq, Decidable.not_not] at c4
            refine W_region ?_
            refine W_bin rfl rfl b_eql rfl ?_
            refine W_assign rfl rfl ?_
            refine W_nil ?_
            refine W_condS rfl (fun c5 => ?_) (fun c5 => ?_)
            · simp only [cond_true, cond_false, Bool.and_eq_true, Bool.or_eq_true, Bool.and_eq_false_iff, Bool.or_eq_false_iff, decide_eq_true_eq, decide_eq_false_iff_not, Bool.not_eq_true', Bool.not_eq_false', ne_eq, Decidable.not_not] at c5
              refine W_sr ?_
              refine W_build ty104 pl104 (.cons rfl rfl rfl rfl rfl (.cons rfl rfl rfl rfl rfl (.cons rfl rfl rfl rfl rfl .nil))) rfl zF rfl ?_
              refine W_storeA rfl rfl ty104 rfl rfl zM (Nat.le_of_ble_eq_true rfl) zF zU ?_
              refine W_nil ?_
              refine W_ret1cO (H2 := H) Tryd.results51 rfl (.nil _) ty104 rfl zM rfl (by first | exact hsubI | (repeat (first | exact HSub.refl _ | refine HSub.cons zT ?_ | refine HSub.app (by repeat (first | exact TakeS.here _ | apply TakeS.next | apply TakeS.app)) ?_ | refine HSub.drop ?_ | refine HSub.dropS ?_ | exact HSub.nil _))) ?_
              exact ⟨by unfold usedU isBy; repeat (first | rw [if_pos (by omega)] | rw [if_neg (by omega)]), rfl⟩
            · simp only [cond_true, cond_false, Bool.and_eq_true, Bool.or_eq_true, Bool.and_eq_false_iff, Bool.or_eq_false_iff, decide_eq_true_eq, decide_eq_false_iff_not, Bool.not_eq_true', Bool.not_eq_false', ne_eq, Decidable.not_not] at c5
              refine W_sr ?_
              refine W_bin rfl rfl b_eql rfl ?_
              refine W_assign rfl rfl ?_
              refine W_nil ?_
              refine W_condS rfl (fun c6 => ?_) (fun c6 => ?_)
              · simp only [cond_true, cond_false, Bool.and_eq_true, Bool.or_eq_true, Bool.and_eq_false_iff, Bool.or_eq_false_iff, decide_eq_true_eq, decide_eq_false_iff_not, Bool.not_eq_true', Bool.not_eq_false', ne_eq, Decidable.not_not] at c6
                refine W_sr ?_
                refine W_build ty104 pl104 (.cons rfl rfl rfl rfl rfl .nil) rfl zF rfl ?_
                refine W_storeA rfl rfl ty104 rfl rfl zM (Nat.le_of_ble_eq_true rfl) zF zU ?_
                refine W_nil ?_
                refine W_ret1cO (H2 := H) Tryd.results51 rfl (.nil _) ty104 rfl zM rfl (by first | exact hsubI | (repeat (first | exact HSub.refl _ | refine HSub.cons zT ?_ | refine HSub.app (by repeat (first | exact TakeS.here _ | apply TakeS.next | apply TakeS.app)) ?_ | refine HSub.drop ?_ | refine HSub.dropS ?_ | exact HSub.nil _))) ?_
                exact ⟨by unfold usedU isBy; repeat (first | rw [if_pos (by omega)] | rw [if_neg (by omega)]), rfl⟩
              · simp only [cond_true, cond_false, Bool.and_eq_true, Bool.or_eq_true, Bool.and_eq_false_iff, Bool.or_eq_false_iff, decide_eq_true_eq, decide_eq_false_iff_not, Bool.not_eq_true', Bool.not_eq_false', ne_eq, Decidable.not_not] at c6
                refine W_sr ?_
                refine W_bin rfl rfl b_eql rfl ?_
                refine W_assign rfl rfl ?_
                refine W_nil ?_
                refine W_condS rfl (fun c7 => ?_) (fun c7 => ?_)
                · simp only [cond_true, cond_false, Bool.and_eq_true, Bool.or_eq_true, Bool.and_eq_false_iff, Bool.or_eq_false_iff, decide_eq_true_eq, decide_eq_false_iff_not, Bool.not_eq_true', Bool.not_eq_false', ne_eq, Decidable.not_not] at c7
                  refine W_sr ?_
                  refine W_build ty104 pl104 .nil rfl zF rfl ?_
                  refine W_storeA rfl rfl ty104 rfl rfl zM (Nat.le_of_ble_eq_true rfl) zF zU ?_
                  refine W_nil ?_
                  refine W_ret1cO (H2 := H) Tryd.results51 rfl (.nil _) ty104 rfl zM rfl (by first | exact hsubI | (repeat (first | exact HSub.refl _ | refine HSub.cons zT ?_ | refine HSub.app (by repeat (first | exact TakeS.here _ | apply TakeS.next | apply TakeS.app)) ?_ | refine HSub.drop ?_ | refine HSub.dropS ?_ | exact HSub.nil _))) ?_
                  exact ⟨by unfold usedU isBy; repeat (first | rw [if_pos (by omega)] | rw [if_neg (by omega)]), rfl⟩
                · simp only [cond_true, cond_false, Bool.and_eq_true, Bool.or_eq_true, Bool.and_eq_false_iff, Bool.or_eq_false_iff, decide_eq_true_eq, decide_eq_false_iff_not, Bool.not_eq_true', Bool.not_eq_false', ne_eq, Decidable.not_not] at c7
                  refine W_skip ?_
                  refine W_blk ?_
                  refine W_sr ?_
                  refine W_move rfl rfl ?_
                  refine W_callp (.cons rfl .nil) Tryd.call66 rfl hT (by_pure _) ?_
                  refine W_move rfl rfl ?_
                  refine W_callp (.cons rfl .nil) Tryd.call49 rfl hT (class_pure _) ?_
                  refine W_bin rfl rfl b_eql rfl ?_
                  refine W_move rfl rfl ?_
                  refine W_callp (.cons rfl .nil) Tryd.call66 rfl hT (by_pure _) ?_
                  refine W_not rfl rfl ?_
                  refine W_build ty104 pl104 (.cons rfl rfl rfl rfl rfl (.cons rfl rfl rfl rfl rfl (.cons rfl rfl rfl rfl rfl (.cons rfl rfl rfl rfl rfl .nil)))) rfl zF rfl ?_
                  refine W_storeA rfl rfl ty104 rfl rfl zM (Nat.le_of_ble_eq_true rfl) zF zU ?_
                  refine W_nil ?_
                  refine W_ret1cO (H2 := H) Tryd.results51 rfl (.nil _) ty104 rfl zM rfl (by first | exact hsubI | (repeat (first | exact HSub.refl _ | refine HSub.cons zT ?_ | refine HSub.app (by repeat (first | exact TakeS.here _ | apply TakeS.next | apply TakeS.app)) ?_ | refine HSub.drop ?_ | refine HSub.dropS ?_ | exact HSub.nil _))) ?_
                  exact ⟨by unfold usedU isBy; repeat (first | rw [if_pos (by omega)] | rw [if_neg (by omega)]), rfl⟩
set_option maxHeartbeats 1000000 in
theorem out_pure (n low high : Int) : Pure Tryd.prog (Tab) 47 [.int .i64 n, .int .i64 low, .int .i64 high] (.bool (decide (n < low) || decide (high ≤ n))) := by
  intro w0 H hT
  refine L_enter Tryd.func47 rfl Tryd.ntmps47 rfl rfl ?_
  refine W_sr ?_
  refine W_assign rfl rfl ?_
  refine W_nil ?_
  refine W_sr ?_
  refine W_move rfl rfl ?_
  refine W_move rfl rfl ?_
  refine W_bin rfl rfl b_lss rfl ?_
  refine W_move rfl rfl ?_
  apply W_or
  iterate 4 exact rfl
  case h1 =>
    intro hg3
    refine W_gyes rfl rfl ?_
    refine W_move rfl rfl ?_
    refine W_gyes rfl rfl ?_
    refine W_move rfl rfl ?_
    refine W_gyes rfl rfl ?_
    refine W_bin rfl rfl b_geq rfl ?_
    exact W_met rfl zR
  refine W_assign rfl rfl ?_
  refine W_nil ?_
  refine W_ret1m Tryd.results47 rfl (.nil _) (.refl _) ?_
  exact ⟨rfl, rfl⟩
end Go.Proofs.YtcmfldfeakmdoaaDoor
namespace Go.Proofs.YtcmfldfeakmdoaaDoor
open Go Go.Sl
attribute [local irreducible] W
def outB (n low high : Int) : Bool := decide (n < low) || decide (high ≤ n)
def eqU (u v : Uses) : Bool := (u.d == v.d) && ((u.s == v.s) && ((u.o == v.o) && ((u.i == v.i) && true)))
def isaChk (x : Ins) : Int :=
  if cls x.op = 0 then 11 else if (outB x.dst 0 10 || outB x.src 0 10 || outB x.off (-32768) 32768 || outB x.imm (-2147483648) 2147483648) = true then 2
  else if (!(eqU (hasU x) (andU (hasU x) (usedU x.op)))) = true then 9 else 0
set_option maxHeartbeats 1000000 in
theorem isaChk_pure (x : Ins) : Pure Tryd.prog (Tab) 32 [.agg #[.int .i64 x.op, .int .i64 x.dst, .int .i64 x.src, .int .i64 x.off, .int .i64 x.imm]] (.int .i64 (isaChk x)) := by
  intro w0 H hT
  refine L_enter Tryd.func32 rfl Tryd.ntmps32 rfl rfl ?_
  refine W_sr ?_
  refine W_box rfl rfl rfl (fun b1 => ?_)
  refine W_assign rfl rfl ?_
  refine W_nil ?_
  refine W_sr ?_
  refine W_assign rfl rfl ?_
  refine W_nil ?_
  refine W_seq ?_
  refine W_sr ?_
  refine W_loadB rfl ty59 rfl zM rfl zF rfl ?_
  refine W_callp (.cons rfl .nil) Tryd.call48 rfl hT (has_pure _) ?_
  refine W_alloc ty104 rfl rfl (fun b4 => ?_)
  refine W_storeA rfl rfl ty104 rfl rfl zM (Nat.le_of_ble_eq_true rfl) zF zU ?_
  refine W_nil ?_
  refine W_block ?_
  refine W_sr ?_
  refine W_fieldAddr rfl fld59_0 (by decide) rfl ?_
  refine W_load rfl ty3 rfl (Cell.own zM rfl) rfl ?_
  refine W_callp (.cons rfl .nil) Tryd.call49 rfl hT (class_pure _) ?_
  refine W_bin rfl rfl b_eql rfl ?_
  refine W_assign rfl rfl ?_
  refine W_nil ?_
  refine W_condPS (p := cls x.op = 0) rfl (by simp) (fun c0 => ?_) (fun c0 => ?_)
  · skip
    refine W_sr ?_
    refine W_assign rfl rfl ?_
    refine W_nil ?_
    refine W_ret1m (H2 := H) Tryd.results32 rfl (.nil _) zH ?_
    exact ⟨by unfold isaChk; rw [if_pos c0], rfl⟩
  · skip
    refine W_sr ?_
    refine W_move rfl rfl ?_
    refine W_fieldAddr rfl fld59_1 (by decide) rfl ?_
    refine W_load rfl ty3 rfl (Cell.own zM rfl) rfl ?_
    refine W_callvp (fa := []) (ca := []) rfl (.cons rfl (.cons rfl (.cons rfl .nil))) rfl Tryd.call47 rfl hT (out_pure _ _ _) ?_
    refine W_move rfl rfl ?_
    apply W_or
    iterate 4 exact rfl
    case h1 =>
      intro hg4
      refine W_gyes rfl rfl ?_
      refine W_move rfl rfl ?_
      refine W_gyes rfl rfl ?_
      refine W_fieldAddr rfl fld59_2 (by decide) rfl ?_
      refine W_gyes rfl rfl ?_
      refine W_load rfl ty3 rfl (Cell.own zM rfl) rfl ?_
      refine W_gyes rfl rfl ?_
      refine W_callvp (fa := []) (ca := []) rfl (.cons rfl (.cons rfl (.cons rfl .nil))) rfl Tryd.call47 rfl hT (out_pure _ _ _) ?_
      exact W_met rfl zR
    refine W_move rfl rfl ?_
    apply W_or
    iterate 4 exact rfl
    case h1 =>
      intro hg10
      refine W_gyes rfl rfl ?_
      refine W_move rfl rfl ?_
      refine W_gyes rfl rfl ?_
      refine W_fieldAddr rfl fld59_3 (by decide) rfl ?_
      refine W_gyes rfl rfl ?_
      refine W_load rfl ty3 rfl (Cell.own zM rfl) rfl ?_
      refine W_gyes rfl rfl ?_
      refine W_callvp (fa := []) (ca := []) rfl (.cons rfl (.cons rfl (.cons rfl .nil))) rfl Tryd.call47 rfl hT (out_pure _ _ _) ?_
      exact W_met rfl zR
    refine W_move rfl rfl ?_
    apply W_or
    iterate 4 exact rfl
    case h1 =>
      intro hg16
      refine W_gyes rfl rfl ?_
      refine W_move rfl rfl ?_
      refine W_gyes rfl rfl ?_
      refine W_fieldAddr rfl fld59_4 (by decide) rfl ?_
      refine W_gyes rfl rfl ?_
      refine W_load rfl ty3 rfl (Cell.own zM rfl) rfl ?_
      refine W_gyes rfl rfl ?_
      refine W_callvp (fa := []) (ca := []) rfl (.cons rfl (.cons rfl (.cons rfl .nil))) rfl Tryd.call47 rfl hT (out_pure _ _ _) ?_
      exact W_met rfl zR
    refine W_assign rfl rfl ?_
    refine W_nil ?_
    refine W_condS rfl (fun c1 => ?_) (fun c1 => ?_)
    · skip
      refine W_sr ?_
      refine W_assign rfl rfl ?_
      refine W_nil ?_
      refine W_ret1m (H2 := H) Tryd.results32 rfl (.nil _) zH ?_
      have c1 : (outB x.dst 0 10 || outB x.src 0 10 || outB x.off (-32768) 32768 || outB x.imm (-2147483648) 2147483648) = true := c1
      exact ⟨by unfold isaChk; rw [if_neg c0, if_pos c1], rfl⟩
    · skip
      refine W_quietsr (by kernel_rfl) (by decide +kernel) ?_
      refine WQ_x (X_loadB rfl ty104 rfl zM rfl zF) rfl ?_
      refine WQ_x (X_loadB rfl ty104 rfl zM rfl zF) rfl ?_
      refine WQ_x (X_fieldAddr rfl fld59_0 (by decide)) rfl ?_
      refine WQ_x (X_load rfl ty3 rfl (Cell.own zM rfl)) rfl ?_
      refine WQ_callp (.cons rfl .nil) Tryd.call51 rfl hT (used_pure _) ?_
      refine WQ_callp (.cons rfl (.cons rfl .nil)) Tryd.call50 rfl hT (and_pure _ _) ?_
      refine WQ_x (X_neA rfl rfl ty104 (by kernel_rfl) (by kernel_rfl) (.cons (by decide) ty4 rfl rfl rfl (eqv_bool ty4) (.cons (by decide) ty4 rfl rfl rfl (eqv_bool ty4) (.cons (by decide) ty4 rfl rfl rfl (eqv_bool ty4) (.cons (by decide) ty4 rfl rfl rfl (eqv_bool ty4) .nil))))) rfl ?_
      refine WQ_x (X_assign rfl) rfl ?_
      refine WQ_nil ?_
      refine W_condS rfl (fun c2 => ?_) (fun c2 => ?_)
      · skip
        refine W_sr ?_
        refine W_assign rfl rfl ?_
        refine W_nil ?_
        refine W_ret1m (H2 := H) Tryd.results32 rfl (.nil _) zH ?_
        have c1 : (outB x.dst 0 10 || outB x.src 0 10 || outB x.off (-32768) 32768 || outB x.imm (-2147483648) 2147483648) = false := c1
        have c2 : (!(eqU (hasU x) (andU (hasU x) (usedU x.op)))) = true := c2
        exact ⟨by unfold isaChk; rw [if_neg c0, if_neg (by rw [c1]; simp), if_pos c2], rfl⟩
      · skip
        refine W_skip ?_
        refine W_blk ?_
        refine W_sr ?_
        refine W_assign rfl rfl ?_
        refine W_nil ?_
        refine W_ret1m (H2 := H) Tryd.results32 rfl (.nil _) zH ?_
        have c1 : (outB x.dst 0 10 || outB x.src 0 10 || outB x.off (-32768) 32768 || outB x.imm (-2147483648) 2147483648) = false := c1
        have c2 : (!(eqU (hasU x) (andU (hasU x) (usedU x.op)))) = false := c2
        exact ⟨by unfold isaChk; rw [if_neg c0, if_neg (by rw [c1]; simp), if_neg (by rw [c2]; simp)], rfl⟩
end Go.Proofs.YtcmfldfeakmdoaaDoor
namespace Go.Proofs.YtcmfldfeakmdoaaDoor
open Go Go.Sl
attribute [local irreducible] W
def othr (V : List Va) (x : Ins) : Va := if (16 ≤ x.op ∧ cls x.op = 1) ∨ (49 ≤ x.op ∧ cls x.op = 2) then V.getD x.src.toNat zeroV else ⟨false, 0, 0, 0, IntKind.u64.wrap x.imm⟩
theorem getV {V : List Va} (hV : V.length = 18) {i : Nat} (hi : i < 18) : V[i]? = some (V.getD i zeroV) := by
  rw [List.getD_eq_getElem?_getD, List.getElem?_eq_getElem (by omega)]; rfl
set_option maxHeartbeats 1000000 in
theorem operands_L {w0 : World} {H : Heap} {bf : Nat} {V : List Va} {x : Ins} (hV : V.length = 18) (hd : 0 ≤ x.dst ∧ x.dst < 10) (hs : 0 ≤ x.src ∧ x.src < 10) (hT : Tab w0) : LCalls Tryd.prog w0 82 #[.pointer (some ⟨bf, 0, none⟩), .agg #[.int .i64 x.op, .int .i64 x.dst, .int .i64 x.src, .int .i64 x.off, .int .i64 x.imm]] ((bf, .cells 101 90 (vaRow V)) :: H) (fun v H' => v = .tuple #[.agg (vaC (V.getD x.dst.toNat zeroV)).toArray, .agg (vaC (othr V x)).toArray] ∧ H' = (bf, .cells 101 90 (vaRow V)) :: H) := by
  obtain ⟨dn, hdn⟩ : ∃ dn : Nat, x.dst = (dn : Int) := ⟨x.dst.toNat, by omega⟩
  obtain ⟨sn, hsn⟩ : ∃ sn : Nat, x.src = (sn : Int) := ⟨x.src.toNat, by omega⟩
  have hdT : x.dst.toNat = dn := by omega
  have hsT : x.src.toNat = sn := by omega
  refine L_enter (l := [.pointer (some ⟨bf, 0, none⟩), .agg #[.int .i64 x.op, .int .i64 x.dst, .int .i64 x.src, .int .i64 x.off, .int .i64 x.imm]]) Tryd.func82 rfl Tryd.ntmps82 rfl rfl ?_
  refine W_sr ?_
  refine W_box rfl rfl rfl (fun b3 => ?_)
  refine W_alloc ty41 rfl rfl (fun b4 => ?_)
  refine W_alloc ty41 rfl rfl (fun b5 => ?_)
  refine W_nil ?_
  refine W_seq ?_
  refine W_sr ?_
  refine W_fieldAddr rfl fld59_0 (by decide) rfl ?_
  refine W_load rfl ty3 rfl (Cell.own zM rfl) rfl ?_
  refine W_bin rfl rfl b_geq rfl ?_
  refine W_move rfl rfl ?_
  apply W_and
  iterate 4 exact rfl
  case h1 =>
    intro hg3
    refine W_gyes rfl rfl ?_
    refine W_fieldAddr rfl fld59_0 (by decide) rfl ?_
    refine W_gyes rfl rfl ?_
    refine W_load rfl ty3 rfl (Cell.own zM rfl) rfl ?_
    refine W_gyes rfl rfl ?_
    refine W_callp (.cons rfl .nil) Tryd.call49 rfl hT (class_pure _) ?_
    refine W_gyes rfl rfl ?_
    refine W_bin rfl rfl b_eql rfl ?_
    exact W_met rfl zR
  refine W_move rfl rfl ?_
  apply W_or
  iterate 4 exact rfl
  case h1 =>
    intro hg9
    refine W_gyes rfl rfl ?_
    refine W_fieldAddr rfl fld59_0 (by decide) rfl ?_
    refine W_gyes rfl rfl ?_
    refine W_load rfl ty3 rfl (Cell.own zM rfl) rfl ?_
    refine W_gyes rfl rfl ?_
    refine W_bin rfl rfl b_geq rfl ?_
    refine W_gyes rfl rfl ?_
    refine W_move rfl rfl ?_
    apply W_and
    iterate 4 exact rfl
    case h1 =>
      intro hg13
      refine W_gyes rfl rfl ?_
      refine W_fieldAddr rfl fld59_0 (by decide) rfl ?_
      refine W_gyes rfl rfl ?_
      refine W_load rfl ty3 rfl (Cell.own zM rfl) rfl ?_
      refine W_gyes rfl rfl ?_
      refine W_callp (.cons rfl .nil) Tryd.call49 rfl hT (class_pure _) ?_
      refine W_gyes rfl rfl ?_
      refine W_bin rfl rfl b_eql rfl ?_
      exact W_met rfl zR
    exact W_met rfl zR
  refine W_nil ?_
  refine W_condS rfl (fun c0 => ?_) (fun c0 => ?_)
  · simp only [cond_true, cond_false, Bool.and_eq_true, Bool.or_eq_true, Bool.and_eq_false_iff, Bool.or_eq_false_iff, decide_eq_true_eq, decide_eq_false_iff_not, Bool.not_eq_true', Bool.not_eq_false', ne_eq, Decidable.not_not] at c0
    refine W_seq ?_
    refine W_anyC ((b3, .cells 59 5 [.int .i64 x.op, .int .i64 x.dst, .int .i64 x.src, .int .i64 x.off, .int .i64 x.imm]) :: (bf, .cells 101 90 (vaRow V)) :: H) (by kernel_rfl) ?_
    refine WC_take 0 (l' := #[true, false, false, false, false, false, false, false, false, false, false, false, false, false, false, false]) rfl (by decide +kernel) (by decide +kernel) (by decide +kernel) rfl (by decide +kernel) (X_move rfl) rfl ?_
    refine WC_take 1 (l' := #[true, true, false, false, false, false, false, false, false, false, false, false, false, false, false, false]) rfl (by decide +kernel) (by decide +kernel) (by decide +kernel) rfl (by decide +kernel) (X_fieldAddr rfl fld59_1 (by decide)) rfl ?_
    refine WC_take 2 (l' := #[true, true, true, false, false, false, false, false, false, false, false, false, false, false, false, false]) rfl (by decide +kernel) (by decide +kernel) (by decide +kernel) rfl (by decide +kernel) (X_load rfl ty3 rfl (Cell.own zM rfl)) rfl ?_
    refine WC_take 3 (l' := #[true, true, true, true, false, false, false, false, false, false, false, false, false, false, false, false]) rfl (by decide +kernel) (by decide +kernel) (by decide +kernel) rfl (by decide +kernel) (X_nilCheck rfl) rfl ?_
    refine WC_take 4 (l' := #[true, true, true, true, true, false, false, false, false, false, false, false, false, false, false, false]) rfl (by decide +kernel) (by decide +kernel) (by decide +kernel) rfl (by decide +kernel) (X_fieldAddr rfl fld101_0 (by decide)) rfl ?_
    refine WC_take 5 (l' := #[true, true, true, true, true, true, false, false, false, false, false, false, false, false, false, false]) rfl (by decide +kernel) (by decide +kernel) (by decide +kernel) rfl (by decide +kernel) (X_indexAddrA (j := dn) rfl rfl ty98 ty41 (by assumption) (by omega) rfl) rfl ?_
    refine WC_take 6 (l' := #[true, true, true, true, true, true, true, false, false, false, false, false, false, false, false, false]) rfl (by decide +kernel) (by decide +kernel) (by decide +kernel) rfl (by decide +kernel) (X_loadB (vs := vaC (V.getD dn zeroV)) rfl ty41 rfl (b := bf) zM (by rw [vaRow_len, Nat.ble_eq]; omega) (by rw [Nat.zero_add]; exact va_at (getV hV (i := dn) (by omega)))) rfl ?_
    refine WC_take 7 (l' := #[true, true, true, true, true, true, true, true, false, false, false, false, false, false, false, false]) rfl (by decide +kernel) (by decide +kernel) (by decide +kernel) rfl (by decide +kernel) (X_move rfl) rfl ?_
    refine WC_take 8 (l' := #[true, true, true, true, true, true, true, true, true, false, false, false, false, false, false, false]) rfl (by decide +kernel) (by decide +kernel) (by decide +kernel) rfl (by decide +kernel) (X_fieldAddr rfl fld59_2 (by decide)) rfl ?_
    refine WC_take 9 (l' := #[true, true, true, true, true, true, true, true, true, true, false, false, false, false, false, false]) rfl (by decide +kernel) (by decide +kernel) (by decide +kernel) rfl (by decide +kernel) (X_load rfl ty3 rfl (Cell.own zM rfl)) rfl ?_
    refine WC_take 10 (l' := #[true, true, true, true, true, true, true, true, true, true, true, false, false, false, false, false]) rfl (by decide +kernel) (by decide +kernel) (by decide +kernel) rfl (by decide +kernel) (X_nilCheck rfl) rfl ?_
    refine WC_take 11 (l' := #[true, true, true, true, true, true, true, true, true, true, true, true, false, false, false, false]) rfl (by decide +kernel) (by decide +kernel) (by decide +kernel) rfl (by decide +kernel) (X_fieldAddr rfl fld101_0 (by decide)) rfl ?_
    refine WC_take 12 (l' := #[true, true, true, true, true, true, true, true, true, true, true, true, true, false, false, false]) rfl (by decide +kernel) (by decide +kernel) (by decide +kernel) rfl (by decide +kernel) (X_indexAddrA (j := sn) rfl rfl ty98 ty41 (by assumption) (by omega) rfl) rfl ?_
    refine WC_take 13 (l' := #[true, true, true, true, true, true, true, true, true, true, true, true, true, true, false, false]) rfl (by decide +kernel) (by decide +kernel) (by decide +kernel) rfl (by decide +kernel) (X_loadB (vs := vaC (V.getD sn zeroV)) rfl ty41 rfl (b := bf) zM (by rw [vaRow_len, Nat.ble_eq]; omega) (by rw [Nat.zero_add]; exact va_at (getV hV (i := sn) (by omega)))) rfl ?_
    refine WC_one 14 (l' := #[true, true, true, true, true, true, true, true, true, true, true, true, true, true, true, false]) zH (by decide +kernel) rfl (by decide +kernel) ?_
    refine W_storeA rfl rfl ty41 rfl rfl (b := b4) zM (by decide) rfl zU ?_
    refine W_nil ?_
    refine WC_goal ?_
    refine WC_one 15 (l' := #[true, true, true, true, true, true, true, true, true, true, true, true, true, true, true, true]) zH (by decide +kernel) rfl (by decide +kernel) ?_
    refine W_storeA rfl rfl ty41 rfl rfl (b := b5) zM (by decide) rfl zU ?_
    refine W_nil ?_
    refine WC_goal ?_
    refine WC_done zH (by decide +kernel) ?_
    refine W_ret2G (H2 := (bf, .cells 101 90 (vaRow V)) :: H) Tryd.results82 (.nil _) (.own rfl ty41 rfl zM rfl) (.own rfl ty41 rfl zM rfl) zH ?_
    exact ⟨by rw [hdT]; unfold othr; rw [if_pos (by omega), hsT]; rfl, rfl⟩
  · simp only [cond_true, cond_false, Bool.and_eq_true, Bool.or_eq_true, Bool.and_eq_false_iff, Bool.or_eq_false_iff, decide_eq_true_eq, decide_eq_false_iff_not, Bool.not_eq_true', Bool.not_eq_false', ne_eq, Decidable.not_not] at c0
    refine W_skip ?_
    refine W_seq ?_
    refine W_anyC ((b3, .cells 59 5 [.int .i64 x.op, .int .i64 x.dst, .int .i64 x.src, .int .i64 x.off, .int .i64 x.imm]) :: (bf, .cells 101 90 (vaRow V)) :: H) (by kernel_rfl) ?_
    refine WC_take 0 (l' := #[true, false, false, false, false, false, false, false, false, false, false, false, false]) rfl (by decide +kernel) (by decide +kernel) (by decide +kernel) rfl (by decide +kernel) (X_move rfl) rfl ?_
    refine WC_take 1 (l' := #[true, true, false, false, false, false, false, false, false, false, false, false, false]) rfl (by decide +kernel) (by decide +kernel) (by decide +kernel) rfl (by decide +kernel) (X_fieldAddr rfl fld59_1 (by decide)) rfl ?_
    refine WC_take 2 (l' := #[true, true, true, false, false, false, false, false, false, false, false, false, false]) rfl (by decide +kernel) (by decide +kernel) (by decide +kernel) rfl (by decide +kernel) (X_load rfl ty3 rfl (Cell.own zM rfl)) rfl ?_
    refine WC_take 3 (l' := #[true, true, true, true, false, false, false, false, false, false, false, false, false]) rfl (by decide +kernel) (by decide +kernel) (by decide +kernel) rfl (by decide +kernel) (X_nilCheck rfl) rfl ?_
    refine WC_take 4 (l' := #[true, true, true, true, true, false, false, false, false, false, false, false, false]) rfl (by decide +kernel) (by decide +kernel) (by decide +kernel) rfl (by decide +kernel) (X_fieldAddr rfl fld101_0 (by decide)) rfl ?_
    refine WC_take 5 (l' := #[true, true, true, true, true, true, false, false, false, false, false, false, false]) rfl (by decide +kernel) (by decide +kernel) (by decide +kernel) rfl (by decide +kernel) (X_indexAddrA (j := dn) rfl rfl ty98 ty41 (by assumption) (by omega) rfl) rfl ?_
    refine WC_take 6 (l' := #[true, true, true, true, true, true, true, false, false, false, false, false, false]) rfl (by decide +kernel) (by decide +kernel) (by decide +kernel) rfl (by decide +kernel) (X_loadB (vs := vaC (V.getD dn zeroV)) rfl ty41 rfl (b := bf) zM (by rw [vaRow_len, Nat.ble_eq]; omega) (by rw [Nat.zero_add]; exact va_at (getV hV (i := dn) (by omega)))) rfl ?_
    refine WC_take 7 (l' := #[true, true, true, true, true, true, true, true, false, false, false, false, false]) rfl (by decide +kernel) (by decide +kernel) (by decide +kernel) rfl (by decide +kernel) (X_fieldAddr rfl fld59_4 (by decide)) rfl ?_
    refine WC_take 8 (l' := #[true, true, true, true, true, true, true, true, true, false, false, false, false]) rfl (by decide +kernel) (by decide +kernel) (by decide +kernel) rfl (by decide +kernel) (X_load rfl ty3 rfl (Cell.own zM rfl)) rfl ?_
    refine WC_one 9 (l' := #[true, true, true, true, true, true, true, true, true, true, false, false, false]) zH (by decide +kernel) rfl (by decide +kernel) ?_
    refine W_callp (.cons rfl .nil) Tryd.call86 rfl hT (word_pure _) ?_
    refine W_nil ?_
    refine WC_goal ?_
    refine WC_one 10 (l' := #[true, true, true, true, true, true, true, true, true, true, true, false, false]) zH (by decide +kernel) rfl (by decide +kernel) ?_
    refine W_callp (.cons rfl .nil) Tryd.call21 rfl (T := fun _ => True) trivial (Num_pure _) ?_
    refine W_nil ?_
    refine WC_goal ?_
    refine WC_one 11 (l' := #[true, true, true, true, true, true, true, true, true, true, true, true, false]) zH (by decide +kernel) rfl (by decide +kernel) ?_
    refine W_storeA rfl rfl ty41 rfl rfl (b := b4) zM (by decide) rfl zU ?_
    refine W_nil ?_
    refine WC_goal ?_
    refine WC_one 12 (l' := #[true, true, true, true, true, true, true, true, true, true, true, true, true]) zH (by decide +kernel) rfl (by decide +kernel) ?_
    refine W_storeA rfl rfl ty41 rfl rfl (b := b5) zM (by decide) rfl zU ?_
    refine W_nil ?_
    refine WC_goal ?_
    refine WC_done zH (by decide +kernel) ?_
    refine W_ret2G (H2 := (bf, .cells 101 90 (vaRow V)) :: H) Tryd.results82 (.nil _) (.own rfl ty41 rfl zM rfl) (.own rfl ty41 rfl zM rfl) zH ?_
    exact ⟨by rw [hdT]; unfold othr; rw [if_neg (by omega)]; rfl, rfl⟩
end Go.Proofs.YtcmfldfeakmdoaaDoor
namespace Go.Proofs.YtcmfldfeakmdoaaDoor
open Go Go.Sl
attribute [local irreducible] W
def sumV (V : List Va) (x : Ins) : List Va × Int :=
  if x.op = 11 ∨ x.op = 27 then (V.set x.dst.toNat (othr V x), 0)
  else if (V.getD x.dst.toNat zeroV).ref = true ∨ (othr V x).ref = true then (V, 17)
  else (V.set x.dst.toNat ⟨false, 0, 0, 0, doS (plainOf x.op) (V.getD x.dst.toNat zeroV).n (othr V x).n⟩, 0)
set_option maxHeartbeats 1000000 in
theorem sum_L {w0 : World} {H : Heap} {bf : Nat} {V : List Va} {x : Ins} (hV : V.length = 18) (hc : cls x.op = 1) (hop : -9223372036854775808 ≤ x.op ∧ x.op ≤ 9223372036854775807) (hn : 0 ≤ (othr V x).n) (hd : 0 ≤ x.dst ∧ x.dst < 10) (hs : 0 ≤ x.src ∧ x.src < 10) (hT : Tab w0) : LCalls Tryd.prog w0 72 #[.pointer (some ⟨bf, 0, none⟩), .agg #[.int .i64 x.op, .int .i64 x.dst, .int .i64 x.src, .int .i64 x.off, .int .i64 x.imm]] ((bf, .cells 101 90 (vaRow V)) :: H) (fun v H' => v = .int .i64 (sumV V x).2 ∧ H' = (bf, .cells 101 90 (vaRow (sumV V x).1)) :: H) := by
  obtain ⟨dn, hdn⟩ : ∃ dn : Nat, x.dst = (dn : Int) := ⟨x.dst.toNat, by omega⟩
  have hdT : x.dst.toNat = dn := by omega
  refine L_enter (l := [.pointer (some ⟨bf, 0, none⟩), .agg #[.int .i64 x.op, .int .i64 x.dst, .int .i64 x.src, .int .i64 x.off, .int .i64 x.imm]]) Tryd.func72 rfl Tryd.ntmps72 rfl rfl ?_
  refine W_sr ?_
  refine W_box rfl rfl rfl (fun b3 => ?_)
  refine W_assign rfl rfl ?_
  refine W_nil ?_
  refine W_sr ?_
  refine W_move rfl rfl ?_
  refine W_loadB rfl ty59 rfl zM rfl zF rfl ?_
  refine W_call (.cons rfl (.cons rfl .nil)) Tryd.call82 rfl ((operands_L (H := (b3, .cells 59 5 [.int .i64 x.op, .int .i64 x.dst, .int .i64 x.src, .int .i64 x.off, .int .i64 x.imm]) :: H) hV hd hs hT).hsub zH) ?_
  rintro v H' ⟨rfl, rfl⟩
  refine W_move rfl rfl ?_
  refine W_extract rfl rfl rfl ?_
  refine W_extract rfl rfl rfl ?_
  refine W_alloc ty41 rfl rfl (fun b5 => ?_)
  refine W_alloc ty41 rfl rfl (fun b6 => ?_)
  refine W_storeA rfl rfl ty41 rfl rfl (b := b5) zM (by decide) rfl zU ?_
  refine W_storeA rfl rfl ty41 rfl rfl (b := b6) zM (by decide) rfl zU ?_
  refine W_nil ?_
  refine W_seq ?_
  refine W_block ?_
  refine W_sr ?_
  refine W_fieldAddr rfl fld59_0 (by decide) rfl ?_
  refine W_load rfl ty3 rfl (Cell.own zM rfl) rfl ?_
  refine W_bin rfl rfl b_eql rfl ?_
  refine W_move rfl rfl ?_
  apply W_or
  iterate 4 exact rfl
  case h1 =>
    intro hg3
    refine W_gyes rfl rfl ?_
    refine W_fieldAddr rfl fld59_0 (by decide) rfl ?_
    refine W_gyes rfl rfl ?_
    refine W_load rfl ty3 rfl (Cell.own zM rfl) rfl ?_
    refine W_gyes rfl rfl ?_
    refine W_bin rfl rfl b_eql rfl ?_
    exact W_met rfl zR
  refine W_assign rfl rfl ?_
  refine W_nil ?_
  refine W_condS rfl (fun c0 => ?_) (fun c0 => ?_)
  · simp only [cond_true, cond_false, Bool.and_eq_true, Bool.or_eq_true, Bool.and_eq_false_iff, Bool.or_eq_false_iff, decide_eq_true_eq, decide_eq_false_iff_not, Bool.not_eq_true', Bool.not_eq_false', ne_eq, Decidable.not_not] at c0
    refine W_seq ?_
    refine W_cut [] ((bf, .cells 101 90 (vaRow (V.set dn (othr V x)))) :: H) ?_ ?_
    · skip
      refine W_any (by kernel_rfl) ?_
      refine WA_take 0 (l' := #[true, false, false, false, false, false, false, false]) rfl (by decide +kernel) (by decide +kernel) (by decide +kernel) (fun _ h => by cases h) (fun _ h => by cases h) (by decide +kernel) (X_move rfl) rfl ?_
      refine WA_take 1 (l' := #[true, true, false, false, false, false, false, false]) rfl (by decide +kernel) (by decide +kernel) (by decide +kernel) (fun _ h => by cases h) (fun _ h => by cases h) (by decide +kernel) (X_fieldAddr rfl fld59_1 (by decide)) rfl ?_
      refine WA_take 4 (l' := #[true, true, false, false, true, false, false, false]) rfl (by decide +kernel) (by decide +kernel) (by decide +kernel) (fun _ h => by cases h) (fun _ h => by cases h) (by decide +kernel) (X_nilCheck rfl) rfl ?_
      refine WA_take 5 (l' := #[true, true, false, false, true, true, false, false]) rfl (by decide +kernel) (by decide +kernel) (by decide +kernel) (fun _ h => by cases h) (fun _ h => by cases h) (by decide +kernel) (X_fieldAddr rfl fld101_0 (by decide)) rfl ?_
      refine WA_two 2 3 (l' := #[true, true, true, false, true, true, false, false]) (l'' := #[true, true, false, true, true, true, false, false]) (by decide +kernel) rfl rfl (by decide +kernel) (by decide +kernel) ?_ ?_
      · skip
        refine W_load rfl ty3 rfl (Cell.own zM rfl) rfl ?_
        refine W_nil ?_
        refine WA_goal ?_
        refine WA_one 3 (l' := #[true, true, true, true, true, true, false, false]) (by decide +kernel) rfl (by decide +kernel) (fun _ h => by cases h) ?_
        refine W_loadB (vs := vaC (othr V x)) rfl ty41 rfl zM rfl rfl rfl ?_
        refine W_nil ?_
        refine WA_goal ?_
        refine WA_take 6 (l' := #[true, true, true, true, true, true, true, false]) rfl (by decide +kernel) (by decide +kernel) (by decide +kernel) (fun _ h => by cases h) (fun _ h => by cases h) (by decide +kernel) (X_indexAddrA (j := dn) rfl rfl ty98 ty41 (by assumption) (by omega) rfl) rfl ?_
        refine WA_one 7 (l' := #[true, true, true, true, true, true, true, true]) (by decide +kernel) rfl (by decide +kernel) (fun _ h => by cases h) ?_
        refine W_storeA rfl rfl ty41 rfl rfl (b := bf) zM (by rw [vaRow_len]; exact (by omega : 0 + 0 + dn * 5 + 5 ≤ V.length * 5)) ((congrArg (fun z => spliceL (vaRow V) z (vaC (othr V x))) (Nat.zero_add (dn * 5))).trans (va_set (othr V x) (by omega))) zU ?_
        refine W_nil ?_
        refine WA_goal ?_
        refine WA_done (by decide +kernel) ?_
        refine W_joined (sub_nil _) zH
      · skip
        refine W_loadB (vs := vaC (othr V x)) rfl ty41 rfl zM rfl rfl rfl ?_
        refine W_nil ?_
        refine WA_goal ?_
        refine WA_one 2 (l' := #[true, true, true, true, true, true, false, false]) (by decide +kernel) rfl (by decide +kernel) (fun _ h => by cases h) ?_
        refine W_load rfl ty3 rfl (Cell.own zM rfl) rfl ?_
        refine W_nil ?_
        refine WA_goal ?_
        refine WA_take 6 (l' := #[true, true, true, true, true, true, true, false]) rfl (by decide +kernel) (by decide +kernel) (by decide +kernel) (fun _ h => by cases h) (fun _ h => by cases h) (by decide +kernel) (X_indexAddrA (j := dn) rfl rfl ty98 ty41 (by assumption) (by omega) rfl) rfl ?_
        refine WA_one 7 (l' := #[true, true, true, true, true, true, true, true]) (by decide +kernel) rfl (by decide +kernel) (fun _ h => by cases h) ?_
        refine W_storeA rfl rfl ty41 rfl rfl (b := bf) zM (by rw [vaRow_len]; exact (by omega : 0 + 0 + dn * 5 + 5 ≤ V.length * 5)) ((congrArg (fun z => spliceL (vaRow V) z (vaC (othr V x))) (Nat.zero_add (dn * 5))).trans (va_set (othr V x) (by omega))) zU ?_
        refine W_nil ?_
        refine WA_goal ?_
        refine WA_done (by decide +kernel) ?_
        refine W_joined (sub_nil _) zH
    refine W_sr ?_
    refine W_assign rfl rfl ?_
    refine W_nil ?_
    refine W_ret1m (H2 := (bf, .cells 101 90 (vaRow (V.set dn (othr V x)))) :: H) Tryd.results72 rfl (.nil _) zH ?_
    unfold sumV
    rw [if_pos c0, hdT]
    exact ⟨rfl, rfl⟩
  · simp only [cond_true, cond_false, Bool.and_eq_true, Bool.or_eq_true, Bool.and_eq_false_iff, Bool.or_eq_false_iff, decide_eq_true_eq, decide_eq_false_iff_not, Bool.not_eq_true', Bool.not_eq_false', ne_eq, Decidable.not_not] at c0
    refine W_sr ?_
    refine W_fieldAddr rfl fld41_0 (by decide) rfl ?_
    refine W_load rfl ty4 rfl (Cell.own zM rfl) rfl ?_
    refine W_move rfl rfl ?_
    apply W_or
    iterate 4 exact rfl
    case h1 =>
      intro hg2
      refine W_gyes rfl rfl ?_
      refine W_fieldAddr rfl fld41_0 (by decide) rfl ?_
      refine W_gyes rfl rfl ?_
      refine W_load rfl ty4 rfl (Cell.own zM rfl) rfl ?_
      exact W_met rfl zR
    refine W_assign rfl rfl ?_
    refine W_nil ?_
    refine W_condS rfl (fun c1 => ?_) (fun c1 => ?_)
    · simp only [cond_true, cond_false, Bool.and_eq_true, Bool.or_eq_true, Bool.and_eq_false_iff, Bool.or_eq_false_iff, decide_eq_true_eq, decide_eq_false_iff_not, Bool.not_eq_true', Bool.not_eq_false', ne_eq, Decidable.not_not] at c1
      refine W_sr ?_
      refine W_assign rfl rfl ?_
      refine W_nil ?_
      refine W_ret1m (H2 := (bf, .cells 101 90 (vaRow V)) :: H) Tryd.results72 rfl (.nil _) zH ?_
      unfold sumV
      rw [if_neg (by omega), if_pos c1]
      exact ⟨rfl, rfl⟩
    · simp only [cond_true, cond_false, Bool.and_eq_true, Bool.or_eq_true, Bool.and_eq_false_iff, Bool.or_eq_false_iff, decide_eq_true_eq, decide_eq_false_iff_not, Bool.not_eq_true', Bool.not_eq_false', ne_eq, Decidable.not_not] at c1
      refine W_skip ?_
      refine W_blk ?_
      refine W_sr ?_
      refine W_fieldAddr rfl fld59_0 (by decide) rfl ?_
      refine W_load rfl ty3 rfl (Cell.own zM rfl) rfl ?_
      refine W_fieldAddr rfl fld41_3 (by decide) rfl ?_
      refine W_load rfl ty28 rfl (Cell.own zM rfl) rfl ?_
      refine W_fieldAddr rfl fld41_3 (by decide) rfl ?_
      refine W_load rfl ty28 rfl (Cell.own zM rfl) rfl ?_
      refine W_callp (.cons rfl (.cons rfl (.cons rfl .nil))) Tryd.call84 rfl hT (v := .tuple #[U (doS (plainOf x.op) (V.getD x.dst.toNat zeroV).n (othr V x).n), .int .i64 0]) (by have h := do_pure x.op (V.getD x.dst.toNat zeroV).n (othr V x).n hop.1 hop.2 hn; unfold doR at h; rw [if_pos hc] at h; exact h) ?_
      refine W_move rfl rfl ?_
      refine W_extract rfl rfl rfl ?_
      refine W_extract rfl rfl rfl ?_
      refine W_assign rfl rfl ?_
      refine W_assign rfl rfl ?_
      refine W_nil ?_
      refine W_seq ?_
      refine W_sr ?_
      refine W_move rfl rfl ?_
      refine W_bin rfl rfl b_eql rfl ?_
      refine W_nil ?_
      refine W_condT rfl rfl ?_
      refine W_cut [(8, .int .i64 0)] ((bf, .cells 101 90 (vaRow (V.set dn ⟨false, 0, 0, 0, doS (plainOf x.op) (V.getD x.dst.toNat zeroV).n (othr V x).n⟩))) :: H) ?_ ?_
      · skip
        refine W_any (by kernel_rfl) ?_
        refine WA_take 0 (l' := #[true, false, false, false, false, false, false, false, false]) rfl (by decide +kernel) (by decide +kernel) (by decide +kernel) (fun _ h => by cases h) (fun _ h => by cases h) (by decide +kernel) (X_move rfl) rfl ?_
        refine WA_take 1 (l' := #[true, true, false, false, false, false, false, false, false]) rfl (by decide +kernel) (by decide +kernel) (by decide +kernel) (fun _ h => by cases h) (fun _ h => by cases h) (by decide +kernel) (X_fieldAddr rfl fld59_1 (by decide)) rfl ?_
        refine WA_take 3 (l' := #[true, true, false, true, false, false, false, false, false]) rfl (by decide +kernel) (by decide +kernel) (by decide +kernel) (fun _ h => by cases h) (fun _ h => by cases h) (by decide +kernel) (X_move rfl) rfl ?_
        refine WA_take 5 (l' := #[true, true, false, true, false, true, false, false, false]) rfl (by decide +kernel) (by decide +kernel) (by decide +kernel) (fun _ h => by cases h) (fun _ h => by cases h) (by decide +kernel) (X_nilCheck rfl) rfl ?_
        refine WA_take 6 (l' := #[true, true, false, true, false, true, true, false, false]) rfl (by decide +kernel) (by decide +kernel) (by decide +kernel) (fun _ h => by cases h) (fun _ h => by cases h) (by decide +kernel) (X_fieldAddr rfl fld101_0 (by decide)) rfl ?_
        refine WA_two 2 4 (l' := #[true, true, true, true, false, true, true, false, false]) (l'' := #[true, true, false, true, true, true, true, false, false]) (by decide +kernel) rfl rfl (by decide +kernel) (by decide +kernel) ?_ ?_
        · skip
          refine W_load rfl ty3 rfl (Cell.own zM rfl) rfl ?_
          refine W_nil ?_
          refine WA_goal ?_
          refine WA_one 4 (l' := #[true, true, true, true, true, true, true, false, false]) (by decide +kernel) rfl (by decide +kernel) (fun _ h => by cases h) ?_
          refine W_callp (.cons rfl .nil) Tryd.call21 rfl (T := fun _ => True) trivial (Num_pure _) ?_
          refine W_nil ?_
          refine WA_goal ?_
          refine WA_take 7 (l' := #[true, true, true, true, true, true, true, true, false]) rfl (by decide +kernel) (by decide +kernel) (by decide +kernel) (fun _ h => by cases h) (fun _ h => by cases h) (by decide +kernel) (X_indexAddrA (j := dn) rfl rfl ty98 ty41 (by assumption) (by omega) rfl) rfl ?_
          refine WA_one 8 (l' := #[true, true, true, true, true, true, true, true, true]) (by decide +kernel) rfl (by decide +kernel) (fun _ h => by cases h) ?_
          refine W_storeA rfl rfl ty41 rfl rfl (b := bf) zM (by rw [vaRow_len]; exact (by omega : 0 + 0 + dn * 5 + 5 ≤ V.length * 5)) ((congrArg (fun z => spliceL (vaRow V) z (vaC ⟨false, 0, 0, 0, doS (plainOf x.op) (V.getD x.dst.toNat zeroV).n (othr V x).n⟩)) (Nat.zero_add (dn * 5))).trans (va_set ⟨false, 0, 0, 0, doS (plainOf x.op) (V.getD x.dst.toNat zeroV).n (othr V x).n⟩ (by omega))) zU ?_
          refine W_nil ?_
          refine WA_goal ?_
          refine WA_done (by decide +kernel) ?_
          refine W_joined (sub_cons rfl (sub_nil _)) zH
        · skip
          refine W_callp (.cons rfl .nil) Tryd.call21 rfl (T := fun _ => True) trivial (Num_pure _) ?_
          refine W_nil ?_
          refine WA_goal ?_
          refine WA_one 2 (l' := #[true, true, true, true, true, true, true, false, false]) (by decide +kernel) rfl (by decide +kernel) (fun _ h => by cases h) ?_
          refine W_load rfl ty3 rfl (Cell.own zM rfl) rfl ?_
          refine W_nil ?_
          refine WA_goal ?_
          refine WA_take 7 (l' := #[true, true, true, true, true, true, true, true, false]) rfl (by decide +kernel) (by decide +kernel) (by decide +kernel) (fun _ h => by cases h) (fun _ h => by cases h) (by decide +kernel) (X_indexAddrA (j := dn) rfl rfl ty98 ty41 (by assumption) (by omega) rfl) rfl ?_
          refine WA_one 8 (l' := #[true, true, true, true, true, true, true, true, true]) (by decide +kernel) rfl (by decide +kernel) (fun _ h => by cases h) ?_
          refine W_storeA rfl rfl ty41 rfl rfl (b := bf) zM (by rw [vaRow_len]; exact (by omega : 0 + 0 + dn * 5 + 5 ≤ V.length * 5)) ((congrArg (fun z => spliceL (vaRow V) z (vaC ⟨false, 0, 0, 0, doS (plainOf x.op) (V.getD x.dst.toNat zeroV).n (othr V x).n⟩)) (Nat.zero_add (dn * 5))).trans (va_set ⟨false, 0, 0, 0, doS (plainOf x.op) (V.getD x.dst.toNat zeroV).n (othr V x).n⟩ (by omega))) zU ?_
          refine W_nil ?_
          refine WA_goal ?_
          refine WA_done (by decide +kernel) ?_
          refine W_joined (sub_cons rfl (sub_nil _)) zH
      refine W_sr ?_
      refine W_move rfl rfl ?_
      refine W_assign rfl rfl ?_
      refine W_nil ?_
      refine W_ret1m (H2 := (bf, .cells 101 90 (vaRow (V.set dn ⟨false, 0, 0, 0, doS (plainOf x.op) (V.getD x.dst.toNat zeroV).n (othr V x).n⟩))) :: H) Tryd.results72 rfl (.nil _) zH ?_
      unfold sumV
      rw [if_neg (by omega), if_neg (by intro h; rcases h with h | h <;> simp_all), hdT]
      exact ⟨rfl, rfl⟩
end Go.Proofs.YtcmfldfeakmdoaaDoor
namespace Go.Proofs.YtcmfldfeakmdoaaDoor
open Go Go.Sl
attribute [local irreducible] W
theorem chk_in {x : Ins} (h : isaChk x = 0) : cls x.op ≠ 0 ∧ (0 ≤ x.dst ∧ x.dst < 10) ∧ (0 ≤ x.src ∧ x.src < 10) := by
  unfold isaChk at h
  by_cases h0 : cls x.op = 0
  · rw [if_pos h0] at h; omega
  rw [if_neg h0] at h
  by_cases h1 : (outB x.dst 0 10 || outB x.src 0 10 || outB x.off (-32768) 32768 || outB x.imm (-2147483648) 2147483648) = true
  · rw [if_pos h1] at h; omega
  simp only [outB, Bool.or_eq_true, decide_eq_true_eq] at h1
  exact ⟨h0, by omega, by omega⟩
theorem getD_n {V : List Va} (hW : ∀ v ∈ V, 0 ≤ v.n) (i : Nat) : 0 ≤ (V.getD i zeroV).n := by
  rw [List.getD_eq_getElem?_getD]
  cases h : V[i]? with
  | none => exact Int.le_refl 0
  | some v => exact hW v (List.mem_of_getElem? h)
theorem othr_n {V : List Va} {x : Ins} (hW : ∀ v ∈ V, 0 ≤ v.n) : 0 ≤ (othr V x).n := by
  unfold othr
  split
  · exact getD_n hW _
  · show 0 ≤ IntKind.u64.wrap x.imm
    simp [IntKind.wrap, IntKind.signed, IntKind.bits, IntKind.max]; omega
def doV (V : List Va) (x : Ins) : List Va × Int :=
  if isaChk x ≠ 0 then (V, isaChk x)
  else if cls x.op = 1 then sumV V x
  else if x.op = 64 then (if (rdV V true x.off).2 = 0 then V.set x.dst.toNat (rdV V true x.off).1 else V, (rdV V true x.off).2)
  else if x.op = 65 then wrV V true x.off (V.getD x.src.toNat zeroV)
  else (V, 11)
set_option maxHeartbeats 1000000 in
theorem Do_L {w0 : World} {H : Heap} {bf : Nat} {V : List Va} {x : Ins} (hV : V.length = 18) (hop : -9223372036854775808 ≤ x.op ∧ x.op ≤ 9223372036854775807) (hW : ∀ v ∈ V, 0 ≤ v.n) (hT : Tab w0) : LCalls Tryd.prog w0 62 #[.pointer (some ⟨bf, 0, none⟩), .agg #[.int .i64 x.op, .int .i64 x.dst, .int .i64 x.src, .int .i64 x.off, .int .i64 x.imm]] ((bf, .cells 101 90 (vaRow V)) :: H) (fun v H' => v = .int .i64 (doV V x).2 ∧ H' = (bf, .cells 101 90 (vaRow (doV V x).1)) :: H) := by
  have hR : isaChk x = 0 → ∃ dn sn : Nat, x.dst = (dn : Int) ∧ x.src = (sn : Int) ∧ x.dst.toNat = dn ∧ x.src.toNat = sn ∧ dn < 10 ∧ sn < 10 := fun h => by
    obtain ⟨_, h1, h2⟩ := chk_in h
    exact ⟨x.dst.toNat, x.src.toNat, by omega, by omega, rfl, rfl, by omega, by omega⟩
  refine L_enter (l := [.pointer (some ⟨bf, 0, none⟩), .agg #[.int .i64 x.op, .int .i64 x.dst, .int .i64 x.src, .int .i64 x.off, .int .i64 x.imm]]) Tryd.func62 rfl Tryd.ntmps62 rfl rfl ?_
  refine W_sr ?_
  refine W_box rfl rfl rfl (fun b3 => ?_)
  refine W_assign rfl rfl ?_
  refine W_nil ?_
  refine W_seq ?_
  refine W_sr ?_
  refine W_move rfl rfl ?_
  refine W_x (X_ptrNil rfl rfl ty81) (fun _ h => by cases h) rfl ?_
  refine W_nil ?_
  refine W_condF rfl rfl ?_
  refine W_skip ?_
  refine W_seq ?_
  refine W_sr ?_
  refine W_loadB rfl ty59 rfl zM rfl zF rfl ?_
  refine W_callp (.cons rfl .nil) Tryd.call32 rfl hT (isaChk_pure _) ?_
  refine W_assign rfl rfl ?_
  refine W_nil ?_
  refine W_sr ?_
  refine W_move rfl rfl ?_
  refine W_bin rfl rfl b_neq rfl ?_
  refine W_nil ?_
  refine W_condS rfl (fun c0 => ?_) (fun c0 => ?_)
  · simp only [cond_true, cond_false, Bool.and_eq_true, Bool.or_eq_true, Bool.and_eq_false_iff, Bool.or_eq_false_iff, decide_eq_true_eq, decide_eq_false_iff_not, Bool.not_eq_true', Bool.not_eq_false', ne_eq, Decidable.not_not] at c0
    refine W_sr ?_
    refine W_move rfl rfl ?_
    refine W_assign rfl rfl ?_
    refine W_nil ?_
    refine W_ret1m (H2 := (bf, .cells 101 90 (vaRow V)) :: H) Tryd.results62 rfl (.nil _) zH ?_
    unfold doV
    rw [if_pos c0]
    exact ⟨rfl, rfl⟩
  · simp only [cond_true, cond_false, Bool.and_eq_true, Bool.or_eq_true, Bool.and_eq_false_iff, Bool.or_eq_false_iff, decide_eq_true_eq, decide_eq_false_iff_not, Bool.not_eq_true', Bool.not_eq_false', ne_eq, Decidable.not_not] at c0
    refine W_skip ?_
    refine W_seq ?_
    refine W_block ?_
    refine W_sr ?_
    refine W_fieldAddr rfl fld59_0 (by decide) rfl ?_
    refine W_load rfl ty3 rfl (Cell.own zM rfl) rfl ?_
    refine W_callp (.cons rfl .nil) Tryd.call49 rfl hT (class_pure _) ?_
    refine W_bin rfl rfl b_eql rfl ?_
    refine W_assign rfl rfl ?_
    refine W_nil ?_
    refine W_condS rfl (fun c1 => ?_) (fun c1 => ?_)
    · simp only [cond_true, cond_false, Bool.and_eq_true, Bool.or_eq_true, Bool.and_eq_false_iff, Bool.or_eq_false_iff, decide_eq_true_eq, decide_eq_false_iff_not, Bool.not_eq_true', Bool.not_eq_false', ne_eq, Decidable.not_not] at c1
      refine W_sr ?_
      refine W_move rfl rfl ?_
      refine W_loadB rfl ty59 rfl zM rfl zF rfl ?_
      refine W_call (.cons rfl (.cons rfl .nil)) Tryd.call72 rfl ((sum_L (H := (b3, .cells 59 5 [.int .i64 x.op, .int .i64 x.dst, .int .i64 x.src, .int .i64 x.off, .int .i64 x.imm]) :: H) hV c1 hop (othr_n hW) (chk_in (by simpa using c0)).2.1 (chk_in (by simpa using c0)).2.2 hT).hsub zH) ?_
      rintro v H' ⟨rfl, rfl⟩
      refine W_assign rfl rfl ?_
      refine W_nil ?_
      refine W_ret1m (H2 := (bf, .cells 101 90 (vaRow (sumV V x).1)) :: H) Tryd.results62 rfl (.nil _) zH ?_
      unfold doV
      rw [if_neg (fun h => h c0), if_pos c1]
      exact ⟨rfl, rfl⟩
    · simp only [cond_true, cond_false, Bool.and_eq_true, Bool.or_eq_true, Bool.and_eq_false_iff, Bool.or_eq_false_iff, decide_eq_true_eq, decide_eq_false_iff_not, Bool.not_eq_true', Bool.not_eq_false', ne_eq, Decidable.not_not] at c1
      refine W_sr ?_
      refine W_fieldAddr rfl fld59_0 (by decide) rfl ?_
      refine W_load rfl ty3 rfl (Cell.own zM rfl) rfl ?_
      refine W_bin rfl rfl b_eql rfl ?_
      refine W_assign rfl rfl ?_
      refine W_nil ?_
      refine W_condS rfl (fun c2 => ?_) (fun c2 => ?_)
      · simp only [cond_true, cond_false, Bool.and_eq_true, Bool.or_eq_true, Bool.and_eq_false_iff, Bool.or_eq_false_iff, decide_eq_true_eq, decide_eq_false_iff_not, Bool.not_eq_true', Bool.not_eq_false', ne_eq, Decidable.not_not] at c2
        refine W_sr ?_
        refine W_move rfl rfl ?_
        refine W_fieldAddr rfl fld59_3 (by decide) rfl ?_
        refine W_load rfl ty3 rfl (Cell.own zM rfl) rfl ?_
        refine W_call (.cons rfl (.cons rfl .nil)) Tryd.call73 rfl ((Word_L (H := (b3, .cells 59 5 [.int .i64 x.op, .int .i64 x.dst, .int .i64 x.src, .int .i64 x.off, .int .i64 x.imm]) :: H) (at_ := x.off) hV).hsub zH) ?_
        rintro v H' ⟨rfl, rfl⟩
        refine W_move rfl rfl ?_
        refine W_extract rfl rfl rfl ?_
        refine W_extract rfl rfl rfl ?_
        refine W_alloc ty41 rfl rfl (fun b6 => ?_)
        refine W_storeA rfl rfl ty41 rfl rfl (b := b6) zM (by decide) rfl zU ?_
        refine W_assign rfl rfl ?_
        refine W_nil ?_
        refine W_seq ?_
        refine W_sr ?_
        refine W_move rfl rfl ?_
        refine W_bin rfl rfl b_eql rfl ?_
        refine W_nil ?_
        refine W_condS rfl (fun c3 => ?_) (fun c3 => ?_)
        · simp only [cond_true, cond_false, Bool.and_eq_true, Bool.or_eq_true, Bool.and_eq_false_iff, Bool.or_eq_false_iff, decide_eq_true_eq, decide_eq_false_iff_not, Bool.not_eq_true', Bool.not_eq_false', ne_eq, Decidable.not_not] at c3
          obtain ⟨dn, sn, hdn, hsn, hdT, hsT, hdl, hsl⟩ := hR (by simpa using c0)
          refine W_cut [(7, .int .i64 (rdV V true x.off).2)] ((bf, .cells 101 90 (vaRow (V.set dn (rdV V true x.off).1))) :: H) ?_ ?_
          · skip
            refine W_any (by kernel_rfl) ?_
            refine WA_take 0 (l' := #[true, false, false, false, false, false, false, false]) rfl (by decide +kernel) (by decide +kernel) (by decide +kernel) (fun _ h => by cases h) (fun _ h => by cases h) (by decide +kernel) (X_move rfl) rfl ?_
            refine WA_take 1 (l' := #[true, true, false, false, false, false, false, false]) rfl (by decide +kernel) (by decide +kernel) (by decide +kernel) (fun _ h => by cases h) (fun _ h => by cases h) (by decide +kernel) (X_fieldAddr rfl fld59_1 (by decide)) rfl ?_
            refine WA_take 4 (l' := #[true, true, false, false, true, false, false, false]) rfl (by decide +kernel) (by decide +kernel) (by decide +kernel) (fun _ h => by cases h) (fun _ h => by cases h) (by decide +kernel) (X_nilCheck rfl) rfl ?_
            refine WA_take 5 (l' := #[true, true, false, false, true, true, false, false]) rfl (by decide +kernel) (by decide +kernel) (by decide +kernel) (fun _ h => by cases h) (fun _ h => by cases h) (by decide +kernel) (X_fieldAddr rfl fld101_0 (by decide)) rfl ?_
            refine WA_two 2 3 (l' := #[true, true, true, false, true, true, false, false]) (l'' := #[true, true, false, true, true, true, false, false]) (by decide +kernel) rfl rfl (by decide +kernel) (by decide +kernel) ?_ ?_
            · skip
              refine W_load rfl ty3 rfl (Cell.own zM rfl) rfl ?_
              refine W_nil ?_
              refine WA_goal ?_
              refine WA_one 3 (l' := #[true, true, true, true, true, true, false, false]) (by decide +kernel) rfl (by decide +kernel) (fun _ h => by cases h) ?_
              refine W_loadB (vs := vaC (rdV V true x.off).1) rfl ty41 rfl zM rfl rfl rfl ?_
              refine W_nil ?_
              refine WA_goal ?_
              refine WA_take 6 (l' := #[true, true, true, true, true, true, true, false]) rfl (by decide +kernel) (by decide +kernel) (by decide +kernel) (fun _ h => by cases h) (fun _ h => by cases h) (by decide +kernel) (X_indexAddrA (j := dn) rfl rfl ty98 ty41 (by assumption) (by omega) rfl) rfl ?_
              refine WA_one 7 (l' := #[true, true, true, true, true, true, true, true]) (by decide +kernel) rfl (by decide +kernel) (fun _ h => by cases h) ?_
              refine W_storeA rfl rfl ty41 rfl rfl (b := bf) zM (by rw [vaRow_len]; exact (by omega : 0 + 0 + dn * 5 + 5 ≤ V.length * 5)) ((congrArg (fun z => spliceL (vaRow V) z (vaC (rdV V true x.off).1)) (Nat.zero_add (dn * 5))).trans (va_set (rdV V true x.off).1 (by omega))) zU ?_
              refine W_nil ?_
              refine WA_goal ?_
              refine WA_done (by decide +kernel) ?_
              refine W_joined (sub_cons rfl (sub_nil _)) zH
            · skip
              refine W_loadB (vs := vaC (rdV V true x.off).1) rfl ty41 rfl zM rfl rfl rfl ?_
              refine W_nil ?_
              refine WA_goal ?_
              refine WA_one 2 (l' := #[true, true, true, true, true, true, false, false]) (by decide +kernel) rfl (by decide +kernel) (fun _ h => by cases h) ?_
              refine W_load rfl ty3 rfl (Cell.own zM rfl) rfl ?_
              refine W_nil ?_
              refine WA_goal ?_
              refine WA_take 6 (l' := #[true, true, true, true, true, true, true, false]) rfl (by decide +kernel) (by decide +kernel) (by decide +kernel) (fun _ h => by cases h) (fun _ h => by cases h) (by decide +kernel) (X_indexAddrA (j := dn) rfl rfl ty98 ty41 (by assumption) (by omega) rfl) rfl ?_
              refine WA_one 7 (l' := #[true, true, true, true, true, true, true, true]) (by decide +kernel) rfl (by decide +kernel) (fun _ h => by cases h) ?_
              refine W_storeA rfl rfl ty41 rfl rfl (b := bf) zM (by rw [vaRow_len]; exact (by omega : 0 + 0 + dn * 5 + 5 ≤ V.length * 5)) ((congrArg (fun z => spliceL (vaRow V) z (vaC (rdV V true x.off).1)) (Nat.zero_add (dn * 5))).trans (va_set (rdV V true x.off).1 (by omega))) zU ?_
              refine W_nil ?_
              refine WA_goal ?_
              refine WA_done (by decide +kernel) ?_
              refine W_joined (sub_cons rfl (sub_nil _)) zH
          refine W_sr ?_
          refine W_move rfl rfl ?_
          refine W_assign rfl rfl ?_
          refine W_nil ?_
          refine W_ret1m (H2 := (bf, .cells 101 90 (vaRow (V.set dn (rdV V true x.off).1))) :: H) Tryd.results62 rfl (.nil _) zH ?_
          unfold doV
          rw [if_neg (fun h => h c0), if_neg c1, if_pos c2, if_pos c3, hdT]
          exact ⟨rfl, rfl⟩
        · simp only [cond_true, cond_false, Bool.and_eq_true, Bool.or_eq_true, Bool.and_eq_false_iff, Bool.or_eq_false_iff, decide_eq_true_eq, decide_eq_false_iff_not, Bool.not_eq_true', Bool.not_eq_false', ne_eq, Decidable.not_not] at c3
          refine W_skip ?_
          refine W_sr ?_
          refine W_move rfl rfl ?_
          refine W_assign rfl rfl ?_
          refine W_nil ?_
          refine W_ret1m (H2 := (bf, .cells 101 90 (vaRow V)) :: H) Tryd.results62 rfl (.nil _) zH ?_
          unfold doV
          rw [if_neg (fun h => h c0), if_neg c1, if_pos c2, if_neg c3]
          exact ⟨rfl, rfl⟩
      · simp only [cond_true, cond_false, Bool.and_eq_true, Bool.or_eq_true, Bool.and_eq_false_iff, Bool.or_eq_false_iff, decide_eq_true_eq, decide_eq_false_iff_not, Bool.not_eq_true', Bool.not_eq_false', ne_eq, Decidable.not_not] at c2
        refine W_sr ?_
        refine W_fieldAddr rfl fld59_0 (by decide) rfl ?_
        refine W_load rfl ty3 rfl (Cell.own zM rfl) rfl ?_
        refine W_bin rfl rfl b_eql rfl ?_
        refine W_assign rfl rfl ?_
        refine W_nil ?_
        refine W_condS rfl (fun c3 => ?_) (fun c3 => ?_)
        · simp only [cond_true, cond_false, Bool.and_eq_true, Bool.or_eq_true, Bool.and_eq_false_iff, Bool.or_eq_false_iff, decide_eq_true_eq, decide_eq_false_iff_not, Bool.not_eq_true', Bool.not_eq_false', ne_eq, Decidable.not_not] at c3
          refine W_seq ?_
          obtain ⟨dn, sn, hdn, hsn, hdT, hsT, hdl, hsl⟩ := hR (by simpa using c0)
          refine W_cut [(4, .int .i64 (wrV V true x.off (V.getD sn zeroV)).2)] ((bf, .cells 101 90 (vaRow (wrV V true x.off (V.getD sn zeroV)).1)) :: H) ?_ ?_
          · skip
            refine W_any (by kernel_rfl) ?_
            refine WA_take 0 (l' := #[true, false, false, false, false, false, false, false, false, false, false, false]) rfl (by decide +kernel) (by decide +kernel) (by decide +kernel) (fun _ h => by cases h) (fun _ h => by cases h) (by decide +kernel) (X_move rfl) rfl ?_
            refine WA_take 1 (l' := #[true, true, false, false, false, false, false, false, false, false, false, false]) rfl (by decide +kernel) (by decide +kernel) (by decide +kernel) (fun _ h => by cases h) (fun _ h => by cases h) (by decide +kernel) (X_fieldAddr rfl fld59_3 (by decide)) rfl ?_
            refine WA_take 3 (l' := #[true, true, false, true, false, false, false, false, false, false, false, false]) rfl (by decide +kernel) (by decide +kernel) (by decide +kernel) (fun _ h => by cases h) (fun _ h => by cases h) (by decide +kernel) (X_move rfl) rfl ?_
            refine WA_take 4 (l' := #[true, true, false, true, true, false, false, false, false, false, false, false]) rfl (by decide +kernel) (by decide +kernel) (by decide +kernel) (fun _ h => by cases h) (fun _ h => by cases h) (by decide +kernel) (X_fieldAddr rfl fld59_2 (by decide)) rfl ?_
            refine WA_take 6 (l' := #[true, true, false, true, true, false, true, false, false, false, false, false]) rfl (by decide +kernel) (by decide +kernel) (by decide +kernel) (fun _ h => by cases h) (fun _ h => by cases h) (by decide +kernel) (X_nilCheck rfl) rfl ?_
            refine WA_take 7 (l' := #[true, true, false, true, true, false, true, true, false, false, false, false]) rfl (by decide +kernel) (by decide +kernel) (by decide +kernel) (fun _ h => by cases h) (fun _ h => by cases h) (by decide +kernel) (X_fieldAddr rfl fld101_0 (by decide)) rfl ?_
            refine WA_two 2 5 (l' := #[true, true, true, true, true, false, true, true, false, false, false, false]) (l'' := #[true, true, false, true, true, true, true, true, false, false, false, false]) (by decide +kernel) rfl rfl (by decide +kernel) (by decide +kernel) ?_ ?_
            · skip
              refine W_load rfl ty3 rfl (Cell.own zM rfl) rfl ?_
              refine W_nil ?_
              refine WA_goal ?_
              refine WA_one 5 (l' := #[true, true, true, true, true, true, true, true, false, false, false, false]) (by decide +kernel) rfl (by decide +kernel) (fun _ h => by cases h) ?_
              refine W_load rfl ty3 rfl (Cell.own zM rfl) rfl ?_
              refine W_nil ?_
              refine WA_goal ?_
              refine WA_take 8 (l' := #[true, true, true, true, true, true, true, true, true, false, false, false]) rfl (by decide +kernel) (by decide +kernel) (by decide +kernel) (fun _ h => by cases h) (fun _ h => by cases h) (by decide +kernel) (X_indexAddrA (j := sn) rfl rfl ty98 ty41 (by assumption) (by omega) rfl) rfl ?_
              refine WA_one 9 (l' := #[true, true, true, true, true, true, true, true, true, true, false, false]) (by decide +kernel) rfl (by decide +kernel) (fun _ h => by cases h) ?_
              refine W_loadB (vs := vaC (V.getD sn zeroV)) rfl ty41 rfl (b := bf) zM (by rw [vaRow_len, Nat.ble_eq]; omega) (by rw [Nat.zero_add]; exact va_at (getV hV (i := sn) (by omega))) rfl ?_
              refine W_nil ?_
              refine WA_goal ?_
              refine WA_one 10 (l' := #[true, true, true, true, true, true, true, true, true, true, true, false]) (by decide +kernel) rfl (by decide +kernel) (fun _ h => by cases h) ?_
              refine W_call (.cons rfl (.cons rfl (.cons rfl .nil))) Tryd.call74 rfl ((SetWord_L (H := (b3, .cells 59 5 [.int .i64 x.op, .int .i64 x.dst, .int .i64 x.src, .int .i64 x.off, .int .i64 x.imm]) :: H) (at_ := x.off) (x := V.getD sn zeroV) hV).hsub zH) ?_
              rintro v H' ⟨rfl, rfl⟩
              refine W_nil ?_
              refine WA_goal ?_
              refine WA_take 11 (l' := #[true, true, true, true, true, true, true, true, true, true, true, true]) rfl (by decide +kernel) (by decide +kernel) (by decide +kernel) (fun _ h => by cases h) (fun _ h => by cases h) (by decide +kernel) (X_assign rfl) rfl ?_
              refine WA_done (by decide +kernel) ?_
              refine W_joined (sub_cons rfl (sub_nil _)) zH
            · skip
              refine W_load rfl ty3 rfl (Cell.own zM rfl) rfl ?_
              refine W_nil ?_
              refine WA_goal ?_
              refine WA_take 8 (l' := #[true, true, false, true, true, true, true, true, true, false, false, false]) rfl (by decide +kernel) (by decide +kernel) (by decide +kernel) (fun _ h => by cases h) (fun _ h => by cases h) (by decide +kernel) (X_indexAddrA (j := sn) rfl rfl ty98 ty41 (by assumption) (by omega) rfl) rfl ?_
              refine WA_two 2 9 (l' := #[true, true, true, true, true, true, true, true, true, false, false, false]) (l'' := #[true, true, false, true, true, true, true, true, true, true, false, false]) (by decide +kernel) rfl rfl (by decide +kernel) (by decide +kernel) ?_ ?_
              · skip
                refine W_load rfl ty3 rfl (Cell.own zM rfl) rfl ?_
                refine W_nil ?_
                refine WA_goal ?_
                refine WA_one 9 (l' := #[true, true, true, true, true, true, true, true, true, true, false, false]) (by decide +kernel) rfl (by decide +kernel) (fun _ h => by cases h) ?_
                refine W_loadB (vs := vaC (V.getD sn zeroV)) rfl ty41 rfl (b := bf) zM (by rw [vaRow_len, Nat.ble_eq]; omega) (by rw [Nat.zero_add]; exact va_at (getV hV (i := sn) (by omega))) rfl ?_
                refine W_nil ?_
                refine WA_goal ?_
                refine WA_one 10 (l' := #[true, true, true, true, true, true, true, true, true, true, true, false]) (by decide +kernel) rfl (by decide +kernel) (fun _ h => by cases h) ?_
                refine W_call (.cons rfl (.cons rfl (.cons rfl .nil))) Tryd.call74 rfl ((SetWord_L (H := (b3, .cells 59 5 [.int .i64 x.op, .int .i64 x.dst, .int .i64 x.src, .int .i64 x.off, .int .i64 x.imm]) :: H) (at_ := x.off) (x := V.getD sn zeroV) hV).hsub zH) ?_
                rintro v H' ⟨rfl, rfl⟩
                refine W_nil ?_
                refine WA_goal ?_
                refine WA_take 11 (l' := #[true, true, true, true, true, true, true, true, true, true, true, true]) rfl (by decide +kernel) (by decide +kernel) (by decide +kernel) (fun _ h => by cases h) (fun _ h => by cases h) (by decide +kernel) (X_assign rfl) rfl ?_
                refine WA_done (by decide +kernel) ?_
                refine W_joined (sub_cons rfl (sub_nil _)) zH
              · skip
                refine W_loadB (vs := vaC (V.getD sn zeroV)) rfl ty41 rfl (b := bf) zM (by rw [vaRow_len, Nat.ble_eq]; omega) (by rw [Nat.zero_add]; exact va_at (getV hV (i := sn) (by omega))) rfl ?_
                refine W_nil ?_
                refine WA_goal ?_
                refine WA_one 2 (l' := #[true, true, true, true, true, true, true, true, true, true, false, false]) (by decide +kernel) rfl (by decide +kernel) (fun _ h => by cases h) ?_
                refine W_load rfl ty3 rfl (Cell.own zM rfl) rfl ?_
                refine W_nil ?_
                refine WA_goal ?_
                refine WA_one 10 (l' := #[true, true, true, true, true, true, true, true, true, true, true, false]) (by decide +kernel) rfl (by decide +kernel) (fun _ h => by cases h) ?_
                refine W_call (.cons rfl (.cons rfl (.cons rfl .nil))) Tryd.call74 rfl ((SetWord_L (H := (b3, .cells 59 5 [.int .i64 x.op, .int .i64 x.dst, .int .i64 x.src, .int .i64 x.off, .int .i64 x.imm]) :: H) (at_ := x.off) (x := V.getD sn zeroV) hV).hsub zH) ?_
                rintro v H' ⟨rfl, rfl⟩
                refine W_nil ?_
                refine WA_goal ?_
                refine WA_take 11 (l' := #[true, true, true, true, true, true, true, true, true, true, true, true]) rfl (by decide +kernel) (by decide +kernel) (by decide +kernel) (fun _ h => by cases h) (fun _ h => by cases h) (by decide +kernel) (X_assign rfl) rfl ?_
                refine WA_done (by decide +kernel) ?_
                refine W_joined (sub_cons rfl (sub_nil _)) zH
          refine W_ret1m (H2 := (bf, .cells 101 90 (vaRow (wrV V true x.off (V.getD sn zeroV)).1)) :: H) Tryd.results62 rfl (.nil _) zH ?_
          unfold doV
          rw [if_neg (fun h => h c0), if_neg c1, if_neg c2, if_pos c3, hsT]
          exact ⟨rfl, rfl⟩
        · simp only [cond_true, cond_false, Bool.and_eq_true, Bool.or_eq_true, Bool.and_eq_false_iff, Bool.or_eq_false_iff, decide_eq_true_eq, decide_eq_false_iff_not, Bool.not_eq_true', Bool.not_eq_false', ne_eq, Decidable.not_not] at c3
          refine W_skip ?_
          refine W_blk ?_
          refine W_sr ?_
          refine W_assign rfl rfl ?_
          refine W_nil ?_
          refine W_ret1m (H2 := (bf, .cells 101 90 (vaRow V)) :: H) Tryd.results62 rfl (.nil _) zH ?_
          unfold doV
          rw [if_neg (fun h => h c0), if_neg c1, if_neg c2, if_neg c3]
          exact ⟨rfl, rfl⟩
end Go.Proofs.YtcmfldfeakmdoaaDoor
namespace Go.Proofs.YtcmfldfeakmdoaaDoor
open Go Go.Sl
attribute [local irreducible] W
def jumpV (V : List Va) (x : Ins) : Bool × Int := if isaChk x ≠ 0 then (false, isaChk x) else if cls x.op = 2 then (jumpS (plainOf x.op) (V.getD x.dst.toNat zeroV).n (othr V x).n, 0) else (false, 11)
theorem jumpV_eq {V : List Va} {x : Ins} (h : isaChk x = 0) : jumpR x.op (V.getD x.dst.toNat zeroV).n (othr V x).n = .tuple #[.bool (jumpV V x).1, .int .i64 (jumpV V x).2] := by
  unfold jumpR jumpV
  by_cases h2 : cls x.op = 2
  · rw [if_pos h2, if_neg (fun h' => h' h), if_pos h2]
  · rw [if_neg h2, if_neg (fun h' => h' h), if_neg h2]
set_option maxHeartbeats 1000000 in
theorem Jumps_L {w0 : World} {H : Heap} {bf : Nat} {V : List Va} {x : Ins} (hV : V.length = 18) (hop : -9223372036854775808 ≤ x.op ∧ x.op ≤ 9223372036854775807) (hW : ∀ v ∈ V, 0 ≤ v.n) (hT : Tab w0) : LCalls Tryd.prog w0 71 #[.pointer (some ⟨bf, 0, none⟩), .agg #[.int .i64 x.op, .int .i64 x.dst, .int .i64 x.src, .int .i64 x.off, .int .i64 x.imm]] ((bf, .cells 101 90 (vaRow V)) :: H) (fun v H' => v = .tuple #[.bool (jumpV V x).1, .int .i64 (jumpV V x).2] ∧ H' = (bf, .cells 101 90 (vaRow V)) :: H) := by
  refine L_enter (l := [.pointer (some ⟨bf, 0, none⟩), .agg #[.int .i64 x.op, .int .i64 x.dst, .int .i64 x.src, .int .i64 x.off, .int .i64 x.imm]]) Tryd.func71 rfl Tryd.ntmps71 rfl rfl ?_
  refine W_sr ?_
  refine W_box rfl rfl rfl (fun b3 => ?_)
  refine W_assign rfl rfl ?_
  refine W_assign rfl rfl ?_
  refine W_nil ?_
  refine W_seq ?_
  refine W_sr ?_
  refine W_move rfl rfl ?_
  refine W_x (X_ptrNil rfl rfl ty81) (fun _ h => by cases h) rfl ?_
  refine W_nil ?_
  refine W_condF rfl rfl ?_
  refine W_skip ?_
  refine W_seq ?_
  refine W_sr ?_
  refine W_loadB rfl ty59 rfl zM rfl zF rfl ?_
  refine W_callp (.cons rfl .nil) Tryd.call32 rfl hT (isaChk_pure _) ?_
  refine W_assign rfl rfl ?_
  refine W_nil ?_
  refine W_sr ?_
  refine W_move rfl rfl ?_
  refine W_bin rfl rfl b_neq rfl ?_
  refine W_nil ?_
  refine W_condS rfl (fun c0 => ?_) (fun c0 => ?_)
  · simp only [cond_true, cond_false, Bool.and_eq_true, Bool.or_eq_true, Bool.and_eq_false_iff, Bool.or_eq_false_iff, decide_eq_true_eq, decide_eq_false_iff_not, Bool.not_eq_true', Bool.not_eq_false', ne_eq, Decidable.not_not] at c0
    refine W_sr ?_
    refine W_move rfl rfl ?_
    refine W_assign rfl rfl ?_
    refine W_assign rfl rfl ?_
    refine W_nil ?_
    refine W_ret2m (H2 := (bf, .cells 101 90 (vaRow V)) :: H) Tryd.results71 rfl rfl (.nil _) zH ?_
    unfold jumpV
    rw [if_pos c0]
    exact ⟨rfl, rfl⟩
  · simp only [cond_true, cond_false, Bool.and_eq_true, Bool.or_eq_true, Bool.and_eq_false_iff, Bool.or_eq_false_iff, decide_eq_true_eq, decide_eq_false_iff_not, Bool.not_eq_true', Bool.not_eq_false', ne_eq, Decidable.not_not] at c0
    refine W_skip ?_
    refine W_sr ?_
    refine W_move rfl rfl ?_
    refine W_loadB rfl ty59 rfl zM rfl zF rfl ?_
    refine W_call (.cons rfl (.cons rfl .nil)) Tryd.call82 rfl ((operands_L (H := (b3, .cells 59 5 [.int .i64 x.op, .int .i64 x.dst, .int .i64 x.src, .int .i64 x.off, .int .i64 x.imm]) :: H) hV (chk_in (by simpa using c0)).2.1 (chk_in (by simpa using c0)).2.2 hT).hsub zH) ?_
    rintro v H' ⟨rfl, rfl⟩
    refine W_move rfl rfl ?_
    refine W_extract rfl rfl rfl ?_
    refine W_extract rfl rfl rfl ?_
    refine W_alloc ty41 rfl rfl (fun b7 => ?_)
    refine W_alloc ty41 rfl rfl (fun b8 => ?_)
    refine W_storeA rfl rfl ty41 rfl rfl (b := b7) zM (by decide) rfl zU ?_
    refine W_storeA rfl rfl ty41 rfl rfl (b := b8) zM (by decide) rfl zU ?_
    refine W_nil ?_
    refine W_sr ?_
    refine W_fieldAddr rfl fld59_0 (by decide) rfl ?_
    refine W_load rfl ty3 rfl (Cell.own zM rfl) rfl ?_
    refine W_fieldAddr rfl fld41_3 (by decide) rfl ?_
    refine W_load rfl ty28 rfl (Cell.own zM rfl) rfl ?_
    refine W_fieldAddr rfl fld41_3 (by decide) rfl ?_
    refine W_load rfl ty28 rfl (Cell.own zM rfl) rfl ?_
    refine W_callp (.cons rfl (.cons rfl (.cons rfl .nil))) Tryd.call83 rfl hT (v := .tuple #[.bool (jumpV V x).1, .int .i64 (jumpV V x).2]) (by rw [← jumpV_eq (by simpa using c0)]; exact jumps_pure x.op _ _ hop.1 hop.2 (othr_n hW)) ?_
    refine W_extract rfl rfl rfl ?_
    refine W_extract rfl rfl rfl ?_
    refine W_assign rfl rfl ?_
    refine W_assign rfl rfl ?_
    refine W_nil ?_
    refine W_ret2m (H2 := (bf, .cells 101 90 (vaRow V)) :: H) Tryd.results71 rfl rfl (.nil _) zH ?_
    exact ⟨rfl, rfl⟩
end Go.Proofs.YtcmfldfeakmdoaaDoor
namespace Go.Proofs.YtcmfldfeakmdoaaDoor
open Go Go.Sl
attribute [local irreducible] W
def newV (l : List Va) : List Va := zeroV :: (l ++ List.replicate (17 - l.length) zeroV)
theorem newV_len {l : List Va} (h : l.length ≤ 5) : (newV l).length = 18 := by
  unfold newV
  simp only [List.length_cons, List.length_append, List.length_replicate]
  omega
theorem va_one : ∀ l : List Va, (vaRow l).all Value.oneCell' = true
  | [] => rfl
  | a :: l => by
    have e : vaRow (a :: l) = vaC a ++ vaRow l := rfl
    rw [e, List.all_append, va_one l]; rfl
theorem newV_cells : ∀ {l : List Va}, l.length ≤ 5 → spliceL (vaRow (List.replicate 18 zeroV)) 5 (vaRow l) = vaRow (newV l)
  | [], _ => rfl
  | [_], _ => rfl
  | [_, _], _ => rfl
  | [_, _, _], _ => rfl
  | [_, _, _, _], _ => rfl
  | [_, _, _, _, _], _ => rfl
  | _ :: _ :: _ :: _ :: _ :: _ :: l, h => by simp only [List.length_cons] at h; omega
set_option maxHeartbeats 1000000 in
theorem New_L {w0 : World} {H : Heap} {l : List Va} {ad : Option Addr} {cap : Nat} (hl : l.length ≤ 5) (hrow : Holds w0 H ad (vaRow l))  : LCalls Tryd.prog w0 29 #[.slice ad l.length cap] (H) (fun v H' => ∃ bf, v = .tuple #[.pointer (some ⟨bf, 0, none⟩), .int .i64 0] ∧ H' = (bf, .cells 101 90 (vaRow (newV l))) :: H) := by
  refine L_enter (l := [.slice ad l.length cap]) Tryd.func29 rfl Tryd.ntmps29 rfl rfl ?_
  refine W_sr ?_
  refine W_assign rfl rfl ?_
  refine W_assign rfl rfl ?_
  refine W_nil ?_
  refine W_seq ?_
  refine W_sr ?_
  refine W_move rfl rfl ?_
  refine W_len rfl ty33 rfl rfl ?_
  refine W_bin rfl rfl b_gtr rfl ?_
  refine W_nil ?_
  refine W_condS rfl (fun c0 => ?_) (fun c0 => ?_)
  · simp only [cond_true, cond_false, Bool.and_eq_true, Bool.or_eq_true, Bool.and_eq_false_iff, Bool.or_eq_false_iff, decide_eq_true_eq, decide_eq_false_iff_not, Bool.not_eq_true', Bool.not_eq_false', ne_eq, Decidable.not_not] at c0
    refine W_sr ?_
    refine W_assign rfl rfl ?_
    refine W_assign rfl rfl ?_
    refine W_nil ?_
    refine W_ret2m (H2 := H) Tryd.results29 rfl rfl (.nil _) zH ?_
    omega
  · simp only [cond_true, cond_false, Bool.and_eq_true, Bool.or_eq_true, Bool.and_eq_false_iff, Bool.or_eq_false_iff, decide_eq_true_eq, decide_eq_false_iff_not, Bool.not_eq_true', Bool.not_eq_false', ne_eq, Decidable.not_not] at c0
    refine W_skip ?_
    refine W_sr ?_
    refine W_build ty101 pl101 .nil rfl zF rfl ?_
    refine W_box rfl rfl rfl (fun b9 => ?_)
    refine W_assign rfl rfl ?_
    refine W_nil ?_
    refine W_sr ?_
    refine W_move rfl rfl ?_
    refine W_nilCheck rfl rfl ?_
    refine W_fieldAddr rfl fld101_0 (by decide) rfl ?_
    refine W_x (X_sliceArr (l := 1) (hh := 10) rfl ty98 ty41 ⟨_, rfl⟩ rfl (by decide) (by decide) (by decide)) (fun _ h => by cases h) rfl ?_
    refine W_move rfl rfl ?_
    refine W_copy rfl rfl ty33 ty41 (kk := l.length) (by omega) (vaRow_len l) (hrow.up zH) (va_one l) zM (by rw [vaRow_len]; show 5 + l.length * 5 ≤ 90; omega) (newV_cells hl) zU rfl ?_
    refine W_nil ?_
    refine W_sr ?_
    refine W_move rfl rfl ?_
    refine W_assign rfl rfl ?_
    refine W_assign rfl rfl ?_
    refine W_nil ?_
    refine W_ret2m (H2 := (b9, .cells 101 90 (vaRow (newV l))) :: H) Tryd.results29 rfl rfl (.nil _) zH ?_
    exact ⟨b9, rfl, rfl⟩
end Go.Proofs.YtcmfldfeakmdoaaDoor
namespace Go.Proofs.YtcmfldfeakmdoaaDoor
open Go Go.Sl
attribute [local irreducible] W
set_option maxHeartbeats 1000000 in
theorem To_pure (v : Va) : Pure Tryd.prog (fun _ => True) 18 [.agg (vaC v).toArray] (.agg (vaC v).toArray) := by
  intro w0 H hT
  refine L_enter Tryd.func18 rfl Tryd.ntmps18 rfl rfl ?_
  refine W_sr ?_
  refine W_box rfl rfl rfl (fun b1 => ?_)
  refine W_alloc ty41 rfl rfl (fun b2 => ?_)
  refine W_nil ?_
  refine W_sr ?_
  refine W_fieldAddr rfl fld52_0 (by decide) rfl ?_
  refine W_load rfl ty4 rfl (Cell.own zM rfl) rfl ?_
  refine W_fieldAddr rfl fld52_1 (by decide) rfl ?_
  refine W_load rfl ty3 rfl (Cell.own zM rfl) rfl ?_
  refine W_fieldAddr rfl fld52_2 (by decide) rfl ?_
  refine W_load rfl ty3 rfl (Cell.own zM rfl) rfl ?_
  refine W_fieldAddr rfl fld52_3 (by decide) rfl ?_
  refine W_load rfl ty3 rfl (Cell.own zM rfl) rfl ?_
  refine W_build ty39 pl39 (.cons rfl rfl rfl rfl rfl (.cons rfl rfl rfl rfl rfl .nil)) rfl zF rfl ?_
  refine W_fieldAddr rfl fld52_4 (by decide) rfl ?_
  refine W_load rfl ty28 rfl (Cell.own zM rfl) rfl ?_
  refine W_build ty41 pl41 (.cons rfl rfl rfl rfl rfl (.cons rfl rfl rfl rfl rfl (.cons rfl rfl rfl rfl rfl (.cons rfl rfl rfl rfl rfl .nil)))) rfl zF rfl ?_
  refine W_storeA rfl rfl ty41 rfl rfl zM (Nat.le_of_ble_eq_true rfl) zF zU ?_
  refine W_nil ?_
  refine W_ret1cO (H2 := H) Tryd.results18 rfl (.nil _) ty41 rfl zM rfl zH ?_
  exact ⟨rfl, rfl⟩
end Go.Proofs.YtcmfldfeakmdoaaDoor
namespace Go.Proofs.YtcmfldfeakmdoaaDoor
open Go Go.Sl
attribute [local irreducible] W
theorem take_snoc {l : List Va} {i : Nat} {y : Va} (h : l[i]? = some y) : vaRow (l.take (i + 1)) = vaRow (l.take i) ++ vaC y := by
  rw [List.take_add_one, h]
  simp [vaRow]
set_option maxHeartbeats 1000000 in
theorem Tos_L {w0 : World} {H : Heap} {l : List Va} {ad : Option Addr} {cap : Nat} (hl : l.length ≤ 1000) (hrow : Holds w0 H ad (vaRow l))  : LCalls Tryd.prog w0 9 #[.slice ad l.length cap] (H) (fun v H' => ∃ HB, OwnS 41 5 v l.length (vaRow l) HB ∧ H' = HB ++ H) := by
  refine L_enter (l := [.slice ad l.length cap]) Tryd.func9 rfl Tryd.ntmps9 rfl rfl ?_
  refine W_sr ?_
  refine W_assign rfl rfl ?_
  refine W_nil ?_
  refine W_sr ?_
  refine W_assign rfl rfl ?_
  refine W_nil ?_
  refine W_seq ?_
  refine W_sr ?_
  refine W_assign rfl rfl ?_
  refine W_nil ?_
  refine W_block ?_
  refine W_loopC (X := (Nat × Value × Heap)) [(0, _)] (fun (x : (Nat × Value × Heap)) => [(3, x.2.1), (4, .int .i64 (x.1 : Int))]) (fun _ => _) (fun (x : (Nat × Value × Heap)) => x.2.2 ++ H) (fun (x : (Nat × Value × Heap)) => x.1 ≤ l.length ∧ OwnS 41 5 x.2.1 x.1 (vaRow (l.take x.1)) x.2.2) (fun (x : (Nat × Value × Heap)) => l.length - x.1) (0, .slice none 0 0, []) ⟨Nat.zero_le _, .nil⟩ (sub_cons rfl (sub_nil _)) (sub_cons rfl (sub_cons rfl (sub_nil _))) rfl (HSub.refl _) ?_
  rintro ⟨i, xv, XB⟩ ⟨hi, hX⟩
  dsimp only at hi hX ⊢
  simp only [List.cons_append, List.nil_append]
  refine W_seq ?_
  refine W_sr ?_
  refine W_move rfl rfl ?_
  refine W_move rfl rfl ?_
  refine W_len rfl ty23 rfl rfl ?_
  refine W_bin rfl rfl b_lss rfl ?_
  refine W_nil ?_
  refine W_condPS (p := (i : Int) < (l.length : Int)) rfl (by simp) (fun c0 => ?_) (fun c0 => ?_)
  · skip
    refine W_skip ?_
    refine W_seq ?_
    refine W_block ?_
    refine W_region ?_
    obtain ⟨y, hy⟩ : ∃ y, l[i]? = some y := ⟨_, List.getElem?_eq_getElem (by omega)⟩
    obtain ⟨q0, p0, rfl, hcy⟩ := hrow.row va_len (by decide) hy
    refine W_move rfl rfl ?_
    refine W_move rfl rfl ?_
    refine W_move rfl rfl ?_
    refine W_indexAddr (j := i) rfl rfl ty23 ty52 (by first | rfl | omega) (by first | decide | omega | simp) rfl rfl ?_
    refine W_loadA rfl ty52 rfl (vs := vaC y) rfl (hcy.up zH) rfl ?_
    refine W_callp (.cons rfl .nil) Tryd.call18 rfl (T := fun _ => True) trivial (To_pure y) ?_
    refine W_buildSlice (l := vaC y) ty33 ty41 (.cons rfl rfl rfl rfl rfl .nil) rfl rfl rfl rfl rfl rfl rfl (fun b17 => ?_)
    refine W_append (news := vaC y) (m := 1) (HB := XB) (H0 := H) rfl rfl ty33 ty41 rfl (by decide) hX rfl (Holds.own List.mem_cons_self) rfl (by simp only [maxLen]; omega) (by omega) zH rfl (fun v' HB' hO' => ?_)
    refine W_assign rfl rfl ?_
    refine W_nil ?_
    refine W_blk ?_
    refine W_region ?_
    refine W_move rfl rfl ?_
    refine W_bin rfl rfl (b_add (m := ((i + 1 : Nat) : Int)) ((i64w (by omega)).trans (by omega))) rfl ?_
    refine W_assign rfl rfl ?_
    refine W_nil ?_
    refine W_again (i + 1, v', HB') ⟨by show i + 1 ≤ l.length; omega, by show OwnS 41 5 v' (i + 1) (vaRow (l.take (i + 1))) HB'; rw [take_snoc hy]; exact hO'⟩ (by show l.length - (i + 1) < l.length - i; omega) (sub_cons rfl (sub_cons rfl (sub_cons rfl (sub_nil _)))) rfl zH
  · skip
    refine W_exit rfl ?_
    refine W_sr ?_
    refine W_move rfl rfl ?_
    refine W_assign rfl rfl ?_
    refine W_nil ?_
    refine W_ret1m (H2 := XB ++ H) Tryd.results9 rfl (.nil _) zH ?_
    obtain rfl : i = l.length := by omega
    rw [List.take_length] at hX
    exact ⟨XB, hX, rfl⟩
end Go.Proofs.YtcmfldfeakmdoaaDoor
namespace Go.Proofs.YtcmfldfeakmdoaaDoor
open Go Go.Sl
attribute [local irreducible] W
theorem set_good {p : Va → Prop} {V : List Va} {i : Nat} {y : Va} (hV : ∀ v ∈ V, p v) (hy : p y) : ∀ v ∈ V.set i y, p v := fun v hv =>
  (List.mem_or_eq_of_mem_set hv).elim (hV v) (fun e => e ▸ hy)
theorem getD_good {p : Va → Prop} {V : List Va} (i : Nat) (hz : p zeroV) (hV : ∀ v ∈ V, p v) : p (V.getD i zeroV) := by
  rw [List.getD_eq_getElem?_getD]
  cases h : V[i]? with
  | none => exact hz
  | some v => exact hV v (List.mem_of_getElem? h)
theorem doV_len {V : List Va} {x : Ins} : (doV V x).1.length = V.length := by
  unfold doV sumV wrV
  repeat' split
  all_goals first | rfl | simp
end Go.Proofs.YtcmfldfeakmdoaaDoor
namespace Go.Proofs.YtcmfldfeakmdoaaDoor
open Go Go.Sl
attribute [local irreducible] W
instance : Inhabited Va := ⟨⟨false, 0, 0, 0, 0⟩⟩
def Va.In (v : Va) : Prop := (-9223372036854775808 ≤ v.m ∧ v.m ≤ 9223372036854775807) ∧ (-9223372036854775808 ≤ v.slot ∧ v.slot ≤ 9223372036854775807) ∧ (-9223372036854775808 ≤ v.gen ∧ v.gen ≤ 9223372036854775807) ∧ (0 ≤ v.n ∧ v.n ≤ 18446744073709551615)
theorem vaC_len (v : Va) : (vaC v).length = 5 := rfl
theorem vaC_like (v : Va) : Likes [.bool, .int .i64, .int .i64, .int .i64, .int .u64] (vaC v) := ⟨⟨_, rfl⟩, ⟨_, rfl⟩, ⟨_, rfl⟩, ⟨_, rfl⟩, ⟨_, rfl⟩, trivial⟩
theorem vaC_inj (v w : Va) (h : vaC v = vaC w) : v = w := by
  cases v; cases w; simp only [vaC, List.cons.injEq, Value.int.injEq, Value.bool.injEq, Value.string.injEq, true_and, and_true] at h; simp only [Va.mk.injEq]; exact h
theorem vaC_of {cs : List Value} (h : Leafs [.bool, .int .i64, .int .i64, .int .i64, .int .u64] cs) : ∃ v : Va, cs = vaC v ∧ v.In := by
  obtain ⟨a0, c0, rfl, ⟨m0, rfl⟩, h0⟩ := leafs_cons h
  obtain ⟨a1, c1, rfl, ⟨m1, rfl, e1⟩, h1⟩ := leafs_cons h0
  obtain ⟨a2, c2, rfl, ⟨m2, rfl, e2⟩, h2⟩ := leafs_cons h1
  obtain ⟨a3, c3, rfl, ⟨m3, rfl, e3⟩, h3⟩ := leafs_cons h2
  obtain ⟨a4, c4, rfl, ⟨m4, rfl, e4⟩, h4⟩ := leafs_cons h3
  obtain rfl := leafs_nil h4
  exact ⟨⟨m0, m1, m2, m3, m4⟩, rfl, ⟨e1, e2, e3, e4⟩⟩
theorem flat41 : Flat Tryd.prog 2 41 [.bool, .int .i64, .int .i64, .int .i64, .int .u64] := (Flat.struct ty41 (by kernel_rfl) (by kernel_rfl) (.cons (ks := [.bool]) (by decide) rfl (by kernel_rfl) (Flat.leaf (k := .bool) ty4) (.cons (ks := [.int .i64]) (by decide) rfl (by kernel_rfl) (Flat.leaf (k := .int .i64) ty3) (.cons (ks := [.int .i64, .int .i64]) (by decide) rfl (by kernel_rfl) (Flat.struct ty39 (by kernel_rfl) (by kernel_rfl) (.cons (ks := [.int .i64]) (by decide) rfl (by kernel_rfl) (Flat.leaf (k := .int .i64) ty3) (.cons (ks := [.int .i64]) (by decide) rfl (by kernel_rfl) (Flat.leaf (k := .int .i64) ty3) .nil))) (.cons (ks := [.int .u64]) (by decide) rfl (by kernel_rfl) (Flat.leaf (k := .int .u64) ty28) .nil)))))
theorem agg41 : aggB Tryd.prog 41 = true := by kernel_rfl
theorem gt41 : Tryd.prog.eqGuardType Tryd.prog.depth 41 = false := by kernel_rfl
theorem flat52 : Flat Tryd.prog 1 52 [.bool, .int .i64, .int .i64, .int .i64, .int .u64] := (Flat.struct ty52 (by kernel_rfl) (by kernel_rfl) (.cons (ks := [.bool]) (by decide) rfl (by kernel_rfl) (Flat.leaf (k := .bool) ty4) (.cons (ks := [.int .i64]) (by decide) rfl (by kernel_rfl) (Flat.leaf (k := .int .i64) ty3) (.cons (ks := [.int .i64]) (by decide) rfl (by kernel_rfl) (Flat.leaf (k := .int .i64) ty3) (.cons (ks := [.int .i64]) (by decide) rfl (by kernel_rfl) (Flat.leaf (k := .int .i64) ty3) (.cons (ks := [.int .u64]) (by decide) rfl (by kernel_rfl) (Flat.leaf (k := .int .u64) ty28) .nil))))))
theorem ce52 : Tryd.prog.cellsOf 52 = 5 := by kernel_rfl
end Go.Proofs.YtcmfldfeakmdoaaDoor
namespace Go.Proofs.YtcmfldfeakmdoaaDoor
open Go Go.Sl
attribute [local irreducible] W
def Ins.C (x : Ins) : List Value := [.int .i64 x.op, .int .i64 x.dst, .int .i64 x.src, .int .i64 x.off, .int .i64 x.imm]
structure Good (l : List Va) (V : List Va) : Prop where
  len : V.length = 18
  of : ∀ v ∈ V, Wd v.n ∧ (v.ref = true → v ∈ l)
theorem Good.pos {l V : List Va} (h : Good l V) : ∀ v ∈ V, 0 ≤ v.n := fun v hv => (h.of v hv).1.1
theorem wd_z : Wd 0 := ⟨by decide, by decide⟩
theorem doV_all {p : Va → Prop} {V : List Va} {x : Ins} (hn : ∀ n, Wd n → p ⟨false, 0, 0, 0, n⟩) (hw : ∀ v, p v → Wd v.n) (hV : ∀ v ∈ V, p v) : ∀ v ∈ (doV V x).1, p v := by
  have hz : p zeroV := hn 0 wd_z
  have ho : p (othr V x) := by unfold othr; split <;> first | exact getD_good _ hz hV | exact hn _ (wd_w _)
  have hr : ∀ s a, p (rdV V s a).1 := fun s a => by unfold rdV; split <;> first | exact hz | exact getD_good _ hz hV
  unfold doV
  split
  · exact hV
  split
  · unfold sumV
    split
    · exact set_good hV ho
    split
    · exact hV
    · exact set_good hV (hn _ (doS_wd _ (hw _ (getD_good _ hz hV)) (hw _ ho)))
  split
  · show ∀ v ∈ (if (rdV V true x.off).2 = 0 then V.set x.dst.toNat (rdV V true x.off).1 else V), p v
    split
    · exact set_good hV (hr _ _)
    · exact hV
  split
  · unfold wrV; split
    · exact hV
    · exact set_good hV (getD_good _ hz hV)
  · exact hV
theorem Good.do {l V : List Va} (h : Good l V) (x : Ins) : Good l (doV V x).1 :=
  ⟨doV_len.trans h.len, doV_all (p := fun v => Wd v.n ∧ (v.ref = true → v ∈ l)) (fun n hn => ⟨hn, fun h => by cases h⟩) (fun v h => h.1) h.of⟩
theorem Good.new {l : List Va} (hl : l.length ≤ 5) (hw : ∀ v ∈ l, Wd v.n) : Good l (newV l) := by
  refine ⟨newV_len hl, fun v hv => ?_⟩
  unfold newV at hv
  rcases List.mem_cons.1 hv with rfl | hv
  · exact ⟨wd_z, fun h => by cases h⟩
  rcases List.mem_append.1 hv with hv | hv
  · exact ⟨hw v hv, fun _ => hv⟩
  · obtain rfl := (List.mem_replicate.1 hv).2
    exact ⟨wd_z, fun h => by cases h⟩
end Go.Proofs.YtcmfldfeakmdoaaDoor
namespace Go.Script
structure St where
  kind : Int
  a : Int
  b : Int
  c : Int
  x : Int
  y : Int
  raw : List Int
deriving DecidableEq
def zeroS : St := ⟨0, 0, 0, 0, 0, 0, []⟩
def isK (k : Int) : Bool := decide (0 ≤ k) && decide (k ≤ 17)
def tabW : List (List Nat) := [[1,0,0,0,0],[1,1,0,0,0],[1,0,0,0,0],[1,0,0,0,0],[1,0,0,0,0],[1,0,0,0,0],[1,0,0,0,0],[1,1,1,0,0],[1,1,2,8,0],[1,1,0,8,8],[1,0,0,8,0],[1,0,0,8,0],[1,0,0,0,0],[1,0,0,0,0],[1,0,0,0,0],[0,0,0,0,0],[0,0,0,0,0],[1,0,0,0,0]]
def tabB : List (List Int) := [[1,255,0,0,0,0],[0,63,0,255,0,0],[0,15,0,0,0,0],[0,15,0,0,0,0],[0,15,0,0,0,0],[0,255,0,0,0,0],[0,1,0,0,0,0],[0,2,1,8,1,4],[0,15,0,63,1,256],[0,3,0,2,0,0],[0,3,0,0,0,0],[0,3,0,0,0,0],[0,3,0,0,0,0],[0,31,0,0,0,0],[0,31,0,0,0,0],[0,0,0,0,0,0],[0,0,0,0,0,0],[0,15,0,0,0,0]]
def shW (k : Int) : List Nat := if isK k then tabW.getD k.toNat [] else [0,0,0,0,0]
def shB (k : Int) : List Int := if isK k then tabB.getD k.toNat [] else [0,0,0,0,0,0]
def rawOk (k n : Int) : Bool := if k = 5 then decide (1 ≤ n) && decide (n ≤ 16) else if k = 6 then decide (8 ≤ n) && decide (n ≤ 512) && decide (n % 8 = 0) else decide (n = 0)
def u64 (z : Int) : Int := z % 18446744073709551616
def St.parts (s : St) : List Int := [u64 s.a, u64 s.b, u64 s.c, s.x, s.y]
def St.abc (s : St) : List Int := [s.a, s.b, s.c]
def badForm (w : List Nat) (p : List Int) (i : Nat) : Bool := decide (w.getD i 0 = 0) && decide (p.getD i 0 ≠ 0)
def outB (bs : List Int) (l : List Int) (i : Nat) : Bool := decide (l.getD i 0 < bs.getD (2 * i) 0) || decide (bs.getD (2 * i + 1) 0 < l.getD i 0)
def chk (s : St) : Int :=
  if isK s.kind = false then 11
  else if (List.range 5).any (badForm (shW s.kind) s.parts) then 9
  else if 0 < s.raw.length ∧ s.kind ≠ 5 ∧ s.kind ≠ 6 then 9
  else if (List.range 3).any (outB (shB s.kind) s.abc) then 2
  else if rawOk s.kind s.raw.length = false then 8
  else 0
def lowL (n : Int) : Nat → List Int
  | 0 => []
  | k + 1 => n % 256 :: lowL (n / 256) k
def numL : List Int → Int
  | [] => 0
  | b :: l => b + 256 * numL l
theorem lowL_len : ∀ (k : Nat) (n : Int), (lowL n k).length = k
  | 0, _ => rfl
  | k + 1, n => by simp [lowL, lowL_len k]
def Bytes (l : List Int) : Prop := ∀ b ∈ l, 0 ≤ b ∧ b < 256
theorem lowL_bytes : ∀ (k : Nat) (n : Int), Bytes (lowL n k)
  | 0, _ => fun _ h => by cases h
  | k + 1, n => fun b h => by
    rcases List.mem_cons.1 h with rfl | h
    · exact ⟨Int.emod_nonneg _ (by decide), Int.emod_lt_of_pos _ (by decide)⟩
    · exact lowL_bytes k _ b h
theorem numL_nonneg : ∀ {l : List Int}, Bytes l → 0 ≤ numL l
  | [], _ => Int.le_refl _
  | b :: l, h => by
    have h1 := h b List.mem_cons_self
    have h2 := numL_nonneg (l := l) (fun x hx => h x (List.mem_cons_of_mem _ hx))
    show 0 ≤ b + 256 * numL l
    omega
theorem numL_lt : ∀ {l : List Int}, Bytes l → numL l < 256 ^ l.length
  | [], _ => by decide
  | b :: l, h => by
    have h1 := h b List.mem_cons_self
    have h2 := numL_lt (l := l) (fun x hx => h x (List.mem_cons_of_mem _ hx))
    show b + 256 * numL l < 256 ^ (l.length + 1)
    rw [Int.pow_succ]
    omega
theorem low_num : ∀ {l : List Int}, Bytes l → lowL (numL l) l.length = l
  | [], _ => rfl
  | b :: l, h => by
    have h1 := h b List.mem_cons_self
    have h2 := low_num (l := l) (fun x hx => h x (List.mem_cons_of_mem _ hx))
    show (b + 256 * numL l) % 256 :: lowL ((b + 256 * numL l) / 256) l.length = b :: l
    rw [show (b + 256 * numL l) % 256 = b by omega, show (b + 256 * numL l) / 256 = numL l by omega, h2]
def sumL (w : List Nat) : Nat := w.foldl (· + ·) 0
def partsL (p : List Int) (w : List Nat) : List Int := (List.range 5).flatMap fun i => lowL (p.getD i 0) (w.getD i 0)
def encB (s : St) : List Int := partsL s.parts (shW s.kind) ++ s.raw
def enc (s : St) : List Int := s.kind :: lowL (sumL (shW s.kind) + s.raw.length : Nat) 2 ++ encB s
def takeN : List Nat → List Int → List Int
  | [], _ => []
  | w :: ws, b => numL (b.take w) :: takeN ws (b.drop w)
def i64 (z : Int) : Int := (z + 9223372036854775808) % 18446744073709551616 - 9223372036854775808
def ofN (k : Int) (n : List Int) (raw : List Int) : St := ⟨k, i64 (n.getD 0 0), i64 (n.getD 1 0), i64 (n.getD 2 0), n.getD 3 0, n.getD 4 0, raw⟩
def one (k : Int) (b : List Int) : St × Int :=
  if isK k = false then (zeroS, 11)
  else if b.length < sumL (shW k) ∨ rawOk k (b.length - sumL (shW k) : Nat) = false then (zeroS, 9)
  else
    let s := ofN k (takeN (shW k) b) (b.drop (sumL (shW k)))
    if chk s = 0 then (s, 0) else (zeroS, chk s)
end Go.Script
namespace Go.Proofs.YtcmfldfeakmdoaaDoor
open Go Go.Sl
attribute [local irreducible] W
open Go.Script (lowL numL Bytes lowL_len lowL_bytes numL_nonneg numL_lt low_num)
theorem u64_wrap (z : Int) : IntKind.u64.wrap z = z % 18446744073709551616 := by simp [IntKind.wrap, IntKind.signed, IntKind.bits]
theorem _root_.Go.Script.Bytes.drop {l : List Int} (h : Bytes l) (m : Nat) : Bytes (l.drop m) := fun b hb => h b (List.mem_of_mem_drop hb)
theorem _root_.Go.Script.Bytes.take {l : List Int} (h : Bytes l) (m : Nat) : Bytes (l.take m) := fun b hb => h b (List.mem_of_mem_take hb)
theorem _root_.Go.Script.Bytes.getD {l : List Int} (h : Bytes l) (m : Nat) : 0 ≤ l.getD m 0 ∧ l.getD m 0 < 256 := by
  by_cases hm : m < l.length
  · rw [List.getD, List.getElem?_eq_getElem hm]; exact h _ (List.getElem_mem hm)
  · rw [List.getD, List.getElem?_eq_none (by omega)]; decide
end Go.Proofs.YtcmfldfeakmdoaaDoor
namespace Go.Proofs.YtcmfldfeakmdoaaDoor
open Go Go.Sl
attribute [local irreducible] W
set_option maxHeartbeats 1000000 in
theorem words_nil (at_ n : Int) : Pure Tryd.prog (fun _ => True) 64 [.pointer none, .int .i64 at_, .int .i64 n] (.tuple #[.slice none 0 0, .int .i64 6]) := by
  intro w0 H hT
  refine L_enter Tryd.func64 rfl Tryd.ntmps64 rfl rfl ?_
  refine W_sr ?_
  refine W_assign rfl rfl ?_
  refine W_assign rfl rfl ?_
  refine W_nil ?_
  refine W_seq ?_
  refine W_block ?_
  refine W_sr ?_
  refine W_move rfl rfl ?_
  refine W_x (X_ptrNil rfl rfl ty81) (fun _ h => by cases h) rfl ?_
  refine W_assign rfl rfl ?_
  refine W_nil ?_
  refine W_condT rfl rfl ?_
  refine W_sr ?_
  refine W_assign rfl rfl ?_
  refine W_assign rfl rfl ?_
  refine W_nil ?_
  refine W_ret2m (H2 := H) Tryd.results64 rfl rfl (.nil _) zH ?_
  exact ⟨rfl, rfl⟩
set_option maxHeartbeats 1000000 in
theorem read_nil (at_ n : Int) : Pure Tryd.prog (fun _ => True) 45 [.pointer none, .int .i64 at_, .int .i64 n] (.tuple #[.slice none 0 0, .int .i64 6]) := by
  intro w0 H hT
  refine L_enter Tryd.func45 rfl Tryd.ntmps45 rfl rfl ?_
  refine W_sr ?_
  refine W_assign rfl rfl ?_
  refine W_assign rfl rfl ?_
  refine W_nil ?_
  refine W_sr ?_
  refine W_move rfl rfl ?_
  refine W_move rfl rfl ?_
  refine W_move rfl rfl ?_
  refine W_callp (.cons rfl (.cons rfl (.cons rfl .nil))) Tryd.call64 rfl (T := fun _ => True) trivial (words_nil _ _) ?_
  refine W_move rfl rfl ?_
  refine W_extract rfl rfl rfl ?_
  refine W_extract rfl rfl rfl ?_
  refine W_assign rfl rfl ?_
  refine W_assign rfl rfl ?_
  refine W_nil ?_
  refine W_seq ?_
  refine W_sr ?_
  refine W_move rfl rfl ?_
  refine W_bin rfl rfl b_neq rfl ?_
  refine W_nil ?_
  refine W_condT rfl rfl ?_
  refine W_sr ?_
  refine W_move rfl rfl ?_
  refine W_assign rfl rfl ?_
  refine W_assign rfl rfl ?_
  refine W_nil ?_
  refine W_ret2m (H2 := H) Tryd.results45 rfl rfl (.nil _) zH ?_
  exact ⟨rfl, rfl⟩
set_option maxHeartbeats 1000000 in
theorem write_nil (at_ : Int) (ad : Option Addr) (n cap : Nat) : Pure Tryd.prog (fun _ => True) 44 [.pointer none, .int .i64 at_, .slice ad n cap] (.int .i64 6) := by
  intro w0 H hT
  refine L_enter Tryd.func44 rfl Tryd.ntmps44 rfl rfl ?_
  refine W_sr ?_
  refine W_assign rfl rfl ?_
  refine W_nil ?_
  refine W_sr ?_
  refine W_move rfl rfl ?_
  refine W_move rfl rfl ?_
  refine W_move rfl rfl ?_
  refine W_len rfl ty57 rfl rfl ?_
  refine W_bin rfl rfl (b_quo (by decide) rfl) rfl ?_
  refine W_callp (.cons rfl (.cons rfl (.cons rfl .nil))) Tryd.call64 rfl (T := fun _ => True) trivial (words_nil _ _) ?_
  refine W_move rfl rfl ?_
  refine W_extract rfl rfl rfl ?_
  refine W_extract rfl rfl rfl ?_
  refine W_assign rfl rfl ?_
  refine W_assign rfl rfl ?_
  refine W_nil ?_
  refine W_seq ?_
  refine W_block ?_
  refine W_sr ?_
  refine W_move rfl rfl ?_
  refine W_bin rfl rfl b_neq rfl ?_
  refine W_assign rfl rfl ?_
  refine W_nil ?_
  refine W_condT rfl rfl ?_
  refine W_sr ?_
  refine W_move rfl rfl ?_
  refine W_assign rfl rfl ?_
  refine W_nil ?_
  refine W_ret1m (H2 := H) Tryd.results44 rfl (.nil _) zH ?_
  exact ⟨rfl, rfl⟩
end Go.Proofs.YtcmfldfeakmdoaaDoor
namespace Go.Proofs.YtcmfldfeakmdoaaDoor
open Go Go.Sl
attribute [local irreducible] W
structure Tr where
  kind : Int
  helper : Int
  off : Int
  a0 : Va
  a1 : Va
  a2 : Va
  a3 : Va
  a4 : Va
  ref : Va
  n : Int
deriving DecidableEq
def trZ : Tr := ⟨0, 0, 0, zeroV, zeroV, zeroV, zeroV, zeroV, zeroV, 0⟩
def trC (t : Tr) : List Value := [.int .i64 t.kind, .int .i64 t.helper, .int .i64 t.off, .bool t.a0.ref, .int .i64 t.a0.m, .int .i64 t.a0.slot, .int .i64 t.a0.gen, .int .u64 t.a0.n, .bool t.a1.ref, .int .i64 t.a1.m, .int .i64 t.a1.slot, .int .i64 t.a1.gen, .int .u64 t.a1.n, .bool t.a2.ref, .int .i64 t.a2.m, .int .i64 t.a2.slot, .int .i64 t.a2.gen, .int .u64 t.a2.n, .bool t.a3.ref, .int .i64 t.a3.m, .int .i64 t.a3.slot, .int .i64 t.a3.gen, .int .u64 t.a3.n, .bool t.a4.ref, .int .i64 t.a4.m, .int .i64 t.a4.slot, .int .i64 t.a4.gen, .int .u64 t.a4.n, .bool t.ref.ref, .int .i64 t.ref.m, .int .i64 t.ref.slot, .int .i64 t.ref.gen, .int .u64 t.ref.n, .int .u64 t.n]
structure Vs where
  V : List Va
  at_ : Int
  fuel : Int
  asks : Bool
  over : Bool
  opn : Tr
  why : Int
  res : Int
deriving DecidableEq
def runC (bf : Nat) (ad : Option Addr) (n cap : Nat) (r : Vs) : List Value :=
  .pointer (some ⟨bf, 0, none⟩) :: .slice ad n cap :: .int .i64 r.at_ :: .int .i64 r.fuel :: .bool r.asks :: .bool r.over :: (trC r.opn ++ [.int .i64 r.why, .int .u64 r.res])
def endF (r : Vs) (e : Int) : Vs := { r with over := true, asks := false, why := e, opn := trZ }
def nextF (r : Vs) (e : Int) : Vs := if e = 0 then { r with at_ := r.at_ + 1 } else endF r e
def askF (r : Vs) (t : Tr) : Vs := { r with opn := t, asks := true }
def jumpF (r : Vs) (x : Ins) : Vs := nextF (if (jumpV r.V x).1 then { r with at_ := r.at_ + x.off } else r) (jumpV r.V x).2
def valueF (r : Vs) (x : Ins) : Vs :=
  if x.op = 66 ∧ (rdV r.V false x.src).1.ref = true then askF r { trZ with kind := 3, ref := (rdV r.V false x.src).1, off := x.off }
  else if (x.op = 67 ∧ (rdV r.V false x.dst).1.ref = true) ∧ (rdV r.V false x.src).1.ref = false then askF r { trZ with kind := 4, ref := (rdV r.V false x.dst).1, off := x.off, n := (rdV r.V false x.src).1.n }
  else endF r 17
def argsT (V : List Va) : Tr := { trZ with a0 := V.getD 1 zeroV, a1 := V.getD 2 zeroV, a2 := V.getD 3 zeroV, a3 := V.getD 4 zeroV, a4 := V.getD 5 zeroV }
abbrev argsV (V : List Va) : List Va := [V.getD 1 zeroV, V.getD 2 zeroV, V.getD 3 zeroV, V.getD 4 zeroV, V.getD 5 zeroV]
theorem args_row {V : List Va} (hV : V.length = 18) : vaRow (argsV V) = ((vaRow V).drop 5).take 25 := by
  match V, hV with
  | [], h => simp at h
  | [_], h => simp at h
  | [_, _], h => simp at h
  | [_, _, _], h => simp at h
  | [_, _, _, _], h => simp at h
  | [_, _, _, _, _], h => simp at h
  | a :: b :: c :: d :: e :: f :: l, _ => rfl
theorem Holds.part {w0 : World} {H : Heap} {b e tot o : Nat} {l l' : List Value} (hm : (b, Blk.cells e tot l) ∈ H) (h : l' = (l.drop o).take l'.length) : Holds w0 H (some ⟨b, o, none⟩) l' := fun j x hx => by
  refine ⟨b, o, rfl, Cell.own hm ?_⟩
  have hj : j < l'.length := (List.getElem?_eq_some_iff.1 hx).1
  rw [h, List.getElem?_take_of_lt hj, List.getElem?_drop] at hx
  exact hx
set_option maxHeartbeats 1000000 in
theorem rend_L {w0 : World} {H : Heap} {br bf n cap : Nat} {ad : Option Addr} {r : Vs} {e : Int}  : LCalls Tryd.prog w0 41 #[.pointer (some ⟨br, 0, none⟩), .int .i64 e] ((br, .cells 86 42 (runC bf ad n cap r)) :: H) (fun _ H' => H' = (br, .cells 86 42 (runC bf ad n cap (endF r e))) :: H) := by
  refine L_enter (l := [.pointer (some ⟨br, 0, none⟩), .int .i64 e]) Tryd.func41 rfl Tryd.ntmps41 rfl rfl ?_
  refine W_region ?_
  refine W_move rfl rfl ?_
  refine W_move rfl rfl ?_
  refine W_move rfl rfl ?_
  refine W_move rfl rfl ?_
  refine W_move rfl rfl ?_
  refine W_build (l := trC trZ) ty44 pl44 .nil rfl rfl rfl ?_
  refine W_nilCheck rfl rfl ?_
  refine W_fieldAddr rfl fld86_5 (by decide) rfl ?_
  refine W_store (l' := runC bf ad n cap { r with over := true }) rfl rfl ty4 rfl rfl (b := br) zM rfl rfl zU ?_
  refine W_nilCheck rfl rfl ?_
  refine W_fieldAddr rfl fld86_4 (by decide) rfl ?_
  refine W_store (l' := runC bf ad n cap { r with over := true, asks := false }) rfl rfl ty4 rfl rfl (b := br) zM rfl rfl zU ?_
  refine W_nilCheck rfl rfl ?_
  refine W_fieldAddr rfl fld86_7 (by decide) rfl ?_
  refine W_store (l' := runC bf ad n cap { r with over := true, asks := false, why := e }) rfl rfl ty30 rfl rfl (b := br) zM rfl rfl zU ?_
  refine W_nilCheck rfl rfl ?_
  refine W_fieldAddr rfl fld86_6 (by decide) rfl ?_
  refine W_storeA (l' := runC bf ad n cap (endF r e)) rfl rfl ty44 rfl rfl (b := br) zM (Nat.le_of_ble_eq_true rfl) rfl zU ?_
  refine W_nil ?_
  refine W_end0m (H2 := (br, .cells 86 42 (runC bf ad n cap (endF r e))) :: H) Tryd.results41 (.nil _) zH ?_
  rfl
set_option maxHeartbeats 1000000 in
theorem rnext_L {w0 : World} {H : Heap} {br bf n cap : Nat} {ad : Option Addr} {r : Vs} {e : Int} (hat : -1 ≤ r.at_ ∧ r.at_ ≤ 1000000)  : LCalls Tryd.prog w0 40 #[.pointer (some ⟨br, 0, none⟩), .int .i64 e] ((br, .cells 86 42 (runC bf ad n cap r)) :: H) (fun _ H' => H' = (br, .cells 86 42 (runC bf ad n cap (nextF r e))) :: H) := by
  refine L_enter (l := [.pointer (some ⟨br, 0, none⟩), .int .i64 e]) Tryd.func40 rfl Tryd.ntmps40 rfl rfl ?_
  refine W_seq ?_
  refine W_sr ?_
  refine W_move rfl rfl ?_
  refine W_bin rfl rfl b_neq rfl ?_
  refine W_nil ?_
  refine W_condS rfl (fun c0 => ?_) (fun c0 => ?_)
  · simp only [cond_true, cond_false, Bool.and_eq_true, Bool.or_eq_true, Bool.and_eq_false_iff, Bool.or_eq_false_iff, decide_eq_true_eq, decide_eq_false_iff_not, Bool.not_eq_true', Bool.not_eq_false', ne_eq, Decidable.not_not] at c0
    refine W_sr ?_
    refine W_move rfl rfl ?_
    refine W_move rfl rfl ?_
    refine W_call (.cons rfl (.cons rfl .nil)) Tryd.call41 rfl ((rend_L (r := r) (e := e)).hsub zH) ?_
    rintro v H' rfl
    rw [show endF r e = nextF r e from (if_neg c0).symm]
    refine W_nil ?_
    refine W_ret0m (H2 := (br, .cells 86 42 (runC bf ad n cap (nextF r e))) :: H) Tryd.results40 (.nil _) zH ?_
    rfl
  · simp only [cond_true, cond_false, Bool.and_eq_true, Bool.or_eq_true, Bool.and_eq_false_iff, Bool.or_eq_false_iff, decide_eq_true_eq, decide_eq_false_iff_not, Bool.not_eq_true', Bool.not_eq_false', ne_eq, Decidable.not_not] at c0
    refine W_skip ?_
    refine W_region ?_
    refine W_move rfl rfl ?_
    refine W_nilCheck rfl rfl ?_
    refine W_fieldAddr rfl fld86_2 (by decide) rfl ?_
    refine W_load (v := .int .i64 r.at_) rfl ty3 rfl (Cell.own (b := br) zM rfl) rfl ?_
    refine W_bin rfl rfl (b_add (m := r.at_ + 1) (by rw [i64w (by omega)])) rfl ?_
    refine W_nilCheck rfl rfl ?_
    refine W_fieldAddr rfl fld86_2 (by decide) rfl ?_
    refine W_store (l' := runC bf ad n cap (nextF r e)) rfl rfl ty3 rfl rfl (b := br) zM rfl (by rw [show nextF r e = { r with at_ := r.at_ + 1 } from if_pos c0]; rfl) zU ?_
    refine W_nil ?_
    refine W_end0m (H2 := (br, .cells 86 42 (runC bf ad n cap (nextF r e))) :: H) Tryd.results40 (.nil _) zH ?_
    rfl
set_option maxHeartbeats 1000000 in
theorem rask_L {w0 : World} {H : Heap} {br bf n cap : Nat} {ad : Option Addr} {r : Vs} {t : Tr}  : LCalls Tryd.prog w0 58 #[.pointer (some ⟨br, 0, none⟩), .agg (trC t).toArray] ((br, .cells 86 42 (runC bf ad n cap r)) :: H) (fun _ H' => H' = (br, .cells 86 42 (runC bf ad n cap (askF r t))) :: H) := by
  refine L_enter (l := [.pointer (some ⟨br, 0, none⟩), .agg (trC t).toArray]) Tryd.func58 rfl Tryd.ntmps58 rfl rfl ?_
  refine W_sr ?_
  refine W_box rfl rfl rfl (fun b3 => ?_)
  refine W_nil ?_
  refine W_region ?_
  refine W_move rfl rfl ?_
  refine W_move rfl rfl ?_
  refine W_loadB (vs := trC t) rfl ty44 rfl zM rfl rfl rfl ?_
  refine W_nilCheck rfl rfl ?_
  refine W_fieldAddr rfl fld86_6 (by decide) rfl ?_
  refine W_storeA (l' := runC bf ad n cap { r with opn := t }) rfl rfl ty44 rfl rfl (b := br) zM (Nat.le_of_ble_eq_true rfl) rfl zU ?_
  refine W_nilCheck rfl rfl ?_
  refine W_fieldAddr rfl fld86_4 (by decide) rfl ?_
  refine W_store (l' := runC bf ad n cap (askF r t)) rfl rfl ty4 rfl rfl (b := br) zM rfl rfl zU ?_
  refine W_nil ?_
  refine W_end0m (H2 := (br, .cells 86 42 (runC bf ad n cap (askF r t))) :: H) Tryd.results58 (.nil _) zH ?_
  rfl
set_option maxHeartbeats 1000000 in
theorem args_L {w0 : World} {H : Heap} {bf : Nat} {V : List Va} (hV : V.length = 18)  : LCalls Tryd.prog w0 59 #[.pointer (some ⟨bf, 0, none⟩)] ((bf, .cells 101 90 (vaRow V)) :: H) (fun v H' => v = .agg (vaRow (argsV V)).toArray ∧ H' = (bf, .cells 101 90 (vaRow V)) :: H) := by
  refine L_enter (l := [.pointer (some ⟨bf, 0, none⟩)]) Tryd.func59 rfl Tryd.ntmps59 rfl rfl ?_
  refine W_sr ?_
  refine W_alloc (l := vaRow (List.replicate 5 zeroV)) ty42 rfl rfl (fun b2 => ?_)
  refine W_nil ?_
  refine W_seq ?_
  refine W_sr ?_
  refine W_move rfl rfl ?_
  refine W_x (X_ptrNil rfl rfl ty81) (fun _ h => by cases h) rfl ?_
  refine W_nil ?_
  refine W_condF rfl rfl ?_
  refine W_skip ?_
  refine W_sr ?_
  refine W_alloc (l := vaRow (List.replicate 5 zeroV)) ty42 rfl rfl (fun b3 => ?_)
  refine W_nil ?_
  refine W_seq ?_
  refine W_anyC ((bf, .cells 101 90 (vaRow V)) :: H) (by kernel_rfl) ?_
  refine WC_take 0 (l' := #[true, false, false, false, false, false]) rfl (by decide +kernel) (by decide +kernel) (by decide +kernel) rfl (by decide +kernel) (X_sliceArr (l := 0) (hh := 5) rfl ty42 ty41 rfl rfl (by decide) (by decide) (by decide)) rfl ?_
  refine WC_take 1 (l' := #[true, true, false, false, false, false]) rfl (by decide +kernel) (by decide +kernel) (by decide +kernel) rfl (by decide +kernel) (X_move rfl) rfl ?_
  refine WC_take 2 (l' := #[true, true, true, false, false, false]) rfl (by decide +kernel) (by decide +kernel) (by decide +kernel) rfl (by decide +kernel) (X_nilCheck rfl) rfl ?_
  refine WC_take 3 (l' := #[true, true, true, true, false, false]) rfl (by decide +kernel) (by decide +kernel) (by decide +kernel) rfl (by decide +kernel) (X_fieldAddr rfl fld101_0 (by decide)) rfl ?_
  refine WC_take 4 (l' := #[true, true, true, true, true, false]) rfl (by decide +kernel) (by decide +kernel) (by decide +kernel) rfl (by decide +kernel) (X_sliceArr (l := 1) (hh := 10) rfl ty98 ty41 ⟨_, rfl⟩ rfl (by decide) (by decide) (by decide)) rfl ?_
  refine WC_one 5 (l' := #[true, true, true, true, true, true]) zH (by decide +kernel) rfl (by decide +kernel) ?_
  refine W_copy (news := vaRow (argsV V)) (l' := vaRow (argsV V)) rfl rfl ty33 ty41 (kk := 5) rfl (by rw [vaRow_len]; rfl) (Holds.part (b := bf) zM (args_row hV)) (va_one _) (b := b3) zM (by exact Nat.le_refl 25) rfl zU rfl ?_
  refine W_nil ?_
  refine WC_goal ?_
  refine WC_done zH (by decide +kernel) ?_
  refine W_sr ?_
  refine W_loadB (vs := vaRow (argsV V)) rfl ty42 rfl (b := b3) zM rfl rfl rfl ?_
  refine W_storeA (l' := vaRow (argsV V)) rfl rfl ty42 rfl rfl (b := b2) zM (by exact Nat.le_refl 25) rfl zU ?_
  refine W_nil ?_
  refine W_ret1cO (H2 := (bf, .cells 101 90 (vaRow V)) :: H) Tryd.results59 rfl (.nil _) ty42 rfl zM rfl zH ?_
  exact ⟨rfl, rfl⟩
end Go.Proofs.YtcmfldfeakmdoaaDoor

/-
  Own work: contracts of functions that the statement reaches, and plain facts on what they compute; each theorem says its conditions.
-/
import Derived.Test.YtkhkagjbeilbgaaDoorA1
import Derived.IntWalk
set_option linter.all false
set_option linter.unusedSimpArgs false
set_option linter.unusedVariables false
namespace Go.Proofs.YtkhkagjbeilbgaaDoor
open Go Go.Sl
attribute [local irreducible] W

def cls (op : Int) : Int := if 0 ≤ op ∧ op ≤ 12 ∨ 16 ≤ op ∧ op ≤ 27 then 1 else if 32 ≤ op ∧ op ≤ 41 ∨ 49 ≤ op ∧ op ≤ 57 then 2 else if 64 ≤ op ∧ op ≤ 67 then 3 else if op = 72 ∨ op = 73 then 4 else 0
theorem cls1 {op : Int} : cls op = 1 ↔ 0 ≤ op ∧ op ≤ 12 ∨ 16 ≤ op ∧ op ≤ 27 := by unfold cls; omega
theorem cls2 {op : Int} : cls op = 2 ↔ 32 ≤ op ∧ op ≤ 41 ∨ 49 ≤ op ∧ op ≤ 57 := by unfold cls; omega
theorem cls3 {op : Int} : cls op = 3 ↔ 64 ≤ op ∧ op ≤ 67 := by unfold cls; omega
theorem cls4 {op : Int} : cls op = 4 ↔ op = 72 ∨ op = 73 := by unfold cls; omega
theorem cls_cases (op : Int) : cls op = 0 ∨ cls op = 1 ∨ cls op = 2 ∨ cls op = 3 ∨ cls op = 4 := by unfold cls; omega
def isaName (op : Int) : ByteArray :=
  if cls op = 0 then ⟨#[]⟩ else if cls op = 2 then jumpsA.getD ((op - 32) % 16).toNat ⟨#[]⟩ else if cls op = 3 then placesA.getD ((op - 64) % 16).toNat ⟨#[]⟩
  else if cls op = 4 then flowsA.getD ((op - 72) % 16).toNat ⟨#[]⟩ else sumsA.getD ((op - 0) % 16).toNat ⟨#[]⟩
theorem i64w {m : Int} (h : -9223372036854775808 ≤ m ∧ m ≤ 9223372036854775807) : IntKind.i64.wrap m = m := IntWalk.i64_in m h
theorem getD_str {l : List ByteArray} {j : Nat} (h : j < l.length) : (l.map Value.string)[j]? = some (.string (l.getD j ⟨#[]⟩)) := by
  simp [List.getD, h]
set_option maxHeartbeats 1000000 in
theorem class_pure (op : Int) : Pure Tryd.prog (Tab) 66 [.int .i64 op] (.int .i64 (cls op)) := by
  intro w0 H hT
  refine L_enter Tryd.func66 rfl Tryd.ntmps66 rfl rfl ?_
  refine W_sr ?_
  refine W_assign rfl rfl ?_
  refine W_nil ?_
  refine W_seq ?_
  refine W_block ?_
  refine W_seq ?_
  refine W_sr ?_
  refine W_move rfl rfl ?_
  refine W_bin rfl rfl b_geq rfl ?_
  refine W_move rfl rfl ?_
  apply W_and
  iterate 4 exact rfl
  case h1 =>
    intro hg2
    refine W_gyes rfl rfl ?_
    refine W_move rfl rfl ?_
    refine W_gyes rfl rfl ?_
    refine W_bin rfl rfl b_leq rfl ?_
    exact W_met rfl (by repeat (first | exact .refl | refine .cons rfl ?_))
  refine W_assign rfl rfl ?_
  refine W_nil ?_
  refine W_condS rfl (fun c0 => ?_) (fun c0 => ?_)
  · simp only [cond_true, cond_false, Bool.and_eq_true, Bool.or_eq_true, Bool.and_eq_false_iff, Bool.or_eq_false_iff, decide_eq_true_eq, decide_eq_false_iff_not, Bool.not_eq_true', Bool.not_eq_false', ne_eq, Decidable.not_not] at c0
    refine W_skip ?_
    refine W_condT rfl rfl ?_
    refine W_sr ?_
    refine W_assign rfl rfl ?_
    refine W_nil ?_
    refine W_ret1m Tryd.results66 rfl (.nil _) (.refl _) ?_
    exact ⟨by unfold cls; repeat (first | rw [if_pos (by omega)] | rw [if_neg (by omega)]), rfl⟩
  · simp only [cond_true, cond_false, Bool.and_eq_true, Bool.or_eq_true, Bool.and_eq_false_iff, Bool.or_eq_false_iff, decide_eq_true_eq, decide_eq_false_iff_not, Bool.not_eq_true', Bool.not_eq_false', ne_eq, Decidable.not_not] at c0
    refine W_region ?_
    refine W_move rfl rfl ?_
    refine W_bin rfl rfl b_geq rfl ?_
    refine W_move rfl rfl ?_
    apply W_and
    iterate 4 exact rfl
    case h1 =>
      intro hg2
      refine W_gyes rfl rfl ?_
      refine W_move rfl rfl ?_
      refine W_gyes rfl rfl ?_
      refine W_bin rfl rfl b_leq rfl ?_
      exact W_met rfl (by repeat (first | exact .refl | refine .cons rfl ?_))
    refine W_assign rfl rfl ?_
    refine W_nil ?_
    refine W_condS rfl (fun c1 => ?_) (fun c1 => ?_)
    · simp only [cond_true, cond_false, Bool.and_eq_true, Bool.or_eq_true, Bool.and_eq_false_iff, Bool.or_eq_false_iff, decide_eq_true_eq, decide_eq_false_iff_not, Bool.not_eq_true', Bool.not_eq_false', ne_eq, Decidable.not_not] at c1
      refine W_sr ?_
      refine W_assign rfl rfl ?_
      refine W_nil ?_
      refine W_ret1m Tryd.results66 rfl (.nil _) (.refl _) ?_
      exact ⟨by unfold cls; repeat (first | rw [if_pos (by omega)] | rw [if_neg (by omega)]), rfl⟩
    · simp only [cond_true, cond_false, Bool.and_eq_true, Bool.or_eq_true, Bool.and_eq_false_iff, Bool.or_eq_false_iff, decide_eq_true_eq, decide_eq_false_iff_not, Bool.not_eq_true', Bool.not_eq_false', ne_eq, Decidable.not_not] at c1
      refine W_seq ?_
      refine W_sr ?_
      refine W_move rfl rfl ?_
      refine W_bin rfl rfl b_geq rfl ?_
      refine W_move rfl rfl ?_
      apply W_and
      iterate 4 exact rfl
      case h1 =>
        intro hg2
        refine W_gyes rfl rfl ?_
        refine W_move rfl rfl ?_
        refine W_gyes rfl rfl ?_
        refine W_bin rfl rfl b_leq rfl ?_
        exact W_met rfl (by repeat (first | exact .refl | refine .cons rfl ?_))
      refine W_assign rfl rfl ?_
      refine W_nil ?_
      refine W_condS rfl (fun c2 => ?_) (fun c2 => ?_)
      · simp only [cond_true, cond_false, Bool.and_eq_true, Bool.or_eq_true, Bool.and_eq_false_iff, Bool.or_eq_false_iff, decide_eq_true_eq, decide_eq_false_iff_not, Bool.not_eq_true', Bool.not_eq_false', ne_eq, Decidable.not_not] at c2
        refine W_skip ?_
        refine W_condT rfl rfl ?_
        refine W_sr ?_
        refine W_assign rfl rfl ?_
        refine W_nil ?_
        refine W_ret1m Tryd.results66 rfl (.nil _) (.refl _) ?_
        exact ⟨by unfold cls; repeat (first | rw [if_pos (by omega)] | rw [if_neg (by omega)]), rfl⟩
      · simp only [cond_true, cond_false, Bool.and_eq_true, Bool.or_eq_true, Bool.and_eq_false_iff, Bool.or_eq_false_iff, decide_eq_true_eq, decide_eq_false_iff_not, Bool.not_eq_true', Bool.not_eq_false', ne_eq, Decidable.not_not] at c2
        refine W_region ?_
        refine W_move rfl rfl ?_
        refine W_bin rfl rfl b_geq rfl ?_
        refine W_move rfl rfl ?_
        apply W_and
        iterate 4 exact rfl
        case h1 =>
          intro hg2
          refine W_gyes rfl rfl ?_
          refine W_move rfl rfl ?_
          refine W_gyes rfl rfl ?_
          refine W_bin rfl rfl b_leq rfl ?_
          exact W_met rfl (by repeat (first | exact .refl | refine .cons rfl ?_))
        refine W_assign rfl rfl ?_
        refine W_nil ?_
        refine W_condS rfl (fun c3 => ?_) (fun c3 => ?_)
        · simp only [cond_true, cond_false, Bool.and_eq_true, Bool.or_eq_true, Bool.and_eq_false_iff, Bool.or_eq_false_iff, decide_eq_true_eq, decide_eq_false_iff_not, Bool.not_eq_true', Bool.not_eq_false', ne_eq, Decidable.not_not] at c3
          refine W_sr ?_
          refine W_assign rfl rfl ?_
          refine W_nil ?_
          refine W_ret1m Tryd.results66 rfl (.nil _) (.refl _) ?_
          exact ⟨by unfold cls; repeat (first | rw [if_pos (by omega)] | rw [if_neg (by omega)]), rfl⟩
        · simp only [cond_true, cond_false, Bool.and_eq_true, Bool.or_eq_true, Bool.and_eq_false_iff, Bool.or_eq_false_iff, decide_eq_true_eq, decide_eq_false_iff_not, Bool.not_eq_true', Bool.not_eq_false', ne_eq, Decidable.not_not] at c3
          refine W_sr ?_
          refine W_move rfl rfl ?_
          refine W_bin rfl rfl b_geq rfl ?_
          refine W_move rfl rfl ?_
          apply W_and
          iterate 4 exact rfl
          case h1 =>
            intro hg2
            refine W_gyes rfl rfl ?_
            refine W_move rfl rfl ?_
            refine W_gyes rfl rfl ?_
            refine W_bin rfl rfl b_leq rfl ?_
            exact W_met rfl (by repeat (first | exact .refl | refine .cons rfl ?_))
          refine W_assign rfl rfl ?_
          refine W_nil ?_
          refine W_condS rfl (fun c4 => ?_) (fun c4 => ?_)
          · simp only [cond_true, cond_false, Bool.and_eq_true, Bool.or_eq_true, Bool.and_eq_false_iff, Bool.or_eq_false_iff, decide_eq_true_eq, decide_eq_false_iff_not, Bool.not_eq_true', Bool.not_eq_false', ne_eq, Decidable.not_not] at c4
            refine W_sr ?_
            refine W_assign rfl rfl ?_
            refine W_nil ?_
            refine W_ret1m Tryd.results66 rfl (.nil _) (.refl _) ?_
            exact ⟨by unfold cls; repeat (first | rw [if_pos (by omega)] | rw [if_neg (by omega)]), rfl⟩
          · simp only [cond_true, cond_false, Bool.and_eq_true, Bool.or_eq_true, Bool.and_eq_false_iff, Bool.or_eq_false_iff, decide_eq_true_eq, decide_eq_false_iff_not, Bool.not_eq_true', Bool.not_eq_false', ne_eq, Decidable.not_not] at c4
            refine W_sr ?_
            refine W_move rfl rfl ?_
            refine W_bin rfl rfl b_eql rfl ?_
            refine W_move rfl rfl ?_
            apply W_or
            iterate 4 exact rfl
            case h1 =>
              intro hg2
              refine W_gyes rfl rfl ?_
              refine W_move rfl rfl ?_
              refine W_gyes rfl rfl ?_
              refine W_bin rfl rfl b_eql rfl ?_
              exact W_met rfl (by repeat (first | exact .refl | refine .cons rfl ?_))
            refine W_assign rfl rfl ?_
            refine W_nil ?_
            refine W_condS rfl (fun c5 => ?_) (fun c5 => ?_)
            · simp only [cond_true, cond_false, Bool.and_eq_true, Bool.or_eq_true, Bool.and_eq_false_iff, Bool.or_eq_false_iff, decide_eq_true_eq, decide_eq_false_iff_not, Bool.not_eq_true', Bool.not_eq_false', ne_eq, Decidable.not_not] at c5
              refine W_sr ?_
              refine W_assign rfl rfl ?_
              refine W_nil ?_
              refine W_ret1m Tryd.results66 rfl (.nil _) (.refl _) ?_
              exact ⟨by unfold cls; repeat (first | rw [if_pos (by omega)] | rw [if_neg (by omega)]), rfl⟩
            · simp only [cond_true, cond_false, Bool.and_eq_true, Bool.or_eq_true, Bool.and_eq_false_iff, Bool.or_eq_false_iff, decide_eq_true_eq, decide_eq_false_iff_not, Bool.not_eq_true', Bool.not_eq_false', ne_eq, Decidable.not_not] at c5
              refine W_skip ?_
              refine W_blk ?_
              refine W_sr ?_
              refine W_assign rfl rfl ?_
              refine W_nil ?_
              refine W_ret1m Tryd.results66 rfl (.nil _) (.refl _) ?_
              exact ⟨by unfold cls; repeat (first | rw [if_pos (by omega)] | rw [if_neg (by omega)]), rfl⟩
set_option maxHeartbeats 1000000 in
theorem name_pure (op : Int) (hlo : -9223372036854775808 ≤ op) (hhi : op ≤ 9223372036854775807) : Pure Tryd.prog Tab 120 [.int .i64 op] (.string (isaName op)) := by
  intro w0 H hT
  refine L_enter Tryd.func120 rfl Tryd.ntmps120 rfl rfl ?_
  refine W_sr ?_
  refine W_assign rfl rfl ?_
  refine W_nil ?_
  refine W_sr ?_
  refine W_assign rfl rfl ?_
  refine W_assign rfl rfl ?_
  refine W_nil ?_
  refine W_seq ?_
  refine W_sr ?_
  refine W_move rfl rfl ?_
  refine W_callp (.cons rfl .nil) Tryd.call66 rfl hT (class_pure _) ?_
  refine W_nil ?_
  refine W_block ?_
  refine W_sr ?_
  refine W_bin rfl rfl b_eql rfl ?_
  refine W_assign rfl rfl ?_
  refine W_nil ?_
  refine W_condS rfl (fun c0 => ?_) (fun c0 => ?_)
  · simp only [cond_true, cond_false, Bool.and_eq_true, Bool.or_eq_true, Bool.and_eq_false_iff, Bool.or_eq_false_iff, decide_eq_true_eq, decide_eq_false_iff_not, Bool.not_eq_true', Bool.not_eq_false', ne_eq, Decidable.not_not] at c0
    refine W_sr ?_
    refine W_assign rfl rfl ?_
    refine W_nil ?_
    refine W_ret1m (H2 := H) Tryd.results120 rfl (.nil _) (by repeat (first | with_reducible exact HSub.refl _ | refine HSub.cons (by repeat (first | exact Take.here _ | apply Take.next | apply Take.app)) ?_ | refine HSub.app (by repeat (first | with_reducible exact TakeS.here _ | apply TakeS.next | apply TakeS.app)) ?_ | exact HSub.nil _ | exact HSub.refl _ | refine HSub.drop ?_ | refine HSub.dropS ?_)) ?_
    refine ⟨?_, rfl⟩
    unfold isaName
    first | rw [if_pos (by assumption)] | (rw [if_neg (by omega)]; repeat (first | rw [if_pos (by assumption)] | rw [if_neg (by omega)]))
  · simp only [cond_true, cond_false, Bool.and_eq_true, Bool.or_eq_true, Bool.and_eq_false_iff, Bool.or_eq_false_iff, decide_eq_true_eq, decide_eq_false_iff_not, Bool.not_eq_true', Bool.not_eq_false', ne_eq, Decidable.not_not] at c0
    refine W_sr ?_
    refine W_bin rfl rfl b_eql rfl ?_
    refine W_assign rfl rfl ?_
    refine W_nil ?_
    refine W_condS rfl (fun c1 => ?_) (fun c1 => ?_)
    · simp only [cond_true, cond_false, Bool.and_eq_true, Bool.or_eq_true, Bool.and_eq_false_iff, Bool.or_eq_false_iff, decide_eq_true_eq, decide_eq_false_iff_not, Bool.not_eq_true', Bool.not_eq_false', ne_eq, Decidable.not_not] at c1
      refine W_region ?_
      refine W_assign rfl rfl ?_
      refine W_assign rfl rfl ?_
      refine W_nil ?_
      refine W_blk ?_
      refine W_sr ?_
      have hb := (cls2 (op := op)).1 (by first | exact c1 | (have := cls_cases op; omega))
      refine W_move rfl rfl ?_
      refine W_call (.cons rfl .nil) Tryd.call55 rfl (fields_jumps hT) ?_
      rintro v H1 ⟨b, rfl, rfl⟩
      refine W_move rfl rfl ?_
      refine W_move rfl rfl ?_
      refine W_bin rfl rfl (b_sub (i64w (by omega))) rfl ?_
      refine W_bin rfl rfl (b_rem (by decide) (Int.tmod_eq_emod_of_nonneg (by omega))) rfl ?_
      refine W_indexAddrZ rfl rfl ty108 ty9 (by omega) (by omega) rfl rfl ?_
      refine W_load rfl ty9 rfl (Cell.own (by repeat (first | exact List.mem_cons_self | apply List.mem_cons_of_mem | apply List.mem_append_right)) (by rw [Nat.zero_add, Nat.mul_one]; exact getD_str (by show _ < 10; omega))) rfl ?_
      refine W_assign rfl rfl ?_
      refine W_nil ?_
      refine W_ret1m (H2 := H) Tryd.results120 rfl (.nil _) (by repeat (first | with_reducible exact HSub.refl _ | refine HSub.cons (by repeat (first | exact Take.here _ | apply Take.next | apply Take.app)) ?_ | refine HSub.app (by repeat (first | with_reducible exact TakeS.here _ | apply TakeS.next | apply TakeS.app)) ?_ | exact HSub.nil _ | exact HSub.refl _ | refine HSub.drop ?_ | refine HSub.dropS ?_)) ?_
      refine ⟨?_, rfl⟩
      unfold isaName
      first | rw [if_pos (by assumption)] | (rw [if_neg (by omega)]; repeat (first | rw [if_pos (by assumption)] | rw [if_neg (by omega)]))
    · simp only [cond_true, cond_false, Bool.and_eq_true, Bool.or_eq_true, Bool.and_eq_false_iff, Bool.or_eq_false_iff, decide_eq_true_eq, decide_eq_false_iff_not, Bool.not_eq_true', Bool.not_eq_false', ne_eq, Decidable.not_not] at c1
      refine W_sr ?_
      refine W_bin rfl rfl b_eql rfl ?_
      refine W_assign rfl rfl ?_
      refine W_nil ?_
      refine W_condS rfl (fun c2 => ?_) (fun c2 => ?_)
      · simp only [cond_true, cond_false, Bool.and_eq_true, Bool.or_eq_true, Bool.and_eq_false_iff, Bool.or_eq_false_iff, decide_eq_true_eq, decide_eq_false_iff_not, Bool.not_eq_true', Bool.not_eq_false', ne_eq, Decidable.not_not] at c2
        refine W_region ?_
        refine W_assign rfl rfl ?_
        refine W_assign rfl rfl ?_
        refine W_nil ?_
        refine W_blk ?_
        refine W_sr ?_
        have hb := (cls3 (op := op)).1 (by first | exact c2 | (have := cls_cases op; omega))
        refine W_move rfl rfl ?_
        refine W_call (.cons rfl .nil) Tryd.call55 rfl (fields_places hT) ?_
        rintro v H1 ⟨b, rfl, rfl⟩
        refine W_move rfl rfl ?_
        refine W_move rfl rfl ?_
        refine W_bin rfl rfl (b_sub (i64w (by omega))) rfl ?_
        refine W_bin rfl rfl (b_rem (by decide) (Int.tmod_eq_emod_of_nonneg (by omega))) rfl ?_
        refine W_indexAddrZ rfl rfl ty108 ty9 (by omega) (by omega) rfl rfl ?_
        refine W_load rfl ty9 rfl (Cell.own (by repeat (first | exact List.mem_cons_self | apply List.mem_cons_of_mem | apply List.mem_append_right)) (by rw [Nat.zero_add, Nat.mul_one]; exact getD_str (by show _ < 4; omega))) rfl ?_
        refine W_assign rfl rfl ?_
        refine W_nil ?_
        refine W_ret1m (H2 := H) Tryd.results120 rfl (.nil _) (by repeat (first | with_reducible exact HSub.refl _ | refine HSub.cons (by repeat (first | exact Take.here _ | apply Take.next | apply Take.app)) ?_ | refine HSub.app (by repeat (first | with_reducible exact TakeS.here _ | apply TakeS.next | apply TakeS.app)) ?_ | exact HSub.nil _ | exact HSub.refl _ | refine HSub.drop ?_ | refine HSub.dropS ?_)) ?_
        refine ⟨?_, rfl⟩
        unfold isaName
        first | rw [if_pos (by assumption)] | (rw [if_neg (by omega)]; repeat (first | rw [if_pos (by assumption)] | rw [if_neg (by omega)]))
      · simp only [cond_true, cond_false, Bool.and_eq_true, Bool.or_eq_true, Bool.and_eq_false_iff, Bool.or_eq_false_iff, decide_eq_true_eq, decide_eq_false_iff_not, Bool.not_eq_true', Bool.not_eq_false', ne_eq, Decidable.not_not] at c2
        refine W_sr ?_
        refine W_bin rfl rfl b_eql rfl ?_
        refine W_assign rfl rfl ?_
        refine W_nil ?_
        refine W_condS rfl (fun c3 => ?_) (fun c3 => ?_)
        · simp only [cond_true, cond_false, Bool.and_eq_true, Bool.or_eq_true, Bool.and_eq_false_iff, Bool.or_eq_false_iff, decide_eq_true_eq, decide_eq_false_iff_not, Bool.not_eq_true', Bool.not_eq_false', ne_eq, Decidable.not_not] at c3
          refine W_region ?_
          refine W_assign rfl rfl ?_
          refine W_assign rfl rfl ?_
          refine W_nil ?_
          refine W_blk ?_
          refine W_sr ?_
          have hb := (cls4 (op := op)).1 (by first | exact c3 | (have := cls_cases op; omega))
          refine W_move rfl rfl ?_
          refine W_call (.cons rfl .nil) Tryd.call55 rfl (fields_flows hT) ?_
          rintro v H1 ⟨b, rfl, rfl⟩
          refine W_move rfl rfl ?_
          refine W_move rfl rfl ?_
          refine W_bin rfl rfl (b_sub (i64w (by omega))) rfl ?_
          refine W_bin rfl rfl (b_rem (by decide) (Int.tmod_eq_emod_of_nonneg (by omega))) rfl ?_
          refine W_indexAddrZ rfl rfl ty108 ty9 (by omega) (by omega) rfl rfl ?_
          refine W_load rfl ty9 rfl (Cell.own (by repeat (first | exact List.mem_cons_self | apply List.mem_cons_of_mem | apply List.mem_append_right)) (by rw [Nat.zero_add, Nat.mul_one]; exact getD_str (by show _ < 2; omega))) rfl ?_
          refine W_assign rfl rfl ?_
          refine W_nil ?_
          refine W_ret1m (H2 := H) Tryd.results120 rfl (.nil _) (by repeat (first | with_reducible exact HSub.refl _ | refine HSub.cons (by repeat (first | exact Take.here _ | apply Take.next | apply Take.app)) ?_ | refine HSub.app (by repeat (first | with_reducible exact TakeS.here _ | apply TakeS.next | apply TakeS.app)) ?_ | exact HSub.nil _ | exact HSub.refl _ | refine HSub.drop ?_ | refine HSub.dropS ?_)) ?_
          refine ⟨?_, rfl⟩
          unfold isaName
          first | rw [if_pos (by assumption)] | (rw [if_neg (by omega)]; repeat (first | rw [if_pos (by assumption)] | rw [if_neg (by omega)]))
        · simp only [cond_true, cond_false, Bool.and_eq_true, Bool.or_eq_true, Bool.and_eq_false_iff, Bool.or_eq_false_iff, decide_eq_true_eq, decide_eq_false_iff_not, Bool.not_eq_true', Bool.not_eq_false', ne_eq, Decidable.not_not] at c3
          refine W_skip ?_
          refine W_blk ?_
          refine W_sr ?_
          have hb := (cls1 (op := op)).1 (by first | exact c3 | (have := cls_cases op; omega))
          refine W_move rfl rfl ?_
          refine W_call (.cons rfl .nil) Tryd.call55 rfl (fields_sums hT) ?_
          rintro v H1 ⟨b, rfl, rfl⟩
          refine W_move rfl rfl ?_
          refine W_move rfl rfl ?_
          refine W_bin rfl rfl (b_sub (i64w (by omega))) rfl ?_
          refine W_bin rfl rfl (b_rem (by decide) (Int.tmod_eq_emod_of_nonneg (by omega))) rfl ?_
          refine W_indexAddrZ rfl rfl ty108 ty9 (by omega) (by omega) rfl rfl ?_
          refine W_load rfl ty9 rfl (Cell.own (by repeat (first | exact List.mem_cons_self | apply List.mem_cons_of_mem | apply List.mem_append_right)) (by rw [Nat.zero_add, Nat.mul_one]; exact getD_str (by show _ < 13; omega))) rfl ?_
          refine W_assign rfl rfl ?_
          refine W_nil ?_
          refine W_ret1m (H2 := H) Tryd.results120 rfl (.nil _) (by repeat (first | with_reducible exact HSub.refl _ | refine HSub.cons (by repeat (first | exact Take.here _ | apply Take.next | apply Take.app)) ?_ | refine HSub.app (by repeat (first | with_reducible exact TakeS.here _ | apply TakeS.next | apply TakeS.app)) ?_ | exact HSub.nil _ | exact HSub.refl _ | refine HSub.drop ?_ | refine HSub.dropS ?_)) ?_
          refine ⟨?_, rfl⟩
          unfold isaName
          first | rw [if_pos (by assumption)] | (rw [if_neg (by omega)]; repeat (first | rw [if_pos (by assumption)] | rw [if_neg (by omega)]))
end Go.Proofs.YtkhkagjbeilbgaaDoor

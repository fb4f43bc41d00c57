/-
  Own work: contracts of functions that the statement reaches, and plain facts on what they compute; each theorem says its conditions.
-/
import Derived.Test.YtpfoecmianohjaaDoorA4
set_option linter.all false
set_option linter.unusedSimpArgs false
set_option linter.unusedVariables false
namespace Go.Proofs.YtpfoecmianohjaaDoor
open Go Go.Sl
attribute [local irreducible] W

def sumsR : List ByteArray := sumsA.take 12
def jumpsR : List ByteArray := jumpsA.drop 1
def kindR (op : Int) : Value :=
  if 0 ≤ op ∧ op < 12 then .tuple #[.string (sumsR.getD op.toNat ⟨#[]⟩), .string ⟨#[100, 105]⟩, .int .i64 1]
  else if 16 ≤ op ∧ op < 28 then .tuple #[.string (sumsR.getD (op - 16).toNat ⟨#[]⟩), .string ⟨#[100, 115]⟩, .int .i64 1]
  else if 33 ≤ op ∧ op < 42 then .tuple #[.string (jumpsR.getD (op - 33).toNat ⟨#[]⟩), .string ⟨#[100, 105, 111]⟩, .int .i64 2]
  else if 49 ≤ op ∧ op < 58 then .tuple #[.string (jumpsR.getD (op - 49).toNat ⟨#[]⟩), .string ⟨#[100, 115, 111]⟩, .int .i64 2]
  else if op = 12 then .tuple #[.string ⟨#[110, 101, 103]⟩, .string ⟨#[100]⟩, .int .i64 1]
  else if op = 32 then .tuple #[.string ⟨#[106, 97]⟩, .string ⟨#[111]⟩, .int .i64 2]
  else if op = 64 then .tuple #[.string ⟨#[108, 100, 115, 116]⟩, .string ⟨#[100, 111]⟩, .int .i64 3]
  else if op = 65 then .tuple #[.string ⟨#[115, 116, 115, 116]⟩, .string ⟨#[111, 115]⟩, .int .i64 3]
  else if op = 66 then .tuple #[.string ⟨#[108, 100, 118]⟩, .string ⟨#[100, 115, 111]⟩, .int .i64 3]
  else if op = 67 then .tuple #[.string ⟨#[115, 116, 118]⟩, .string ⟨#[100, 111, 115]⟩, .int .i64 3]
  else if op = 72 then .tuple #[.string ⟨#[99, 97, 108, 108]⟩, .string ⟨#[105]⟩, .int .i64 4]
  else if op = 73 then .tuple #[.string ⟨#[101, 120, 105, 116]⟩, .string ⟨#[]⟩, .int .i64 4]
  else .tuple #[.string ⟨#[]⟩, .string ⟨#[]⟩, .int .i64 0]
set_option maxHeartbeats 1000000 in
theorem kind_pure (op : Int) : Pure Tryd.prog Tab 41 [.int .i64 op] (kindR op) := by
  intro w0 H hT
  refine L_enter Tryd.func41 rfl Tryd.ntmps41 rfl rfl ?_
  refine W_sr ?_
  refine W_assign rfl rfl ?_
  refine W_assign rfl rfl ?_
  refine W_assign rfl rfl ?_
  refine W_nil ?_
  refine W_sr ?_
  refine W_buildSlice (l := sumsR.map Value.string) ty77 ty9 (.cons rfl rfl rfl rfl rfl (.cons rfl rfl rfl rfl rfl (.cons rfl rfl rfl rfl rfl (.cons rfl rfl rfl rfl rfl (.cons rfl rfl rfl rfl rfl (.cons rfl rfl rfl rfl rfl (.cons rfl rfl rfl rfl rfl (.cons rfl rfl rfl rfl rfl (.cons rfl rfl rfl rfl rfl (.cons rfl rfl rfl rfl rfl (.cons rfl rfl rfl rfl rfl (.cons rfl rfl rfl rfl rfl .nil)))))))))))) rfl rfl rfl rfl rfl rfl rfl (fun b7 => ?_)
  refine W_assign rfl rfl ?_
  refine W_nil ?_
  refine W_sr ?_
  refine W_buildSlice (l := jumpsR.map Value.string) ty77 ty9 (.cons rfl rfl rfl rfl rfl (.cons rfl rfl rfl rfl rfl (.cons rfl rfl rfl rfl rfl (.cons rfl rfl rfl rfl rfl (.cons rfl rfl rfl rfl rfl (.cons rfl rfl rfl rfl rfl (.cons rfl rfl rfl rfl rfl (.cons rfl rfl rfl rfl rfl (.cons rfl rfl rfl rfl rfl .nil))))))))) rfl rfl rfl rfl rfl rfl rfl (fun b8 => ?_)
  refine W_assign rfl rfl ?_
  refine W_nil ?_
  refine W_seq ?_
  refine W_sr ?_
  refine W_move rfl rfl ?_
  refine W_bin rfl rfl b_geq rfl ?_
  refine W_move rfl rfl ?_
  apply W_and
  iterate 4 exact rfl
  case h1 =>
    intro hg2
    refine W_gyes rfl rfl ?_
    refine W_move rfl rfl ?_
    refine W_gyes rfl rfl ?_
    refine W_bin rfl rfl b_lss rfl ?_
    exact W_met rfl (by repeat (first | exact .refl | refine .cons rfl ?_))
  refine W_nil ?_
  refine W_condS rfl (fun c0 => ?_) (fun c0 => ?_)
  · simp only [cond_true, cond_false, Bool.and_eq_true, Bool.or_eq_true, Bool.and_eq_false_iff, Bool.or_eq_false_iff, decide_eq_true_eq, decide_eq_false_iff_not, Bool.not_eq_true', Bool.not_eq_false', ne_eq, Decidable.not_not] at c0
    refine W_sr ?_
    refine W_move rfl rfl ?_
    refine W_move rfl rfl ?_
    refine W_indexAddrZ rfl rfl ty77 ty9 (by omega) (by omega) rfl rfl ?_
    refine W_load rfl ty9 rfl (Cell.own (by repeat (first | exact List.mem_cons_self | apply List.mem_cons_of_mem | apply List.mem_append_right)) (by rw [Nat.zero_add, Nat.mul_one]; exact getD_str (by show _ < 12; omega))) rfl ?_
    refine W_assign rfl rfl ?_
    refine W_assign rfl rfl ?_
    refine W_assign rfl rfl ?_
    refine W_nil ?_
    refine W_ret3m (H2 := H) Tryd.results41 rfl rfl rfl (.nil _) (by repeat (first | exact HSub.refl _ | refine HSub.cons (by repeat (first | exact Take.here _ | apply Take.next | apply Take.app)) ?_ | refine HSub.app (by repeat (first | exact TakeS.here _ | apply TakeS.next | apply TakeS.app)) ?_ | refine HSub.drop ?_ | refine HSub.dropS ?_ | exact HSub.nil _)) ?_
    exact ⟨by unfold kindR; repeat (first | rw [if_pos (by omega)] | rw [if_neg (by omega)]), rfl⟩
  · simp only [cond_true, cond_false, Bool.and_eq_true, Bool.or_eq_true, Bool.and_eq_false_iff, Bool.or_eq_false_iff, decide_eq_true_eq, decide_eq_false_iff_not, Bool.not_eq_true', Bool.not_eq_false', ne_eq, Decidable.not_not] at c0
    refine W_skip ?_
    refine W_seq ?_
    refine W_sr ?_
    refine W_move rfl rfl ?_
    refine W_bin rfl rfl b_geq rfl ?_
    refine W_move rfl rfl ?_
    apply W_and
    iterate 4 exact rfl
    case h1 =>
      intro hg2
      refine W_gyes rfl rfl ?_
      refine W_move rfl rfl ?_
      refine W_gyes rfl rfl ?_
      refine W_bin rfl rfl b_lss rfl ?_
      exact W_met rfl (by repeat (first | exact .refl | refine .cons rfl ?_))
    refine W_nil ?_
    refine W_condS rfl (fun c1 => ?_) (fun c1 => ?_)
    · simp only [cond_true, cond_false, Bool.and_eq_true, Bool.or_eq_true, Bool.and_eq_false_iff, Bool.or_eq_false_iff, decide_eq_true_eq, decide_eq_false_iff_not, Bool.not_eq_true', Bool.not_eq_false', ne_eq, Decidable.not_not] at c1
      refine W_sr ?_
      refine W_move rfl rfl ?_
      refine W_move rfl rfl ?_
      refine W_bin rfl rfl (b_sub (i64w (by omega))) rfl ?_
      refine W_indexAddrZ rfl rfl ty77 ty9 (by omega) (by omega) rfl rfl ?_
      refine W_load rfl ty9 rfl (Cell.own (by repeat (first | exact List.mem_cons_self | apply List.mem_cons_of_mem | apply List.mem_append_right)) (by rw [Nat.zero_add, Nat.mul_one]; exact getD_str (by show _ < 12; omega))) rfl ?_
      refine W_assign rfl rfl ?_
      refine W_assign rfl rfl ?_
      refine W_assign rfl rfl ?_
      refine W_nil ?_
      refine W_ret3m (H2 := H) Tryd.results41 rfl rfl rfl (.nil _) (by repeat (first | exact HSub.refl _ | refine HSub.cons (by repeat (first | exact Take.here _ | apply Take.next | apply Take.app)) ?_ | refine HSub.app (by repeat (first | exact TakeS.here _ | apply TakeS.next | apply TakeS.app)) ?_ | refine HSub.drop ?_ | refine HSub.dropS ?_ | exact HSub.nil _)) ?_
      exact ⟨by unfold kindR; repeat (first | rw [if_pos (by omega)] | rw [if_neg (by omega)]), rfl⟩
    · simp only [cond_true, cond_false, Bool.and_eq_true, Bool.or_eq_true, Bool.and_eq_false_iff, Bool.or_eq_false_iff, decide_eq_true_eq, decide_eq_false_iff_not, Bool.not_eq_true', Bool.not_eq_false', ne_eq, Decidable.not_not] at c1
      refine W_skip ?_
      refine W_seq ?_
      refine W_sr ?_
      refine W_move rfl rfl ?_
      refine W_bin rfl rfl b_geq rfl ?_
      refine W_move rfl rfl ?_
      apply W_and
      iterate 4 exact rfl
      case h1 =>
        intro hg2
        refine W_gyes rfl rfl ?_
        refine W_move rfl rfl ?_
        refine W_gyes rfl rfl ?_
        refine W_bin rfl rfl b_lss rfl ?_
        exact W_met rfl (by repeat (first | exact .refl | refine .cons rfl ?_))
      refine W_nil ?_
      refine W_condS rfl (fun c2 => ?_) (fun c2 => ?_)
      · simp only [cond_true, cond_false, Bool.and_eq_true, Bool.or_eq_true, Bool.and_eq_false_iff, Bool.or_eq_false_iff, decide_eq_true_eq, decide_eq_false_iff_not, Bool.not_eq_true', Bool.not_eq_false', ne_eq, Decidable.not_not] at c2
        refine W_sr ?_
        refine W_move rfl rfl ?_
        refine W_move rfl rfl ?_
        refine W_bin rfl rfl (b_sub (i64w (by omega))) rfl ?_
        refine W_indexAddrZ rfl rfl ty77 ty9 (by omega) (by omega) rfl rfl ?_
        refine W_load rfl ty9 rfl (Cell.own (by repeat (first | exact List.mem_cons_self | apply List.mem_cons_of_mem | apply List.mem_append_right)) (by rw [Nat.zero_add, Nat.mul_one]; exact getD_str (by show _ < 9; omega))) rfl ?_
        refine W_assign rfl rfl ?_
        refine W_assign rfl rfl ?_
        refine W_assign rfl rfl ?_
        refine W_nil ?_
        refine W_ret3m (H2 := H) Tryd.results41 rfl rfl rfl (.nil _) (by repeat (first | exact HSub.refl _ | refine HSub.cons (by repeat (first | exact Take.here _ | apply Take.next | apply Take.app)) ?_ | refine HSub.app (by repeat (first | exact TakeS.here _ | apply TakeS.next | apply TakeS.app)) ?_ | refine HSub.drop ?_ | refine HSub.dropS ?_ | exact HSub.nil _)) ?_
        exact ⟨by unfold kindR; repeat (first | rw [if_pos (by omega)] | rw [if_neg (by omega)]), rfl⟩
      · simp only [cond_true, cond_false, Bool.and_eq_true, Bool.or_eq_true, Bool.and_eq_false_iff, Bool.or_eq_false_iff, decide_eq_true_eq, decide_eq_false_iff_not, Bool.not_eq_true', Bool.not_eq_false', ne_eq, Decidable.not_not] at c2
        refine W_skip ?_
        refine W_seq ?_
        refine W_sr ?_
        refine W_move rfl rfl ?_
        refine W_bin rfl rfl b_geq rfl ?_
        refine W_move rfl rfl ?_
        apply W_and
        iterate 4 exact rfl
        case h1 =>
          intro hg2
          refine W_gyes rfl rfl ?_
          refine W_move rfl rfl ?_
          refine W_gyes rfl rfl ?_
          refine W_bin rfl rfl b_lss rfl ?_
          exact W_met rfl (by repeat (first | exact .refl | refine .cons rfl ?_))
        refine W_nil ?_
        refine W_condS rfl (fun c3 => ?_) (fun c3 => ?_)
        · simp only [cond_true, cond_false, Bool.and_eq_true, Bool.or_eq_true, Bool.and_eq_false_iff, Bool.or_eq_false_iff, decide_eq_true_eq, decide_eq_false_iff_not, Bool.not_eq_true', Bool.not_eq_false', ne_eq, Decidable.not_not] at c3
          refine W_sr ?_
          refine W_move rfl rfl ?_
          refine W_move rfl rfl ?_
          refine W_bin rfl rfl (b_sub (i64w (by omega))) rfl ?_
          refine W_indexAddrZ rfl rfl ty77 ty9 (by omega) (by omega) rfl rfl ?_
          refine W_load rfl ty9 rfl (Cell.own (by repeat (first | exact List.mem_cons_self | apply List.mem_cons_of_mem | apply List.mem_append_right)) (by rw [Nat.zero_add, Nat.mul_one]; exact getD_str (by show _ < 9; omega))) rfl ?_
          refine W_assign rfl rfl ?_
          refine W_assign rfl rfl ?_
          refine W_assign rfl rfl ?_
          refine W_nil ?_
          refine W_ret3m (H2 := H) Tryd.results41 rfl rfl rfl (.nil _) (by repeat (first | exact HSub.refl _ | refine HSub.cons (by repeat (first | exact Take.here _ | apply Take.next | apply Take.app)) ?_ | refine HSub.app (by repeat (first | exact TakeS.here _ | apply TakeS.next | apply TakeS.app)) ?_ | refine HSub.drop ?_ | refine HSub.dropS ?_ | exact HSub.nil _)) ?_
          exact ⟨by unfold kindR; repeat (first | rw [if_pos (by omega)] | rw [if_neg (by omega)]), rfl⟩
        · simp only [cond_true, cond_false, Bool.and_eq_true, Bool.or_eq_true, Bool.and_eq_false_iff, Bool.or_eq_false_iff, decide_eq_true_eq, decide_eq_false_iff_not, Bool.not_eq_true', Bool.not_eq_false', ne_eq, Decidable.not_not] at c3
          refine W_skip ?_
          refine W_seq ?_
          refine W_sr ?_
          refine W_move rfl rfl ?_
          refine W_nil ?_
          refine W_block ?_
          refine W_sr ?_
          refine W_bin rfl rfl b_eql rfl ?_
          refine W_assign rfl rfl ?_
          refine W_nil ?_
          refine W_condS rfl (fun c4 => ?_) (fun c4 => ?_)
          · simp only [cond_true, cond_false, Bool.and_eq_true, Bool.or_eq_true, Bool.and_eq_false_iff, Bool.or_eq_false_iff, decide_eq_true_eq, decide_eq_false_iff_not, Bool.not_eq_true', Bool.not_eq_false', ne_eq, Decidable.not_not] at c4
            refine W_sr ?_
            refine W_assign rfl rfl ?_
            refine W_assign rfl rfl ?_
            refine W_assign rfl rfl ?_
            refine W_nil ?_
            refine W_ret3m (H2 := H) Tryd.results41 rfl rfl rfl (.nil _) (by repeat (first | exact HSub.refl _ | refine HSub.cons (by repeat (first | exact Take.here _ | apply Take.next | apply Take.app)) ?_ | refine HSub.app (by repeat (first | exact TakeS.here _ | apply TakeS.next | apply TakeS.app)) ?_ | refine HSub.drop ?_ | refine HSub.dropS ?_ | exact HSub.nil _)) ?_
            exact ⟨by unfold kindR; repeat (first | rw [if_pos (by omega)] | rw [if_neg (by omega)]), rfl⟩
          · simp only [cond_true, cond_false, Bool.and_eq_true, Bool.or_eq_true, Bool.and_eq_false_iff, Bool.or_eq_false_iff, decide_eq_true_eq, decide_eq_false_iff_not, Bool.not_eq_true', Bool.not_eq_false', ne_eq, Decidable.not_not] at c4
            refine W_sr ?_
            refine W_bin rfl rfl b_eql rfl ?_
            refine W_assign rfl rfl ?_
            refine W_nil ?_
            refine W_condS rfl (fun c5 => ?_) (fun c5 => ?_)
            · simp only [cond_true, cond_false, Bool.and_eq_true, Bool.or_eq_true, Bool.and_eq_false_iff, Bool.or_eq_false_iff, decide_eq_true_eq, decide_eq_false_iff_not, Bool.not_eq_true', Bool.not_eq_false', ne_eq, Decidable.not_not] at c5
              refine W_sr ?_
              refine W_assign rfl rfl ?_
              refine W_assign rfl rfl ?_
              refine W_assign rfl rfl ?_
              refine W_nil ?_
              refine W_ret3m (H2 := H) Tryd.results41 rfl rfl rfl (.nil _) (by repeat (first | exact HSub.refl _ | refine HSub.cons (by repeat (first | exact Take.here _ | apply Take.next | apply Take.app)) ?_ | refine HSub.app (by repeat (first | exact TakeS.here _ | apply TakeS.next | apply TakeS.app)) ?_ | refine HSub.drop ?_ | refine HSub.dropS ?_ | exact HSub.nil _)) ?_
              exact ⟨by unfold kindR; repeat (first | rw [if_pos (by omega)] | rw [if_neg (by omega)]), rfl⟩
            · simp only [cond_true, cond_false, Bool.and_eq_true, Bool.or_eq_true, Bool.and_eq_false_iff, Bool.or_eq_false_iff, decide_eq_true_eq, decide_eq_false_iff_not, Bool.not_eq_true', Bool.not_eq_false', ne_eq, Decidable.not_not] at c5
              refine W_sr ?_
              refine W_bin rfl rfl b_eql rfl ?_
              refine W_assign rfl rfl ?_
              refine W_nil ?_
              refine W_condS rfl (fun c6 => ?_) (fun c6 => ?_)
              · simp only [cond_true, cond_false, Bool.and_eq_true, Bool.or_eq_true, Bool.and_eq_false_iff, Bool.or_eq_false_iff, decide_eq_true_eq, decide_eq_false_iff_not, Bool.not_eq_true', Bool.not_eq_false', ne_eq, Decidable.not_not] at c6
                refine W_sr ?_
                refine W_assign rfl rfl ?_
                refine W_assign rfl rfl ?_
                refine W_assign rfl rfl ?_
                refine W_nil ?_
                refine W_ret3m (H2 := H) Tryd.results41 rfl rfl rfl (.nil _) (by repeat (first | exact HSub.refl _ | refine HSub.cons (by repeat (first | exact Take.here _ | apply Take.next | apply Take.app)) ?_ | refine HSub.app (by repeat (first | exact TakeS.here _ | apply TakeS.next | apply TakeS.app)) ?_ | refine HSub.drop ?_ | refine HSub.dropS ?_ | exact HSub.nil _)) ?_
                exact ⟨by unfold kindR; repeat (first | rw [if_pos (by omega)] | rw [if_neg (by omega)]), rfl⟩
              · simp only [cond_true, cond_false, Bool.and_eq_true, Bool.or_eq_true, Bool.and_eq_false_iff, Bool.or_eq_false_iff, decide_eq_true_eq, decide_eq_false_iff_not, Bool.not_eq_true', Bool.not_eq_false', ne_eq, Decidable.not_not] at c6
                refine W_sr ?_
                refine W_bin rfl rfl b_eql rfl ?_
                refine W_assign rfl rfl ?_
                refine W_nil ?_
                refine W_condS rfl (fun c7 => ?_) (fun c7 => ?_)
                · simp only [cond_true, cond_false, Bool.and_eq_true, Bool.or_eq_true, Bool.and_eq_false_iff, Bool.or_eq_false_iff, decide_eq_true_eq, decide_eq_false_iff_not, Bool.not_eq_true', Bool.not_eq_false', ne_eq, Decidable.not_not] at c7
                  refine W_sr ?_
                  refine W_assign rfl rfl ?_
                  refine W_assign rfl rfl ?_
                  refine W_assign rfl rfl ?_
                  refine W_nil ?_
                  refine W_ret3m (H2 := H) Tryd.results41 rfl rfl rfl (.nil _) (by repeat (first | exact HSub.refl _ | refine HSub.cons (by repeat (first | exact Take.here _ | apply Take.next | apply Take.app)) ?_ | refine HSub.app (by repeat (first | exact TakeS.here _ | apply TakeS.next | apply TakeS.app)) ?_ | refine HSub.drop ?_ | refine HSub.dropS ?_ | exact HSub.nil _)) ?_
                  exact ⟨by unfold kindR; repeat (first | rw [if_pos (by omega)] | rw [if_neg (by omega)]), rfl⟩
                · simp only [cond_true, cond_false, Bool.and_eq_true, Bool.or_eq_true, Bool.and_eq_false_iff, Bool.or_eq_false_iff, decide_eq_true_eq, decide_eq_false_iff_not, Bool.not_eq_true', Bool.not_eq_false', ne_eq, Decidable.not_not] at c7
                  refine W_sr ?_
                  refine W_bin rfl rfl b_eql rfl ?_
                  refine W_assign rfl rfl ?_
                  refine W_nil ?_
                  refine W_condS rfl (fun c8 => ?_) (fun c8 => ?_)
                  · simp only [cond_true, cond_false, Bool.and_eq_true, Bool.or_eq_true, Bool.and_eq_false_iff, Bool.or_eq_false_iff, decide_eq_true_eq, decide_eq_false_iff_not, Bool.not_eq_true', Bool.not_eq_false', ne_eq, Decidable.not_not] at c8
                    refine W_sr ?_
                    refine W_assign rfl rfl ?_
                    refine W_assign rfl rfl ?_
                    refine W_assign rfl rfl ?_
                    refine W_nil ?_
                    refine W_ret3m (H2 := H) Tryd.results41 rfl rfl rfl (.nil _) (by repeat (first | exact HSub.refl _ | refine HSub.cons (by repeat (first | exact Take.here _ | apply Take.next | apply Take.app)) ?_ | refine HSub.app (by repeat (first | exact TakeS.here _ | apply TakeS.next | apply TakeS.app)) ?_ | refine HSub.drop ?_ | refine HSub.dropS ?_ | exact HSub.nil _)) ?_
                    exact ⟨by unfold kindR; repeat (first | rw [if_pos (by omega)] | rw [if_neg (by omega)]), rfl⟩
                  · simp only [cond_true, cond_false, Bool.and_eq_true, Bool.or_eq_true, Bool.and_eq_false_iff, Bool.or_eq_false_iff, decide_eq_true_eq, decide_eq_false_iff_not, Bool.not_eq_true', Bool.not_eq_false', ne_eq, Decidable.not_not] at c8
                    refine W_sr ?_
                    refine W_bin rfl rfl b_eql rfl ?_
                    refine W_assign rfl rfl ?_
                    refine W_nil ?_
                    refine W_condS rfl (fun c9 => ?_) (fun c9 => ?_)
                    · simp only [cond_true, cond_false, Bool.and_eq_true, Bool.or_eq_true, Bool.and_eq_false_iff, Bool.or_eq_false_iff, decide_eq_true_eq, decide_eq_false_iff_not, Bool.not_eq_true', Bool.not_eq_false', ne_eq, Decidable.not_not] at c9
                      refine W_sr ?_
                      refine W_assign rfl rfl ?_
                      refine W_assign rfl rfl ?_
                      refine W_assign rfl rfl ?_
                      refine W_nil ?_
                      refine W_ret3m (H2 := H) Tryd.results41 rfl rfl rfl (.nil _) (by repeat (first | exact HSub.refl _ | refine HSub.cons (by repeat (first | exact Take.here _ | apply Take.next | apply Take.app)) ?_ | refine HSub.app (by repeat (first | exact TakeS.here _ | apply TakeS.next | apply TakeS.app)) ?_ | refine HSub.drop ?_ | refine HSub.dropS ?_ | exact HSub.nil _)) ?_
                      exact ⟨by unfold kindR; repeat (first | rw [if_pos (by omega)] | rw [if_neg (by omega)]), rfl⟩
                    · simp only [cond_true, cond_false, Bool.and_eq_true, Bool.or_eq_true, Bool.and_eq_false_iff, Bool.or_eq_false_iff, decide_eq_true_eq, decide_eq_false_iff_not, Bool.not_eq_true', Bool.not_eq_false', ne_eq, Decidable.not_not] at c9
                      refine W_sr ?_
                      refine W_bin rfl rfl b_eql rfl ?_
                      refine W_assign rfl rfl ?_
                      refine W_nil ?_
                      refine W_condS rfl (fun c10 => ?_) (fun c10 => ?_)
                      · simp only [cond_true, cond_false, Bool.and_eq_true, Bool.or_eq_true, Bool.and_eq_false_iff, Bool.or_eq_false_iff, decide_eq_true_eq, decide_eq_false_iff_not, Bool.not_eq_true', Bool.not_eq_false', ne_eq, Decidable.not_not] at c10
                        refine W_sr ?_
                        refine W_assign rfl rfl ?_
                        refine W_assign rfl rfl ?_
                        refine W_assign rfl rfl ?_
                        refine W_nil ?_
                        refine W_ret3m (H2 := H) Tryd.results41 rfl rfl rfl (.nil _) (by repeat (first | exact HSub.refl _ | refine HSub.cons (by repeat (first | exact Take.here _ | apply Take.next | apply Take.app)) ?_ | refine HSub.app (by repeat (first | exact TakeS.here _ | apply TakeS.next | apply TakeS.app)) ?_ | refine HSub.drop ?_ | refine HSub.dropS ?_ | exact HSub.nil _)) ?_
                        exact ⟨by unfold kindR; repeat (first | rw [if_pos (by omega)] | rw [if_neg (by omega)]), rfl⟩
                      · simp only [cond_true, cond_false, Bool.and_eq_true, Bool.or_eq_true, Bool.and_eq_false_iff, Bool.or_eq_false_iff, decide_eq_true_eq, decide_eq_false_iff_not, Bool.not_eq_true', Bool.not_eq_false', ne_eq, Decidable.not_not] at c10
                        refine W_sr ?_
                        refine W_bin rfl rfl b_eql rfl ?_
                        refine W_assign rfl rfl ?_
                        refine W_nil ?_
                        refine W_condS rfl (fun c11 => ?_) (fun c11 => ?_)
                        · simp only [cond_true, cond_false, Bool.and_eq_true, Bool.or_eq_true, Bool.and_eq_false_iff, Bool.or_eq_false_iff, decide_eq_true_eq, decide_eq_false_iff_not, Bool.not_eq_true', Bool.not_eq_false', ne_eq, Decidable.not_not] at c11
                          refine W_sr ?_
                          refine W_assign rfl rfl ?_
                          refine W_assign rfl rfl ?_
                          refine W_assign rfl rfl ?_
                          refine W_nil ?_
                          refine W_ret3m (H2 := H) Tryd.results41 rfl rfl rfl (.nil _) (by repeat (first | exact HSub.refl _ | refine HSub.cons (by repeat (first | exact Take.here _ | apply Take.next | apply Take.app)) ?_ | refine HSub.app (by repeat (first | exact TakeS.here _ | apply TakeS.next | apply TakeS.app)) ?_ | refine HSub.drop ?_ | refine HSub.dropS ?_ | exact HSub.nil _)) ?_
                          exact ⟨by unfold kindR; repeat (first | rw [if_pos (by omega)] | rw [if_neg (by omega)]), rfl⟩
                        · simp only [cond_true, cond_false, Bool.and_eq_true, Bool.or_eq_true, Bool.and_eq_false_iff, Bool.or_eq_false_iff, decide_eq_true_eq, decide_eq_false_iff_not, Bool.not_eq_true', Bool.not_eq_false', ne_eq, Decidable.not_not] at c11
                          refine W_skip ?_
                          refine W_blk ?_
                          refine W_sr ?_
                          refine W_assign rfl rfl ?_
                          refine W_assign rfl rfl ?_
                          refine W_assign rfl rfl ?_
                          refine W_nil ?_
                          refine W_ret3m (H2 := H) Tryd.results41 rfl rfl rfl (.nil _) (by repeat (first | exact HSub.refl _ | refine HSub.cons (by repeat (first | exact Take.here _ | apply Take.next | apply Take.app)) ?_ | refine HSub.app (by repeat (first | exact TakeS.here _ | apply TakeS.next | apply TakeS.app)) ?_ | refine HSub.drop ?_ | refine HSub.dropS ?_ | exact HSub.nil _)) ?_
                          exact ⟨by unfold kindR; repeat (first | rw [if_pos (by omega)] | rw [if_neg (by omega)]), rfl⟩
set_option maxHeartbeats 1000000 in
theorem high_pure (a : Int) : Pure Tryd.prog Tab 43 [U a] (.bool (decide (9223372036854775808 ≤ a))) := by
  intro w0 H hT
  unfold U
  refine L_enter Tryd.func43 rfl Tryd.ntmps43 rfl rfl ?_
  refine W_sr ?_
  refine W_assign rfl rfl ?_
  refine W_nil ?_
  refine W_sr ?_
  refine W_move rfl rfl ?_
  refine W_bin rfl rfl b_geq rfl ?_
  refine W_assign rfl rfl ?_
  refine W_nil ?_
  refine W_ret1m Tryd.results43 rfl (.nil _) (.refl _) ?_
  exact ⟨rfl, rfl⟩

def lessS (a b : Int) : Bool := if (decide (9223372036854775808 ≤ a) == decide (9223372036854775808 ≤ b)) = true then decide (a < b) else decide (9223372036854775808 ≤ a)
set_option maxHeartbeats 1000000 in
theorem less_pure (a b : Int) : Pure Tryd.prog Tab 44 [U a, U b] (.bool (lessS a b)) := by
  intro w0 H hT
  unfold U
  refine L_enter Tryd.func44 rfl Tryd.ntmps44 rfl rfl ?_
  refine W_sr ?_
  refine W_assign rfl rfl ?_
  refine W_nil ?_
  refine W_seq ?_
  refine W_sr ?_
  refine W_move rfl rfl ?_
  refine W_callp (.cons rfl .nil) Tryd.call43 rfl hT (high_pure _) ?_
  refine W_move rfl rfl ?_
  refine W_callp (.cons rfl .nil) Tryd.call43 rfl hT (high_pure _) ?_
  refine W_bne rfl rfl ty4 rfl ?_
  refine W_nil ?_
  refine W_condS rfl (fun c0 => ?_) (fun c0 => ?_)
  · skip
    refine W_sr ?_
    refine W_move rfl rfl ?_
    refine W_callp (.cons rfl .nil) Tryd.call43 rfl hT (high_pure _) ?_
    refine W_assign rfl rfl ?_
    refine W_nil ?_
    refine W_ret1m Tryd.results44 rfl (.nil _) (.refl _) ?_
    exact ⟨by unfold lessS; rw [if_neg (by simpa using c0)], rfl⟩
  · skip
    refine W_skip ?_
    refine W_sr ?_
    refine W_move rfl rfl ?_
    refine W_move rfl rfl ?_
    refine W_bin rfl rfl b_lss rfl ?_
    refine W_assign rfl rfl ?_
    refine W_nil ?_
    refine W_ret1m Tryd.results44 rfl (.nil _) (.refl _) ?_
    exact ⟨by unfold lessS; rw [if_pos (by simpa using c0)], rfl⟩

/-- whether a place of the two words counts -/
def bitS (how : Int) (x y : Bool) : Bool := (decide (how = 0) && x && y || (decide (how = 1) && (x || y))) || (decide (how = 2) && !(x == y))
def bitsN (how : Int) : Nat → Int → Int → Int
  | 0, _, _ => 0
  | m + 1, a, b => (if bitS how (decide (a % 2 = 1)) (decide (b % 2 = 1)) = true then 1 else 0) + 2 * bitsN how m (a / 2) (b / 2)
theorem bitsN_bd (how : Int) : ∀ (m : Nat) (a b : Int), 0 ≤ bitsN how m a b ∧ bitsN how m a b < 2 ^ m
  | 0, _, _ => by simp [bitsN]
  | m + 1, a, b => by
    have := bitsN_bd how m (a / 2) (b / 2)
    simp only [bitsN, Int.pow_succ]
    split <;> omega
theorem u64w {m : Int} (h : 0 ≤ m ∧ m ≤ 18446744073709551615) : IntKind.u64.wrap m = m := IntWalk.u64_in m h
theorem u64q {m : Int} (h : 0 ≤ m ∧ m ≤ 18446744073709551615) : IntKind.u64.wrap (m.tdiv 2) = m / 2 := IntWalk.u64_quo m 2 ⟨h.1, h.2, by omega⟩

def bitsI (how a b : Int) (a0 b0 : Int) (i : Nat) (o g : Int) : Prop :=
  i ≤ 64 ∧ 0 ≤ a ∧ a ≤ 18446744073709551615 ∧ 0 ≤ b ∧ b ≤ 18446744073709551615 ∧ 0 ≤ o ∧ o < (2 : Int) ^ i ∧ (i < 64 → g = (2 : Int) ^ i) ∧ o + (2 : Int) ^ i * bitsN how (64 - i) a b = bitsN how 64 a0 b0
theorem pow_le_64 {i : Nat} (h : i < 64) : (2 : Int) ^ i ≤ 9223372036854775808 := by
  have : (2 : Nat) ^ i ≤ 2 ^ 63 := Nat.pow_le_pow_right (by omega) (by omega)
  have h2 : ((2 ^ i : Nat) : Int) ≤ ((2 ^ 63 : Nat) : Int) := by exact_mod_cast this
  simpa using h2
theorem bits_step {how a b a0 b0 : Int} {i : Nat} {o o' g : Int} (h : bitsI how a b a0 b0 i o g) (hi : i < 64)
    (ho : o' = if bitS how (decide (a % 2 = 1)) (decide (b % 2 = 1)) = true then o + g else o) : bitsI how (a / 2) (b / 2) a0 b0 (i + 1) o' (IntKind.u64.wrap (g * 2)) := by
  obtain ⟨h1, h2, h3, h4, h5, h6, h7, h8, h9⟩ := h
  have hg := h8 hi
  have hp := pow_le_64 hi
  have hsucc : (2 : Int) ^ (i + 1) = 2 ^ i * 2 := Int.pow_succ 2 i
  refine ⟨by omega, by omega, by omega, by omega, by omega, ?_, ?_, ?_, ?_⟩
  · rw [ho]; split <;> omega
  · rw [ho, hsucc]; split <;> omega
  · intro hi2
    have hp2 := pow_le_64 hi2
    rw [hg, u64w (by omega), hsucc]
  · rw [← h9, show 64 - i = (64 - (i + 1)) + 1 by omega, ho, hsucc, hg]
    simp only [bitsN]
    rw [Int.mul_add]
    split
    · rw [Int.mul_one, ← Int.mul_assoc]; omega
    · rw [Int.mul_zero, ← Int.mul_assoc]; omega
set_option maxHeartbeats 1000000 in
theorem bits_pure (a b how : Int) (ha0 : 0 ≤ a) (ha1 : a ≤ 18446744073709551615) (hb0 : 0 ≤ b) (hb1 : b ≤ 18446744073709551615) : Pure Tryd.prog Tab 42 [U a, U b, .int .i64 how] (U (bitsN how 64 a b)) := by
  intro w0 H hT
  unfold U
  refine L_enter Tryd.func42 rfl Tryd.ntmps42 rfl rfl ?_
  refine W_sr ?_
  refine W_assign rfl rfl ?_
  refine W_nil ?_
  refine W_sr ?_
  refine W_assign rfl rfl ?_
  refine W_assign rfl rfl ?_
  refine W_nil ?_
  refine W_seq ?_
  refine W_sr ?_
  refine W_assign rfl rfl ?_
  refine W_nil ?_
  refine W_block ?_
  refine W_loop (X := Nat × Int × Int × Int × Int) (fun | (i, a, b, o, g) => [(0, U a), (1, U b), (2, .int .i64 how), (7, U o), (8, U g), (9, .int .i64 (i : Int))]) (fun _ => H)
    (fun | (i, a', b', o, g) => bitsI how a' b' a b i o g) (fun | (i, _) => 64 - i) (0, a, b, 0, 1) ⟨by omega, ha0, ha1, hb0, hb1, by omega, by decide, fun _ => rfl, by simp⟩ (sub_cons rfl (sub_cons rfl (sub_cons rfl (sub_cons rfl (sub_cons rfl (sub_cons rfl (sub_nil _))))))) rfl ?_
  rintro ⟨i, a', b', o, g⟩ hI
  simp only at hI
  obtain ⟨hi, ha0, ha1, hb0, hb1, ho0, ho1, hg, hs⟩ := id hI
  unfold U
  refine W_seq ?_
  refine W_sr ?_
  refine W_move rfl rfl ?_
  refine W_bin rfl rfl b_lss rfl ?_
  refine W_nil ?_
  refine W_condS rfl (fun c0 => ?_) (fun c0 => ?_)
  · simp only [cond_true, cond_false, Bool.and_eq_true, Bool.or_eq_true, Bool.and_eq_false_iff, Bool.or_eq_false_iff, decide_eq_true_eq, decide_eq_false_iff_not, Bool.not_eq_true', Bool.not_eq_false', ne_eq, Decidable.not_not] at c0
    refine W_skip ?_
    refine W_seq ?_
    refine W_block ?_
    refine W_sr ?_
    refine W_move rfl rfl ?_
    have hlt : i < 64 := by omega
    have hg2 := hg hlt
    have hp := pow_le_64 hlt
    refine W_bin rfl rfl (b_rem (by decide) (Int.tmod_eq_emod_of_nonneg (by omega))) rfl ?_
    refine W_bin rfl rfl b_eql rfl ?_
    refine W_move rfl rfl ?_
    refine W_bin rfl rfl (b_rem (by decide) (Int.tmod_eq_emod_of_nonneg (by omega))) rfl ?_
    refine W_bin rfl rfl b_eql rfl ?_
    refine W_assign rfl rfl ?_
    refine W_assign rfl rfl ?_
    refine W_nil ?_
    refine W_seq ?_
    refine W_sr ?_
    refine W_move rfl rfl ?_
    refine W_bin rfl rfl b_eql rfl ?_
    refine W_move rfl rfl ?_
    apply W_and
    iterate 4 exact rfl
    case h1 =>
      intro hg2
      refine W_gyes rfl rfl ?_
      refine W_move rfl rfl ?_
      exact W_met rfl (by repeat (first | exact .refl | refine .cons rfl ?_))
    refine W_move rfl rfl ?_
    apply W_and
    iterate 4 exact rfl
    case h1 =>
      intro hg5
      refine W_gyes rfl rfl ?_
      refine W_move rfl rfl ?_
      exact W_met rfl (by repeat (first | exact .refl | refine .cons rfl ?_))
    refine W_move rfl rfl ?_
    apply W_or
    iterate 4 exact rfl
    case h1 =>
      intro hg8
      refine W_gyes rfl rfl ?_
      refine W_move rfl rfl ?_
      refine W_gyes rfl rfl ?_
      refine W_bin rfl rfl b_eql rfl ?_
      refine W_gyes rfl rfl ?_
      refine W_move rfl rfl ?_
      apply W_and
      iterate 4 exact rfl
      case h1 =>
        intro hg11
        refine W_gyes rfl rfl ?_
        refine W_move rfl rfl ?_
        refine W_gyes rfl rfl ?_
        refine W_move rfl rfl ?_
        apply W_or
        iterate 4 exact rfl
        case h1 =>
          intro hg13
          refine W_gyes rfl rfl ?_
          refine W_move rfl rfl ?_
          exact W_met rfl (by repeat (first | exact .refl | refine .cons rfl ?_))
        exact W_met rfl (by repeat (first | exact .refl | refine .cons rfl ?_))
      exact W_met rfl (by repeat (first | exact .refl | refine .cons rfl ?_))
    refine W_move rfl rfl ?_
    apply W_or
    iterate 4 exact rfl
    case h1 =>
      intro hg18
      refine W_gyes rfl rfl ?_
      refine W_move rfl rfl ?_
      refine W_gyes rfl rfl ?_
      refine W_bin rfl rfl b_eql rfl ?_
      refine W_gyes rfl rfl ?_
      refine W_move rfl rfl ?_
      apply W_and
      iterate 4 exact rfl
      case h1 =>
        intro hg21
        refine W_gyes rfl rfl ?_
        refine W_move rfl rfl ?_
        refine W_gyes rfl rfl ?_
        refine W_move rfl rfl ?_
        refine W_gyes rfl rfl ?_
        refine W_bne rfl rfl ty4 rfl ?_
        exact W_met rfl (by repeat (first | exact .refl | refine .cons rfl ?_))
      exact W_met rfl (by repeat (first | exact .refl | refine .cons rfl ?_))
    refine W_nil ?_
    refine W_condS rfl (fun c1 => ?_) (fun c1 => ?_)
    · skip
      refine W_region ?_
      refine W_move rfl rfl ?_
      refine W_move rfl rfl ?_
      refine W_bin rfl rfl (b_add (u64w (by omega))) rfl ?_
      refine W_assign rfl rfl ?_
      refine W_nil ?_
      refine W_region ?_
      refine W_move rfl rfl ?_
      refine W_bin rfl rfl (b_quo (by decide) (u64q (by omega))) rfl ?_
      refine W_move rfl rfl ?_
      refine W_bin rfl rfl (b_quo (by decide) (u64q (by omega))) rfl ?_
      refine W_move rfl rfl ?_
      refine W_bin rfl rfl (b_mul rfl) rfl ?_
      refine W_assign rfl rfl ?_
      refine W_assign rfl rfl ?_
      refine W_assign rfl rfl ?_
      refine W_nil ?_
      refine W_blk ?_
      refine W_region ?_
      refine W_move rfl rfl ?_
      refine W_bin rfl rfl (b_add (i64w (by omega))) rfl ?_
      refine W_assign rfl rfl ?_
      refine W_nil ?_
      exact W_goal fun _ w' ha' hd' hs' => ⟨(i + 1, a' / 2, b' / 2, o + g, _), bits_step hI hlt (by rw [if_pos (show bitS how (decide (a' % 2 = 1)) (decide (b' % 2 = 1)) = true from c1)]), by show 64 - (i + 1) < 64 - i; omega, ha'.weaken (look_of_sub (sub_cons rfl (sub_cons rfl (sub_cons rfl (sub_cons rfl (sub_cons rfl (sub_cons rfl (sub_nil _)))))))), hd', hs'⟩
    · skip
      refine W_skip ?_
      refine W_region ?_
      refine W_move rfl rfl ?_
      refine W_bin rfl rfl (b_quo (by decide) (u64q (by omega))) rfl ?_
      refine W_move rfl rfl ?_
      refine W_bin rfl rfl (b_quo (by decide) (u64q (by omega))) rfl ?_
      refine W_move rfl rfl ?_
      refine W_bin rfl rfl (b_mul rfl) rfl ?_
      refine W_assign rfl rfl ?_
      refine W_assign rfl rfl ?_
      refine W_assign rfl rfl ?_
      refine W_nil ?_
      refine W_blk ?_
      refine W_region ?_
      refine W_move rfl rfl ?_
      refine W_bin rfl rfl (b_add (i64w (by omega))) rfl ?_
      refine W_assign rfl rfl ?_
      refine W_nil ?_
      exact W_goal fun _ w' ha' hd' hs' => ⟨(i + 1, a' / 2, b' / 2, o, _), bits_step hI hlt (by rw [if_neg (by rw [show bitS how (decide (a' % 2 = 1)) (decide (b' % 2 = 1)) = false from c1]; simp)]), by show 64 - (i + 1) < 64 - i; omega, ha'.weaken (look_of_sub (sub_cons rfl (sub_cons rfl (sub_cons rfl (sub_cons rfl (sub_cons rfl (sub_cons rfl (sub_nil _)))))))), hd', hs'⟩
  · simp only [cond_true, cond_false, Bool.and_eq_true, Bool.or_eq_true, Bool.and_eq_false_iff, Bool.or_eq_false_iff, decide_eq_true_eq, decide_eq_false_iff_not, Bool.not_eq_true', Bool.not_eq_false', ne_eq, Decidable.not_not] at c0
    refine W_exit rfl ?_
    refine W_sr ?_
    refine W_move rfl rfl ?_
    refine W_assign rfl rfl ?_
    refine W_nil ?_
    refine W_ret1m Tryd.results42 rfl (.nil _) (.refl _) ?_
    obtain rfl : i = 64 := by omega
    rw [Nat.sub_self, show bitsN how 0 a' b' = 0 from rfl, Int.mul_zero, Int.add_zero] at hs
    exact ⟨by rw [hs], rfl⟩
end Go.Proofs.YtpfoecmianohjaaDoor

/-
  Own work: contracts of functions that the statement reaches, and plain facts on what they compute; each theorem says its conditions.
-/
import Derived.Test.YtkhkagjbeilbgaaDoorA3
set_option linter.all false
set_option linter.unusedSimpArgs false
set_option linter.unusedVariables false
namespace Go.Proofs.YtkhkagjbeilbgaaDoor
open Go Go.Sl
attribute [local irreducible] W

/-- what an operation without its register's mark does -/
def doS (p a b : Int) : Int :=
  if p = 0 then IntKind.u64.wrap (a + b) else if p = 1 then IntKind.u64.wrap (a - b) else if p = 2 then IntKind.u64.wrap (a * b)
  else if p = 3 then (if b = 0 then 0 else IntKind.u64.wrap (a.tdiv b)) else if p = 4 then (if b = 0 then a else a.tmod b)
  else if p = 5 then bitsOf .and .u64 a b else if p = 6 then bitsOf .or .u64 a b else if p = 7 then bitsOf .xor .u64 a b
  else if p = 8 then IntKind.u64.wrap (a * 2 ^ (min (b.tmod 64).toNat 64)) else if p = 9 then a.fdiv (2 ^ (min (b.tmod 64).toNat 64))
  else if p = 10 then IntKind.u64.wrap ((IntKind.i64.wrap a).fdiv (2 ^ (min (b.tmod 64).toNat 64))) else if p = 11 then b else IntKind.u64.wrap (0 - a)
def doR (op a b : Int) : Value := if cls op = 1 then .tuple #[U (doS (plainOf op) a b), .int .i64 0] else .tuple #[U 0, .int .i64 11]
/-- whether a jump without its register's mark goes -/
def jumpS (p a b : Int) : Bool :=
  if p = 33 then decide (a = b) else if p = 34 then decide (a ≠ b) else if p = 35 then decide (b < a) else if p = 36 then decide (b ≤ a) else if p = 37 then decide (a < b)
  else if p = 38 then decide (a ≤ b) else if p = 39 then decide (bitsOf .and .u64 a b ≠ 0) else if p = 40 then decide (IntKind.i64.wrap b < IntKind.i64.wrap a)
  else if p = 41 then decide (IntKind.i64.wrap a < IntKind.i64.wrap b) else true
def jumpR (op a b : Int) : Value := if cls op = 2 then .tuple #[.bool (jumpS (plainOf op) a b), .int .i64 0] else .tuple #[.bool false, .int .i64 11]
set_option maxHeartbeats 1000000 in
theorem do_pure (op a b : Int) (hlo : -9223372036854775808 ≤ op) (hhi : op ≤ 9223372036854775807) (hb0 : 0 ≤ b) : Pure Tryd.prog (Tab) 96 [.int .i64 op, U a, U b] (doR op a b) := by
  intro w0 H hT
  have hby : 0 ≤ b.tmod 64 := Int.tmod_nonneg _ hb0
  unfold U
  refine L_enter Tryd.func96 rfl Tryd.ntmps96 rfl rfl ?_
  refine W_sr ?_
  refine W_box rfl rfl rfl (fun b4 => ?_)
  refine W_box rfl rfl rfl (fun b5 => ?_)
  refine W_assign rfl rfl ?_
  refine W_assign rfl rfl ?_
  refine W_nil ?_
  refine W_seq ?_
  refine W_sr ?_
  refine W_move rfl rfl ?_
  refine W_callp (.cons rfl .nil) Tryd.call66 rfl hT (class_pure _) ?_
  refine W_bin rfl rfl b_neq rfl ?_
  refine W_nil ?_
  refine W_condS rfl (fun c0 => ?_) (fun c0 => ?_)
  · simp only [cond_true, cond_false, Bool.and_eq_true, Bool.or_eq_true, Bool.and_eq_false_iff, Bool.or_eq_false_iff, decide_eq_true_eq, decide_eq_false_iff_not, Bool.not_eq_true', Bool.not_eq_false', ne_eq, Decidable.not_not] at c0
    refine W_sr ?_
    refine W_assign rfl rfl ?_
    refine W_assign rfl rfl ?_
    refine W_nil ?_
    refine W_ret2m (H2 := H) Tryd.results96 rfl rfl (.nil _) (by repeat (first | with_reducible exact HSub.refl _ | refine HSub.cons (by repeat (first | exact Take.here _ | apply Take.next | apply Take.app)) ?_ | refine HSub.app (by repeat (first | with_reducible exact TakeS.here _ | apply TakeS.next | apply TakeS.app)) ?_ | exact HSub.nil _ | exact HSub.refl _ | refine HSub.drop ?_ | refine HSub.dropS ?_)) ?_
    exact ⟨by unfold doR U; rw [if_neg c0], rfl⟩
  · simp only [cond_true, cond_false, Bool.and_eq_true, Bool.or_eq_true, Bool.and_eq_false_iff, Bool.or_eq_false_iff, decide_eq_true_eq, decide_eq_false_iff_not, Bool.not_eq_true', Bool.not_eq_false', ne_eq, Decidable.not_not] at c0
    refine W_skip ?_
    refine W_sr ?_
    refine W_load rfl ty22 rfl (Cell.own (by repeat (first | exact List.mem_cons_self | apply List.mem_cons_of_mem | apply List.mem_append_right)) rfl) rfl ?_
    refine W_bin rfl rfl (b_rem (by decide) rfl) rfl ?_
    refine W_assign rfl rfl ?_
    refine W_nil ?_
    refine W_seq ?_
    refine W_sr ?_
    refine W_move rfl rfl ?_
    refine W_callp (.cons rfl .nil) Tryd.call102 rfl hT (plain_pure _ hlo hhi) ?_
    refine W_nil ?_
    refine W_block ?_
    refine W_sr ?_
    refine W_bin rfl rfl b_eql rfl ?_
    refine W_assign rfl rfl ?_
    refine W_nil ?_
    refine W_condS rfl (fun c1 => ?_) (fun c1 => ?_)
    · simp only [cond_true, cond_false, Bool.and_eq_true, Bool.or_eq_true, Bool.and_eq_false_iff, Bool.or_eq_false_iff, decide_eq_true_eq, decide_eq_false_iff_not, Bool.not_eq_true', Bool.not_eq_false', ne_eq, Decidable.not_not] at c1
      refine W_region ?_
      refine W_load rfl ty22 rfl (Cell.own (by repeat (first | exact List.mem_cons_self | apply List.mem_cons_of_mem | apply List.mem_append_right)) rfl) rfl ?_
      refine W_load rfl ty22 rfl (Cell.own (by repeat (first | exact List.mem_cons_self | apply List.mem_cons_of_mem | apply List.mem_append_right)) rfl) rfl ?_
      refine W_bin rfl rfl (b_add rfl) rfl ?_
      refine W_store rfl rfl ty22 rfl rfl (by repeat (first | exact List.mem_cons_self | apply List.mem_cons_of_mem | apply List.mem_append_right)) rfl rfl (by repeat (first | exact Upd.head _ | apply Upd.tail | apply Upd.app)) ?_
      refine W_nil ?_
      refine W_blk ?_
      refine W_sr ?_
      refine W_load rfl ty22 rfl (Cell.own (by repeat (first | exact List.mem_cons_self | apply List.mem_cons_of_mem | apply List.mem_append_right)) rfl) rfl ?_
      refine W_assign rfl rfl ?_
      refine W_assign rfl rfl ?_
      refine W_nil ?_
      refine W_ret2m (H2 := H) Tryd.results96 rfl rfl (.nil _) (by repeat (first | with_reducible exact HSub.refl _ | refine HSub.cons (by repeat (first | exact Take.here _ | apply Take.next | apply Take.app)) ?_ | refine HSub.app (by repeat (first | with_reducible exact TakeS.here _ | apply TakeS.next | apply TakeS.app)) ?_ | exact HSub.nil _ | exact HSub.refl _ | refine HSub.drop ?_ | refine HSub.dropS ?_)) ?_
      exact ⟨by unfold doR doS U; rw [if_pos c0, c1]; rfl, rfl⟩
    · simp only [cond_true, cond_false, Bool.and_eq_true, Bool.or_eq_true, Bool.and_eq_false_iff, Bool.or_eq_false_iff, decide_eq_true_eq, decide_eq_false_iff_not, Bool.not_eq_true', Bool.not_eq_false', ne_eq, Decidable.not_not] at c1
      refine W_sr ?_
      refine W_bin rfl rfl b_eql rfl ?_
      refine W_assign rfl rfl ?_
      refine W_nil ?_
      refine W_condS rfl (fun c2 => ?_) (fun c2 => ?_)
      · simp only [cond_true, cond_false, Bool.and_eq_true, Bool.or_eq_true, Bool.and_eq_false_iff, Bool.or_eq_false_iff, decide_eq_true_eq, decide_eq_false_iff_not, Bool.not_eq_true', Bool.not_eq_false', ne_eq, Decidable.not_not] at c2
        refine W_region ?_
        refine W_load rfl ty22 rfl (Cell.own (by repeat (first | exact List.mem_cons_self | apply List.mem_cons_of_mem | apply List.mem_append_right)) rfl) rfl ?_
        refine W_load rfl ty22 rfl (Cell.own (by repeat (first | exact List.mem_cons_self | apply List.mem_cons_of_mem | apply List.mem_append_right)) rfl) rfl ?_
        refine W_bin rfl rfl (b_sub rfl) rfl ?_
        refine W_store rfl rfl ty22 rfl rfl (by repeat (first | exact List.mem_cons_self | apply List.mem_cons_of_mem | apply List.mem_append_right)) rfl rfl (by repeat (first | exact Upd.head _ | apply Upd.tail | apply Upd.app)) ?_
        refine W_nil ?_
        refine W_blk ?_
        refine W_sr ?_
        refine W_load rfl ty22 rfl (Cell.own (by repeat (first | exact List.mem_cons_self | apply List.mem_cons_of_mem | apply List.mem_append_right)) rfl) rfl ?_
        refine W_assign rfl rfl ?_
        refine W_assign rfl rfl ?_
        refine W_nil ?_
        refine W_ret2m (H2 := H) Tryd.results96 rfl rfl (.nil _) (by repeat (first | with_reducible exact HSub.refl _ | refine HSub.cons (by repeat (first | exact Take.here _ | apply Take.next | apply Take.app)) ?_ | refine HSub.app (by repeat (first | with_reducible exact TakeS.here _ | apply TakeS.next | apply TakeS.app)) ?_ | exact HSub.nil _ | exact HSub.refl _ | refine HSub.drop ?_ | refine HSub.dropS ?_)) ?_
        exact ⟨by unfold doR doS U; rw [if_pos c0, c2]; rfl, rfl⟩
      · simp only [cond_true, cond_false, Bool.and_eq_true, Bool.or_eq_true, Bool.and_eq_false_iff, Bool.or_eq_false_iff, decide_eq_true_eq, decide_eq_false_iff_not, Bool.not_eq_true', Bool.not_eq_false', ne_eq, Decidable.not_not] at c2
        refine W_sr ?_
        refine W_bin rfl rfl b_eql rfl ?_
        refine W_assign rfl rfl ?_
        refine W_nil ?_
        refine W_condS rfl (fun c3 => ?_) (fun c3 => ?_)
        · simp only [cond_true, cond_false, Bool.and_eq_true, Bool.or_eq_true, Bool.and_eq_false_iff, Bool.or_eq_false_iff, decide_eq_true_eq, decide_eq_false_iff_not, Bool.not_eq_true', Bool.not_eq_false', ne_eq, Decidable.not_not] at c3
          refine W_region ?_
          refine W_load rfl ty22 rfl (Cell.own (by repeat (first | exact List.mem_cons_self | apply List.mem_cons_of_mem | apply List.mem_append_right)) rfl) rfl ?_
          refine W_load rfl ty22 rfl (Cell.own (by repeat (first | exact List.mem_cons_self | apply List.mem_cons_of_mem | apply List.mem_append_right)) rfl) rfl ?_
          refine W_bin rfl rfl (b_mul rfl) rfl ?_
          refine W_store rfl rfl ty22 rfl rfl (by repeat (first | exact List.mem_cons_self | apply List.mem_cons_of_mem | apply List.mem_append_right)) rfl rfl (by repeat (first | exact Upd.head _ | apply Upd.tail | apply Upd.app)) ?_
          refine W_nil ?_
          refine W_blk ?_
          refine W_sr ?_
          refine W_load rfl ty22 rfl (Cell.own (by repeat (first | exact List.mem_cons_self | apply List.mem_cons_of_mem | apply List.mem_append_right)) rfl) rfl ?_
          refine W_assign rfl rfl ?_
          refine W_assign rfl rfl ?_
          refine W_nil ?_
          refine W_ret2m (H2 := H) Tryd.results96 rfl rfl (.nil _) (by repeat (first | with_reducible exact HSub.refl _ | refine HSub.cons (by repeat (first | exact Take.here _ | apply Take.next | apply Take.app)) ?_ | refine HSub.app (by repeat (first | with_reducible exact TakeS.here _ | apply TakeS.next | apply TakeS.app)) ?_ | exact HSub.nil _ | exact HSub.refl _ | refine HSub.drop ?_ | refine HSub.dropS ?_)) ?_
          exact ⟨by unfold doR doS U; rw [if_pos c0, c3]; rfl, rfl⟩
        · simp only [cond_true, cond_false, Bool.and_eq_true, Bool.or_eq_true, Bool.and_eq_false_iff, Bool.or_eq_false_iff, decide_eq_true_eq, decide_eq_false_iff_not, Bool.not_eq_true', Bool.not_eq_false', ne_eq, Decidable.not_not] at c3
          refine W_sr ?_
          refine W_bin rfl rfl b_eql rfl ?_
          refine W_assign rfl rfl ?_
          refine W_nil ?_
          refine W_condS rfl (fun c4 => ?_) (fun c4 => ?_)
          · simp only [cond_true, cond_false, Bool.and_eq_true, Bool.or_eq_true, Bool.and_eq_false_iff, Bool.or_eq_false_iff, decide_eq_true_eq, decide_eq_false_iff_not, Bool.not_eq_true', Bool.not_eq_false', ne_eq, Decidable.not_not] at c4
            refine W_region ?_
            refine W_load rfl ty22 rfl (Cell.own (by repeat (first | exact List.mem_cons_self | apply List.mem_cons_of_mem | apply List.mem_append_right)) rfl) rfl ?_
            refine W_makeFunc .nil (.cons rfl (.cons rfl .nil)) rfl ?_
            refine W_call (.cons rfl (.cons rfl (.cons rfl .nil))) Tryd.call117 rfl (guarded_L Tryd.call118 (fun hb => quot_fun hb)) ?_
            rintro v H1 ⟨rfl, rfl⟩
            refine W_store rfl rfl ty22 rfl rfl (by repeat (first | exact List.mem_cons_self | apply List.mem_cons_of_mem | apply List.mem_append_right)) rfl rfl (by repeat (first | exact Upd.head _ | apply Upd.tail | apply Upd.app)) ?_
            refine W_nil ?_
            refine W_blk ?_
            refine W_sr ?_
            refine W_load rfl ty22 rfl (Cell.own (by repeat (first | exact List.mem_cons_self | apply List.mem_cons_of_mem | apply List.mem_append_right)) rfl) rfl ?_
            refine W_assign rfl rfl ?_
            refine W_assign rfl rfl ?_
            refine W_nil ?_
            refine W_ret2m (H2 := H) Tryd.results96 rfl rfl (.nil _) (by repeat (first | with_reducible exact HSub.refl _ | refine HSub.cons (by repeat (first | exact Take.here _ | apply Take.next | apply Take.app)) ?_ | refine HSub.app (by repeat (first | with_reducible exact TakeS.here _ | apply TakeS.next | apply TakeS.app)) ?_ | exact HSub.nil _ | exact HSub.refl _ | refine HSub.drop ?_ | refine HSub.dropS ?_)) ?_
            exact ⟨by unfold doR doS U; rw [if_pos c0, c4]; rfl, rfl⟩
          · simp only [cond_true, cond_false, Bool.and_eq_true, Bool.or_eq_true, Bool.and_eq_false_iff, Bool.or_eq_false_iff, decide_eq_true_eq, decide_eq_false_iff_not, Bool.not_eq_true', Bool.not_eq_false', ne_eq, Decidable.not_not] at c4
            refine W_sr ?_
            refine W_bin rfl rfl b_eql rfl ?_
            refine W_assign rfl rfl ?_
            refine W_nil ?_
            refine W_condS rfl (fun c5 => ?_) (fun c5 => ?_)
            · simp only [cond_true, cond_false, Bool.and_eq_true, Bool.or_eq_true, Bool.and_eq_false_iff, Bool.or_eq_false_iff, decide_eq_true_eq, decide_eq_false_iff_not, Bool.not_eq_true', Bool.not_eq_false', ne_eq, Decidable.not_not] at c5
              refine W_region ?_
              refine W_load rfl ty22 rfl (Cell.own (by repeat (first | exact List.mem_cons_self | apply List.mem_cons_of_mem | apply List.mem_append_right)) rfl) rfl ?_
              refine W_load rfl ty22 rfl (Cell.own (by repeat (first | exact List.mem_cons_self | apply List.mem_cons_of_mem | apply List.mem_append_right)) rfl) rfl ?_
              refine W_makeFunc .nil (.cons rfl (.cons rfl .nil)) rfl ?_
              refine W_call (.cons rfl (.cons rfl (.cons rfl .nil))) Tryd.call117 rfl (guarded_L Tryd.call119 (fun hb => rems_fun hb)) ?_
              rintro v H1 ⟨rfl, rfl⟩
              refine W_store rfl rfl ty22 rfl rfl (by repeat (first | exact List.mem_cons_self | apply List.mem_cons_of_mem | apply List.mem_append_right)) rfl rfl (by repeat (first | exact Upd.head _ | apply Upd.tail | apply Upd.app)) ?_
              refine W_nil ?_
              refine W_blk ?_
              refine W_sr ?_
              refine W_load rfl ty22 rfl (Cell.own (by repeat (first | exact List.mem_cons_self | apply List.mem_cons_of_mem | apply List.mem_append_right)) rfl) rfl ?_
              refine W_assign rfl rfl ?_
              refine W_assign rfl rfl ?_
              refine W_nil ?_
              refine W_ret2m (H2 := H) Tryd.results96 rfl rfl (.nil _) (by repeat (first | with_reducible exact HSub.refl _ | refine HSub.cons (by repeat (first | exact Take.here _ | apply Take.next | apply Take.app)) ?_ | refine HSub.app (by repeat (first | with_reducible exact TakeS.here _ | apply TakeS.next | apply TakeS.app)) ?_ | exact HSub.nil _ | exact HSub.refl _ | refine HSub.drop ?_ | refine HSub.dropS ?_)) ?_
              exact ⟨by unfold doR doS U; rw [if_pos c0, c5]; rfl, rfl⟩
            · simp only [cond_true, cond_false, Bool.and_eq_true, Bool.or_eq_true, Bool.and_eq_false_iff, Bool.or_eq_false_iff, decide_eq_true_eq, decide_eq_false_iff_not, Bool.not_eq_true', Bool.not_eq_false', ne_eq, Decidable.not_not] at c5
              refine W_sr ?_
              refine W_bin rfl rfl b_eql rfl ?_
              refine W_assign rfl rfl ?_
              refine W_nil ?_
              refine W_condS rfl (fun c6 => ?_) (fun c6 => ?_)
              · simp only [cond_true, cond_false, Bool.and_eq_true, Bool.or_eq_true, Bool.and_eq_false_iff, Bool.or_eq_false_iff, decide_eq_true_eq, decide_eq_false_iff_not, Bool.not_eq_true', Bool.not_eq_false', ne_eq, Decidable.not_not] at c6
                refine W_region ?_
                refine W_load rfl ty22 rfl (Cell.own (by repeat (first | exact List.mem_cons_self | apply List.mem_cons_of_mem | apply List.mem_append_right)) rfl) rfl ?_
                refine W_load rfl ty22 rfl (Cell.own (by repeat (first | exact List.mem_cons_self | apply List.mem_cons_of_mem | apply List.mem_append_right)) rfl) rfl ?_
                refine W_bin rfl rfl (b_and rfl) rfl ?_
                refine W_store rfl rfl ty22 rfl rfl (by repeat (first | exact List.mem_cons_self | apply List.mem_cons_of_mem | apply List.mem_append_right)) rfl rfl (by repeat (first | exact Upd.head _ | apply Upd.tail | apply Upd.app)) ?_
                refine W_nil ?_
                refine W_blk ?_
                refine W_sr ?_
                refine W_load rfl ty22 rfl (Cell.own (by repeat (first | exact List.mem_cons_self | apply List.mem_cons_of_mem | apply List.mem_append_right)) rfl) rfl ?_
                refine W_assign rfl rfl ?_
                refine W_assign rfl rfl ?_
                refine W_nil ?_
                refine W_ret2m (H2 := H) Tryd.results96 rfl rfl (.nil _) (by repeat (first | with_reducible exact HSub.refl _ | refine HSub.cons (by repeat (first | exact Take.here _ | apply Take.next | apply Take.app)) ?_ | refine HSub.app (by repeat (first | with_reducible exact TakeS.here _ | apply TakeS.next | apply TakeS.app)) ?_ | exact HSub.nil _ | exact HSub.refl _ | refine HSub.drop ?_ | refine HSub.dropS ?_)) ?_
                exact ⟨by unfold doR doS U; rw [if_pos c0, c6]; rfl, rfl⟩
              · simp only [cond_true, cond_false, Bool.and_eq_true, Bool.or_eq_true, Bool.and_eq_false_iff, Bool.or_eq_false_iff, decide_eq_true_eq, decide_eq_false_iff_not, Bool.not_eq_true', Bool.not_eq_false', ne_eq, Decidable.not_not] at c6
                refine W_sr ?_
                refine W_bin rfl rfl b_eql rfl ?_
                refine W_assign rfl rfl ?_
                refine W_nil ?_
                refine W_condS rfl (fun c7 => ?_) (fun c7 => ?_)
                · simp only [cond_true, cond_false, Bool.and_eq_true, Bool.or_eq_true, Bool.and_eq_false_iff, Bool.or_eq_false_iff, decide_eq_true_eq, decide_eq_false_iff_not, Bool.not_eq_true', Bool.not_eq_false', ne_eq, Decidable.not_not] at c7
                  refine W_region ?_
                  refine W_load rfl ty22 rfl (Cell.own (by repeat (first | exact List.mem_cons_self | apply List.mem_cons_of_mem | apply List.mem_append_right)) rfl) rfl ?_
                  refine W_load rfl ty22 rfl (Cell.own (by repeat (first | exact List.mem_cons_self | apply List.mem_cons_of_mem | apply List.mem_append_right)) rfl) rfl ?_
                  refine W_bin rfl rfl (b_or rfl) rfl ?_
                  refine W_store rfl rfl ty22 rfl rfl (by repeat (first | exact List.mem_cons_self | apply List.mem_cons_of_mem | apply List.mem_append_right)) rfl rfl (by repeat (first | exact Upd.head _ | apply Upd.tail | apply Upd.app)) ?_
                  refine W_nil ?_
                  refine W_blk ?_
                  refine W_sr ?_
                  refine W_load rfl ty22 rfl (Cell.own (by repeat (first | exact List.mem_cons_self | apply List.mem_cons_of_mem | apply List.mem_append_right)) rfl) rfl ?_
                  refine W_assign rfl rfl ?_
                  refine W_assign rfl rfl ?_
                  refine W_nil ?_
                  refine W_ret2m (H2 := H) Tryd.results96 rfl rfl (.nil _) (by repeat (first | with_reducible exact HSub.refl _ | refine HSub.cons (by repeat (first | exact Take.here _ | apply Take.next | apply Take.app)) ?_ | refine HSub.app (by repeat (first | with_reducible exact TakeS.here _ | apply TakeS.next | apply TakeS.app)) ?_ | exact HSub.nil _ | exact HSub.refl _ | refine HSub.drop ?_ | refine HSub.dropS ?_)) ?_
                  exact ⟨by unfold doR doS U; rw [if_pos c0, c7]; rfl, rfl⟩
                · simp only [cond_true, cond_false, Bool.and_eq_true, Bool.or_eq_true, Bool.and_eq_false_iff, Bool.or_eq_false_iff, decide_eq_true_eq, decide_eq_false_iff_not, Bool.not_eq_true', Bool.not_eq_false', ne_eq, Decidable.not_not] at c7
                  refine W_sr ?_
                  refine W_bin rfl rfl b_eql rfl ?_
                  refine W_assign rfl rfl ?_
                  refine W_nil ?_
                  refine W_condS rfl (fun c8 => ?_) (fun c8 => ?_)
                  · simp only [cond_true, cond_false, Bool.and_eq_true, Bool.or_eq_true, Bool.and_eq_false_iff, Bool.or_eq_false_iff, decide_eq_true_eq, decide_eq_false_iff_not, Bool.not_eq_true', Bool.not_eq_false', ne_eq, Decidable.not_not] at c8
                    refine W_region ?_
                    refine W_load rfl ty22 rfl (Cell.own (by repeat (first | exact List.mem_cons_self | apply List.mem_cons_of_mem | apply List.mem_append_right)) rfl) rfl ?_
                    refine W_load rfl ty22 rfl (Cell.own (by repeat (first | exact List.mem_cons_self | apply List.mem_cons_of_mem | apply List.mem_append_right)) rfl) rfl ?_
                    refine W_bin rfl rfl (b_xor rfl) rfl ?_
                    refine W_store rfl rfl ty22 rfl rfl (by repeat (first | exact List.mem_cons_self | apply List.mem_cons_of_mem | apply List.mem_append_right)) rfl rfl (by repeat (first | exact Upd.head _ | apply Upd.tail | apply Upd.app)) ?_
                    refine W_nil ?_
                    refine W_blk ?_
                    refine W_sr ?_
                    refine W_load rfl ty22 rfl (Cell.own (by repeat (first | exact List.mem_cons_self | apply List.mem_cons_of_mem | apply List.mem_append_right)) rfl) rfl ?_
                    refine W_assign rfl rfl ?_
                    refine W_assign rfl rfl ?_
                    refine W_nil ?_
                    refine W_ret2m (H2 := H) Tryd.results96 rfl rfl (.nil _) (by repeat (first | with_reducible exact HSub.refl _ | refine HSub.cons (by repeat (first | exact Take.here _ | apply Take.next | apply Take.app)) ?_ | refine HSub.app (by repeat (first | with_reducible exact TakeS.here _ | apply TakeS.next | apply TakeS.app)) ?_ | exact HSub.nil _ | exact HSub.refl _ | refine HSub.drop ?_ | refine HSub.dropS ?_)) ?_
                    exact ⟨by unfold doR doS U; rw [if_pos c0, c8]; rfl, rfl⟩
                  · simp only [cond_true, cond_false, Bool.and_eq_true, Bool.or_eq_true, Bool.and_eq_false_iff, Bool.or_eq_false_iff, decide_eq_true_eq, decide_eq_false_iff_not, Bool.not_eq_true', Bool.not_eq_false', ne_eq, Decidable.not_not] at c8
                    refine W_sr ?_
                    refine W_bin rfl rfl b_eql rfl ?_
                    refine W_assign rfl rfl ?_
                    refine W_nil ?_
                    refine W_condS rfl (fun c9 => ?_) (fun c9 => ?_)
                    · simp only [cond_true, cond_false, Bool.and_eq_true, Bool.or_eq_true, Bool.and_eq_false_iff, Bool.or_eq_false_iff, decide_eq_true_eq, decide_eq_false_iff_not, Bool.not_eq_true', Bool.not_eq_false', ne_eq, Decidable.not_not] at c9
                      refine W_region ?_
                      refine W_load rfl ty22 rfl (Cell.own (by repeat (first | exact List.mem_cons_self | apply List.mem_cons_of_mem | apply List.mem_append_right)) rfl) rfl ?_
                      refine W_move rfl rfl ?_
                      refine W_bin rfl rfl (b_shl hby rfl) rfl ?_
                      refine W_store rfl rfl ty22 rfl rfl (by repeat (first | exact List.mem_cons_self | apply List.mem_cons_of_mem | apply List.mem_append_right)) rfl rfl (by repeat (first | exact Upd.head _ | apply Upd.tail | apply Upd.app)) ?_
                      refine W_nil ?_
                      refine W_blk ?_
                      refine W_sr ?_
                      refine W_load rfl ty22 rfl (Cell.own (by repeat (first | exact List.mem_cons_self | apply List.mem_cons_of_mem | apply List.mem_append_right)) rfl) rfl ?_
                      refine W_assign rfl rfl ?_
                      refine W_assign rfl rfl ?_
                      refine W_nil ?_
                      refine W_ret2m (H2 := H) Tryd.results96 rfl rfl (.nil _) (by repeat (first | with_reducible exact HSub.refl _ | refine HSub.cons (by repeat (first | exact Take.here _ | apply Take.next | apply Take.app)) ?_ | refine HSub.app (by repeat (first | with_reducible exact TakeS.here _ | apply TakeS.next | apply TakeS.app)) ?_ | exact HSub.nil _ | exact HSub.refl _ | refine HSub.drop ?_ | refine HSub.dropS ?_)) ?_
                      exact ⟨by unfold doR doS U; rw [if_pos c0, c9]; rfl, rfl⟩
                    · simp only [cond_true, cond_false, Bool.and_eq_true, Bool.or_eq_true, Bool.and_eq_false_iff, Bool.or_eq_false_iff, decide_eq_true_eq, decide_eq_false_iff_not, Bool.not_eq_true', Bool.not_eq_false', ne_eq, Decidable.not_not] at c9
                      refine W_sr ?_
                      refine W_bin rfl rfl b_eql rfl ?_
                      refine W_assign rfl rfl ?_
                      refine W_nil ?_
                      refine W_condS rfl (fun c10 => ?_) (fun c10 => ?_)
                      · simp only [cond_true, cond_false, Bool.and_eq_true, Bool.or_eq_true, Bool.and_eq_false_iff, Bool.or_eq_false_iff, decide_eq_true_eq, decide_eq_false_iff_not, Bool.not_eq_true', Bool.not_eq_false', ne_eq, Decidable.not_not] at c10
                        refine W_region ?_
                        refine W_load rfl ty22 rfl (Cell.own (by repeat (first | exact List.mem_cons_self | apply List.mem_cons_of_mem | apply List.mem_append_right)) rfl) rfl ?_
                        refine W_move rfl rfl ?_
                        refine W_bin rfl rfl (b_shr hby rfl) rfl ?_
                        refine W_store rfl rfl ty22 rfl rfl (by repeat (first | exact List.mem_cons_self | apply List.mem_cons_of_mem | apply List.mem_append_right)) rfl rfl (by repeat (first | exact Upd.head _ | apply Upd.tail | apply Upd.app)) ?_
                        refine W_nil ?_
                        refine W_blk ?_
                        refine W_sr ?_
                        refine W_load rfl ty22 rfl (Cell.own (by repeat (first | exact List.mem_cons_self | apply List.mem_cons_of_mem | apply List.mem_append_right)) rfl) rfl ?_
                        refine W_assign rfl rfl ?_
                        refine W_assign rfl rfl ?_
                        refine W_nil ?_
                        refine W_ret2m (H2 := H) Tryd.results96 rfl rfl (.nil _) (by repeat (first | with_reducible exact HSub.refl _ | refine HSub.cons (by repeat (first | exact Take.here _ | apply Take.next | apply Take.app)) ?_ | refine HSub.app (by repeat (first | with_reducible exact TakeS.here _ | apply TakeS.next | apply TakeS.app)) ?_ | exact HSub.nil _ | exact HSub.refl _ | refine HSub.drop ?_ | refine HSub.dropS ?_)) ?_
                        exact ⟨by unfold doR doS U; rw [if_pos c0, c10]; rfl, rfl⟩
                      · simp only [cond_true, cond_false, Bool.and_eq_true, Bool.or_eq_true, Bool.and_eq_false_iff, Bool.or_eq_false_iff, decide_eq_true_eq, decide_eq_false_iff_not, Bool.not_eq_true', Bool.not_eq_false', ne_eq, Decidable.not_not] at c10
                        refine W_sr ?_
                        refine W_bin rfl rfl b_eql rfl ?_
                        refine W_assign rfl rfl ?_
                        refine W_nil ?_
                        refine W_condS rfl (fun c11 => ?_) (fun c11 => ?_)
                        · simp only [cond_true, cond_false, Bool.and_eq_true, Bool.or_eq_true, Bool.and_eq_false_iff, Bool.or_eq_false_iff, decide_eq_true_eq, decide_eq_false_iff_not, Bool.not_eq_true', Bool.not_eq_false', ne_eq, Decidable.not_not] at c11
                          refine W_region ?_
                          refine W_load rfl ty22 rfl (Cell.own (by repeat (first | exact List.mem_cons_self | apply List.mem_cons_of_mem | apply List.mem_append_right)) rfl) rfl ?_
                          refine W_conv rfl ty22 ty2 rfl rfl ?_
                          refine W_move rfl rfl ?_
                          refine W_bin rfl rfl (b_shr hby rfl) rfl ?_
                          refine W_conv rfl ty2 ty22 rfl rfl ?_
                          refine W_store rfl rfl ty22 rfl rfl (by repeat (first | exact List.mem_cons_self | apply List.mem_cons_of_mem | apply List.mem_append_right)) rfl rfl (by repeat (first | exact Upd.head _ | apply Upd.tail | apply Upd.app)) ?_
                          refine W_nil ?_
                          refine W_blk ?_
                          refine W_sr ?_
                          refine W_load rfl ty22 rfl (Cell.own (by repeat (first | exact List.mem_cons_self | apply List.mem_cons_of_mem | apply List.mem_append_right)) rfl) rfl ?_
                          refine W_assign rfl rfl ?_
                          refine W_assign rfl rfl ?_
                          refine W_nil ?_
                          refine W_ret2m (H2 := H) Tryd.results96 rfl rfl (.nil _) (by repeat (first | with_reducible exact HSub.refl _ | refine HSub.cons (by repeat (first | exact Take.here _ | apply Take.next | apply Take.app)) ?_ | refine HSub.app (by repeat (first | with_reducible exact TakeS.here _ | apply TakeS.next | apply TakeS.app)) ?_ | exact HSub.nil _ | exact HSub.refl _ | refine HSub.drop ?_ | refine HSub.dropS ?_)) ?_
                          exact ⟨by unfold doR doS U; rw [if_pos c0, c11]; rfl, rfl⟩
                        · simp only [cond_true, cond_false, Bool.and_eq_true, Bool.or_eq_true, Bool.and_eq_false_iff, Bool.or_eq_false_iff, decide_eq_true_eq, decide_eq_false_iff_not, Bool.not_eq_true', Bool.not_eq_false', ne_eq, Decidable.not_not] at c11
                          refine W_sr ?_
                          refine W_bin rfl rfl b_eql rfl ?_
                          refine W_assign rfl rfl ?_
                          refine W_nil ?_
                          refine W_condS rfl (fun c12 => ?_) (fun c12 => ?_)
                          · simp only [cond_true, cond_false, Bool.and_eq_true, Bool.or_eq_true, Bool.and_eq_false_iff, Bool.or_eq_false_iff, decide_eq_true_eq, decide_eq_false_iff_not, Bool.not_eq_true', Bool.not_eq_false', ne_eq, Decidable.not_not] at c12
                            refine W_region ?_
                            refine W_load rfl ty22 rfl (Cell.own (by repeat (first | exact List.mem_cons_self | apply List.mem_cons_of_mem | apply List.mem_append_right)) rfl) rfl ?_
                            refine W_store rfl rfl ty22 rfl rfl (by repeat (first | exact List.mem_cons_self | apply List.mem_cons_of_mem | apply List.mem_append_right)) rfl rfl (by repeat (first | exact Upd.head _ | apply Upd.tail | apply Upd.app)) ?_
                            refine W_nil ?_
                            refine W_blk ?_
                            refine W_sr ?_
                            refine W_load rfl ty22 rfl (Cell.own (by repeat (first | exact List.mem_cons_self | apply List.mem_cons_of_mem | apply List.mem_append_right)) rfl) rfl ?_
                            refine W_assign rfl rfl ?_
                            refine W_assign rfl rfl ?_
                            refine W_nil ?_
                            refine W_ret2m (H2 := H) Tryd.results96 rfl rfl (.nil _) (by repeat (first | with_reducible exact HSub.refl _ | refine HSub.cons (by repeat (first | exact Take.here _ | apply Take.next | apply Take.app)) ?_ | refine HSub.app (by repeat (first | with_reducible exact TakeS.here _ | apply TakeS.next | apply TakeS.app)) ?_ | exact HSub.nil _ | exact HSub.refl _ | refine HSub.drop ?_ | refine HSub.dropS ?_)) ?_
                            exact ⟨by unfold doR doS U; rw [if_pos c0, c12]; rfl, rfl⟩
                          · simp only [cond_true, cond_false, Bool.and_eq_true, Bool.or_eq_true, Bool.and_eq_false_iff, Bool.or_eq_false_iff, decide_eq_true_eq, decide_eq_false_iff_not, Bool.not_eq_true', Bool.not_eq_false', ne_eq, Decidable.not_not] at c12
                            refine W_region ?_
                            refine W_load rfl ty22 rfl (Cell.own (by repeat (first | exact List.mem_cons_self | apply List.mem_cons_of_mem | apply List.mem_append_right)) rfl) rfl ?_
                            refine W_neg rfl rfl rfl ?_
                            refine W_store rfl rfl ty22 rfl rfl (by repeat (first | exact List.mem_cons_self | apply List.mem_cons_of_mem | apply List.mem_append_right)) rfl rfl (by repeat (first | exact Upd.head _ | apply Upd.tail | apply Upd.app)) ?_
                            refine W_nil ?_
                            refine W_blk ?_
                            refine W_sr ?_
                            refine W_load rfl ty22 rfl (Cell.own (by repeat (first | exact List.mem_cons_self | apply List.mem_cons_of_mem | apply List.mem_append_right)) rfl) rfl ?_
                            refine W_assign rfl rfl ?_
                            refine W_assign rfl rfl ?_
                            refine W_nil ?_
                            refine W_ret2m (H2 := H) Tryd.results96 rfl rfl (.nil _) (by repeat (first | with_reducible exact HSub.refl _ | refine HSub.cons (by repeat (first | exact Take.here _ | apply Take.next | apply Take.app)) ?_ | refine HSub.app (by repeat (first | with_reducible exact TakeS.here _ | apply TakeS.next | apply TakeS.app)) ?_ | exact HSub.nil _ | exact HSub.refl _ | refine HSub.drop ?_ | refine HSub.dropS ?_)) ?_
                            exact ⟨by unfold doR doS U; rw [if_pos c0, if_neg c1, if_neg c2, if_neg c3, if_neg c4, if_neg c5, if_neg c6, if_neg c7, if_neg c8, if_neg c9, if_neg c10, if_neg c11, if_neg c12], rfl⟩
set_option maxHeartbeats 1000000 in
theorem jumps_pure (op a b : Int) (hlo : -9223372036854775808 ≤ op) (hhi : op ≤ 9223372036854775807) (hb0 : 0 ≤ b) : Pure Tryd.prog (Tab) 75 [.int .i64 op, U a, U b] (jumpR op a b) := by
  intro w0 H hT
  unfold U
  refine L_enter Tryd.func75 rfl Tryd.ntmps75 rfl rfl ?_
  refine W_sr ?_
  refine W_assign rfl rfl ?_
  refine W_assign rfl rfl ?_
  refine W_nil ?_
  refine W_seq ?_
  refine W_sr ?_
  refine W_move rfl rfl ?_
  refine W_callp (.cons rfl .nil) Tryd.call66 rfl hT (class_pure _) ?_
  refine W_bin rfl rfl b_neq rfl ?_
  refine W_nil ?_
  refine W_condS rfl (fun c0 => ?_) (fun c0 => ?_)
  · simp only [cond_true, cond_false, Bool.and_eq_true, Bool.or_eq_true, Bool.and_eq_false_iff, Bool.or_eq_false_iff, decide_eq_true_eq, decide_eq_false_iff_not, Bool.not_eq_true', Bool.not_eq_false', ne_eq, Decidable.not_not] at c0
    refine W_sr ?_
    refine W_assign rfl rfl ?_
    refine W_assign rfl rfl ?_
    refine W_nil ?_
    refine W_ret2m Tryd.results75 rfl rfl (.nil _) (.refl _) ?_
    exact ⟨by unfold jumpR; rw [if_neg c0], rfl⟩
  · simp only [cond_true, cond_false, Bool.and_eq_true, Bool.or_eq_true, Bool.and_eq_false_iff, Bool.or_eq_false_iff, decide_eq_true_eq, decide_eq_false_iff_not, Bool.not_eq_true', Bool.not_eq_false', ne_eq, Decidable.not_not] at c0
    refine W_skip ?_
    refine W_sr ?_
    refine W_move rfl rfl ?_
    refine W_conv rfl ty22 ty2 rfl rfl ?_
    refine W_move rfl rfl ?_
    refine W_conv rfl ty22 ty2 rfl rfl ?_
    refine W_assign rfl rfl ?_
    refine W_assign rfl rfl ?_
    refine W_nil ?_
    refine W_seq ?_
    refine W_sr ?_
    refine W_move rfl rfl ?_
    refine W_callp (.cons rfl .nil) Tryd.call102 rfl hT (plain_pure _ hlo hhi) ?_
    refine W_nil ?_
    refine W_block ?_
    refine W_sr ?_
    refine W_bin rfl rfl b_eql rfl ?_
    refine W_assign rfl rfl ?_
    refine W_nil ?_
    refine W_condS rfl (fun c1 => ?_) (fun c1 => ?_)
    · simp only [cond_true, cond_false, Bool.and_eq_true, Bool.or_eq_true, Bool.and_eq_false_iff, Bool.or_eq_false_iff, decide_eq_true_eq, decide_eq_false_iff_not, Bool.not_eq_true', Bool.not_eq_false', ne_eq, Decidable.not_not] at c1
      refine W_sr ?_
      refine W_move rfl rfl ?_
      refine W_move rfl rfl ?_
      refine W_bin rfl rfl b_eql rfl ?_
      refine W_assign rfl rfl ?_
      refine W_assign rfl rfl ?_
      refine W_nil ?_
      refine W_ret2m Tryd.results75 rfl rfl (.nil _) (.refl _) ?_
      exact ⟨by unfold jumpR jumpS; rw [if_pos c0, c1]; rfl, rfl⟩
    · simp only [cond_true, cond_false, Bool.and_eq_true, Bool.or_eq_true, Bool.and_eq_false_iff, Bool.or_eq_false_iff, decide_eq_true_eq, decide_eq_false_iff_not, Bool.not_eq_true', Bool.not_eq_false', ne_eq, Decidable.not_not] at c1
      refine W_sr ?_
      refine W_bin rfl rfl b_eql rfl ?_
      refine W_assign rfl rfl ?_
      refine W_nil ?_
      refine W_condS rfl (fun c2 => ?_) (fun c2 => ?_)
      · simp only [cond_true, cond_false, Bool.and_eq_true, Bool.or_eq_true, Bool.and_eq_false_iff, Bool.or_eq_false_iff, decide_eq_true_eq, decide_eq_false_iff_not, Bool.not_eq_true', Bool.not_eq_false', ne_eq, Decidable.not_not] at c2
        refine W_sr ?_
        refine W_move rfl rfl ?_
        refine W_move rfl rfl ?_
        refine W_bin rfl rfl b_neq rfl ?_
        refine W_assign rfl rfl ?_
        refine W_assign rfl rfl ?_
        refine W_nil ?_
        refine W_ret2m Tryd.results75 rfl rfl (.nil _) (.refl _) ?_
        exact ⟨by unfold jumpR jumpS; rw [if_pos c0, c2]; rfl, rfl⟩
      · simp only [cond_true, cond_false, Bool.and_eq_true, Bool.or_eq_true, Bool.and_eq_false_iff, Bool.or_eq_false_iff, decide_eq_true_eq, decide_eq_false_iff_not, Bool.not_eq_true', Bool.not_eq_false', ne_eq, Decidable.not_not] at c2
        refine W_sr ?_
        refine W_bin rfl rfl b_eql rfl ?_
        refine W_assign rfl rfl ?_
        refine W_nil ?_
        refine W_condS rfl (fun c3 => ?_) (fun c3 => ?_)
        · simp only [cond_true, cond_false, Bool.and_eq_true, Bool.or_eq_true, Bool.and_eq_false_iff, Bool.or_eq_false_iff, decide_eq_true_eq, decide_eq_false_iff_not, Bool.not_eq_true', Bool.not_eq_false', ne_eq, Decidable.not_not] at c3
          refine W_sr ?_
          refine W_move rfl rfl ?_
          refine W_move rfl rfl ?_
          refine W_bin rfl rfl b_gtr rfl ?_
          refine W_assign rfl rfl ?_
          refine W_assign rfl rfl ?_
          refine W_nil ?_
          refine W_ret2m Tryd.results75 rfl rfl (.nil _) (.refl _) ?_
          exact ⟨by unfold jumpR jumpS; rw [if_pos c0, c3]; rfl, rfl⟩
        · simp only [cond_true, cond_false, Bool.and_eq_true, Bool.or_eq_true, Bool.and_eq_false_iff, Bool.or_eq_false_iff, decide_eq_true_eq, decide_eq_false_iff_not, Bool.not_eq_true', Bool.not_eq_false', ne_eq, Decidable.not_not] at c3
          refine W_sr ?_
          refine W_bin rfl rfl b_eql rfl ?_
          refine W_assign rfl rfl ?_
          refine W_nil ?_
          refine W_condS rfl (fun c4 => ?_) (fun c4 => ?_)
          · simp only [cond_true, cond_false, Bool.and_eq_true, Bool.or_eq_true, Bool.and_eq_false_iff, Bool.or_eq_false_iff, decide_eq_true_eq, decide_eq_false_iff_not, Bool.not_eq_true', Bool.not_eq_false', ne_eq, Decidable.not_not] at c4
            refine W_sr ?_
            refine W_move rfl rfl ?_
            refine W_move rfl rfl ?_
            refine W_bin rfl rfl b_geq rfl ?_
            refine W_assign rfl rfl ?_
            refine W_assign rfl rfl ?_
            refine W_nil ?_
            refine W_ret2m Tryd.results75 rfl rfl (.nil _) (.refl _) ?_
            exact ⟨by unfold jumpR jumpS; rw [if_pos c0, c4]; rfl, rfl⟩
          · simp only [cond_true, cond_false, Bool.and_eq_true, Bool.or_eq_true, Bool.and_eq_false_iff, Bool.or_eq_false_iff, decide_eq_true_eq, decide_eq_false_iff_not, Bool.not_eq_true', Bool.not_eq_false', ne_eq, Decidable.not_not] at c4
            refine W_sr ?_
            refine W_bin rfl rfl b_eql rfl ?_
            refine W_assign rfl rfl ?_
            refine W_nil ?_
            refine W_condS rfl (fun c5 => ?_) (fun c5 => ?_)
            · simp only [cond_true, cond_false, Bool.and_eq_true, Bool.or_eq_true, Bool.and_eq_false_iff, Bool.or_eq_false_iff, decide_eq_true_eq, decide_eq_false_iff_not, Bool.not_eq_true', Bool.not_eq_false', ne_eq, Decidable.not_not] at c5
              refine W_sr ?_
              refine W_move rfl rfl ?_
              refine W_move rfl rfl ?_
              refine W_bin rfl rfl b_lss rfl ?_
              refine W_assign rfl rfl ?_
              refine W_assign rfl rfl ?_
              refine W_nil ?_
              refine W_ret2m Tryd.results75 rfl rfl (.nil _) (.refl _) ?_
              exact ⟨by unfold jumpR jumpS; rw [if_pos c0, c5]; rfl, rfl⟩
            · simp only [cond_true, cond_false, Bool.and_eq_true, Bool.or_eq_true, Bool.and_eq_false_iff, Bool.or_eq_false_iff, decide_eq_true_eq, decide_eq_false_iff_not, Bool.not_eq_true', Bool.not_eq_false', ne_eq, Decidable.not_not] at c5
              refine W_sr ?_
              refine W_bin rfl rfl b_eql rfl ?_
              refine W_assign rfl rfl ?_
              refine W_nil ?_
              refine W_condS rfl (fun c6 => ?_) (fun c6 => ?_)
              · simp only [cond_true, cond_false, Bool.and_eq_true, Bool.or_eq_true, Bool.and_eq_false_iff, Bool.or_eq_false_iff, decide_eq_true_eq, decide_eq_false_iff_not, Bool.not_eq_true', Bool.not_eq_false', ne_eq, Decidable.not_not] at c6
                refine W_sr ?_
                refine W_move rfl rfl ?_
                refine W_move rfl rfl ?_
                refine W_bin rfl rfl b_leq rfl ?_
                refine W_assign rfl rfl ?_
                refine W_assign rfl rfl ?_
                refine W_nil ?_
                refine W_ret2m Tryd.results75 rfl rfl (.nil _) (.refl _) ?_
                exact ⟨by unfold jumpR jumpS; rw [if_pos c0, c6]; rfl, rfl⟩
              · simp only [cond_true, cond_false, Bool.and_eq_true, Bool.or_eq_true, Bool.and_eq_false_iff, Bool.or_eq_false_iff, decide_eq_true_eq, decide_eq_false_iff_not, Bool.not_eq_true', Bool.not_eq_false', ne_eq, Decidable.not_not] at c6
                refine W_sr ?_
                refine W_bin rfl rfl b_eql rfl ?_
                refine W_assign rfl rfl ?_
                refine W_nil ?_
                refine W_condS rfl (fun c7 => ?_) (fun c7 => ?_)
                · simp only [cond_true, cond_false, Bool.and_eq_true, Bool.or_eq_true, Bool.and_eq_false_iff, Bool.or_eq_false_iff, decide_eq_true_eq, decide_eq_false_iff_not, Bool.not_eq_true', Bool.not_eq_false', ne_eq, Decidable.not_not] at c7
                  refine W_sr ?_
                  refine W_move rfl rfl ?_
                  refine W_move rfl rfl ?_
                  refine W_bin rfl rfl (b_and rfl) rfl ?_
                  refine W_bin rfl rfl b_neq rfl ?_
                  refine W_assign rfl rfl ?_
                  refine W_assign rfl rfl ?_
                  refine W_nil ?_
                  refine W_ret2m Tryd.results75 rfl rfl (.nil _) (.refl _) ?_
                  exact ⟨by unfold jumpR jumpS; rw [if_pos c0, c7]; rfl, rfl⟩
                · simp only [cond_true, cond_false, Bool.and_eq_true, Bool.or_eq_true, Bool.and_eq_false_iff, Bool.or_eq_false_iff, decide_eq_true_eq, decide_eq_false_iff_not, Bool.not_eq_true', Bool.not_eq_false', ne_eq, Decidable.not_not] at c7
                  refine W_sr ?_
                  refine W_bin rfl rfl b_eql rfl ?_
                  refine W_assign rfl rfl ?_
                  refine W_nil ?_
                  refine W_condS rfl (fun c8 => ?_) (fun c8 => ?_)
                  · simp only [cond_true, cond_false, Bool.and_eq_true, Bool.or_eq_true, Bool.and_eq_false_iff, Bool.or_eq_false_iff, decide_eq_true_eq, decide_eq_false_iff_not, Bool.not_eq_true', Bool.not_eq_false', ne_eq, Decidable.not_not] at c8
                    refine W_sr ?_
                    refine W_move rfl rfl ?_
                    refine W_move rfl rfl ?_
                    refine W_bin rfl rfl b_gtr rfl ?_
                    refine W_assign rfl rfl ?_
                    refine W_assign rfl rfl ?_
                    refine W_nil ?_
                    refine W_ret2m Tryd.results75 rfl rfl (.nil _) (.refl _) ?_
                    exact ⟨by unfold jumpR jumpS; rw [if_pos c0, c8]; rfl, rfl⟩
                  · simp only [cond_true, cond_false, Bool.and_eq_true, Bool.or_eq_true, Bool.and_eq_false_iff, Bool.or_eq_false_iff, decide_eq_true_eq, decide_eq_false_iff_not, Bool.not_eq_true', Bool.not_eq_false', ne_eq, Decidable.not_not] at c8
                    refine W_sr ?_
                    refine W_bin rfl rfl b_eql rfl ?_
                    refine W_assign rfl rfl ?_
                    refine W_nil ?_
                    refine W_condS rfl (fun c9 => ?_) (fun c9 => ?_)
                    · simp only [cond_true, cond_false, Bool.and_eq_true, Bool.or_eq_true, Bool.and_eq_false_iff, Bool.or_eq_false_iff, decide_eq_true_eq, decide_eq_false_iff_not, Bool.not_eq_true', Bool.not_eq_false', ne_eq, Decidable.not_not] at c9
                      refine W_sr ?_
                      refine W_move rfl rfl ?_
                      refine W_move rfl rfl ?_
                      refine W_bin rfl rfl b_lss rfl ?_
                      refine W_assign rfl rfl ?_
                      refine W_assign rfl rfl ?_
                      refine W_nil ?_
                      refine W_ret2m Tryd.results75 rfl rfl (.nil _) (.refl _) ?_
                      exact ⟨by unfold jumpR jumpS; rw [if_pos c0, c9]; rfl, rfl⟩
                    · simp only [cond_true, cond_false, Bool.and_eq_true, Bool.or_eq_true, Bool.and_eq_false_iff, Bool.or_eq_false_iff, decide_eq_true_eq, decide_eq_false_iff_not, Bool.not_eq_true', Bool.not_eq_false', ne_eq, Decidable.not_not] at c9
                      refine W_skip ?_
                      refine W_blk ?_
                      refine W_sr ?_
                      refine W_assign rfl rfl ?_
                      refine W_assign rfl rfl ?_
                      refine W_nil ?_
                      refine W_ret2m Tryd.results75 rfl rfl (.nil _) (.refl _) ?_
                      exact ⟨by unfold jumpR jumpS; rw [if_pos c0, if_neg c1, if_neg c2, if_neg c3, if_neg c4, if_neg c5, if_neg c6, if_neg c7, if_neg c8, if_neg c9], rfl⟩
set_option maxHeartbeats 1000000 in
theorem word_pure (i : Int) : Pure Tryd.prog (Tab) 101 [.int .i64 i] (U (IntKind.u64.wrap i)) := by
  intro w0 H hT
  refine L_enter Tryd.func101 rfl Tryd.ntmps101 rfl rfl ?_
  refine W_sr ?_
  refine W_assign rfl rfl ?_
  refine W_nil ?_
  refine W_sr ?_
  refine W_move rfl rfl ?_
  refine W_conv rfl ty3 ty22 rfl rfl ?_
  refine W_assign rfl rfl ?_
  refine W_nil ?_
  refine W_ret1m Tryd.results101 rfl (.nil _) (.refl _) ?_
  exact ⟨rfl, rfl⟩
end Go.Proofs.YtkhkagjbeilbgaaDoor

/-
  Own work: contracts of functions that the statement reaches, and plain facts on what they compute; each theorem says its conditions.
-/
import Derived.Test.YtkhkagjbeilbgaaDoorF7
set_option linter.all false
set_option linter.unusedSimpArgs false
set_option linter.unusedVariables false
namespace Go.Proofs.YtkhkagjbeilbgaaDoor
open Go Go.Sl
attribute [local irreducible] W

/-- a new frame's registers and stack -/
def newV (l : List Va) : List Va := zeroV :: (l ++ List.replicate (17 - l.length) zeroV)
theorem newV_len {l : List Va} (h : l.length ≤ 5) : (newV l).length = 18 := by
  unfold newV
  simp only [List.length_cons, List.length_append, List.length_replicate]
  omega
theorem va_one : ∀ l : List Va, (vaRow l).all Value.oneCell' = true
  | [] => rfl
  | a :: l => by
    have e : vaRow (a :: l) = vaC a ++ vaRow l := rfl
    rw [e, List.all_append, va_one l]; rfl
theorem newV_cells : ∀ {l : List Va}, l.length ≤ 5 → spliceL (vaRow (List.replicate 18 zeroV)) 5 (vaRow l) = vaRow (newV l)
  | [], _ => rfl
  | [_], _ => rfl
  | [_, _], _ => rfl
  | [_, _, _], _ => rfl
  | [_, _, _, _], _ => rfl
  | [_, _, _, _, _], _ => rfl
  | _ :: _ :: _ :: _ :: _ :: _ :: l, h => by simp only [List.length_cons] at h; omega
set_option maxHeartbeats 1000000 in
theorem New_L {w0 : World} {H : Heap} {l : List Va} {ad : Option Addr} {cap : Nat} (hl : l.length ≤ 5) (hrow : Holds w0 H ad (vaRow l))  : LCalls Tryd.prog w0 19 #[.slice ad l.length cap] (H) (fun v H' => ∃ bf, v = .tuple #[.pointer (some ⟨bf, 0, none⟩), .int .i64 0] ∧ H' = (bf, .cells 130 90 (vaRow (newV l))) :: H) := by
  refine L_enter (l := [.slice ad l.length cap]) Tryd.func19 rfl Tryd.ntmps19 rfl rfl ?_
  refine W_sr ?_
  refine W_assign rfl rfl ?_
  refine W_assign rfl rfl ?_
  refine W_nil ?_
  refine W_seq ?_
  refine W_sr ?_
  refine W_move rfl rfl ?_
  refine W_len rfl ty40 rfl rfl ?_
  refine W_bin rfl rfl b_gtr rfl ?_
  refine W_nil ?_
  refine W_condS rfl (fun c0 => ?_) (fun c0 => ?_)
  · simp only [cond_true, cond_false, Bool.and_eq_true, Bool.or_eq_true, Bool.and_eq_false_iff, Bool.or_eq_false_iff, decide_eq_true_eq, decide_eq_false_iff_not, Bool.not_eq_true', Bool.not_eq_false', ne_eq, Decidable.not_not] at c0
    refine W_sr ?_
    refine W_assign rfl rfl ?_
    refine W_assign rfl rfl ?_
    refine W_nil ?_
    refine W_ret2m (H2 := H) Tryd.results19 rfl rfl (.nil _) (by repeat (first | with_reducible exact HSub.refl _ | refine HSub.cons (by repeat (first | exact Take.here _ | apply Take.next | apply Take.app)) ?_ | refine HSub.app (by repeat (first | with_reducible exact TakeS.here _ | apply TakeS.next | apply TakeS.app)) ?_ | exact HSub.nil _ | exact HSub.refl _ | refine HSub.drop ?_ | refine HSub.dropS ?_)) ?_
    omega
  · simp only [cond_true, cond_false, Bool.and_eq_true, Bool.or_eq_true, Bool.and_eq_false_iff, Bool.or_eq_false_iff, decide_eq_true_eq, decide_eq_false_iff_not, Bool.not_eq_true', Bool.not_eq_false', ne_eq, Decidable.not_not] at c0
    refine W_skip ?_
    refine W_sr ?_
    refine W_build ty130 pl130 .nil rfl (by simp only [fillL, spliceL, Value.cells, List.take_zero, List.take_succ_cons, List.take_nil, List.drop_zero, List.drop_succ_cons, List.drop_nil, List.nil_append, List.cons_append, List.append_nil, List.length_cons, List.length_nil, Nat.zero_add, Nat.reduceAdd, List.toList_toArray]; rfl) rfl ?_
    refine W_box rfl rfl rfl (fun b9 => ?_)
    refine W_assign rfl rfl ?_
    refine W_nil ?_
    refine W_sr ?_
    refine W_move rfl rfl ?_
    refine W_nilCheck rfl rfl ?_
    refine W_fieldAddr rfl fld130_0 (by decide) rfl ?_
    refine W_x (X_sliceArr (l := 1) (hh := 10) rfl ty127 ty50 ⟨_, rfl⟩ rfl (by decide) (by decide) (by decide)) (fun _ h => by cases h) rfl ?_
    refine W_move rfl rfl ?_
    refine W_copy rfl rfl ty40 ty50 (kk := l.length) (by omega) (vaRow_len l) (hrow.up (by repeat (first | with_reducible exact HSub.refl _ | refine HSub.cons (by repeat (first | exact Take.here _ | apply Take.next | apply Take.app)) ?_ | refine HSub.app (by repeat (first | with_reducible exact TakeS.here _ | apply TakeS.next | apply TakeS.app)) ?_ | exact HSub.nil _ | exact HSub.refl _ | refine HSub.drop ?_ | refine HSub.dropS ?_))) (va_one l) (by repeat (first | exact List.mem_cons_self | apply List.mem_cons_of_mem | apply List.mem_append_right)) (by rw [vaRow_len]; show 5 + l.length * 5 ≤ 90; omega) (newV_cells hl) (by repeat (first | exact Upd.head _ | apply Upd.tail | apply Upd.app)) rfl ?_
    refine W_nil ?_
    refine W_sr ?_
    refine W_move rfl rfl ?_
    refine W_assign rfl rfl ?_
    refine W_assign rfl rfl ?_
    refine W_nil ?_
    refine W_ret2m (H2 := (b9, .cells 130 90 (vaRow (newV l))) :: H) Tryd.results19 rfl rfl (.nil _) (by repeat (first | with_reducible exact HSub.refl _ | refine HSub.cons (by repeat (first | exact Take.here _ | apply Take.next | apply Take.app)) ?_ | refine HSub.app (by repeat (first | with_reducible exact TakeS.here _ | apply TakeS.next | apply TakeS.app)) ?_ | exact HSub.nil _ | exact HSub.refl _ | refine HSub.drop ?_ | refine HSub.dropS ?_)) ?_
    exact ⟨b9, rfl, rfl⟩
end Go.Proofs.YtkhkagjbeilbgaaDoor

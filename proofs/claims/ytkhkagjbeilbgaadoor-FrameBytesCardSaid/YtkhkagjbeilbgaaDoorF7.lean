/-
  Own work: contracts of functions that the statement reaches, and plain facts on what they compute; each theorem says its conditions.
-/
import Derived.Test.YtkhkagjbeilbgaaDoorF6
set_option linter.all false
set_option linter.unusedSimpArgs false
set_option linter.unusedVariables false
namespace Go.Proofs.YtkhkagjbeilbgaaDoor
open Go Go.Sl
attribute [local irreducible] W

/-- whether a jump goes -/
def jumpV (V : List Va) (x : Ins) : Bool × Int := if isaChk x ≠ 0 then (false, isaChk x) else if cls x.op = 2 then (jumpS (plainOf x.op) (V.getD x.dst.toNat zeroV).n (othr V x).n, 0) else (false, 11)
theorem jumpV_eq {V : List Va} {x : Ins} (h : isaChk x = 0) : jumpR x.op (V.getD x.dst.toNat zeroV).n (othr V x).n = .tuple #[.bool (jumpV V x).1, .int .i64 (jumpV V x).2] := by
  unfold jumpR jumpV
  by_cases h2 : cls x.op = 2
  · rw [if_pos h2, if_neg (fun h' => h' h), if_pos h2]
  · rw [if_neg h2, if_neg (fun h' => h' h), if_neg h2]
set_option maxHeartbeats 1000000 in
theorem Jumps_L {w0 : World} {H : Heap} {bf : Nat} {V : List Va} {x : Ins} (hV : V.length = 18) (hop : -9223372036854775808 ≤ x.op ∧ x.op ≤ 9223372036854775807) (hW : ∀ v ∈ V, 0 ≤ v.n) (hT : Tab w0) : LCalls Tryd.prog w0 36 #[.pointer (some ⟨bf, 0, none⟩), .agg #[.int .i64 x.op, .int .i64 x.dst, .int .i64 x.src, .int .i64 x.off, .int .i64 x.imm]] ((bf, .cells 130 90 (vaRow V)) :: H) (fun v H' => v = .tuple #[.bool (jumpV V x).1, .int .i64 (jumpV V x).2] ∧ H' = (bf, .cells 130 90 (vaRow V)) :: H) := by
  refine L_enter (l := [.pointer (some ⟨bf, 0, none⟩), .agg #[.int .i64 x.op, .int .i64 x.dst, .int .i64 x.src, .int .i64 x.off, .int .i64 x.imm]]) Tryd.func36 rfl Tryd.ntmps36 rfl rfl ?_
  refine W_sr ?_
  refine W_box rfl rfl rfl (fun b3 => ?_)
  refine W_assign rfl rfl ?_
  refine W_assign rfl rfl ?_
  refine W_nil ?_
  refine W_seq ?_
  refine W_sr ?_
  refine W_move rfl rfl ?_
  refine W_x (X_ptrNil rfl rfl ty37) (fun _ h => by cases h) rfl ?_
  refine W_nil ?_
  refine W_condF rfl rfl ?_
  refine W_skip ?_
  refine W_seq ?_
  refine W_sr ?_
  refine W_loadB rfl ty44 rfl (by repeat (first | exact List.mem_cons_self | apply List.mem_cons_of_mem | apply List.mem_append_right)) rfl (by simp only [fillL, spliceL, Value.cells, List.take_zero, List.take_succ_cons, List.take_nil, List.drop_zero, List.drop_succ_cons, List.drop_nil, List.nil_append, List.cons_append, List.append_nil, List.length_cons, List.length_nil, Nat.zero_add, Nat.reduceAdd, List.toList_toArray]; rfl) rfl ?_
  refine W_callp (.cons rfl .nil) Tryd.call65 rfl hT (isaChk_pure _) ?_
  refine W_assign rfl rfl ?_
  refine W_nil ?_
  refine W_sr ?_
  refine W_move rfl rfl ?_
  refine W_bin rfl rfl b_neq rfl ?_
  refine W_nil ?_
  refine W_condS rfl (fun c0 => ?_) (fun c0 => ?_)
  · simp only [cond_true, cond_false, Bool.and_eq_true, Bool.or_eq_true, Bool.and_eq_false_iff, Bool.or_eq_false_iff, decide_eq_true_eq, decide_eq_false_iff_not, Bool.not_eq_true', Bool.not_eq_false', ne_eq, Decidable.not_not] at c0
    refine W_sr ?_
    refine W_move rfl rfl ?_
    refine W_assign rfl rfl ?_
    refine W_assign rfl rfl ?_
    refine W_nil ?_
    refine W_ret2m (H2 := (bf, .cells 130 90 (vaRow V)) :: H) Tryd.results36 rfl rfl (.nil _) (by repeat (first | with_reducible exact HSub.refl _ | refine HSub.cons (by repeat (first | exact Take.here _ | apply Take.next | apply Take.app)) ?_ | refine HSub.app (by repeat (first | with_reducible exact TakeS.here _ | apply TakeS.next | apply TakeS.app)) ?_ | exact HSub.nil _ | exact HSub.refl _ | refine HSub.drop ?_ | refine HSub.dropS ?_)) ?_
    unfold jumpV
    rw [if_pos c0]
    exact ⟨rfl, rfl⟩
  · simp only [cond_true, cond_false, Bool.and_eq_true, Bool.or_eq_true, Bool.and_eq_false_iff, Bool.or_eq_false_iff, decide_eq_true_eq, decide_eq_false_iff_not, Bool.not_eq_true', Bool.not_eq_false', ne_eq, Decidable.not_not] at c0
    refine W_skip ?_
    refine W_sr ?_
    refine W_move rfl rfl ?_
    refine W_loadB rfl ty44 rfl (by repeat (first | exact List.mem_cons_self | apply List.mem_cons_of_mem | apply List.mem_append_right)) rfl (by simp only [fillL, spliceL, Value.cells, List.take_zero, List.take_succ_cons, List.take_nil, List.drop_zero, List.drop_succ_cons, List.drop_nil, List.nil_append, List.cons_append, List.append_nil, List.length_cons, List.length_nil, Nat.zero_add, Nat.reduceAdd, List.toList_toArray]; rfl) rfl ?_
    refine W_call (.cons rfl (.cons rfl .nil)) Tryd.call74 rfl ((operands_L (H := (b3, .cells 44 5 [.int .i64 x.op, .int .i64 x.dst, .int .i64 x.src, .int .i64 x.off, .int .i64 x.imm]) :: H) hV (chk_in (by simpa using c0)).2.1 (chk_in (by simpa using c0)).2.2 hT).hsub (by repeat (first | with_reducible exact HSub.refl _ | refine HSub.cons (by repeat (first | exact Take.here _ | apply Take.next | apply Take.app)) ?_ | refine HSub.app (by repeat (first | with_reducible exact TakeS.here _ | apply TakeS.next | apply TakeS.app)) ?_ | exact HSub.nil _ | exact HSub.refl _ | refine HSub.drop ?_ | refine HSub.dropS ?_))) ?_
    rintro v H' ⟨rfl, rfl⟩
    refine W_move rfl rfl ?_
    refine W_extract rfl rfl rfl ?_
    refine W_extract rfl rfl rfl ?_
    refine W_alloc ty50 rfl rfl (fun b7 => ?_)
    refine W_alloc ty50 rfl rfl (fun b8 => ?_)
    refine W_storeA rfl rfl ty50 rfl rfl (b := b7) (by repeat (first | exact List.mem_cons_self | apply List.mem_cons_of_mem | apply List.mem_append_right)) (by decide) rfl (by repeat (first | exact Upd.head _ | apply Upd.tail | apply Upd.app)) ?_
    refine W_storeA rfl rfl ty50 rfl rfl (b := b8) (by repeat (first | exact List.mem_cons_self | apply List.mem_cons_of_mem | apply List.mem_append_right)) (by decide) rfl (by repeat (first | exact Upd.head _ | apply Upd.tail | apply Upd.app)) ?_
    refine W_nil ?_
    refine W_sr ?_
    refine W_fieldAddr rfl fld44_0 (by decide) rfl ?_
    refine W_load rfl ty3 rfl (Cell.own (by repeat (first | exact List.mem_cons_self | apply List.mem_cons_of_mem | apply List.mem_append_right)) rfl) rfl ?_
    refine W_fieldAddr rfl fld50_3 (by decide) rfl ?_
    refine W_load rfl ty22 rfl (Cell.own (by repeat (first | exact List.mem_cons_self | apply List.mem_cons_of_mem | apply List.mem_append_right)) rfl) rfl ?_
    refine W_fieldAddr rfl fld50_3 (by decide) rfl ?_
    refine W_load rfl ty22 rfl (Cell.own (by repeat (first | exact List.mem_cons_self | apply List.mem_cons_of_mem | apply List.mem_append_right)) rfl) rfl ?_
    refine W_callp (.cons rfl (.cons rfl (.cons rfl .nil))) Tryd.call75 rfl hT (v := .tuple #[.bool (jumpV V x).1, .int .i64 (jumpV V x).2]) (by rw [← jumpV_eq (by simpa using c0)]; exact jumps_pure x.op _ _ hop.1 hop.2 (othr_n hW)) ?_
    refine W_extract rfl rfl rfl ?_
    refine W_extract rfl rfl rfl ?_
    refine W_assign rfl rfl ?_
    refine W_assign rfl rfl ?_
    refine W_nil ?_
    refine W_ret2m (H2 := (bf, .cells 130 90 (vaRow V)) :: H) Tryd.results36 rfl rfl (.nil _) (by repeat (first | with_reducible exact HSub.refl _ | refine HSub.cons (by repeat (first | exact Take.here _ | apply Take.next | apply Take.app)) ?_ | refine HSub.app (by repeat (first | with_reducible exact TakeS.here _ | apply TakeS.next | apply TakeS.app)) ?_ | exact HSub.nil _ | exact HSub.refl _ | refine HSub.drop ?_ | refine HSub.dropS ?_)) ?_
    exact ⟨rfl, rfl⟩
end Go.Proofs.YtkhkagjbeilbgaaDoor

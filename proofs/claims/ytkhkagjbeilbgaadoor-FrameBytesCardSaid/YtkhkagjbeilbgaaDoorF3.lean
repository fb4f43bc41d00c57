/-
  Own work: contracts of functions that the statement reaches, and plain facts on what they compute; each theorem says its conditions.
-/
import Derived.Test.YtkhkagjbeilbgaaDoorF2
set_option linter.all false
set_option linter.unusedSimpArgs false
set_option linter.unusedVariables false
namespace Go.Proofs.YtkhkagjbeilbgaaDoor
open Go Go.Sl
attribute [local irreducible] W
set_option maxHeartbeats 1000000 in
theorem Reg_L {w0 : World} {H : Heap} {bf : Nat} {V : List Va} {at_ : Int} (hV : V.length = 18)  : LCalls Tryd.prog w0 23 #[.pointer (some ⟨bf, 0, none⟩), .int .i64 at_] ((bf, .cells 130 90 (vaRow V)) :: H) (fun v H' => v = .tuple #[.agg (vaC (rdV V false at_).1).toArray, .int .i64 (rdV V false at_).2] ∧ H' = (bf, .cells 130 90 (vaRow V)) :: H) := by
  refine L_enter (l := [.pointer (some ⟨bf, 0, none⟩), .int .i64 at_]) Tryd.func23 rfl Tryd.ntmps23 rfl rfl ?_
  refine W_sr ?_
  refine W_alloc ty50 rfl rfl (fun b4 => ?_)
  refine W_assign rfl rfl ?_
  refine W_nil ?_
  refine W_sr ?_
  refine W_move rfl rfl ?_
  refine W_move rfl rfl ?_
  refine W_call (.cons rfl (.cons rfl (.cons rfl .nil))) Tryd.call68 rfl ((get_L (H := (b4, .cells 50 5 (vaC zeroV)) :: H) (V := V) (s := false) (at_ := at_) hV).hsub (by repeat (first | with_reducible exact HSub.refl _ | refine HSub.cons (by repeat (first | exact Take.here _ | apply Take.next | apply Take.app)) ?_ | refine HSub.app (by repeat (first | with_reducible exact TakeS.here _ | apply TakeS.next | apply TakeS.app)) ?_ | exact HSub.nil _ | exact HSub.refl _ | refine HSub.drop ?_ | refine HSub.dropS ?_))) ?_
  rintro v H' ⟨rfl, rfl⟩
  refine W_extract rfl rfl rfl ?_
  refine W_extract rfl rfl rfl ?_
  refine W_storeA rfl rfl ty50 rfl rfl (b := b4) (by repeat (first | exact List.mem_cons_self | apply List.mem_cons_of_mem | apply List.mem_append_right)) (by decide) rfl (by repeat (first | exact Upd.head _ | apply Upd.tail | apply Upd.app)) ?_
  refine W_assign rfl rfl ?_
  refine W_nil ?_
  refine W_ret2G (H2 := (bf, .cells 130 90 (vaRow V)) :: H) Tryd.results23 (.nil _) (.own rfl ty50 rfl (by repeat (first | exact List.mem_cons_self | apply List.mem_cons_of_mem | apply List.mem_append_right)) rfl) (.tmp rfl) (by repeat (first | with_reducible exact HSub.refl _ | refine HSub.cons (by repeat (first | exact Take.here _ | apply Take.next | apply Take.app)) ?_ | refine HSub.app (by repeat (first | with_reducible exact TakeS.here _ | apply TakeS.next | apply TakeS.app)) ?_ | exact HSub.nil _ | exact HSub.refl _ | refine HSub.drop ?_ | refine HSub.dropS ?_)) ?_
  exact ⟨rfl, rfl⟩
set_option maxHeartbeats 1000000 in
theorem Reg_nil (at_ : Int) : Pure Tryd.prog (fun _ => True) 23 [.pointer none, .int .i64 at_] (.tuple #[.agg (vaC zeroV).toArray, .int .i64 6]) := by
  intro w0 H hT
  refine L_enter Tryd.func23 rfl Tryd.ntmps23 rfl rfl ?_
  refine W_sr ?_
  refine W_alloc ty50 rfl rfl (fun b4 => ?_)
  refine W_assign rfl rfl ?_
  refine W_nil ?_
  refine W_sr ?_
  refine W_move rfl rfl ?_
  refine W_move rfl rfl ?_
  refine W_callp (.cons rfl (.cons rfl (.cons rfl .nil))) Tryd.call68 rfl (T := fun _ => True) trivial (get_nil false at_) ?_
  refine W_extract rfl rfl rfl ?_
  refine W_extract rfl rfl rfl ?_
  refine W_storeA rfl rfl ty50 rfl rfl (b := b4) (by repeat (first | exact List.mem_cons_self | apply List.mem_cons_of_mem | apply List.mem_append_right)) (by decide) rfl (by repeat (first | exact Upd.head _ | apply Upd.tail | apply Upd.app)) ?_
  refine W_assign rfl rfl ?_
  refine W_nil ?_
  refine W_ret2G (H2 := H) Tryd.results23 (.nil _) (.own rfl ty50 rfl (by repeat (first | exact List.mem_cons_self | apply List.mem_cons_of_mem | apply List.mem_append_right)) rfl) (.tmp rfl) (by repeat (first | with_reducible exact HSub.refl _ | refine HSub.cons (by repeat (first | exact Take.here _ | apply Take.next | apply Take.app)) ?_ | refine HSub.app (by repeat (first | with_reducible exact TakeS.here _ | apply TakeS.next | apply TakeS.app)) ?_ | exact HSub.nil _ | exact HSub.refl _ | refine HSub.drop ?_ | refine HSub.dropS ?_)) ?_
  exact ⟨rfl, rfl⟩
set_option maxHeartbeats 1000000 in
theorem Word_L {w0 : World} {H : Heap} {bf : Nat} {V : List Va} {at_ : Int} (hV : V.length = 18)  : LCalls Tryd.prog w0 24 #[.pointer (some ⟨bf, 0, none⟩), .int .i64 at_] ((bf, .cells 130 90 (vaRow V)) :: H) (fun v H' => v = .tuple #[.agg (vaC (rdV V true at_).1).toArray, .int .i64 (rdV V true at_).2] ∧ H' = (bf, .cells 130 90 (vaRow V)) :: H) := by
  refine L_enter (l := [.pointer (some ⟨bf, 0, none⟩), .int .i64 at_]) Tryd.func24 rfl Tryd.ntmps24 rfl rfl ?_
  refine W_sr ?_
  refine W_alloc ty50 rfl rfl (fun b4 => ?_)
  refine W_assign rfl rfl ?_
  refine W_nil ?_
  refine W_sr ?_
  refine W_move rfl rfl ?_
  refine W_move rfl rfl ?_
  refine W_call (.cons rfl (.cons rfl (.cons rfl .nil))) Tryd.call68 rfl ((get_L (H := (b4, .cells 50 5 (vaC zeroV)) :: H) (V := V) (s := true) (at_ := at_) hV).hsub (by repeat (first | with_reducible exact HSub.refl _ | refine HSub.cons (by repeat (first | exact Take.here _ | apply Take.next | apply Take.app)) ?_ | refine HSub.app (by repeat (first | with_reducible exact TakeS.here _ | apply TakeS.next | apply TakeS.app)) ?_ | exact HSub.nil _ | exact HSub.refl _ | refine HSub.drop ?_ | refine HSub.dropS ?_))) ?_
  rintro v H' ⟨rfl, rfl⟩
  refine W_extract rfl rfl rfl ?_
  refine W_extract rfl rfl rfl ?_
  refine W_storeA rfl rfl ty50 rfl rfl (b := b4) (by repeat (first | exact List.mem_cons_self | apply List.mem_cons_of_mem | apply List.mem_append_right)) (by decide) rfl (by repeat (first | exact Upd.head _ | apply Upd.tail | apply Upd.app)) ?_
  refine W_assign rfl rfl ?_
  refine W_nil ?_
  refine W_ret2G (H2 := (bf, .cells 130 90 (vaRow V)) :: H) Tryd.results24 (.nil _) (.own rfl ty50 rfl (by repeat (first | exact List.mem_cons_self | apply List.mem_cons_of_mem | apply List.mem_append_right)) rfl) (.tmp rfl) (by repeat (first | with_reducible exact HSub.refl _ | refine HSub.cons (by repeat (first | exact Take.here _ | apply Take.next | apply Take.app)) ?_ | refine HSub.app (by repeat (first | with_reducible exact TakeS.here _ | apply TakeS.next | apply TakeS.app)) ?_ | exact HSub.nil _ | exact HSub.refl _ | refine HSub.drop ?_ | refine HSub.dropS ?_)) ?_
  exact ⟨rfl, rfl⟩
set_option maxHeartbeats 1000000 in
theorem Word_nil (at_ : Int) : Pure Tryd.prog (fun _ => True) 24 [.pointer none, .int .i64 at_] (.tuple #[.agg (vaC zeroV).toArray, .int .i64 6]) := by
  intro w0 H hT
  refine L_enter Tryd.func24 rfl Tryd.ntmps24 rfl rfl ?_
  refine W_sr ?_
  refine W_alloc ty50 rfl rfl (fun b4 => ?_)
  refine W_assign rfl rfl ?_
  refine W_nil ?_
  refine W_sr ?_
  refine W_move rfl rfl ?_
  refine W_move rfl rfl ?_
  refine W_callp (.cons rfl (.cons rfl (.cons rfl .nil))) Tryd.call68 rfl (T := fun _ => True) trivial (get_nil true at_) ?_
  refine W_extract rfl rfl rfl ?_
  refine W_extract rfl rfl rfl ?_
  refine W_storeA rfl rfl ty50 rfl rfl (b := b4) (by repeat (first | exact List.mem_cons_self | apply List.mem_cons_of_mem | apply List.mem_append_right)) (by decide) rfl (by repeat (first | exact Upd.head _ | apply Upd.tail | apply Upd.app)) ?_
  refine W_assign rfl rfl ?_
  refine W_nil ?_
  refine W_ret2G (H2 := H) Tryd.results24 (.nil _) (.own rfl ty50 rfl (by repeat (first | exact List.mem_cons_self | apply List.mem_cons_of_mem | apply List.mem_append_right)) rfl) (.tmp rfl) (by repeat (first | with_reducible exact HSub.refl _ | refine HSub.cons (by repeat (first | exact Take.here _ | apply Take.next | apply Take.app)) ?_ | refine HSub.app (by repeat (first | with_reducible exact TakeS.here _ | apply TakeS.next | apply TakeS.app)) ?_ | exact HSub.nil _ | exact HSub.refl _ | refine HSub.drop ?_ | refine HSub.dropS ?_)) ?_
  exact ⟨rfl, rfl⟩
set_option maxHeartbeats 1000000 in
theorem SetReg_L {w0 : World} {H : Heap} {bf : Nat} {V : List Va} {at_ : Int} {x : Va} (hV : V.length = 18)  : LCalls Tryd.prog w0 29 #[.pointer (some ⟨bf, 0, none⟩), .int .i64 at_, .agg (vaC x).toArray] ((bf, .cells 130 90 (vaRow V)) :: H) (fun v H' => v = .int .i64 (wrV V false at_ x).2 ∧ H' = (bf, .cells 130 90 (vaRow (wrV V false at_ x).1)) :: H) := by
  refine L_enter (l := [.pointer (some ⟨bf, 0, none⟩), .int .i64 at_, .agg (vaC x).toArray]) Tryd.func29 rfl Tryd.ntmps29 rfl rfl ?_
  refine W_sr ?_
  refine W_box rfl rfl rfl (fun b5 => ?_)
  refine W_assign rfl rfl ?_
  refine W_nil ?_
  refine W_sr ?_
  refine W_move rfl rfl ?_
  refine W_move rfl rfl ?_
  refine W_loadB (vs := vaC x) rfl ty50 rfl (by repeat (first | exact List.mem_cons_self | apply List.mem_cons_of_mem | apply List.mem_append_right)) rfl rfl rfl ?_
  refine W_call (.cons rfl (.cons rfl (.cons rfl (.cons rfl .nil)))) Tryd.call70 rfl ((set_L (H := (b5, .cells 50 5 (vaC x)) :: H) (s := false) (at_ := at_) (x := x) hV).hsub (by repeat (first | with_reducible exact HSub.refl _ | refine HSub.cons (by repeat (first | exact Take.here _ | apply Take.next | apply Take.app)) ?_ | refine HSub.app (by repeat (first | with_reducible exact TakeS.here _ | apply TakeS.next | apply TakeS.app)) ?_ | exact HSub.nil _ | exact HSub.refl _ | refine HSub.drop ?_ | refine HSub.dropS ?_))) ?_
  rintro v H' ⟨rfl, rfl⟩
  refine W_assign rfl rfl ?_
  refine W_nil ?_
  refine W_ret1m (H2 := (bf, .cells 130 90 (vaRow (wrV V false at_ x).1)) :: H) Tryd.results29 rfl (.nil _) (by repeat (first | with_reducible exact HSub.refl _ | refine HSub.cons (by repeat (first | exact Take.here _ | apply Take.next | apply Take.app)) ?_ | refine HSub.app (by repeat (first | with_reducible exact TakeS.here _ | apply TakeS.next | apply TakeS.app)) ?_ | exact HSub.nil _ | exact HSub.refl _ | refine HSub.drop ?_ | refine HSub.dropS ?_)) ?_
  exact ⟨rfl, rfl⟩
set_option maxHeartbeats 1000000 in
theorem SetReg_nil (at_ : Int) (x : Va) : Pure Tryd.prog (fun _ => True) 29 [.pointer none, .int .i64 at_, .agg (vaC x).toArray] (.int .i64 6) := by
  intro w0 H hT
  refine L_enter Tryd.func29 rfl Tryd.ntmps29 rfl rfl ?_
  refine W_sr ?_
  refine W_box rfl rfl rfl (fun b5 => ?_)
  refine W_assign rfl rfl ?_
  refine W_nil ?_
  refine W_sr ?_
  refine W_move rfl rfl ?_
  refine W_move rfl rfl ?_
  refine W_loadB (vs := vaC x) rfl ty50 rfl (by repeat (first | exact List.mem_cons_self | apply List.mem_cons_of_mem | apply List.mem_append_right)) rfl rfl rfl ?_
  refine W_callp (.cons rfl (.cons rfl (.cons rfl (.cons rfl .nil)))) Tryd.call70 rfl (T := fun _ => True) trivial (set_nil false at_ x) ?_
  refine W_assign rfl rfl ?_
  refine W_nil ?_
  refine W_ret1m (H2 := H) Tryd.results29 rfl (.nil _) (by repeat (first | with_reducible exact HSub.refl _ | refine HSub.cons (by repeat (first | exact Take.here _ | apply Take.next | apply Take.app)) ?_ | refine HSub.app (by repeat (first | with_reducible exact TakeS.here _ | apply TakeS.next | apply TakeS.app)) ?_ | exact HSub.nil _ | exact HSub.refl _ | refine HSub.drop ?_ | refine HSub.dropS ?_)) ?_
  exact ⟨rfl, rfl⟩
set_option maxHeartbeats 1000000 in
theorem SetWord_L {w0 : World} {H : Heap} {bf : Nat} {V : List Va} {at_ : Int} {x : Va} (hV : V.length = 18)  : LCalls Tryd.prog w0 28 #[.pointer (some ⟨bf, 0, none⟩), .int .i64 at_, .agg (vaC x).toArray] ((bf, .cells 130 90 (vaRow V)) :: H) (fun v H' => v = .int .i64 (wrV V true at_ x).2 ∧ H' = (bf, .cells 130 90 (vaRow (wrV V true at_ x).1)) :: H) := by
  refine L_enter (l := [.pointer (some ⟨bf, 0, none⟩), .int .i64 at_, .agg (vaC x).toArray]) Tryd.func28 rfl Tryd.ntmps28 rfl rfl ?_
  refine W_sr ?_
  refine W_box rfl rfl rfl (fun b5 => ?_)
  refine W_assign rfl rfl ?_
  refine W_nil ?_
  refine W_sr ?_
  refine W_move rfl rfl ?_
  refine W_move rfl rfl ?_
  refine W_loadB (vs := vaC x) rfl ty50 rfl (by repeat (first | exact List.mem_cons_self | apply List.mem_cons_of_mem | apply List.mem_append_right)) rfl rfl rfl ?_
  refine W_call (.cons rfl (.cons rfl (.cons rfl (.cons rfl .nil)))) Tryd.call70 rfl ((set_L (H := (b5, .cells 50 5 (vaC x)) :: H) (s := true) (at_ := at_) (x := x) hV).hsub (by repeat (first | with_reducible exact HSub.refl _ | refine HSub.cons (by repeat (first | exact Take.here _ | apply Take.next | apply Take.app)) ?_ | refine HSub.app (by repeat (first | with_reducible exact TakeS.here _ | apply TakeS.next | apply TakeS.app)) ?_ | exact HSub.nil _ | exact HSub.refl _ | refine HSub.drop ?_ | refine HSub.dropS ?_))) ?_
  rintro v H' ⟨rfl, rfl⟩
  refine W_assign rfl rfl ?_
  refine W_nil ?_
  refine W_ret1m (H2 := (bf, .cells 130 90 (vaRow (wrV V true at_ x).1)) :: H) Tryd.results28 rfl (.nil _) (by repeat (first | with_reducible exact HSub.refl _ | refine HSub.cons (by repeat (first | exact Take.here _ | apply Take.next | apply Take.app)) ?_ | refine HSub.app (by repeat (first | with_reducible exact TakeS.here _ | apply TakeS.next | apply TakeS.app)) ?_ | exact HSub.nil _ | exact HSub.refl _ | refine HSub.drop ?_ | refine HSub.dropS ?_)) ?_
  exact ⟨rfl, rfl⟩
set_option maxHeartbeats 1000000 in
theorem SetWord_nil (at_ : Int) (x : Va) : Pure Tryd.prog (fun _ => True) 28 [.pointer none, .int .i64 at_, .agg (vaC x).toArray] (.int .i64 6) := by
  intro w0 H hT
  refine L_enter Tryd.func28 rfl Tryd.ntmps28 rfl rfl ?_
  refine W_sr ?_
  refine W_box rfl rfl rfl (fun b5 => ?_)
  refine W_assign rfl rfl ?_
  refine W_nil ?_
  refine W_sr ?_
  refine W_move rfl rfl ?_
  refine W_move rfl rfl ?_
  refine W_loadB (vs := vaC x) rfl ty50 rfl (by repeat (first | exact List.mem_cons_self | apply List.mem_cons_of_mem | apply List.mem_append_right)) rfl rfl rfl ?_
  refine W_callp (.cons rfl (.cons rfl (.cons rfl (.cons rfl .nil)))) Tryd.call70 rfl (T := fun _ => True) trivial (set_nil true at_ x) ?_
  refine W_assign rfl rfl ?_
  refine W_nil ?_
  refine W_ret1m (H2 := H) Tryd.results28 rfl (.nil _) (by repeat (first | with_reducible exact HSub.refl _ | refine HSub.cons (by repeat (first | exact Take.here _ | apply Take.next | apply Take.app)) ?_ | refine HSub.app (by repeat (first | with_reducible exact TakeS.here _ | apply TakeS.next | apply TakeS.app)) ?_ | exact HSub.nil _ | exact HSub.refl _ | refine HSub.drop ?_ | refine HSub.dropS ?_)) ?_
  exact ⟨rfl, rfl⟩
set_option maxHeartbeats 1000000 in
theorem Num_pure (n : Int) : Pure Tryd.prog (fun _ => True) 27 [.int .u64 n] (.agg (vaC ⟨false, 0, 0, 0, n⟩).toArray) := by
  intro w0 H hT
  refine L_enter Tryd.func27 rfl Tryd.ntmps27 rfl rfl ?_
  refine W_sr ?_
  refine W_alloc ty50 rfl rfl (fun b2 => ?_)
  refine W_nil ?_
  refine W_sr ?_
  refine W_move rfl rfl ?_
  refine W_build ty50 pl50 (.cons rfl rfl rfl rfl rfl .nil) rfl (by simp only [fillL, spliceL, Value.cells, List.take_zero, List.take_succ_cons, List.take_nil, List.drop_zero, List.drop_succ_cons, List.drop_nil, List.nil_append, List.cons_append, List.append_nil, List.length_cons, List.length_nil, Nat.zero_add, Nat.reduceAdd, List.toList_toArray]; rfl) rfl ?_
  refine W_storeA rfl rfl ty50 rfl rfl (by repeat (first | exact List.mem_cons_self | apply List.mem_cons_of_mem | apply List.mem_append_right)) (Nat.le_of_ble_eq_true rfl) (by simp only [fillL, spliceL, Value.cells, List.take_zero, List.take_succ_cons, List.take_nil, List.drop_zero, List.drop_succ_cons, List.drop_nil, List.nil_append, List.cons_append, List.append_nil, List.length_cons, List.length_nil, Nat.zero_add, Nat.reduceAdd, List.toList_toArray]; rfl) (by repeat (first | exact Upd.head _ | apply Upd.tail | apply Upd.app)) ?_
  refine W_nil ?_
  refine W_ret1cO (H2 := H) Tryd.results27 rfl (.nil _) ty50 rfl (by repeat (first | exact List.mem_cons_self | apply List.mem_cons_of_mem | apply List.mem_append_right)) rfl (by repeat (first | with_reducible exact HSub.refl _ | refine HSub.cons (by repeat (first | exact Take.here _ | apply Take.next | apply Take.app)) ?_ | refine HSub.app (by repeat (first | with_reducible exact TakeS.here _ | apply TakeS.next | apply TakeS.app)) ?_ | exact HSub.nil _ | exact HSub.refl _ | refine HSub.drop ?_ | refine HSub.dropS ?_)) ?_
  exact ⟨rfl, rfl⟩
set_option maxHeartbeats 1000000 in
theorem RefTo_pure (m s g : Int) : Pure Tryd.prog (fun _ => True) 69 [.int .i64 m, .agg #[.int .i64 s, .int .i64 g]] (.agg (vaC ⟨true, m, s, g, 1⟩).toArray) := by
  intro w0 H hT
  refine L_enter Tryd.func69 rfl Tryd.ntmps69 rfl rfl ?_
  refine W_sr ?_
  refine W_box rfl rfl rfl (fun b3 => ?_)
  refine W_alloc ty50 rfl rfl (fun b4 => ?_)
  refine W_nil ?_
  refine W_sr ?_
  refine W_move rfl rfl ?_
  refine W_loadB rfl ty48 rfl (by repeat (first | exact List.mem_cons_self | apply List.mem_cons_of_mem | apply List.mem_append_right)) rfl (by simp only [fillL, spliceL, Value.cells, List.take_zero, List.take_succ_cons, List.take_nil, List.drop_zero, List.drop_succ_cons, List.drop_nil, List.nil_append, List.cons_append, List.append_nil, List.length_cons, List.length_nil, Nat.zero_add, Nat.reduceAdd, List.toList_toArray]; rfl) rfl ?_
  refine W_build ty50 pl50 (.cons rfl rfl rfl rfl rfl (.cons rfl rfl rfl rfl rfl (.cons rfl rfl rfl rfl rfl (.cons rfl rfl rfl rfl rfl .nil)))) rfl (by simp only [fillL, spliceL, Value.cells, List.take_zero, List.take_succ_cons, List.take_nil, List.drop_zero, List.drop_succ_cons, List.drop_nil, List.nil_append, List.cons_append, List.append_nil, List.length_cons, List.length_nil, Nat.zero_add, Nat.reduceAdd, List.toList_toArray]; rfl) rfl ?_
  refine W_storeA rfl rfl ty50 rfl rfl (by repeat (first | exact List.mem_cons_self | apply List.mem_cons_of_mem | apply List.mem_append_right)) (Nat.le_of_ble_eq_true rfl) (by simp only [fillL, spliceL, Value.cells, List.take_zero, List.take_succ_cons, List.take_nil, List.drop_zero, List.drop_succ_cons, List.drop_nil, List.nil_append, List.cons_append, List.append_nil, List.length_cons, List.length_nil, Nat.zero_add, Nat.reduceAdd, List.toList_toArray]; rfl) (by repeat (first | exact Upd.head _ | apply Upd.tail | apply Upd.app)) ?_
  refine W_nil ?_
  refine W_ret1cO (H2 := H) Tryd.results69 rfl (.nil _) ty50 rfl (by repeat (first | exact List.mem_cons_self | apply List.mem_cons_of_mem | apply List.mem_append_right)) rfl (by repeat (first | with_reducible exact HSub.refl _ | refine HSub.cons (by repeat (first | exact Take.here _ | apply Take.next | apply Take.app)) ?_ | refine HSub.app (by repeat (first | with_reducible exact TakeS.here _ | apply TakeS.next | apply TakeS.app)) ?_ | exact HSub.nil _ | exact HSub.refl _ | refine HSub.drop ?_ | refine HSub.dropS ?_)) ?_
  exact ⟨rfl, rfl⟩
end Go.Proofs.YtkhkagjbeilbgaaDoor

/-
  Own work: contracts of functions that the statement reaches, and plain facts on what they compute; each theorem says its conditions.
-/
import Derived.Test.YtkhkagjbeilbgaaDoorF1
set_option linter.all false
set_option linter.unusedSimpArgs false
set_option linter.unusedVariables false
namespace Go.Proofs.YtkhkagjbeilbgaaDoor
open Go Go.Sl
attribute [local irreducible] W

def baseS (s : Bool) : Nat := if s then 10 else 0
def lenS (s : Bool) : Nat := if s then 8 else 10
/-- what reading a register or a word of the stack gives -/
def rdV (V : List Va) (s : Bool) (at_ : Int) : Va × Int := if at_ < 0 ∨ (lenS s : Int) ≤ at_ then (zeroV, 2) else (V.getD (baseS s + at_.toNat) zeroV, 0)
/-- what writing one does -/
def wrV (V : List Va) (s : Bool) (at_ : Int) (x : Va) : List Va × Int := if at_ < 0 ∨ (lenS s : Int) ≤ at_ then (V, 2) else (V.set (baseS s + at_.toNat) x, 0)
theorem wrV_len {V : List Va} {s : Bool} {at_ : Int} {x : Va} : (wrV V s at_ x).1.length = V.length := by
  unfold wrV; split <;> simp
theorem base_len (s : Bool) : baseS s + lenS s ≤ 18 := by cases s <;> decide
theorem all_p (bf : Nat) (s : Bool) : Pure Tryd.prog (fun _ => True) 97 [.pointer (some ⟨bf, 0, none⟩), .bool s] (.tuple #[.slice (some ⟨bf, baseS s * 5, none⟩) (lenS s) (lenS s), .int .i64 0]) := by
  have h := all_pure bf s
  cases s <;> exact h
theorem in_get2 {w0 : World} {H : Heap} {bf bo : Nat} {V : List Va} {s : Bool} {at_ : Int} (hV : V.length = 18) : LCalls Tryd.prog w0 98 #[.slice (some ⟨bf, baseS s * 5, none⟩) (lenS s) (lenS s), .int .i64 at_, .func (.func 99) #[] #[.pointer (some ⟨bo, 0, none⟩)]] ((bo, .cells 50 5 (vaC zeroV)) :: (bf, .cells 130 90 (vaRow V)) :: H) (fun v H' => v = .int .i64 (rdV V s at_).2 ∧ H' = (bo, .cells 50 5 (vaC (rdV V s at_).1)) :: (bf, .cells 130 90 (vaRow V)) :: H) := by
  have h := in_get (w0 := w0) (H := H) (bf := bf) (bo := bo) (base := baseS s) (len := lenS s) (cap := lenS s) (V := V) (y := zeroV) (at_ := at_) (f := fun j => V.getD (baseS s + j) zeroV) (fun j hj => by
    have := base_len s
    rw [List.getD_eq_getElem?_getD, List.getElem?_eq_getElem (by omega)]; rfl) hV
  refine h.mono fun v H' hr => ?_
  rcases hr with ⟨hc, rfl, rfl⟩ | ⟨j, rfl, hj, rfl, rfl⟩
  · unfold rdV; rw [if_pos hc]; exact ⟨rfl, rfl⟩
  · unfold rdV; rw [if_neg (by omega), Int.toNat_natCast]; exact ⟨rfl, rfl⟩
theorem in_set2 {w0 : World} {H : Heap} {bf bx : Nat} {V : List Va} {s : Bool} {at_ : Int} {x : Va} (hV : V.length = 18) : LCalls Tryd.prog w0 98 #[.slice (some ⟨bf, baseS s * 5, none⟩) (lenS s) (lenS s), .int .i64 at_, .func (.func 100) #[] #[.pointer (some ⟨bx, 0, none⟩)]] ((bx, .cells 50 5 (vaC x)) :: (bf, .cells 130 90 (vaRow V)) :: H) (fun v H' => v = .int .i64 (wrV V s at_ x).2 ∧ H' = (bx, .cells 50 5 (vaC x)) :: (bf, .cells 130 90 (vaRow (wrV V s at_ x).1)) :: H) := by
  have h := in_set (w0 := w0) (H := H) (bf := bf) (bx := bx) (base := baseS s) (len := lenS s) (cap := lenS s) (V := V) (x := x) (at_ := at_) (by have := base_len s; omega) hV
  refine h.mono fun v H' hr => ?_
  rcases hr with ⟨hc, rfl, rfl⟩ | ⟨j, rfl, hj, rfl, rfl⟩
  · unfold wrV; rw [if_pos hc]; exact ⟨rfl, rfl⟩
  · unfold wrV; rw [if_neg (by omega), Int.toNat_natCast]; exact ⟨rfl, rfl⟩
set_option maxHeartbeats 1000000 in
theorem get_L {w0 : World} {H : Heap} {bf : Nat} {V : List Va} {s : Bool} {at_ : Int} (hV : V.length = 18)  : LCalls Tryd.prog w0 68 #[.pointer (some ⟨bf, 0, none⟩), .bool s, .int .i64 at_] ((bf, .cells 130 90 (vaRow V)) :: H) (fun v H' => v = .tuple #[.agg (vaC (rdV V s at_).1).toArray, .int .i64 (rdV V s at_).2] ∧ H' = (bf, .cells 130 90 (vaRow V)) :: H) := by
  refine L_enter (l := [.pointer (some ⟨bf, 0, none⟩), .bool s, .int .i64 at_]) Tryd.func68 rfl Tryd.ntmps68 rfl rfl ?_
  refine W_sr ?_
  refine W_alloc ty50 rfl rfl (fun b6 => ?_)
  refine W_assign rfl rfl ?_
  refine W_nil ?_
  refine W_sr ?_
  refine W_move rfl rfl ?_
  refine W_move rfl rfl ?_
  refine W_callp (.cons rfl (.cons rfl .nil)) Tryd.call97 rfl (T := fun _ => True) trivial (all_p bf s) ?_
  refine W_move rfl rfl ?_
  refine W_extract rfl rfl rfl ?_
  refine W_extract rfl rfl rfl ?_
  refine W_assign rfl rfl ?_
  refine W_assign rfl rfl ?_
  refine W_nil ?_
  refine W_seq ?_
  refine W_sr ?_
  refine W_move rfl rfl ?_
  refine W_bin rfl rfl b_neq rfl ?_
  refine W_nil ?_
  refine W_condF rfl rfl ?_
  refine W_skip ?_
  refine W_sr ?_
  refine W_alloc ty50 rfl rfl (fun b10 => ?_)
  refine W_nil ?_
  refine W_sr ?_
  refine W_move rfl rfl ?_
  refine W_move rfl rfl ?_
  refine W_makeFunc .nil (.cons rfl .nil) rfl ?_
  refine W_call (.cons rfl (.cons rfl (.cons rfl .nil))) Tryd.call98 rfl ((in_get2 (H := (b6, .cells 50 5 (vaC zeroV)) :: H) (s := s) (at_ := at_) (bo := b10) (bf := bf) hV).hsub (by repeat (first | with_reducible exact HSub.refl _ | refine HSub.cons (by repeat (first | exact Take.here _ | apply Take.next | apply Take.app)) ?_ | refine HSub.app (by repeat (first | with_reducible exact TakeS.here _ | apply TakeS.next | apply TakeS.app)) ?_ | exact HSub.nil _ | exact HSub.refl _ | refine HSub.drop ?_ | refine HSub.dropS ?_))) ?_
  rintro v H' ⟨rfl, rfl⟩
  refine W_assign rfl rfl ?_
  refine W_nil ?_
  refine W_sr ?_
  refine W_loadB (vs := vaC (rdV V s at_).1) rfl ty50 rfl (by repeat (first | exact List.mem_cons_self | apply List.mem_cons_of_mem | apply List.mem_append_right)) rfl rfl rfl ?_
  refine W_move rfl rfl ?_
  refine W_storeA rfl rfl ty50 rfl rfl (b := b6) (by repeat (first | exact List.mem_cons_self | apply List.mem_cons_of_mem | apply List.mem_append_right)) (by decide) rfl (by repeat (first | exact Upd.head _ | apply Upd.tail | apply Upd.app)) ?_
  refine W_assign rfl rfl ?_
  refine W_nil ?_
  refine W_ret2G (H2 := (bf, .cells 130 90 (vaRow V)) :: H) Tryd.results68 (.nil _) (.own rfl ty50 rfl (by repeat (first | exact List.mem_cons_self | apply List.mem_cons_of_mem | apply List.mem_append_right)) rfl) (.tmp rfl) (by repeat (first | with_reducible exact HSub.refl _ | refine HSub.cons (by repeat (first | exact Take.here _ | apply Take.next | apply Take.app)) ?_ | refine HSub.app (by repeat (first | with_reducible exact TakeS.here _ | apply TakeS.next | apply TakeS.app)) ?_ | exact HSub.nil _ | exact HSub.refl _ | refine HSub.drop ?_ | refine HSub.dropS ?_)) ?_
  exact ⟨rfl, rfl⟩
set_option maxHeartbeats 1000000 in
theorem get_nil (s : Bool) (at_ : Int) : Pure Tryd.prog (fun _ => True) 68 [.pointer none, .bool s, .int .i64 at_] (.tuple #[.agg (vaC zeroV).toArray, .int .i64 6]) := by
  intro w0 H hT
  refine L_enter Tryd.func68 rfl Tryd.ntmps68 rfl rfl ?_
  refine W_sr ?_
  refine W_alloc ty50 rfl rfl (fun b6 => ?_)
  refine W_assign rfl rfl ?_
  refine W_nil ?_
  refine W_sr ?_
  refine W_move rfl rfl ?_
  refine W_move rfl rfl ?_
  refine W_callp (.cons rfl (.cons rfl .nil)) Tryd.call97 rfl (T := fun _ => True) trivial (all_nil s) ?_
  refine W_move rfl rfl ?_
  refine W_extract rfl rfl rfl ?_
  refine W_extract rfl rfl rfl ?_
  refine W_assign rfl rfl ?_
  refine W_assign rfl rfl ?_
  refine W_nil ?_
  refine W_seq ?_
  refine W_sr ?_
  refine W_move rfl rfl ?_
  refine W_bin rfl rfl b_neq rfl ?_
  refine W_nil ?_
  refine W_condT rfl rfl ?_
  refine W_sr ?_
  refine W_build ty50 pl50 .nil rfl (by simp only [fillL, spliceL, Value.cells, List.take_zero, List.take_succ_cons, List.take_nil, List.drop_zero, List.drop_succ_cons, List.drop_nil, List.nil_append, List.cons_append, List.append_nil, List.length_cons, List.length_nil, Nat.zero_add, Nat.reduceAdd, List.toList_toArray]; rfl) rfl ?_
  refine W_move rfl rfl ?_
  refine W_storeA rfl rfl ty50 rfl rfl (by repeat (first | exact List.mem_cons_self | apply List.mem_cons_of_mem | apply List.mem_append_right)) (Nat.le_of_ble_eq_true rfl) (by simp only [fillL, spliceL, Value.cells, List.take_zero, List.take_succ_cons, List.take_nil, List.drop_zero, List.drop_succ_cons, List.drop_nil, List.nil_append, List.cons_append, List.append_nil, List.length_cons, List.length_nil, Nat.zero_add, Nat.reduceAdd, List.toList_toArray]; rfl) (by repeat (first | exact Upd.head _ | apply Upd.tail | apply Upd.app)) ?_
  refine W_assign rfl rfl ?_
  refine W_nil ?_
  refine W_ret2G (H2 := H) Tryd.results68 (.nil _) (.own rfl ty50 rfl (by repeat (first | exact List.mem_cons_self | apply List.mem_cons_of_mem | apply List.mem_append_right)) rfl) (.tmp rfl) (by repeat (first | with_reducible exact HSub.refl _ | refine HSub.cons (by repeat (first | exact Take.here _ | apply Take.next | apply Take.app)) ?_ | refine HSub.app (by repeat (first | with_reducible exact TakeS.here _ | apply TakeS.next | apply TakeS.app)) ?_ | exact HSub.nil _ | exact HSub.refl _ | refine HSub.drop ?_ | refine HSub.dropS ?_)) ?_
  exact ⟨rfl, rfl⟩
set_option maxHeartbeats 1000000 in
theorem set_L {w0 : World} {H : Heap} {bf : Nat} {V : List Va} {s : Bool} {at_ : Int} {x : Va} (hV : V.length = 18)  : LCalls Tryd.prog w0 70 #[.pointer (some ⟨bf, 0, none⟩), .bool s, .int .i64 at_, .agg (vaC x).toArray] ((bf, .cells 130 90 (vaRow V)) :: H) (fun v H' => v = .int .i64 (wrV V s at_ x).2 ∧ H' = (bf, .cells 130 90 (vaRow (wrV V s at_ x).1)) :: H) := by
  refine L_enter (l := [.pointer (some ⟨bf, 0, none⟩), .bool s, .int .i64 at_, .agg (vaC x).toArray]) Tryd.func70 rfl Tryd.ntmps70 rfl rfl ?_
  refine W_sr ?_
  refine W_box rfl rfl rfl (fun b7 => ?_)
  refine W_assign rfl rfl ?_
  refine W_nil ?_
  refine W_sr ?_
  refine W_move rfl rfl ?_
  refine W_move rfl rfl ?_
  refine W_callp (.cons rfl (.cons rfl .nil)) Tryd.call97 rfl (T := fun _ => True) trivial (all_p bf s) ?_
  refine W_move rfl rfl ?_
  refine W_extract rfl rfl rfl ?_
  refine W_extract rfl rfl rfl ?_
  refine W_assign rfl rfl ?_
  refine W_assign rfl rfl ?_
  refine W_nil ?_
  refine W_seq ?_
  refine W_sr ?_
  refine W_move rfl rfl ?_
  refine W_bin rfl rfl b_neq rfl ?_
  refine W_nil ?_
  refine W_condF rfl rfl ?_
  refine W_skip ?_
  refine W_sr ?_
  refine W_move rfl rfl ?_
  refine W_move rfl rfl ?_
  refine W_makeFunc .nil (.cons rfl .nil) rfl ?_
  refine W_call (.cons rfl (.cons rfl (.cons rfl .nil))) Tryd.call98 rfl ((in_set2 (s := s) (at_ := at_) (bx := b7) (bf := bf) (x := x) hV).hsub (by repeat (first | with_reducible exact HSub.refl _ | refine HSub.cons (by repeat (first | exact Take.here _ | apply Take.next | apply Take.app)) ?_ | refine HSub.app (by repeat (first | with_reducible exact TakeS.here _ | apply TakeS.next | apply TakeS.app)) ?_ | exact HSub.nil _ | exact HSub.refl _ | refine HSub.drop ?_ | refine HSub.dropS ?_))) ?_
  rintro v H' ⟨rfl, rfl⟩
  refine W_assign rfl rfl ?_
  refine W_nil ?_
  refine W_ret1m (H2 := (bf, .cells 130 90 (vaRow (wrV V s at_ x).1)) :: H) Tryd.results70 rfl (.nil _) (by repeat (first | with_reducible exact HSub.refl _ | refine HSub.cons (by repeat (first | exact Take.here _ | apply Take.next | apply Take.app)) ?_ | refine HSub.app (by repeat (first | with_reducible exact TakeS.here _ | apply TakeS.next | apply TakeS.app)) ?_ | exact HSub.nil _ | exact HSub.refl _ | refine HSub.drop ?_ | refine HSub.dropS ?_)) ?_
  exact ⟨rfl, rfl⟩
set_option maxHeartbeats 1000000 in
theorem set_nil (s : Bool) (at_ : Int) (x : Va) : Pure Tryd.prog (fun _ => True) 70 [.pointer none, .bool s, .int .i64 at_, .agg (vaC x).toArray] (.int .i64 6) := by
  intro w0 H hT
  refine L_enter Tryd.func70 rfl Tryd.ntmps70 rfl rfl ?_
  refine W_sr ?_
  refine W_box rfl rfl rfl (fun b7 => ?_)
  refine W_assign rfl rfl ?_
  refine W_nil ?_
  refine W_sr ?_
  refine W_move rfl rfl ?_
  refine W_move rfl rfl ?_
  refine W_callp (.cons rfl (.cons rfl .nil)) Tryd.call97 rfl (T := fun _ => True) trivial (all_nil s) ?_
  refine W_move rfl rfl ?_
  refine W_extract rfl rfl rfl ?_
  refine W_extract rfl rfl rfl ?_
  refine W_assign rfl rfl ?_
  refine W_assign rfl rfl ?_
  refine W_nil ?_
  refine W_seq ?_
  refine W_sr ?_
  refine W_move rfl rfl ?_
  refine W_bin rfl rfl b_neq rfl ?_
  refine W_nil ?_
  refine W_condT rfl rfl ?_
  refine W_sr ?_
  refine W_move rfl rfl ?_
  refine W_assign rfl rfl ?_
  refine W_nil ?_
  refine W_ret1m (H2 := H) Tryd.results70 rfl (.nil _) (by repeat (first | with_reducible exact HSub.refl _ | refine HSub.cons (by repeat (first | exact Take.here _ | apply Take.next | apply Take.app)) ?_ | refine HSub.app (by repeat (first | with_reducible exact TakeS.here _ | apply TakeS.next | apply TakeS.app)) ?_ | exact HSub.nil _ | exact HSub.refl _ | refine HSub.drop ?_ | refine HSub.dropS ?_)) ?_
  exact ⟨rfl, rfl⟩
end Go.Proofs.YtkhkagjbeilbgaaDoor

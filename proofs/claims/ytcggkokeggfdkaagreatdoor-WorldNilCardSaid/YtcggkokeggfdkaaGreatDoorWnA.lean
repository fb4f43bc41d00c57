/-
  Own work: searches that the walks repeat, each under a short name.
-/
import Derived.Test.YtcggkokeggfdkaaGreatDoorWnS1
import Derived.Test.YtcggkokeggfdkaaGreatDoorWnS2
import Derived.Test.YtcggkokeggfdkaaGreatDoorWnS3
import Derived.Test.YtcggkokeggfdkaaGreatDoorWnS4
set_option linter.all false
namespace Go.Sl
open Go
theorem zd {P : Prop} (h : P := by decide) : P := h
theorem zO {P : Prop} (h : P := by omega) : P := h
theorem zk {P : Prop} (h : P := by kernel_rfl) : P := h
theorem zK {P : Prop} (h : P := by decide +kernel) : P := h
theorem zR {P : Prop} (h : P := by repeat (first | exact .refl | refine .cons rfl ?_)) : P := h
theorem zF {P : Prop} (h : P := by simp only [fillL, spliceL, Value.cells, List.take_zero, List.take_succ_cons, List.take_nil, List.drop_zero, List.drop_succ_cons, List.drop_nil, List.nil_append, List.cons_append, List.append_nil, List.length_cons, List.length_nil, Nat.zero_add, Nat.reduceAdd, List.toList_toArray]; rfl) : P := h
theorem zU {P : Prop} (h : P := by repeat (first | exact Upd.head _ | apply Upd.tail | apply Upd.app)) : P := h
theorem zM {P : Prop} (h : P := by repeat (first | exact List.mem_cons_self | apply List.mem_cons_of_mem | apply List.mem_append_right)) : P := h
theorem zT {P : Prop} (h : P := by repeat (first | exact Take.here _ | apply Take.next | apply Take.app)) : P := h
theorem zS {P : Prop} (h : P := by repeat (first | with_reducible exact TakeS.here _ | apply TakeS.next | apply TakeS.app)) : P := h
theorem zD {P : Prop} (h : P := by repeat (first | with_reducible exact HSub.refl _ | refine HSub.drop ?_ | refine HSub.dropS ?_)) : P := h
theorem zG {P : Prop} (h : P := by repeat (first | with_reducible exact HSub.refl _ | refine HSub.cons (by repeat (first | exact Take.here _ | apply Take.next | apply Take.app)) ?_ | refine HSub.app (by repeat (first | with_reducible exact TakeS.here _ | apply TakeS.next | apply TakeS.app)) ?_ | exact HSub.nil _ | exact HSub.refl _ | refine HSub.drop ?_ | refine HSub.dropS ?_)) : P := h
theorem zH {P : Prop} (h : P := by first | exact hsubI | (repeat (first | with_reducible exact HSub.refl _ | refine HSub.cons (by repeat (first | exact Take.here _ | apply Take.next | apply Take.app)) ?_ | refine HSub.app (by repeat (first | with_reducible exact TakeS.here _ | apply TakeS.next | apply TakeS.app)) ?_ | exact HSub.nil _ | exact HSub.refl _ | refine HSub.drop ?_ | refine HSub.dropS ?_))) : P := h
end Go.Sl

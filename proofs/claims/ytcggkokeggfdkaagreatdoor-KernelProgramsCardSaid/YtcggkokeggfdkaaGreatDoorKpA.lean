/-
  Own work: searches that the walks repeat, each under a short name.
-/
import Derived.Test.YtcggkokeggfdkaaGreatDoorKpS1
import Derived.Test.YtcggkokeggfdkaaGreatDoorKpS2
import Derived.Test.YtcggkokeggfdkaaGreatDoorKpS3
import Derived.Test.YtcggkokeggfdkaaGreatDoorKpS4
set_option linter.all false
namespace Go.Sl
open Go
theorem zd {P : Prop} (h : P := by decide) : P := h
theorem zO {P : Prop} (h : P := by omega) : P := h
theorem zk {P : Prop} (h : P := by kernel_rfl) : P := h
theorem zK {P : Prop} (h : P := by decide +kernel) : P := h
theorem zR {P : Prop} (h : P := by repeat (first | exact .refl | refine .cons rfl ?_)) : P := h
theorem zF {P : Prop} (h : P := by simp only [Ym, zA, Value.cells, List.take_zero, List.take_succ_cons, List.take_nil, List.drop_zero, List.drop_succ_cons, List.drop_nil, List.nil_append, List.cons_append, List.append_nil, List.length_cons, List.length_nil, Nat.zero_add, Nat.reduceAdd, List.toList_toArray]; rfl) : P := h
theorem zU {P : Prop} (h : P := by repeat (first | exact Upd.head _ | apply Upd.tail | apply Upd.app)) : P := h
theorem zM {P : Prop} (h : P := by repeat (first | exact List.mem_cons_self | apply List.mem_cons_of_mem | apply List.mem_append_right)) : P := h
theorem zT {P : Prop} (h : P := by repeat (first | exact QK.here _ | apply QK.next | apply QK.app)) : P := h
theorem zS {P : Prop} (h : P := by repeat (first | with_reducible exact qf.here _ | apply qf.next | apply qf.app)) : P := h
theorem zD {P : Prop} (h : P := by repeat (first | with_reducible exact qd.refl _ | refine qd.drop ?_ | refine qd.dropS ?_)) : P := h
theorem zG {P : Prop} (h : P := by repeat (first | with_reducible exact qd.refl _ | refine qd.cons (by repeat (first | exact QK.here _ | apply QK.next | apply QK.app)) ?_ | refine qd.app (by repeat (first | with_reducible exact qf.here _ | apply qf.next | apply qf.app)) ?_ | exact qd.nil _ | exact qd.refl _ | refine qd.drop ?_ | refine qd.dropS ?_)) : P := h
theorem zH {P : Prop} (h : P := by first | exact qz | (repeat (first | with_reducible exact qd.refl _ | refine qd.cons (by repeat (first | exact QK.here _ | apply QK.next | apply QK.app)) ?_ | refine qd.app (by repeat (first | with_reducible exact qf.here _ | apply qf.next | apply qf.app)) ?_ | exact qd.nil _ | exact qd.refl _ | refine qd.drop ?_ | refine qd.dropS ?_))) : P := h
abbrev zi (z : Int) : Value := .int .i64 z
abbrev zu (z : Int) : Value := .int .u64 z
abbrev zp (b : Nat) : Value := .pointer (some ⟨b, 0, none⟩)
theorem W_pick {P : Program} {rd : Option Nat} {w0 : World} {Q : Exit → Act → World → Prop} {n : Nat} {ds : List Deferred} {k : List It} {env : Env} {H : qg} {all : Array Oper} {rest : List Oper} {c x y : Operand} {b : Bool} {v : Value} {d : Nat} {t : TypeId} {pos : String} {aft : Array Edge} (hc : opv env c = some (.bool b)) (hx : opv env (cond b x y) = some v) (hd : Nat.blt d n = true) (h : W P rd w0 Q n ds (.ops all rest :: k) ((d, v) :: env) H) : W P rd w0 Q n ds (.ops all (⟨some d, .pick c x y, t, pos, aft, none⟩ :: rest) :: k) env H := by
  cases b
  · exact qgR hc hx hd h
  · exact qgQ hc hx hd h
theorem zc1 {env : Env} {a0 : Operand} {v0 : Value} (h0 : opv env a0 = some v0) : Zk env [a0] [v0] := .cons h0 (.nil)
theorem zc2 {env : Env} {a0 a1 : Operand} {v0 v1 : Value} (h0 : opv env a0 = some v0) (h1 : opv env a1 = some v1) : Zk env [a0, a1] [v0, v1] := .cons h0 (.cons h1 (.nil))
theorem zc3 {env : Env} {a0 a1 a2 : Operand} {v0 v1 v2 : Value} (h0 : opv env a0 = some v0) (h1 : opv env a1 = some v1) (h2 : opv env a2 = some v2) : Zk env [a0, a1, a2] [v0, v1, v2] := .cons h0 (.cons h1 (.cons h2 (.nil)))
theorem zc4 {env : Env} {a0 a1 a2 a3 : Operand} {v0 v1 v2 v3 : Value} (h0 : opv env a0 = some v0) (h1 : opv env a1 = some v1) (h2 : opv env a2 = some v2) (h3 : opv env a3 = some v3) : Zk env [a0, a1, a2, a3] [v0, v1, v2, v3] := .cons h0 (.cons h1 (.cons h2 (.cons h3 (.nil))))
theorem zc5 {env : Env} {a0 a1 a2 a3 a4 : Operand} {v0 v1 v2 v3 v4 : Value} (h0 : opv env a0 = some v0) (h1 : opv env a1 = some v1) (h2 : opv env a2 = some v2) (h3 : opv env a3 = some v3) (h4 : opv env a4 = some v4) : Zk env [a0, a1, a2, a3, a4] [v0, v1, v2, v3, v4] := .cons h0 (.cons h1 (.cons h2 (.cons h3 (.cons h4 (.nil)))))
theorem zc6 {env : Env} {a0 a1 a2 a3 a4 a5 : Operand} {v0 v1 v2 v3 v4 v5 : Value} (h0 : opv env a0 = some v0) (h1 : opv env a1 = some v1) (h2 : opv env a2 = some v2) (h3 : opv env a3 = some v3) (h4 : opv env a4 = some v4) (h5 : opv env a5 = some v5) : Zk env [a0, a1, a2, a3, a4, a5] [v0, v1, v2, v3, v4, v5] := .cons h0 (.cons h1 (.cons h2 (.cons h3 (.cons h4 (.cons h5 (.nil))))))
end Go.Sl

/-
  Own work: the small logic, more of its rules; of any program.
-/
import Derived.Test.YtknbohnoiigioaaSlAny
import Derived.ChangeKeysEq
set_option linter.all false
set_option linter.unusedSimpArgs false
set_option linter.unusedVariables false
namespace Go.Sl
open Go.RowKit
section
variable {P : Program} {rd : Option Nat} {w0 : World} {Q : Exit → Act → World → Prop} {n : Nat} {ds : List Deferred} {k : List It} {env env' : Env} {H H' : Heap} {all : Array Oper} {rest : List Oper}
variable {d : Nat} {x y c : Operand} {t u ty : TypeId} {pos : String} {aft : Array Edge} {v : Value}
theorem eqItems_ints {e : TypeId} {q : IntKind} {by_ : Nat} {z : Value} (he : Ty P e (.int q) 1 z by_) (l m : List Int) (w : World) : ∀ is : List Nat, (∀ j ∈ is, j < l.length ∧ j < m.length) →
    (Op.eqItems 9999 e 1 (l.map (.int q)).toArray (m.map (.int q)).toArray is).run P w = .ok (is.all fun j => decide (l.getD j 0 = m.getD j 0)) w
  | [], _ => by simp [Op.eqItems]
  | j :: is, h => by
    obtain ⟨h1, h2⟩ := h j List.mem_cons_self
    have ih := eqItems_ints he l m w is (fun i hi => h i (List.mem_cons_of_mem _ hi))
    have p : ∀ (r : List Int), j < r.length → (part e (r.map (.int q)).toArray (j * 1)).run P w = .ok (.int q (r.getD j 0)) w := fun r hr => by
      simp [part, he.isAgg, flat, Result.andThen, List.getD, hr]
    have e1 : (Op.equalIn 9999 e (.int q (l.getD j 0)) (.int q (m.getD j 0))).run P w = .ok (decide (l.getD j 0 = m.getD j 0)) w := by
      rw [run_equalIn_int w 9998 e q q _ _ he.und]; rfl
    simp only [Op.eqItems, Sem.run_bind, p l h1, p m h2, Result.andThen_ok, e1, List.all_cons]
    cases decide (l.getD j 0 = m.getD j 0) with
    | true => simpa using ih
    | false => simp
theorem range_all_eq {l m : List Int} (h : l.length = m.length) : ((List.range l.length).all fun j => decide (l.getD j 0 = m.getD j 0)) = decide (l = m) := by
  by_cases e : l = m
  · subst e; simp
  · rw [decide_eq_false e, ← Bool.not_eq_true, List.all_eq_true]
    intro hh
    refine e (List.ext_getElem h fun i h1 h2 => ?_)
    have := hh i (List.mem_range.2 h1)
    simpa [List.getD, h1, h2] using this
theorem X_eqArr {e : TypeId} {q : IntKind} {len s by1 by_ : Nat} {z z1 : Value} {l m : List Int} {xs ys : Array Value} {C : World → Prop} (hx : opv env x = some (.agg xs)) (hy : opv env y = some (.agg ys)) (hxs : xs = (l.map (.int q)).toArray) (hys : ys = (m.map (.int q)).toArray)
    (ht : Ty P t (.array len e) s z1 by1) (he : Ty P e (.int q) 1 z by_) (hc : P.cellsOf e = 1) (hg : P.eqGuardType P.depth t = false) (hl : l.length = len) (hm : m.length = len) :
    Ex P n env C (.binOp .eql t x y u) ty (.bool (decide (l = m))) := fun a w d pos aft g ha _ => by
  subst hxs hys hl
  obtain ⟨i, hi, _⟩ := he.info
  have h1 : (Op.equalIn 10000 t (.agg (l.map (.int q)).toArray) (.agg (m.map (.int q)).toArray)).run P w = .ok (decide (l = m)) w := by
    rw [run_equalIn_array w 9999 _ _ ht.und hi, hc, eqItems_ints he l m w _ (fun j hj => by have := List.mem_range.1 hj; omega), range_all_eq hm.symm]
  simp [execOp, ha.opv hx, ha.opv hy, run_eqGuard_agg w .eql t x y _ _ hg, run_eql_struct, h1, Result.andThen]
end
end Go.Sl

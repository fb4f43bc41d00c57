/-
  Own work: the small logic, more of its rules; of any program.
-/
import Derived.Test.YtknbohnoiigioaaSlArgs
import Derived.Test.YtknbohnoiigioaaSlRow
set_option linter.all false
set_option linter.unusedSimpArgs false
set_option linter.unusedVariables false
namespace Go.Sl
open Go.RowKit
section
variable {P : Program} {rd : Option Nat} {w0 : World} {Q : Exit → Act → World → Prop} {n : Nat} {ds : List Deferred} {k : List It} {env : Env} {H : Heap}
/-- a loop: the slots that stay as they are (C), and those that turn (E) -/
theorem W_loopC {X : Type} {c : Code} (C : Env) (E : X → Env) (DS : X → List Deferred) (HH : X → Heap) (I : X → Prop) (μ : X → Nat) (x0 : X) (h0 : I x0) (hc : sub C env) (he : sub (E x0) env) (hd0 : ds = DS x0) (hh : HSub H (HH x0))
    (round : ∀ x, I x → W P rd w0 Q n (DS x) (.code c :: .goal (fun a w => ∃ x', I x' ∧ μ x' < μ x ∧ Agree n (E x' ++ C) a ∧ a.defers = DS x' ∧ Sat w0 (HH x') w) :: k) (E x ++ C) (HH x)) :
    W P rd w0 Q n ds (.code (.loop c) :: k) env H :=
  W_loopD (fun x => E x ++ C) DS HH I μ x0 h0 (fun p hp => (List.mem_append.1 hp).elim (he p) (hc p)) hd0 hh round
variable {H' : Heap} {all : Array Oper} {rest : List Oper} {d : Nat} {x y c : Operand} {t u ty : TypeId} {pos : String} {aft : Array Edge} {v : Value}
/-- an array is built -/
theorem X_buildArr {s by_ len es eb : Nat} {z ez : Value} {e : TypeId} {ed : TypeDesc} {parts : List (Nat × Operand)} {ps : List (Nat × List Value)} {l : List Value} {C : World → Prop} (ht : Ty P t (.array len e) s z by_) (he : Ty P e ed es ez eb)
    (hp : Parts env (rowPlace es) s parts ps) (hz : Nat.beq z.cells.size s = true) (hl : fillL z.cells.toList ps = l) :
    Ex P n env C (.build t parts.toArray) ty (.agg l.toArray) := fun a w d pos aft g ha _ => by
  obtain ⟨out, ho, hol⟩ := hp.run ha (cells := z.cells) (by simpa using hz)
  have hout : out = l.toArray := by apply Array.ext'; rw [hol, hl]
  have ho' : Instr.fill (fun i => some (i * es, es)) z.cells (parts.map fun (i, x) => (i, a.eval x)) = some out := ho
  have hr : (Instr.build t (parts.map fun (i, x) => (i, a.eval x)).toArray).run P w = .ok (.agg l.toArray) w := by
    unfold Instr.build
    simp only [Sem.run_bind, ht.zero, ht.run, he.size, Result.andThen]
    rw [ho']
    subst hout
    rfl
  simp only [execOp, List.map_toArray, Sem.run_bind, hr]
  simp [Result.andThen]
theorem W_buildArr {s by_ len es eb : Nat} {z ez : Value} {e : TypeId} {ed : TypeDesc} {parts : List (Nat × Operand)} {ps : List (Nat × List Value)} {l : List Value} (ht : Ty P t (.array len e) s z by_) (he : Ty P e ed es ez eb)
    (hp : Parts env (rowPlace es) s parts ps) (hz : Nat.beq z.cells.size s = true) (hl : fillL z.cells.toList ps = l) (hd : Nat.blt d n = true)
    (h : W P rd w0 Q n ds (.ops all rest :: k) ((d, .agg l.toArray) :: env) H) :
    W P rd w0 Q n ds (.ops all (⟨some d, .build t parts.toArray, ty, pos, aft, none⟩ :: rest) :: k) env H :=
  W_pure rfl nofun hd (fun a w ha hs => X_buildArr (C := fun _ => True) ht he hp hz hl a w _ _ _ _ ha trivial) h
end
end Go.Sl

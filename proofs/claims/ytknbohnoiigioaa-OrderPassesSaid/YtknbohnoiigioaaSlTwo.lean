/-
  Own work: the small logic, more of its rules; of any program.
-/
import Derived.Test.YtknbohnoiigioaaSlPtr
set_option linter.all false
set_option linter.unusedSimpArgs false
set_option linter.unusedVariables false
namespace Go.Sl
open Go.RowKit
section
variable {P : Program} {w0 : World} {Q : Exit → Act → World → Prop} {n : Nat} {ds : List Deferred} {k : List It} {env env' : Env} {H H' : Heap} {ops : Array Oper}
theorem wa_op {i : Nat} {o : Oper} {K : Act → World → Prop} {a : Act} {w : World} (hi : ops[i]? = some o) (h1 : wpListIn (fen none) 0 P ops (Cont P none (fun _ _ _ => False) [.goal K]) [o] a w) : wpOpIn (fen none) 0 P ops (Q0 P Q k) i K a w := wc_op hi h1
/-- two are ready: either comes first -/
theorem WA_two (i j : Nat) {o o' : Oper} {fuel : Nat} {listed l' l'' : Array Bool} (hr : Region.ready .any ops listed = [i, j]) (hi : ops[i]? = some o) (hj : ops[j]? = some o') (hl : listed.setIfInBounds i true = l') (hl' : listed.setIfInBounds j true = l'')
    (h : W P none w0 (fun _ _ _ => False) n ds [.ops ops [o], .goal (fun a w => wpAnyIn (fen none) 0 P .any ops (Q0 P Q k) fuel l' a w)] env H)
    (h' : W P none w0 (fun _ _ _ => False) n ds [.ops ops [o'], .goal (fun a w => wpAnyIn (fen none) 0 P .any ops (Q0 P Q k) fuel l'' a w)] env H) : WA P w0 Q n ds k ops (fuel + 1) listed env H := fun a w ha hds hsat => by
  subst hl hl'
  refine wpAnyIn_all hr (by simp) fun x hx => ?_
  rcases (show x = i ∨ x = j by simpa using hx) with rfl | rfl
  · exact wa_op hi (h a w ha hds hsat)
  · exact wa_op hj (h' a w ha hds hsat)
end
end Go.Sl

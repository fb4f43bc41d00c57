/-
  Own work: contracts of functions that the statement reaches, and plain facts on what they compute; each theorem says its conditions.
-/
import Derived.Test.YtkhkagjbeilbgaaDoorF10
set_option linter.all false
set_option linter.unusedSimpArgs false
set_option linter.unusedVariables false
namespace Go.Proofs.YtkhkagjbeilbgaaDoor
open Go Go.Sl
attribute [local irreducible] W

theorem set_good {p : Va → Prop} {V : List Va} {i : Nat} {y : Va} (hV : ∀ v ∈ V, p v) (hy : p y) : ∀ v ∈ V.set i y, p v := fun v hv =>
  (List.mem_or_eq_of_mem_set hv).elim (hV v) (fun e => e ▸ hy)
theorem getD_good {p : Va → Prop} {V : List Va} (i : Nat) (hz : p zeroV) (hV : ∀ v ∈ V, p v) : p (V.getD i zeroV) := by
  rw [List.getD_eq_getElem?_getD]
  cases h : V[i]? with
  | none => exact hz
  | some v => exact hV v (List.mem_of_getElem? h)
/-- what holds for all words, and for all that is there, holds behind an instruction -/
theorem doV_good {p : Va → Prop} {V : List Va} {x : Ins} (hn : ∀ n, p ⟨false, 0, 0, 0, n⟩) (hV : ∀ v ∈ V, p v) : ∀ v ∈ (doV V x).1, p v := by
  have hz : p zeroV := hn 0
  have ho : p (othr V x) := by unfold othr; split <;> first | exact getD_good _ hz hV | exact hn _
  have hr : ∀ s a, p (rdV V s a).1 := fun s a => by unfold rdV; split <;> first | exact hz | exact getD_good _ hz hV
  unfold doV
  split
  · exact hV
  split
  · unfold sumV
    split
    · exact set_good hV ho
    split
    · exact hV
    · exact set_good hV (hn _)
  split
  · show ∀ v ∈ (if (rdV V true x.off).2 = 0 then V.set x.dst.toNat (rdV V true x.off).1 else V), p v
    split
    · exact set_good hV (hr _ _)
    · exact hV
  split
  · unfold wrV; split
    · exact hV
    · exact set_good hV (getD_good _ hz hV)
  · exact hV
theorem doV_len {V : List Va} {x : Ins} : (doV V x).1.length = V.length := by
  unfold doV sumV wrV
  repeat' split
  all_goals first | rfl | simp
end Go.Proofs.YtkhkagjbeilbgaaDoor

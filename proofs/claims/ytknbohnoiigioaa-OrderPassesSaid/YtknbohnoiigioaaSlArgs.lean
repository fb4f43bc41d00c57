/-
  Own work: the small logic, more of its rules; of any program.
-/
import Derived.Test.YtknbohnoiigioaaSlJoin
set_option linter.all false
set_option linter.unusedSimpArgs false
set_option linter.unusedVariables false
namespace Go.Sl
open Go.ChangeShapes Go.WideShapes Go.ChangeAt Go.RowKit
/-- a slice's row of one-celled elements -/
def InRow (w : World) (ad : Option Addr) (l : List Value) : Prop := ∀ (j : Nat) x, l[j]? = some x → ∃ b o, ad = some ⟨b, o, none⟩ ∧ w.cell? ⟨b, o + j, none⟩ = some x
theorem InRow.take {w : World} {ad : Option Addr} {l : List Value} (h : InRow w ad l) (k : Nat) : InRow w ad (l.take k) := fun j x hx => h j x (by
  rw [List.getElem?_take] at hx
  split at hx
  · exact hx
  · cases hx)
theorem InRow.nil {w : World} {ad : Option Addr} : InRow w ad [] := fun j x hx => by simp at hx
theorem InRow.of_spot {w : World} {a : Addr} {l : List Value} (h : ∀ j x, l[j]? = some x → w.cell? (a.add j) = some x) : InRow w (some a) l := fun j x hx => by
  have h1 := h j x hx
  obtain ⟨b, off, spot⟩ := a
  have h0 : w.cell? (Addr.add ⟨b, off, spot⟩ 0) = some (l[0]'(by have := (List.getElem?_eq_some_iff.1 hx).1; omega)) := h 0 _ (List.getElem?_eq_getElem _)
  have hspot : spot = none := by simpa [Addr.add] using World.cell?_spot h0
  subst hspot
  exact ⟨b, off, rfl, by rw [← Go.WideShapes.add_plain]; exact h1⟩
section
variable {H : Type} {enc : TypeId × Value → H} {P : Program} {w : World} {base : Nat} {held : Bool}
theorem open_row {t e : TypeId} {k : IntKind} {fuel len cap : Nat} {a : Option Addr} {x : DataW H × List MemPlace} (ht : P.underlying t = some (.slice e)) (he : P.underlying e = some (.int k)) (hc : P.cellsOf e = 1)
    (hf : DataW.trod enc P w base (fun _ => true) held fuel t (Value.slice a len cap).cells.toList = some x) :
    ∃ l : List Int, len = l.length ∧ l.length ≤ cap ∧ cap ≤ maxLen ∧ (∀ n ∈ l, (Lit.int k n).wf = true) ∧ InRow w a (l.map fun n => .int k n) := by
  rcases open_ints ht he hc hf with ⟨hcs, _⟩ | ⟨a', len', cap', zs, hcs, _, hle, hmax, hlen, _, hcell, hwf⟩
  · simp [Value.cells] at hcs
    obtain ⟨rfl, rfl, rfl⟩ := hcs
    exact ⟨[], rfl, Nat.zero_le _, Nat.zero_le _, fun n hn => (by simp at hn), InRow.nil⟩
  · simp [Value.cells] at hcs
    obtain ⟨rfl, rfl, rfl⟩ := hcs
    simp only [if_true] at hlen
    refine ⟨zs.take len, by rw [List.length_take]; omega, by rw [List.length_take]; omega, hmax, fun n hn => hwf n (List.mem_of_mem_take hn), InRow.of_spot fun j y hy => ?_⟩
    rw [List.getElem?_map] at hy
    obtain ⟨z, hz, rfl⟩ := Option.map_eq_some_iff.1 hy
    have hz' : zs[j]? = some z := by
      rw [List.getElem?_take] at hz
      split at hz
      · exact hz
      · cases hz
    have hj := (List.getElem?_eq_some_iff.1 hz').1
    rw [hcell j hj]
    simp [List.getD, hz']
end
end Go.Sl

/-
  Proved: the statement 2CardSaid, as the row gives it, under no condition of its own.
-/
import Derived.Test.YtpfoecmianohjaaDoorJ1
import Derived.Deep.Grids
set_option linter.all false
set_option linter.unusedSimpArgs false
set_option linter.unusedVariables false
namespace Go.Proofs.YtpfoecmianohjaaDoor
open Go Go.Sl Go.Deep Go.ChangeShapes Go.WideShapes Go.ChangeAt Go.RowKit
set_option maxRecDepth 100000
theorem u57 : Tryd.prog.underlying 57 = some (.slice 4) := by kernel_rfl
theorem c4 : Tryd.prog.cellsOf 4 = 1 := by kernel_rfl
section
variable {H : Type} {enc : TypeId × Value → H} {w : World} {base : Nat} {held : Bool}
theorem open_boolrow {fuel len cap : Nat} {a : Option Addr} {x : DataW H × List MemPlace} (hf : DataW.trod enc Tryd.prog w base (fun _ => true) held fuel 57 (Value.slice a len cap).cells.toList = some x) :
    ∃ l : List Bool, len = l.length ∧ InRow w a (bools l) := by
  rcases open_bools u57 u4 c4 hf with ⟨hcs, _⟩ | ⟨a', len', cap', B, hcs, _, hle, hmax, _, hcell⟩
  · simp [Value.cells] at hcs
    obtain ⟨rfl, rfl, rfl⟩ := hcs
    exact ⟨[], rfl, InRow.nil⟩
  · simp [Value.cells] at hcs
    obtain ⟨rfl, rfl, rfl⟩ := hcs
    refine ⟨(List.range len).map B, by simp, InRow.of_spot fun j v hj => ?_⟩
    have hjl : j < len := by
      have := (List.getElem?_eq_some_iff.1 hj).1
      simpa [bools] using this
    rw [hcell j (by omega)]
    simp [bools, hjl] at hj
    rw [hj]
end
end Go.Proofs.YtpfoecmianohjaaDoor

/-
  Own work: contracts of functions that the statement reaches, and plain facts on what they compute; each theorem says its conditions.
-/
import Derived.Test.YtknbohnoiigioaaDoorW32toW34
import Derived.Test.YtknbohnoiigioaaDoorSlCoretoSlArgs
import Derived.Test.YtknbohnoiigioaaDoorSlPtrtoSlRead
import Derived.Lib.LaidTab
import Derived.Lib.LaidIn
import Derived.Stop.LaidErr
import Derived.Test.YtknbohnoiigioaaDoorCards
import Derived.Test.YtknbohnoiigioaaDoorTie
set_option linter.all false
set_option linter.unusedSimpArgs false
set_option linter.unusedVariables false
namespace Go.Proofs.YtknbohnoiigioaaDoor
open Go Go.Sl Go.ChangeShapes Go.WideShapes Go.ChangeAt Go.RowKit
set_option maxRecDepth 100000
theorem own : ownKnob Tryd.prog.godebug = none := by kernel_rfl
theorem kids : Kids Tryd.prog (· < Tryd.prog.types.size) := kids_rows (by kernel_rfl) (by kernel_rfl)
theorem full : ∀ t e, t < Tryd.prog.types.size → Tryd.prog.underlying t = some (.slice e) → 0 < Tryd.prog.cellsOf e := slices_full_of Tryd.prog (by kernel_rfl)
theorem u4 : Tryd.prog.underlying 4 = some .bool := by kernel_rfl
theorem k4 : Tryd.prog.cellsOf 4 = 1 := by kernel_rfl
theorem u3 : Tryd.prog.underlying 3 = some (.int .i64) := by kernel_rfl
theorem k3 : Tryd.prog.cellsOf 3 = 1 := by kernel_rfl
theorem u22 : Tryd.prog.underlying 22 = some (.int .u64) := by kernel_rfl
theorem k22 : Tryd.prog.cellsOf 22 = 1 := by kernel_rfl
theorem u23 : Tryd.prog.underlying 23 = some (.slice 22) := by kernel_rfl
theorem k23 : Tryd.prog.cellsOf 23 = 1 := by kernel_rfl
theorem u172 : Tryd.prog.underlying 172 = some (.array 64 5) := by kernel_rfl
theorem k172 : Tryd.prog.cellsOf 172 = 64 := by kernel_rfl
theorem u5 : Tryd.prog.underlying 5 = some (.int .u8) := by kernel_rfl
theorem k5 : Tryd.prog.cellsOf 5 = 1 := by kernel_rfl
theorem gDz : Tryd.prog.globalNamed "math/bits.deBruijn64tab" = some 0 := by kernel_rfl
theorem tDz : (Tryd.prog.globals[0]?).map (·.type) = some 172 := by kernel_rfl
abbrev laidL : List (String × DataW Unit) := [("math/bits.deBruijn64tab", Rows.laid_math_bits_deBruijn64tab)]
/-- WHAT THE ROW's LIST GIVES -/
theorem tab_laid {W : World} (h : laidMetH Tryd.prog laidL W) : Tab W := fun j hj => by
  have h1 : Lib.TabIs Tryd.prog W "math/bits.deBruijn64tab" .u8 (Lib.deBruijn64tab.map fun z : Nat => (z : Int)) := Lib.tabIs_of_head (rest := []) gDz tDz u172 u5 (by kernel_rfl) (by kernel_rfl) (show laidMet Tryd.prog laidL W from h)
  have h2 := h1.cell gDz j (by rw [List.length_map]; exact hj)
  rw [h2]
  rw [List.getD_eq_getElem?_getD, List.getD_eq_getElem?_getD, List.getElem?_map]
  cases Lib.deBruijn64tab[j]? <;> rfl
/-- A WORLD FOR THE WITNESS -/
noncomputable def laidWorld (os : Os) : World :=
  let w0 := World.holding Tryd.prog os ⟨#[], #[], []⟩
  let put (h : Array Obj) (g : Nat) (cs : Array Value) : Array Obj := h.modify g fun
    | .cells _ t frozen => .cells cs t frozen
    | o => o
  { w0 with heap := put w0.heap 0 (Lib.deBruijn64tab.map fun z : Nat => Value.int .u8 (z : Int)).toArray }
theorem laid_met (os : Os) (args : Array Value) : laidMet Tryd.prog laidL ((laidWorld os).forCall (fun _ _ => 0) ⟨#[], args, []⟩).memory :=
  laidMet_of_run' 8 (by kernel_rfl) (by kernel_rfl)
end Go.Proofs.YtknbohnoiigioaaDoor

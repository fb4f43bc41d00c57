/-
  Own work: contracts of functions that the statement reaches, and plain facts on what they compute; each theorem says its conditions.
-/
import Derived.Test.YtknbohnoiigioaaO10
import Derived.Test.YtknbohnoiigioaaSlJoin
import Derived.Test.YtknbohnoiigioaaSlFlat
import Derived.Lib.LaidIn
import Derived.Stop.LaidErr
set_option linter.all false
set_option linter.unusedSimpArgs false
set_option linter.unusedVariables false
namespace Go.Proofs.Ytknbohnoiigioaa
open Go Go.Sl Go.ChangeShapes Go.WideShapes Go.ChangeAt Go.RowKit
set_option maxRecDepth 100000
theorem own : ownKnob Try.prog.godebug = none := by kernel_rfl
theorem kids : Kids Try.prog (· < Try.prog.types.size) := kids_rows (by kernel_rfl) (by kernel_rfl)
theorem full : ∀ t e, t < Try.prog.types.size → Try.prog.underlying t = some (.slice e) → 0 < Try.prog.cellsOf e := slices_full_of Try.prog (by kernel_rfl)
theorem u4 : Try.prog.underlying 4 = some .bool := by kernel_rfl
theorem k4 : Try.prog.cellsOf 4 = 1 := by kernel_rfl
theorem u3 : Try.prog.underlying 3 = some (.int .i64) := by kernel_rfl
theorem k3 : Try.prog.cellsOf 3 = 1 := by kernel_rfl
theorem u22 : Try.prog.underlying 22 = some (.slice 3) := by kernel_rfl
theorem k22 : Try.prog.cellsOf 22 = 1 := by kernel_rfl
theorem u45 : Try.prog.underlying 45 = some (.slice 47) := by kernel_rfl
theorem k45 : Try.prog.cellsOf 45 = 1 := by kernel_rfl
theorem u35 : Try.prog.underlying 35 = some (.slice 9) := by kernel_rfl
theorem k35 : Try.prog.cellsOf 35 = 1 := by kernel_rfl
theorem u36 : Try.prog.underlying 36 = some (.slice 4) := by kernel_rfl
theorem k36 : Try.prog.cellsOf 36 = 1 := by kernel_rfl
noncomputable def laidWorld (os : Os) : World := World.holding Try.prog os ⟨#[], #[], []⟩
theorem laid_met (os : Os) (args : Array Value) : laidMetH Try.prog [] ((laidWorld os).forCall (fun _ _ => 0) ⟨#[], args, []⟩).memory :=
  (laidMet_of_run' 8 (by kernel_rfl) (by kernel_rfl) : laidMet Try.prog [] _)
end Go.Proofs.Ytknbohnoiigioaa

/-
  Own work: contracts of functions that the statement reaches, and plain facts on what they compute; each theorem says its conditions.
-/
import Derived.Test.YtkhkagjbeilbgaaDoorF13
import Derived.Test.YtkhkagjbeilbgaaDoorSlJoin
import Derived.Lib.LaidIn
import Derived.Stop.LaidErr
import Derived.Test.YtkhkagjbeilbgaaDoorCards
import Derived.Test.YtkhkagjbeilbgaaDoorTie
set_option linter.all false
set_option linter.unusedSimpArgs false
set_option linter.unusedVariables false
namespace Go.Proofs.YtkhkagjbeilbgaaDoor
open Go Go.Sl Go.ChangeShapes Go.WideShapes Go.ChangeAt Go.RowKit
set_option maxRecDepth 100000
theorem own : ownKnob Tryd.prog.godebug = none := by kernel_rfl
theorem kids : Kids Tryd.prog (· < Tryd.prog.types.size) := kids_rows (by kernel_rfl) (by kernel_rfl)
theorem full : ∀ t e, t < Tryd.prog.types.size → Tryd.prog.underlying t = some (.slice e) → 0 < Tryd.prog.cellsOf e := slices_full_of Tryd.prog (by kernel_rfl)
theorem u4 : Tryd.prog.underlying 4 = some .bool := by kernel_rfl
theorem k4 : Tryd.prog.cellsOf 4 = 1 := by kernel_rfl
theorem u3 : Tryd.prog.underlying 3 = some (.int .i64) := by kernel_rfl
theorem k3 : Tryd.prog.cellsOf 3 = 1 := by kernel_rfl
theorem u22 : Tryd.prog.underlying 22 = some (.int .u64) := by kernel_rfl
theorem k22 : Tryd.prog.cellsOf 22 = 1 := by kernel_rfl
theorem u35 : Tryd.prog.underlying 35 = some (.slice 55) := by kernel_rfl
theorem k35 : Tryd.prog.cellsOf 35 = 1 := by kernel_rfl
theorem u36 : Tryd.prog.underlying 36 = some (.slice 46) := by kernel_rfl
theorem k36 : Tryd.prog.cellsOf 36 = 1 := by kernel_rfl
theorem u23 : Tryd.prog.underlying 23 = some (.slice 5) := by kernel_rfl
theorem k23 : Tryd.prog.cellsOf 23 = 1 := by kernel_rfl
theorem u5 : Tryd.prog.underlying 5 = some (.int .u8) := by kernel_rfl
theorem k5 : Tryd.prog.cellsOf 5 = 1 := by kernel_rfl
theorem u152 : Tryd.prog.underlying 152 = some (.array 256 5) := by kernel_rfl
theorem k152 : Tryd.prog.cellsOf 152 = 256 := by kernel_rfl
theorem gAscii : Tryd.prog.globalNamed "strings.asciiSpace" = some 0 := by kernel_rfl
theorem tAscii : (Tryd.prog.globals[0]?).map (·.type) = some 152 := by kernel_rfl
abbrev laidL : List (String × DataW Unit) := [("unicode.White_Space", Rows.laid_unicode_White_Space), ("strings.asciiSpace", Rows.laid_strings_asciiSpace)]
/-- WHAT THE ROW's LIST GIVES -/
theorem tab_laid {W : World} (h : laidMetH Tryd.prog laidL W) : Tab W :=
  Lib.tabIs_of_head (rest := []) gAscii tAscii u152 u5 (by kernel_rfl) (by kernel_rfl) (laidMet.tail (show laidMet Tryd.prog laidL W from h))
/-- A WORLD FOR THE WITNESS -/
noncomputable def laidWorld (os : Os) : World :=
  let N := (World.settled Tryd.prog os).heap.size
  let w0 := World.holding Tryd.prog os ⟨#[.cells #[.int .u16 9, .int .u16 13, .int .u16 1, .int .u16 32, .int .u16 133, .int .u16 101, .int .u16 160, .int .u16 5760, .int .u16 5600, .int .u16 8192, .int .u16 8202, .int .u16 1, .int .u16 8232, .int .u16 8233, .int .u16 1, .int .u16 8239, .int .u16 8287, .int .u16 48, .int .u16 12288, .int .u16 12288, .int .u16 1] 204, .cells #[.slice (some ⟨N, 0, none⟩) 7 7, .slice none 0 0, .int .i64 2] 201], #[], []⟩
  let put (h : Array Obj) (g : Nat) (cs : Array Value) : Array Obj := h.modify g fun
    | .cells _ t frozen => .cells cs t frozen
    | o => o
  let h0 := put w0.heap 0 (Lib.asciiSpaceTab.map fun z => Value.int .u8 z).toArray
  { w0 with heap := put h0 1 #[.pointer (some ⟨N + 1, 0, none⟩)] }
theorem laid_met (os : Os) (args : Array Value) : laidMet Tryd.prog laidL ((laidWorld os).forCall (fun _ _ => 0) ⟨#[], args, []⟩).memory :=
  laidMet_of_run' 8 (by kernel_rfl) (by kernel_rfl)
instance : Inhabited Ins := ⟨⟨0, 0, 0, 0, 0⟩⟩
def Ins.In (v : Ins) : Prop := (-9223372036854775808 ≤ v.op ∧ v.op ≤ 9223372036854775807) ∧ (-9223372036854775808 ≤ v.dst ∧ v.dst ≤ 9223372036854775807) ∧ (-9223372036854775808 ≤ v.src ∧ v.src ≤ 9223372036854775807) ∧ (-9223372036854775808 ≤ v.off ∧ v.off ≤ 9223372036854775807) ∧ (-9223372036854775808 ≤ v.imm ∧ v.imm ≤ 9223372036854775807)
theorem Ins.C_len (v : Ins) : (Ins.C v).length = 5 := rfl
theorem Ins.C_like (v : Ins) : Likes [.int .i64, .int .i64, .int .i64, .int .i64, .int .i64] (Ins.C v) := ⟨⟨_, rfl⟩, ⟨_, rfl⟩, ⟨_, rfl⟩, ⟨_, rfl⟩, ⟨_, rfl⟩, trivial⟩
theorem Ins.C_inj (v w : Ins) (h : Ins.C v = Ins.C w) : v = w := by
  cases v; cases w; simp only [Ins.C, List.cons.injEq, Value.int.injEq, Value.bool.injEq, Value.string.injEq, true_and, and_true] at h; simp only [Ins.mk.injEq]; exact h
theorem Ins.C_of {cs : List Value} (h : Leafs [.int .i64, .int .i64, .int .i64, .int .i64, .int .i64] cs) : ∃ v : Ins, cs = Ins.C v ∧ v.In := by
  obtain ⟨a0, c0, rfl, ⟨m0, rfl, e0⟩, h0⟩ := leafs_cons h
  obtain ⟨a1, c1, rfl, ⟨m1, rfl, e1⟩, h1⟩ := leafs_cons h0
  obtain ⟨a2, c2, rfl, ⟨m2, rfl, e2⟩, h2⟩ := leafs_cons h1
  obtain ⟨a3, c3, rfl, ⟨m3, rfl, e3⟩, h3⟩ := leafs_cons h2
  obtain ⟨a4, c4, rfl, ⟨m4, rfl, e4⟩, h4⟩ := leafs_cons h3
  obtain rfl := leafs_nil h4
  exact ⟨⟨m0, m1, m2, m3, m4⟩, rfl, ⟨e0, e1, e2, e3, e4⟩⟩
theorem flat46 : Flat Tryd.prog 1 46 [.int .i64, .int .i64, .int .i64, .int .i64, .int .i64] := (Flat.struct ty46 (by kernel_rfl) (by kernel_rfl) (.cons (ks := [.int .i64]) (by decide) rfl (by kernel_rfl) (Flat.leaf (k := .int .i64) ty3) (.cons (ks := [.int .i64]) (by decide) rfl (by kernel_rfl) (Flat.leaf (k := .int .i64) ty3) (.cons (ks := [.int .i64]) (by decide) rfl (by kernel_rfl) (Flat.leaf (k := .int .i64) ty3) (.cons (ks := [.int .i64]) (by decide) rfl (by kernel_rfl) (Flat.leaf (k := .int .i64) ty3) (.cons (ks := [.int .i64]) (by decide) rfl (by kernel_rfl) (Flat.leaf (k := .int .i64) ty3) .nil))))))
theorem agg46 : aggB Tryd.prog 46 = true := by kernel_rfl
theorem gt46 : Tryd.prog.eqGuardType Tryd.prog.depth 46 = false := by kernel_rfl
theorem ce46 : Tryd.prog.cellsOf 46 = 5 := by kernel_rfl
end Go.Proofs.YtkhkagjbeilbgaaDoor

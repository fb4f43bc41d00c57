/-
  Own work: contracts of functions that the statement reaches, and plain facts on what they compute; each theorem says its conditions.
-/
import Derived.Test.YtkhkagjbeilbgaaDoorSD1
import Derived.Test.YtkhkagjbeilbgaaDoorSlJoin
import Derived.Lib.LaidIn
import Derived.Stop.LaidErr
import Derived.Test.YtkhkagjbeilbgaaDoorCards
import Derived.Test.YtkhkagjbeilbgaaDoorTie
set_option linter.all false
set_option linter.unusedSimpArgs false
set_option linter.unusedVariables false
namespace Go.Proofs.YtkhkagjbeilbgaaDoor
open Go Go.Sl Go.Script Go.ChangeShapes Go.WideShapes Go.ChangeAt Go.RowKit
set_option maxRecDepth 100000
theorem own : ownKnob Tryd.prog.godebug = none := by kernel_rfl
theorem kids : Kids Tryd.prog (· < Tryd.prog.types.size) := kids_rows (by kernel_rfl) (by kernel_rfl)
theorem full : ∀ t e, t < Tryd.prog.types.size → Tryd.prog.underlying t = some (.slice e) → 0 < Tryd.prog.cellsOf e := slices_full_of Tryd.prog (by kernel_rfl)
theorem u4 : Tryd.prog.underlying 4 = some .bool := by kernel_rfl
theorem k4 : Tryd.prog.cellsOf 4 = 1 := by kernel_rfl
theorem u3 : Tryd.prog.underlying 3 = some (.int .i64) := by kernel_rfl
theorem k3 : Tryd.prog.cellsOf 3 = 1 := by kernel_rfl
theorem u22 : Tryd.prog.underlying 22 = some (.int .u64) := by kernel_rfl
theorem k22 : Tryd.prog.cellsOf 22 = 1 := by kernel_rfl
theorem u23 : Tryd.prog.underlying 23 = some (.slice 5) := by kernel_rfl
theorem k23 : Tryd.prog.cellsOf 23 = 1 := by kernel_rfl
theorem u5 : Tryd.prog.underlying 5 = some (.int .u8) := by kernel_rfl
theorem k5 : Tryd.prog.cellsOf 5 = 1 := by kernel_rfl
theorem u152 : Tryd.prog.underlying 152 = some (.array 256 5) := by kernel_rfl
theorem k152 : Tryd.prog.cellsOf 152 = 256 := by kernel_rfl
theorem gAscii : Tryd.prog.globalNamed "strings.asciiSpace" = some 0 := by kernel_rfl
theorem tAscii : (Tryd.prog.globals[0]?).map (·.type) = some 152 := by kernel_rfl
abbrev laidL : List (String × DataW Unit) := [("unicode.White_Space", Rows.laid_unicode_White_Space), ("strings.asciiSpace", Rows.laid_strings_asciiSpace)]
/-- WHAT THE ROW's LIST GIVES -/
theorem tab_laid {W : World} (h : laidMetH Tryd.prog laidL W) : Tab W :=
  Lib.tabIs_of_head (rest := []) gAscii tAscii u152 u5 (by kernel_rfl) (by kernel_rfl) (laidMet.tail (show laidMet Tryd.prog laidL W from h))
/-- A WORLD FOR THE WITNESS -/
noncomputable def laidWorld (os : Os) : World :=
  let N := (World.settled Tryd.prog os).heap.size
  let w0 := World.holding Tryd.prog os ⟨#[.cells #[.int .u16 9, .int .u16 13, .int .u16 1, .int .u16 32, .int .u16 133, .int .u16 101, .int .u16 160, .int .u16 5760, .int .u16 5600, .int .u16 8192, .int .u16 8202, .int .u16 1, .int .u16 8232, .int .u16 8233, .int .u16 1, .int .u16 8239, .int .u16 8287, .int .u16 48, .int .u16 12288, .int .u16 12288, .int .u16 1] 204, .cells #[.slice (some ⟨N, 0, none⟩) 7 7, .slice none 0 0, .int .i64 2] 201], #[], []⟩
  let put (h : Array Obj) (g : Nat) (cs : Array Value) : Array Obj := h.modify g fun
    | .cells _ t frozen => .cells cs t frozen
    | o => o
  let h0 := put w0.heap 0 (Lib.asciiSpaceTab.map fun z => Value.int .u8 z).toArray
  { w0 with heap := put h0 1 #[.pointer (some ⟨N + 1, 0, none⟩)] }
theorem laid_met (os : Os) (args : Array Value) : laidMet Tryd.prog laidL ((laidWorld os).forCall (fun _ _ => 0) ⟨#[], args, []⟩).memory :=
  laidMet_of_run' 8 (by kernel_rfl) (by kernel_rfl)

section
variable {H : Type} {enc : TypeId × Value → H} {w : World} {base : Nat} {held : Bool}
theorem open_st {fuel : Nat} {cs : List Value} {x : DataW H × List MemPlace} (h : DataW.trod enc Tryd.prog w base (fun _ => true) held fuel 25 cs = some x) : ∃ r : Sr, cs = r.cells ∧ StOk r.st ∧ r.st.raw.length ≤ r.cap ∧ r.cap ≤ maxLen ∧ InRow w r.ad (bytesV r.st.raw) := by
  obtain ⟨xs, n, _, _, hl, hlen, hf⟩ := DataW.trod_struct (ty25.und) h
  rw [show Tryd.prog.cellsOf 25 = 7 by kernel_rfl] at hl
  match cs, hl with
  | [a0, a1, a2, a3, a4, a5, a6], _ =>
    have at_ : ∀ (i : Nat) (f : Field) (t : TypeId) (v : Value), (#[⟨"Kind", 3, 0, false, "", "", 0⟩, ⟨"A", 3, 1, false, "", "", 8⟩, ⟨"B", 3, 2, false, "", "", 16⟩, ⟨"C", 3, 3, false, "", "", 24⟩, ⟨"X", 22, 4, false, "", "", 32⟩, ⟨"Y", 22, 5, false, "", "", 40⟩, ⟨"Raw", 23, 6, false, "", "", 48⟩] : Array Field)[i]? = some f → f.type = t → Tryd.prog.cellsOf t = 1 → (([a0, a1, a2, a3, a4, a5, a6] : List Value).drop f.offset).take 1 = [v] → i < 7 → ∃ y, DataW.trod enc Tryd.prog w base (fun _ => true) held n t [v] = some y := fun i f t v hif ht hc hv hi => by
      have h1 := hf i f hif
      rw [ht, hc, hv] at h1
      have hx : xs[i]? = some (xs[i]'(by rw [hlen]; exact hi)) := List.getElem?_eq_getElem _
      rw [hx] at h1
      exact ⟨_, h1⟩
    have int : ∀ v, (∃ y, DataW.trod enc Tryd.prog w base (fun _ => true) held n 3 [v] = some y) → ∃ m, v = .int .i64 m ∧ I64 m := fun v ⟨y, hy⟩ => by
      obtain ⟨m, e, _, hw⟩ := DataW.trod_int u3 hy
      cases e
      exact ⟨m, rfl, by simp [Lit.wf, IntKind.min, IntKind.max, IntKind.signed, IntKind.bits] at hw; exact ⟨by omega, by omega⟩⟩
    have word : ∀ v, (∃ y, DataW.trod enc Tryd.prog w base (fun _ => true) held n 22 [v] = some y) → ∃ m, v = .int .u64 m ∧ Wd m := fun v ⟨y, hy⟩ => by
      obtain ⟨m, e, _, hw⟩ := DataW.trod_int u22 hy
      cases e
      exact ⟨m, rfl, by simp [Lit.wf, IntKind.min, IntKind.max, IntKind.signed, IntKind.bits] at hw; exact ⟨by omega, by omega⟩⟩
    obtain ⟨m0, rfl, h0⟩ := int a0 (at_ 0 _ 3 a0 rfl rfl k3 rfl (by decide))
    obtain ⟨m1, rfl, h1⟩ := int a1 (at_ 1 _ 3 a1 rfl rfl k3 rfl (by decide))
    obtain ⟨m2, rfl, h2⟩ := int a2 (at_ 2 _ 3 a2 rfl rfl k3 rfl (by decide))
    obtain ⟨m3, rfl, h3⟩ := int a3 (at_ 3 _ 3 a3 rfl rfl k3 rfl (by decide))
    obtain ⟨m4, rfl, h4⟩ := word a4 (at_ 4 _ 22 a4 rfl rfl k22 rfl (by decide))
    obtain ⟨m5, rfl, h5⟩ := word a5 (at_ 5 _ 22 a5 rfl rfl k22 rfl (by decide))
    obtain ⟨y6, hy6⟩ := at_ 6 _ 23 a6 rfl rfl k23 rfl (by decide)
    rcases open_ints u23 u5 k5 hy6 with ⟨hcs, _⟩ | ⟨a', len', cap', zs, hcs, _, hle, hmax, hlen', _, hcell, hwf⟩
    · cases hcs
      exact ⟨⟨⟨m0, m1, m2, m3, m4, m5, []⟩, none, 0⟩, rfl, ⟨h0, h1, h2, h3, h4, h5, fun _ hb => by cases hb⟩, Nat.le_refl _, Nat.zero_le _, InRow.nil⟩
    · cases hcs
      simp only [if_true] at hlen'
      have hl : (zs.take len').length = len' := by rw [List.length_take]; omega
      refine ⟨⟨⟨m0, m1, m2, m3, m4, m5, zs.take len'⟩, some a', cap'⟩, ?_, ⟨h0, h1, h2, h3, h4, h5, fun b hb => ?_⟩, ?_, hmax, InRow.of_spot fun j v hj => ?_⟩
      · show [_, _, _, _, _, _, Value.slice (some a') len' cap'] = [_, _, _, _, _, _, Value.slice (some a') (zs.take len').length cap']
        rw [hl]
      · have := hwf b (List.mem_of_mem_take hb); simp [Lit.wf, IntKind.min, IntKind.max, IntKind.signed, IntKind.bits] at this; exact ⟨by omega, by omega⟩
      · show (zs.take len').length ≤ cap'; omega
      · have hj' : j < len' := by have := (List.getElem?_eq_some_iff.1 hj).1; simp [bytesV] at this; omega
        rw [hcell j (by omega)]
        simp [bytesV, List.getElem?_take, hj'] at hj
        obtain ⟨z, hz, rfl⟩ := hj
        simp [List.getD, hz]
theorem open_stv {r : Reach} {b0 : Nat} {v : Value} {d : DataW H} {ps : List MemPlace} (hval : Value.okWide Tryd.prog w r b0 25 v) (hd : DataW.Trod enc Tryd.prog w base (fun _ => true) held 25 v d ps) :
    ∃ q : Sr, v = .agg q.cells.toArray ∧ StOk q.st ∧ q.st.raw.length ≤ q.cap ∧ q.cap ≤ maxLen ∧ InRow w q.ad (bytesV q.st.raw) := by
  obtain ⟨cs, rfl, _⟩ := okWide_struct ty25.und hval
  obtain ⟨n, hn⟩ := hd
  obtain ⟨q, e, h⟩ := open_st hn
  exact ⟨q, by have : cs.toList = q.cells := e; rw [← this], h⟩
end
end Go.Proofs.YtkhkagjbeilbgaaDoor

/-
  Own work: contracts of functions that the statement reaches, and plain facts on what they compute; each theorem says its conditions.
-/
import Derived.Test.YtkhkagjbeilbgaaDoorTy
import Derived.Test.YtkhkagjbeilbgaaDoorSlEq
import Derived.Test.YtkhkagjbeilbgaaDoorShelf
import Derived.WalkSmall
set_option linter.all false
set_option linter.unusedSimpArgs false
set_option linter.unusedVariables false
namespace Go.Proofs.YtkhkagjbeilbgaaDoor
open Go Go.Sl
attribute [local irreducible] W

/-- strings.asciiSpace, as the rows list it -/
def Tab (w : World) : Prop := Lib.TabIs Tryd.prog w "strings.asciiSpace" .u8 Lib.asciiSpaceTab
theorem ascii_of {l : List UInt8} (h : l.all (fun b => decide (b.toNat < 128)) = true) : ∀ (j : Nat) (b : UInt8), l[j]? = some b → b.toNat < 128 := fun j b hb => by
  have := List.all_eq_true.1 h b (List.mem_of_getElem? hb)
  simpa using this
theorem tab_of {w0 w : World} {H : Heap} (hT : Tab w0) (hs : Sat w0 H w) : Tab w :=
  have hlt : 0 < w0.heap.size := World.block_lt_of_cell? _ _ (hT.cell (g := 0) (by kernel_rfl) 0 (by rw [Lib.asciiSpaceTab_length]; omega))
  var?_below (g := 0) hs.below (by kernel_rfl) hlt hT

def sumsA : List ByteArray := [⟨#[97, 100, 100]⟩, ⟨#[115, 117, 98]⟩, ⟨#[109, 117, 108]⟩, ⟨#[100, 105, 118]⟩, ⟨#[109, 111, 100]⟩, ⟨#[97, 110, 100]⟩, ⟨#[111, 114]⟩, ⟨#[120, 111, 114]⟩, ⟨#[108, 115, 104]⟩, ⟨#[114, 115, 104]⟩, ⟨#[97, 114, 115, 104]⟩, ⟨#[109, 111, 118]⟩, ⟨#[110, 101, 103]⟩]
def sumsC : ByteArray := ⟨#[97, 100, 100, 32, 115, 117, 98, 32, 109, 117, 108, 32, 100, 105, 118, 32, 109, 111, 100, 32, 97, 110, 100, 32, 111, 114, 32, 120, 111, 114, 32, 108, 115, 104, 32, 114, 115, 104, 32, 97, 114, 115, 104, 32, 109, 111, 118, 32, 110, 101, 103]⟩
theorem fields_sums {w0 : World} {H : Heap} (hT : Tab w0) : LCalls Tryd.prog w0 55 #[.string sumsC] H (fun v H' => ∃ b, v = .slice (some ⟨b, 0, none⟩) 13 13 ∧ H' = (b, .cells 9 13 (sumsA.map Value.string)) :: H) := by
  have hf : Lib.fields sumsC.data.toList = [[97, 100, 100], [115, 117, 98], [109, 117, 108], [100, 105, 118], [109, 111, 100], [97, 110, 100], [111, 114], [120, 111, 114], [108, 115, 104], [114, 115, 104], [97, 114, 115, 104], [109, 111, 118], [110, 101, 103]] := by decide
  have h : ∀ w, Tab w → Calls Tryd.prog 55 #[.string sumsC] w fun en w' => en = .returned (.slice (some ⟨w.heap.size, 0, none⟩) 13 13) ∧ w' = w.alloc (.cells (sumsA.map Value.string).toArray 9) := fun w ht => by
    have := Tryd.strings_Fields sumsC w (by decide) (ascii_of (by decide)) ht
    rw [hf] at this
    exact this
  refine (L_of_alloc (g := fun a => .slice (some a) 13 13) h (fun w hs => tab_of hT hs)).mono ?_
  rintro v H' ⟨b, rfl, rfl⟩
  exact ⟨b, rfl, rfl⟩

def jumpsA : List ByteArray := [⟨#[106, 97]⟩, ⟨#[106, 101, 113]⟩, ⟨#[106, 110, 101]⟩, ⟨#[106, 103, 116]⟩, ⟨#[106, 103, 101]⟩, ⟨#[106, 108, 116]⟩, ⟨#[106, 108, 101]⟩, ⟨#[106, 115, 101, 116]⟩, ⟨#[106, 115, 103, 116]⟩, ⟨#[106, 115, 108, 116]⟩]
def jumpsC : ByteArray := ⟨#[106, 97, 32, 106, 101, 113, 32, 106, 110, 101, 32, 106, 103, 116, 32, 106, 103, 101, 32, 106, 108, 116, 32, 106, 108, 101, 32, 106, 115, 101, 116, 32, 106, 115, 103, 116, 32, 106, 115, 108, 116]⟩
theorem fields_jumps {w0 : World} {H : Heap} (hT : Tab w0) : LCalls Tryd.prog w0 55 #[.string jumpsC] H (fun v H' => ∃ b, v = .slice (some ⟨b, 0, none⟩) 10 10 ∧ H' = (b, .cells 9 10 (jumpsA.map Value.string)) :: H) := by
  have hf : Lib.fields jumpsC.data.toList = [[106, 97], [106, 101, 113], [106, 110, 101], [106, 103, 116], [106, 103, 101], [106, 108, 116], [106, 108, 101], [106, 115, 101, 116], [106, 115, 103, 116], [106, 115, 108, 116]] := by decide
  have h : ∀ w, Tab w → Calls Tryd.prog 55 #[.string jumpsC] w fun en w' => en = .returned (.slice (some ⟨w.heap.size, 0, none⟩) 10 10) ∧ w' = w.alloc (.cells (jumpsA.map Value.string).toArray 9) := fun w ht => by
    have := Tryd.strings_Fields jumpsC w (by decide) (ascii_of (by decide)) ht
    rw [hf] at this
    exact this
  refine (L_of_alloc (g := fun a => .slice (some a) 10 10) h (fun w hs => tab_of hT hs)).mono ?_
  rintro v H' ⟨b, rfl, rfl⟩
  exact ⟨b, rfl, rfl⟩

def placesA : List ByteArray := [⟨#[108, 100, 115, 116]⟩, ⟨#[115, 116, 115, 116]⟩, ⟨#[108, 100, 118]⟩, ⟨#[115, 116, 118]⟩]
def placesC : ByteArray := ⟨#[108, 100, 115, 116, 32, 115, 116, 115, 116, 32, 108, 100, 118, 32, 115, 116, 118]⟩
theorem fields_places {w0 : World} {H : Heap} (hT : Tab w0) : LCalls Tryd.prog w0 55 #[.string placesC] H (fun v H' => ∃ b, v = .slice (some ⟨b, 0, none⟩) 4 4 ∧ H' = (b, .cells 9 4 (placesA.map Value.string)) :: H) := by
  have hf : Lib.fields placesC.data.toList = [[108, 100, 115, 116], [115, 116, 115, 116], [108, 100, 118], [115, 116, 118]] := by decide
  have h : ∀ w, Tab w → Calls Tryd.prog 55 #[.string placesC] w fun en w' => en = .returned (.slice (some ⟨w.heap.size, 0, none⟩) 4 4) ∧ w' = w.alloc (.cells (placesA.map Value.string).toArray 9) := fun w ht => by
    have := Tryd.strings_Fields placesC w (by decide) (ascii_of (by decide)) ht
    rw [hf] at this
    exact this
  refine (L_of_alloc (g := fun a => .slice (some a) 4 4) h (fun w hs => tab_of hT hs)).mono ?_
  rintro v H' ⟨b, rfl, rfl⟩
  exact ⟨b, rfl, rfl⟩

def flowsA : List ByteArray := [⟨#[99, 97, 108, 108]⟩, ⟨#[101, 120, 105, 116]⟩]
def flowsC : ByteArray := ⟨#[99, 97, 108, 108, 32, 101, 120, 105, 116]⟩
theorem fields_flows {w0 : World} {H : Heap} (hT : Tab w0) : LCalls Tryd.prog w0 55 #[.string flowsC] H (fun v H' => ∃ b, v = .slice (some ⟨b, 0, none⟩) 2 2 ∧ H' = (b, .cells 9 2 (flowsA.map Value.string)) :: H) := by
  have hf : Lib.fields flowsC.data.toList = [[99, 97, 108, 108], [101, 120, 105, 116]] := by decide
  have h : ∀ w, Tab w → Calls Tryd.prog 55 #[.string flowsC] w fun en w' => en = .returned (.slice (some ⟨w.heap.size, 0, none⟩) 2 2) ∧ w' = w.alloc (.cells (flowsA.map Value.string).toArray 9) := fun w ht => by
    have := Tryd.strings_Fields flowsC w (by decide) (ascii_of (by decide)) ht
    rw [hf] at this
    exact this
  refine (L_of_alloc (g := fun a => .slice (some a) 2 2) h (fun w hs => tab_of hT hs)).mono ?_
  rintro v H' ⟨b, rfl, rfl⟩
  exact ⟨b, rfl, rfl⟩
end Go.Proofs.YtkhkagjbeilbgaaDoor

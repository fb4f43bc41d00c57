/-
  DERIVED. GIVEN WITH THE SEED: THE CARDS: each row of YtkhkagjbeilbgaaDoorRows.lean that lists a variable, with what it lists TIED to the program's text (the seventh form; the later family's looks); each row that meets fmt, with fmt's text TOLD by the authors' own Lean function (tested against real Go, not proved from fmt's source: count such statements apart). THE CARD IS WHAT COUNTS. Prove the row's statement (the work); the ties are given (YtkhkagjbeilbgaaDoorTie.lean); close each card by the builder's one call (the guide's Derived/Test/ToyasCard.lean, 'card_holds'). Laid BY PROGRAM, IN A SANDBOX (cutbox-door.mjs). By AI agents, Wed Nov 11 2026. No macro, syntax, notation, axiom, sorry.
-/
import Derived.Test.YtkhkagjbeilbgaaDoorRows
import GoSem.ClaimSeven
namespace Go.Proofs.YtkhkagjbeilbgaaDoor
namespace Rows

/-- THE TIED CARD OF 'detentlaw29.ScriptChecks'. -/
def scriptChecksCard : Claim7 := { stood := { row := scriptChecksRow, standIns := [], harness := (true, "8e08e48c970b55cb370bfa51d170291b65c4cc63d6fbf9a6e92f15baacb65150"), looks := false }, kinds := [], alts := [], laidByText := true, laidKinds := [.listed, .data], laidTests := true, laidLooks := .later }
def ScriptChecksCardSaid : Prop := Claim7.holds Tryd.pinned (.plain (OpenSpec.ofChange scriptChecksSpec)) scriptChecksCard

/-- THE TIED CARD OF 'detentlaw18.FrameRefs'. -/
def frameRefsCard : Claim7 := { stood := { row := frameRefsRow, standIns := [], harness := (true, "8e08e48c970b55cb370bfa51d170291b65c4cc63d6fbf9a6e92f15baacb65150"), looks := false }, kinds := [], alts := [], laidByText := true, laidKinds := [.listed, .data], laidTests := true, laidLooks := .later }
def FrameRefsCardSaid : Prop := Claim7.holds Tryd.pinned (.plain (OpenSpec.ofChange frameRefsSpec)) frameRefsCard

/-- THE TIED CARD OF 'detentlaw18.FrameSets'. -/
def frameSetsCard : Claim7 := { stood := { row := frameSetsRow, standIns := [], harness := (true, "8e08e48c970b55cb370bfa51d170291b65c4cc63d6fbf9a6e92f15baacb65150"), looks := false }, kinds := [], alts := [], laidByText := true, laidKinds := [.listed, .data], laidTests := true, laidLooks := .later }
def FrameSetsCardSaid : Prop := Claim7.holds Tryd.pinned (.plain (OpenSpec.ofChange frameSetsSpec)) frameSetsCard

/-- THE TIED CARD OF 'detentlaw18.FrameBytes'. -/
def frameBytesCard : Claim7 := { stood := { row := frameBytesRow, standIns := [], harness := (true, "8e08e48c970b55cb370bfa51d170291b65c4cc63d6fbf9a6e92f15baacb65150"), looks := false }, kinds := [], alts := [], laidByText := true, laidKinds := [.listed, .data], laidTests := true, laidLooks := .later }
def FrameBytesCardSaid : Prop := Claim7.holds Tryd.pinned (.plain (OpenSpec.ofChange frameBytesSpec)) frameBytesCard

/-- THE TIED CARD OF 'detentlaw18.FrameNil'. -/
def frameNilCard : Claim7 := { stood := { row := frameNilRow, standIns := [], harness := (true, "8e08e48c970b55cb370bfa51d170291b65c4cc63d6fbf9a6e92f15baacb65150"), looks := false }, kinds := [], alts := [], laidByText := true, laidKinds := [.listed, .data], laidTests := true, laidLooks := .later }
def FrameNilCardSaid : Prop := Claim7.holds Tryd.pinned (.plain (OpenSpec.ofChange frameNilSpec)) frameNilCard

/-- THE TIED CARD OF 'detentlaw19.VmSteps'. -/
def vmStepsCard : Claim7 := { stood := { row := vmStepsRow, standIns := [], harness := (true, "8e08e48c970b55cb370bfa51d170291b65c4cc63d6fbf9a6e92f15baacb65150"), looks := false }, kinds := [], alts := [], laidByText := true, laidKinds := [.listed, .data], laidTests := true, laidLooks := .later }
def VmStepsCardSaid : Prop := Claim7.holds Tryd.pinned (.plain (OpenSpec.ofChange vmStepsSpec)) vmStepsCard

/-- THE TIED CARD OF 'detentlaw19.VmEnds'. -/
def vmEndsCard : Claim7 := { stood := { row := vmEndsRow, standIns := [], harness := (true, "8e08e48c970b55cb370bfa51d170291b65c4cc63d6fbf9a6e92f15baacb65150"), looks := false }, kinds := [], alts := [], laidByText := true, laidKinds := [.listed, .data], laidTests := true, laidLooks := .later }
def VmEndsCardSaid : Prop := Claim7.holds Tryd.pinned (.plain (OpenSpec.ofChange vmEndsSpec)) vmEndsCard

/-- THE TIED CARD OF 'detentlaw19.VmBytes'. -/
def vmBytesCard : Claim7 := { stood := { row := vmBytesRow, standIns := [], harness := (true, "8e08e48c970b55cb370bfa51d170291b65c4cc63d6fbf9a6e92f15baacb65150"), looks := false }, kinds := [], alts := [], laidByText := true, laidKinds := [.listed, .data], laidTests := true, laidLooks := .later }
def VmBytesCardSaid : Prop := Claim7.holds Tryd.pinned (.plain (OpenSpec.ofChange vmBytesSpec)) vmBytesCard

/-- THE TIED CARD OF 'detentlaw19.VmNil'. -/
def vmNilCard : Claim7 := { stood := { row := vmNilRow, standIns := [], harness := (true, "8e08e48c970b55cb370bfa51d170291b65c4cc63d6fbf9a6e92f15baacb65150"), looks := false }, kinds := [], alts := [], laidByText := true, laidKinds := [.listed, .data], laidTests := true, laidLooks := .later }
def VmNilCardSaid : Prop := Claim7.holds Tryd.pinned (.plain (OpenSpec.ofChange vmNilSpec)) vmNilCard

/-- THE SECOND FORM's CARD OF 'detentlaw29.ScriptChecks'. -/
def scriptChecksUptoCard : Claim7 := { stood := { row := scriptChecksUptoRow, standIns := [], harness := (true, "8e08e48c970b55cb370bfa51d170291b65c4cc63d6fbf9a6e92f15baacb65150"), looks := false }, kinds := [], alts := [], laidByText := true, laidKinds := [.listed, .data], laidTests := true, laidLooks := .later }
def ScriptChecksUptoCardSaid : Prop := Claim7.holds Tryd.pinned (.plain (OpenSpec.upto scriptChecksSpec)) scriptChecksUptoCard

/-- THE SECOND FORM's CARD OF 'detentlaw18.FrameRefs'. -/
def frameRefsUptoCard : Claim7 := { stood := { row := frameRefsUptoRow, standIns := [], harness := (true, "8e08e48c970b55cb370bfa51d170291b65c4cc63d6fbf9a6e92f15baacb65150"), looks := false }, kinds := [], alts := [], laidByText := true, laidKinds := [.listed, .data], laidTests := true, laidLooks := .later }
def FrameRefsUptoCardSaid : Prop := Claim7.holds Tryd.pinned (.plain (OpenSpec.upto frameRefsSpec)) frameRefsUptoCard

/-- THE SECOND FORM's CARD OF 'detentlaw18.FrameSets'. -/
def frameSetsUptoCard : Claim7 := { stood := { row := frameSetsUptoRow, standIns := [], harness := (true, "8e08e48c970b55cb370bfa51d170291b65c4cc63d6fbf9a6e92f15baacb65150"), looks := false }, kinds := [], alts := [], laidByText := true, laidKinds := [.listed, .data], laidTests := true, laidLooks := .later }
def FrameSetsUptoCardSaid : Prop := Claim7.holds Tryd.pinned (.plain (OpenSpec.upto frameSetsSpec)) frameSetsUptoCard

/-- THE SECOND FORM's CARD OF 'detentlaw18.FrameBytes'. -/
def frameBytesUptoCard : Claim7 := { stood := { row := frameBytesUptoRow, standIns := [], harness := (true, "8e08e48c970b55cb370bfa51d170291b65c4cc63d6fbf9a6e92f15baacb65150"), looks := false }, kinds := [], alts := [], laidByText := true, laidKinds := [.listed, .data], laidTests := true, laidLooks := .later }
def FrameBytesUptoCardSaid : Prop := Claim7.holds Tryd.pinned (.plain (OpenSpec.upto frameBytesSpec)) frameBytesUptoCard

/-- THE SECOND FORM's CARD OF 'detentlaw18.FrameNil'. -/
def frameNilUptoCard : Claim7 := { stood := { row := frameNilUptoRow, standIns := [], harness := (true, "8e08e48c970b55cb370bfa51d170291b65c4cc63d6fbf9a6e92f15baacb65150"), looks := false }, kinds := [], alts := [], laidByText := true, laidKinds := [.listed, .data], laidTests := true, laidLooks := .later }
def FrameNilUptoCardSaid : Prop := Claim7.holds Tryd.pinned (.plain (OpenSpec.upto frameNilSpec)) frameNilUptoCard

/-- THE SECOND FORM's CARD OF 'detentlaw19.VmSteps'. -/
def vmStepsUptoCard : Claim7 := { stood := { row := vmStepsUptoRow, standIns := [], harness := (true, "8e08e48c970b55cb370bfa51d170291b65c4cc63d6fbf9a6e92f15baacb65150"), looks := false }, kinds := [], alts := [], laidByText := true, laidKinds := [.listed, .data], laidTests := true, laidLooks := .later }
def VmStepsUptoCardSaid : Prop := Claim7.holds Tryd.pinned (.plain (OpenSpec.upto vmStepsSpec)) vmStepsUptoCard

/-- THE SECOND FORM's CARD OF 'detentlaw19.VmEnds'. -/
def vmEndsUptoCard : Claim7 := { stood := { row := vmEndsUptoRow, standIns := [], harness := (true, "8e08e48c970b55cb370bfa51d170291b65c4cc63d6fbf9a6e92f15baacb65150"), looks := false }, kinds := [], alts := [], laidByText := true, laidKinds := [.listed, .data], laidTests := true, laidLooks := .later }
def VmEndsUptoCardSaid : Prop := Claim7.holds Tryd.pinned (.plain (OpenSpec.upto vmEndsSpec)) vmEndsUptoCard

/-- THE SECOND FORM's CARD OF 'detentlaw19.VmBytes'. -/
def vmBytesUptoCard : Claim7 := { stood := { row := vmBytesUptoRow, standIns := [], harness := (true, "8e08e48c970b55cb370bfa51d170291b65c4cc63d6fbf9a6e92f15baacb65150"), looks := false }, kinds := [], alts := [], laidByText := true, laidKinds := [.listed, .data], laidTests := true, laidLooks := .later }
def VmBytesUptoCardSaid : Prop := Claim7.holds Tryd.pinned (.plain (OpenSpec.upto vmBytesSpec)) vmBytesUptoCard

/-- THE SECOND FORM's CARD OF 'detentlaw19.VmNil'. -/
def vmNilUptoCard : Claim7 := { stood := { row := vmNilUptoRow, standIns := [], harness := (true, "8e08e48c970b55cb370bfa51d170291b65c4cc63d6fbf9a6e92f15baacb65150"), looks := false }, kinds := [], alts := [], laidByText := true, laidKinds := [.listed, .data], laidTests := true, laidLooks := .later }
def VmNilUptoCardSaid : Prop := Claim7.holds Tryd.pinned (.plain (OpenSpec.upto vmNilSpec)) vmNilUptoCard
end Rows
end Go.Proofs.YtkhkagjbeilbgaaDoor

/-
  DERIVED. GIVEN WITH THE SEED: THE CARDS: each row of YtcggkokeggfdkaaGreatDoorRows.lean that lists a variable, with what it lists TIED to the program's text (the seventh form; the later family's looks); each row that meets fmt, with fmt's text TOLD by the authors' own Lean function (tested against real Go, not proved from fmt's source: count such statements apart). THE CARD IS WHAT COUNTS. Prove the row's statement (the work); the ties are given (YtcggkokeggfdkaaGreatDoorTie.lean); close each card by the builder's one call (the guide's Derived/Test/ToyasCard.lean, 'card_holds'). Laid BY PROGRAM, IN A SANDBOX (cutbox-door.mjs). By AI agents, Wed Nov 11 2026. No macro, syntax, notation, axiom, sorry.
-/
import Derived.Test.YtcggkokeggfdkaaGreatDoorRows
import GoSem.ClaimSeven
namespace Go.Proofs.YtcggkokeggfdkaaGreatDoor
namespace Rows

/-- THE TIED CARD OF 'detentlaw31.KernelPrograms'. -/
def kernelProgramsCard : Claim7 := { stood := { row := kernelProgramsRow, standIns := [], harness := (true, "4d7614ecba58d583a61bc48eff517079d46cdcfbbbf69b832cfb569d3c424a3a"), looks := false }, kinds := [], alts := [], laidByText := true, laidKinds := [.data, .data, .listed], laidTests := true, laidLooks := .later }
def KernelProgramsCardSaid : Prop := Claim7.holds Tryz.pinned (.plain (OpenSpec.ofChange kernelProgramsSpec)) kernelProgramsCard

/-- THE TIED CARD OF 'detentlaw31.KernelNil'. -/
def kernelNilCard : Claim7 := { stood := { row := kernelNilRow, standIns := [], harness := (true, "4d7614ecba58d583a61bc48eff517079d46cdcfbbbf69b832cfb569d3c424a3a"), looks := false }, kinds := [], alts := [], laidByText := true, laidKinds := [.data, .data, .listed], laidTests := true, laidLooks := .later }
def KernelNilCardSaid : Prop := Claim7.holds Tryz.pinned (.plain (OpenSpec.ofChange kernelNilSpec)) kernelNilCard

/-- THE TIED CARD OF 'detentlaw32.WorldNil'. -/
def worldNilCard : Claim7 := { stood := { row := worldNilRow, standIns := [], harness := (true, "4d7614ecba58d583a61bc48eff517079d46cdcfbbbf69b832cfb569d3c424a3a"), looks := false }, kinds := [], alts := [], laidByText := true, laidKinds := [.data, .data, .listed, .data, .data], laidTests := true, laidLooks := .later }
def WorldNilCardSaid : Prop := Claim7.holds Tryz.pinned (.plain (OpenSpec.ofChange worldNilSpec)) worldNilCard

/-- THE SECOND FORM's CARD OF 'detentlaw31.KernelPrograms'. -/
def kernelProgramsUptoCard : Claim7 := { stood := { row := kernelProgramsUptoRow, standIns := [], harness := (true, "4d7614ecba58d583a61bc48eff517079d46cdcfbbbf69b832cfb569d3c424a3a"), looks := false }, kinds := [], alts := [], laidByText := true, laidKinds := [.data, .data, .listed], laidTests := true, laidLooks := .later }
def KernelProgramsUptoCardSaid : Prop := Claim7.holds Tryz.pinned (.plain (OpenSpec.upto kernelProgramsSpec)) kernelProgramsUptoCard

/-- THE SECOND FORM's CARD OF 'detentlaw31.KernelNil'. -/
def kernelNilUptoCard : Claim7 := { stood := { row := kernelNilUptoRow, standIns := [], harness := (true, "4d7614ecba58d583a61bc48eff517079d46cdcfbbbf69b832cfb569d3c424a3a"), looks := false }, kinds := [], alts := [], laidByText := true, laidKinds := [.data, .data, .listed], laidTests := true, laidLooks := .later }
def KernelNilUptoCardSaid : Prop := Claim7.holds Tryz.pinned (.plain (OpenSpec.upto kernelNilSpec)) kernelNilUptoCard

/-- THE SECOND FORM's CARD OF 'detentlaw32.WorldNil'. -/
def worldNilUptoCard : Claim7 := { stood := { row := worldNilUptoRow, standIns := [], harness := (true, "4d7614ecba58d583a61bc48eff517079d46cdcfbbbf69b832cfb569d3c424a3a"), looks := false }, kinds := [], alts := [], laidByText := true, laidKinds := [.data, .data, .listed, .data, .data], laidTests := true, laidLooks := .later }
def WorldNilUptoCardSaid : Prop := Claim7.holds Tryz.pinned (.plain (OpenSpec.upto worldNilSpec)) worldNilUptoCard
end Rows
end Go.Proofs.YtcggkokeggfdkaaGreatDoor

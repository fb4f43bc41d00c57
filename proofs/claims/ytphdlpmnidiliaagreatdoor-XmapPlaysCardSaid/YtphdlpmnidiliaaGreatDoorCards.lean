/-
  DERIVED. GIVEN WITH THE SEED: THE CARDS: each row of YtphdlpmnidiliaaGreatDoorRows.lean that lists a variable, with what it lists TIED to the program's text (the seventh form; the later family's looks); each row that meets fmt, with fmt's text TOLD by the authors' own Lean function (tested against real Go, not proved from fmt's source: count such statements apart). THE CARD IS WHAT COUNTS. Prove the row's statement (the work); the ties are given (YtphdlpmnidiliaaGreatDoorTie.lean); close each card by the builder's one call (the guide's Derived/Test/ToyasCard.lean, 'card_holds'). Laid BY PROGRAM, IN A SANDBOX (cutbox-door.mjs). By AI agents, Wed Nov 11 2026. No macro, syntax, notation, axiom, sorry.
-/
import Derived.Test.YtphdlpmnidiliaaGreatDoorRows
import GoSem.ClaimSeven
namespace Go.Proofs.YtphdlpmnidiliaaGreatDoor
namespace Rows

/-- THE TIED CARD OF 'detentlaw22.XmapArrays'. -/
def xmapArraysCard : Claim7 := { stood := { row := xmapArraysRow, standIns := [], harness := (true, "187e4a18c47afa38336107de8f194f03784f58b0f392bd89892baac51364b88d"), looks := false }, kinds := [], alts := [], laidByText := true, laidKinds := [.data], laidTests := true, laidLooks := .later }
def XmapArraysCardSaid : Prop := Claim7.holds Tryz.pinned (.plain (OpenSpec.ofChange xmapArraysSpec)) xmapArraysCard

/-- THE TIED CARD OF 'detentlaw22.XmapOldest'. -/
def xmapOldestCard : Claim7 := { stood := { row := xmapOldestRow, standIns := [], harness := (true, "187e4a18c47afa38336107de8f194f03784f58b0f392bd89892baac51364b88d"), looks := false }, kinds := [], alts := [], laidByText := true, laidKinds := [.data], laidTests := true, laidLooks := .later }
def XmapOldestCardSaid : Prop := Claim7.holds Tryz.pinned (.plain (OpenSpec.ofChange xmapOldestSpec)) xmapOldestCard

/-- THE TIED CARD OF 'detentlaw22.XmapKeeps'. -/
def xmapKeepsCard : Claim7 := { stood := { row := xmapKeepsRow, standIns := [], harness := (true, "187e4a18c47afa38336107de8f194f03784f58b0f392bd89892baac51364b88d"), looks := false }, kinds := [], alts := [], laidByText := true, laidKinds := [.data], laidTests := true, laidLooks := .later }
def XmapKeepsCardSaid : Prop := Claim7.holds Tryz.pinned (.plain (OpenSpec.ofChange xmapKeepsSpec)) xmapKeepsCard

/-- THE TIED CARD OF 'detentlaw22.XmapPlays'. -/
def xmapPlaysCard : Claim7 := { stood := { row := xmapPlaysRow, standIns := [], harness := (true, "187e4a18c47afa38336107de8f194f03784f58b0f392bd89892baac51364b88d"), looks := false }, kinds := [], alts := [], laidByText := true, laidKinds := [.data], laidTests := true, laidLooks := .later }
def XmapPlaysCardSaid : Prop := Claim7.holds Tryz.pinned (.plain (OpenSpec.ofChange xmapPlaysSpec)) xmapPlaysCard

/-- THE TIED CARD OF 'detentlaw22.XmapNil'. -/
def xmapNilCard : Claim7 := { stood := { row := xmapNilRow, standIns := [], harness := (true, "187e4a18c47afa38336107de8f194f03784f58b0f392bd89892baac51364b88d"), looks := false }, kinds := [], alts := [], laidByText := true, laidKinds := [.data], laidTests := true, laidLooks := .later }
def XmapNilCardSaid : Prop := Claim7.holds Tryz.pinned (.plain (OpenSpec.ofChange xmapNilSpec)) xmapNilCard

/-- THE SECOND FORM's CARD OF 'detentlaw22.XmapArrays'. -/
def xmapArraysUptoCard : Claim7 := { stood := { row := xmapArraysUptoRow, standIns := [], harness := (true, "187e4a18c47afa38336107de8f194f03784f58b0f392bd89892baac51364b88d"), looks := false }, kinds := [], alts := [], laidByText := true, laidKinds := [.data], laidTests := true, laidLooks := .later }
def XmapArraysUptoCardSaid : Prop := Claim7.holds Tryz.pinned (.plain (OpenSpec.upto xmapArraysSpec)) xmapArraysUptoCard

/-- THE SECOND FORM's CARD OF 'detentlaw22.XmapOldest'. -/
def xmapOldestUptoCard : Claim7 := { stood := { row := xmapOldestUptoRow, standIns := [], harness := (true, "187e4a18c47afa38336107de8f194f03784f58b0f392bd89892baac51364b88d"), looks := false }, kinds := [], alts := [], laidByText := true, laidKinds := [.data], laidTests := true, laidLooks := .later }
def XmapOldestUptoCardSaid : Prop := Claim7.holds Tryz.pinned (.plain (OpenSpec.upto xmapOldestSpec)) xmapOldestUptoCard

/-- THE SECOND FORM's CARD OF 'detentlaw22.XmapKeeps'. -/
def xmapKeepsUptoCard : Claim7 := { stood := { row := xmapKeepsUptoRow, standIns := [], harness := (true, "187e4a18c47afa38336107de8f194f03784f58b0f392bd89892baac51364b88d"), looks := false }, kinds := [], alts := [], laidByText := true, laidKinds := [.data], laidTests := true, laidLooks := .later }
def XmapKeepsUptoCardSaid : Prop := Claim7.holds Tryz.pinned (.plain (OpenSpec.upto xmapKeepsSpec)) xmapKeepsUptoCard

/-- THE SECOND FORM's CARD OF 'detentlaw22.XmapPlays'. -/
def xmapPlaysUptoCard : Claim7 := { stood := { row := xmapPlaysUptoRow, standIns := [], harness := (true, "187e4a18c47afa38336107de8f194f03784f58b0f392bd89892baac51364b88d"), looks := false }, kinds := [], alts := [], laidByText := true, laidKinds := [.data], laidTests := true, laidLooks := .later }
def XmapPlaysUptoCardSaid : Prop := Claim7.holds Tryz.pinned (.plain (OpenSpec.upto xmapPlaysSpec)) xmapPlaysUptoCard

/-- THE SECOND FORM's CARD OF 'detentlaw22.XmapNil'. -/
def xmapNilUptoCard : Claim7 := { stood := { row := xmapNilUptoRow, standIns := [], harness := (true, "187e4a18c47afa38336107de8f194f03784f58b0f392bd89892baac51364b88d"), looks := false }, kinds := [], alts := [], laidByText := true, laidKinds := [.data], laidTests := true, laidLooks := .later }
def XmapNilUptoCardSaid : Prop := Claim7.holds Tryz.pinned (.plain (OpenSpec.upto xmapNilSpec)) xmapNilUptoCard
end Rows
end Go.Proofs.YtphdlpmnidiliaaGreatDoor

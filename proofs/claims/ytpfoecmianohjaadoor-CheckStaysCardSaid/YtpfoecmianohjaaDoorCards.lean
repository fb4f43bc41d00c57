/-
  DERIVED. GIVEN WITH THE SEED: THE CARDS: each row of YtpfoecmianohjaaDoorRows.lean that lists a variable, with what it lists TIED to the program's text (the seventh form; the later family's looks); each row that meets fmt, with fmt's text TOLD by the authors' own Lean function (tested against real Go, not proved from fmt's source: count such statements apart). THE CARD IS WHAT COUNTS. Prove the row's statement (the work); the ties are given (YtpfoecmianohjaaDoorTie.lean); close each card by the builder's one call (the guide's Derived/Test/ToyasCard.lean, 'card_holds'). Laid BY PROGRAM, IN A SANDBOX (cutbox-door.mjs). By AI agents, Wed Nov 11 2026. No macro, syntax, notation, axiom, sorry.
-/
import Derived.Test.YtpfoecmianohjaaDoorRows
import GoSem.ClaimSeven
namespace Go.Proofs.YtpfoecmianohjaaDoor
namespace Rows

/-- THE TIED CARD OF 'detentlaw16.AluSums'. -/
def aluSumsCard : Claim7 := { stood := { row := aluSumsRow, standIns := [], harness := (true, "618adf016798d171d5ab5a6cb32b08b10260785b7fe9b4e9e09618e8a6641287"), looks := false }, kinds := [], alts := [], laidByText := true, laidKinds := [.listed, .data], laidTests := true, laidLooks := .later }
def AluSumsCardSaid : Prop := Claim7.holds Tryd.pinned (.plain (OpenSpec.ofChange aluSumsSpec)) aluSumsCard

/-- THE TIED CARD OF 'detentlaw16.AluJumps'. -/
def aluJumpsCard : Claim7 := { stood := { row := aluJumpsRow, standIns := [], harness := (true, "618adf016798d171d5ab5a6cb32b08b10260785b7fe9b4e9e09618e8a6641287"), looks := false }, kinds := [], alts := [], laidByText := true, laidKinds := [.listed, .data], laidTests := true, laidLooks := .later }
def AluJumpsCardSaid : Prop := Claim7.holds Tryd.pinned (.plain (OpenSpec.ofChange aluJumpsSpec)) aluJumpsCard

/-- THE TIED CARD OF 'detentlaw16.AluDivides'. -/
def aluDividesCard : Claim7 := { stood := { row := aluDividesRow, standIns := [], harness := (true, "618adf016798d171d5ab5a6cb32b08b10260785b7fe9b4e9e09618e8a6641287"), looks := false }, kinds := [], alts := [], laidByText := true, laidKinds := [.listed, .data], laidTests := true, laidLooks := .later }
def AluDividesCardSaid : Prop := Claim7.holds Tryd.pinned (.plain (OpenSpec.ofChange aluDividesSpec)) aluDividesCard

/-- THE TIED CARD OF 'detentlaw16.AluOpposites'. -/
def aluOppositesCard : Claim7 := { stood := { row := aluOppositesRow, standIns := [], harness := (true, "618adf016798d171d5ab5a6cb32b08b10260785b7fe9b4e9e09618e8a6641287"), looks := false }, kinds := [], alts := [], laidByText := true, laidKinds := [.listed, .data], laidTests := true, laidLooks := .later }
def AluOppositesCardSaid : Prop := Claim7.holds Tryd.pinned (.plain (OpenSpec.ofChange aluOppositesSpec)) aluOppositesCard

/-- THE TIED CARD OF 'detentlaw16.AluWords'. -/
def aluWordsCard : Claim7 := { stood := { row := aluWordsRow, standIns := [], harness := (true, "618adf016798d171d5ab5a6cb32b08b10260785b7fe9b4e9e09618e8a6641287"), looks := false }, kinds := [], alts := [], laidByText := true, laidKinds := [.listed, .data], laidTests := true, laidLooks := .later }
def AluWordsCardSaid : Prop := Claim7.holds Tryd.pinned (.plain (OpenSpec.ofChange aluWordsSpec)) aluWordsCard

/-- THE TIED CARD OF 'detentlaw16.AluFolds'. -/
def aluFoldsCard : Claim7 := { stood := { row := aluFoldsRow, standIns := [], harness := (true, "618adf016798d171d5ab5a6cb32b08b10260785b7fe9b4e9e09618e8a6641287"), looks := false }, kinds := [], alts := [], laidByText := true, laidKinds := [.listed, .data], laidTests := true, laidLooks := .later }
def AluFoldsCardSaid : Prop := Claim7.holds Tryd.pinned (.plain (OpenSpec.ofChange aluFoldsSpec)) aluFoldsCard

/-- THE TIED CARD OF 'detentlaw17.CheckHelpers'. -/
def checkHelpersCard : Claim7 := { stood := { row := checkHelpersRow, standIns := [], harness := (true, "618adf016798d171d5ab5a6cb32b08b10260785b7fe9b4e9e09618e8a6641287"), looks := false }, kinds := [], alts := [], laidByText := true, laidKinds := [.listed, .data], laidTests := true, laidLooks := .later }
def CheckHelpersCardSaid : Prop := Claim7.holds Tryd.pinned (.plain (OpenSpec.ofChange checkHelpersSpec)) checkHelpersCard

/-- THE TIED CARD OF 'detentlaw17.CheckPlaces'. -/
def checkPlacesCard : Claim7 := { stood := { row := checkPlacesRow, standIns := [], harness := (true, "618adf016798d171d5ab5a6cb32b08b10260785b7fe9b4e9e09618e8a6641287"), looks := false }, kinds := [], alts := [], laidByText := true, laidKinds := [.listed, .data], laidTests := true, laidLooks := .later }
def CheckPlacesCardSaid : Prop := Claim7.holds Tryd.pinned (.plain (OpenSpec.ofChange checkPlacesSpec)) checkPlacesCard

/-- THE TIED CARD OF 'detentlaw17.CheckNext'. -/
def checkNextCard : Claim7 := { stood := { row := checkNextRow, standIns := [], harness := (true, "618adf016798d171d5ab5a6cb32b08b10260785b7fe9b4e9e09618e8a6641287"), looks := false }, kinds := [], alts := [], laidByText := true, laidKinds := [.listed, .data], laidTests := true, laidLooks := .later }
def CheckNextCardSaid : Prop := Claim7.holds Tryd.pinned (.plain (OpenSpec.ofChange checkNextSpec)) checkNextCard

/-- THE TIED CARD OF 'detentlaw17.CheckSleeps'. -/
def checkSleepsCard : Claim7 := { stood := { row := checkSleepsRow, standIns := [], harness := (true, "618adf016798d171d5ab5a6cb32b08b10260785b7fe9b4e9e09618e8a6641287"), looks := false }, kinds := [], alts := [], laidByText := true, laidKinds := [.listed, .data], laidTests := true, laidLooks := .later }
def CheckSleepsCardSaid : Prop := Claim7.holds Tryd.pinned (.plain (OpenSpec.ofChange checkSleepsSpec)) checkSleepsCard

/-- THE TIED CARD OF 'detentlaw17.CheckStays'. -/
def checkStaysCard : Claim7 := { stood := { row := checkStaysRow, standIns := [], harness := (true, "618adf016798d171d5ab5a6cb32b08b10260785b7fe9b4e9e09618e8a6641287"), looks := false }, kinds := [], alts := [], laidByText := true, laidKinds := [.listed, .data], laidTests := true, laidLooks := .later }
def CheckStaysCardSaid : Prop := Claim7.holds Tryd.pinned (.plain (OpenSpec.ofChange checkStaysSpec)) checkStaysCard

/-- THE SECOND FORM's CARD OF 'detentlaw16.AluSums'. -/
def aluSumsUptoCard : Claim7 := { stood := { row := aluSumsUptoRow, standIns := [], harness := (true, "618adf016798d171d5ab5a6cb32b08b10260785b7fe9b4e9e09618e8a6641287"), looks := false }, kinds := [], alts := [], laidByText := true, laidKinds := [.listed, .data], laidTests := true, laidLooks := .later }
def AluSumsUptoCardSaid : Prop := Claim7.holds Tryd.pinned (.plain (OpenSpec.upto aluSumsSpec)) aluSumsUptoCard

/-- THE SECOND FORM's CARD OF 'detentlaw16.AluJumps'. -/
def aluJumpsUptoCard : Claim7 := { stood := { row := aluJumpsUptoRow, standIns := [], harness := (true, "618adf016798d171d5ab5a6cb32b08b10260785b7fe9b4e9e09618e8a6641287"), looks := false }, kinds := [], alts := [], laidByText := true, laidKinds := [.listed, .data], laidTests := true, laidLooks := .later }
def AluJumpsUptoCardSaid : Prop := Claim7.holds Tryd.pinned (.plain (OpenSpec.upto aluJumpsSpec)) aluJumpsUptoCard

/-- THE SECOND FORM's CARD OF 'detentlaw16.AluDivides'. -/
def aluDividesUptoCard : Claim7 := { stood := { row := aluDividesUptoRow, standIns := [], harness := (true, "618adf016798d171d5ab5a6cb32b08b10260785b7fe9b4e9e09618e8a6641287"), looks := false }, kinds := [], alts := [], laidByText := true, laidKinds := [.listed, .data], laidTests := true, laidLooks := .later }
def AluDividesUptoCardSaid : Prop := Claim7.holds Tryd.pinned (.plain (OpenSpec.upto aluDividesSpec)) aluDividesUptoCard

/-- THE SECOND FORM's CARD OF 'detentlaw16.AluOpposites'. -/
def aluOppositesUptoCard : Claim7 := { stood := { row := aluOppositesUptoRow, standIns := [], harness := (true, "618adf016798d171d5ab5a6cb32b08b10260785b7fe9b4e9e09618e8a6641287"), looks := false }, kinds := [], alts := [], laidByText := true, laidKinds := [.listed, .data], laidTests := true, laidLooks := .later }
def AluOppositesUptoCardSaid : Prop := Claim7.holds Tryd.pinned (.plain (OpenSpec.upto aluOppositesSpec)) aluOppositesUptoCard

/-- THE SECOND FORM's CARD OF 'detentlaw16.AluWords'. -/
def aluWordsUptoCard : Claim7 := { stood := { row := aluWordsUptoRow, standIns := [], harness := (true, "618adf016798d171d5ab5a6cb32b08b10260785b7fe9b4e9e09618e8a6641287"), looks := false }, kinds := [], alts := [], laidByText := true, laidKinds := [.listed, .data], laidTests := true, laidLooks := .later }
def AluWordsUptoCardSaid : Prop := Claim7.holds Tryd.pinned (.plain (OpenSpec.upto aluWordsSpec)) aluWordsUptoCard

/-- THE SECOND FORM's CARD OF 'detentlaw16.AluFolds'. -/
def aluFoldsUptoCard : Claim7 := { stood := { row := aluFoldsUptoRow, standIns := [], harness := (true, "618adf016798d171d5ab5a6cb32b08b10260785b7fe9b4e9e09618e8a6641287"), looks := false }, kinds := [], alts := [], laidByText := true, laidKinds := [.listed, .data], laidTests := true, laidLooks := .later }
def AluFoldsUptoCardSaid : Prop := Claim7.holds Tryd.pinned (.plain (OpenSpec.upto aluFoldsSpec)) aluFoldsUptoCard

/-- THE SECOND FORM's CARD OF 'detentlaw17.CheckHelpers'. -/
def checkHelpersUptoCard : Claim7 := { stood := { row := checkHelpersUptoRow, standIns := [], harness := (true, "618adf016798d171d5ab5a6cb32b08b10260785b7fe9b4e9e09618e8a6641287"), looks := false }, kinds := [], alts := [], laidByText := true, laidKinds := [.listed, .data], laidTests := true, laidLooks := .later }
def CheckHelpersUptoCardSaid : Prop := Claim7.holds Tryd.pinned (.plain (OpenSpec.upto checkHelpersSpec)) checkHelpersUptoCard

/-- THE SECOND FORM's CARD OF 'detentlaw17.CheckPlaces'. -/
def checkPlacesUptoCard : Claim7 := { stood := { row := checkPlacesUptoRow, standIns := [], harness := (true, "618adf016798d171d5ab5a6cb32b08b10260785b7fe9b4e9e09618e8a6641287"), looks := false }, kinds := [], alts := [], laidByText := true, laidKinds := [.listed, .data], laidTests := true, laidLooks := .later }
def CheckPlacesUptoCardSaid : Prop := Claim7.holds Tryd.pinned (.plain (OpenSpec.upto checkPlacesSpec)) checkPlacesUptoCard

/-- THE SECOND FORM's CARD OF 'detentlaw17.CheckNext'. -/
def checkNextUptoCard : Claim7 := { stood := { row := checkNextUptoRow, standIns := [], harness := (true, "618adf016798d171d5ab5a6cb32b08b10260785b7fe9b4e9e09618e8a6641287"), looks := false }, kinds := [], alts := [], laidByText := true, laidKinds := [.listed, .data], laidTests := true, laidLooks := .later }
def CheckNextUptoCardSaid : Prop := Claim7.holds Tryd.pinned (.plain (OpenSpec.upto checkNextSpec)) checkNextUptoCard

/-- THE SECOND FORM's CARD OF 'detentlaw17.CheckSleeps'. -/
def checkSleepsUptoCard : Claim7 := { stood := { row := checkSleepsUptoRow, standIns := [], harness := (true, "618adf016798d171d5ab5a6cb32b08b10260785b7fe9b4e9e09618e8a6641287"), looks := false }, kinds := [], alts := [], laidByText := true, laidKinds := [.listed, .data], laidTests := true, laidLooks := .later }
def CheckSleepsUptoCardSaid : Prop := Claim7.holds Tryd.pinned (.plain (OpenSpec.upto checkSleepsSpec)) checkSleepsUptoCard

/-- THE SECOND FORM's CARD OF 'detentlaw17.CheckStays'. -/
def checkStaysUptoCard : Claim7 := { stood := { row := checkStaysUptoRow, standIns := [], harness := (true, "618adf016798d171d5ab5a6cb32b08b10260785b7fe9b4e9e09618e8a6641287"), looks := false }, kinds := [], alts := [], laidByText := true, laidKinds := [.listed, .data], laidTests := true, laidLooks := .later }
def CheckStaysUptoCardSaid : Prop := Claim7.holds Tryd.pinned (.plain (OpenSpec.upto checkStaysSpec)) checkStaysUptoCard
end Rows
end Go.Proofs.YtpfoecmianohjaaDoor

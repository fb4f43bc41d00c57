/-
  DERIVED. GIVEN WITH THE SEED: THE CARDS: each row of YtcmfldfeakmdoaaGreatDoorRows.lean that lists a variable, with what it lists TIED to the program's text (the seventh form; the later family's looks); each row that meets fmt, with fmt's text TOLD by the authors' own Lean function (tested against real Go, not proved from fmt's source: count such statements apart). THE CARD IS WHAT COUNTS. Prove the row's statement (the work); the ties are given (YtcmfldfeakmdoaaGreatDoorTie.lean); close each card by the builder's one call (the guide's Derived/Test/ToyasCard.lean, 'card_holds'). Laid BY PROGRAM, IN A SANDBOX (cutbox-door.mjs). By AI agents, Wed Nov 11 2026. No macro, syntax, notation, axiom, sorry.
-/
import Derived.Test.YtcmfldfeakmdoaaGreatDoorRows
import GoSem.ClaimSeven
namespace Go.Proofs.YtcmfldfeakmdoaaGreatDoor
namespace Rows

/-- THE TIED CARD OF 'detentlaw26.TimerAgain'. -/
def timerAgainCard : Claim7 := { stood := { row := timerAgainRow, standIns := [], harness := (true, "728f788392f9a19c4d2f90e203554bee623fe8ceaf3325bc7af448aea68ba716"), looks := false }, kinds := [], alts := [], laidByText := true, laidKinds := [.data], laidTests := true, laidLooks := .later }
def TimerAgainCardSaid : Prop := Claim7.holds Tryz.pinned (.plain (OpenSpec.ofChange timerAgainSpec)) timerAgainCard

/-- THE TIED CARD OF 'detentlaw26.TimerOnce'. -/
def timerOnceCard : Claim7 := { stood := { row := timerOnceRow, standIns := [], harness := (true, "728f788392f9a19c4d2f90e203554bee623fe8ceaf3325bc7af448aea68ba716"), looks := false }, kinds := [], alts := [], laidByText := true, laidKinds := [.data], laidTests := true, laidLooks := .later }
def TimerOnceCardSaid : Prop := Claim7.holds Tryz.pinned (.plain (OpenSpec.ofChange timerOnceSpec)) timerOnceCard

/-- THE TIED CARD OF 'detentlaw26.TimerCloses'. -/
def timerClosesCard : Claim7 := { stood := { row := timerClosesRow, standIns := [], harness := (true, "728f788392f9a19c4d2f90e203554bee623fe8ceaf3325bc7af448aea68ba716"), looks := false }, kinds := [], alts := [], laidByText := true, laidKinds := [.data], laidTests := true, laidLooks := .later }
def TimerClosesCardSaid : Prop := Claim7.holds Tryz.pinned (.plain (OpenSpec.ofChange timerClosesSpec)) timerClosesCard

/-- THE TIED CARD OF 'detentlaw26.TimerPlays'. -/
def timerPlaysCard : Claim7 := { stood := { row := timerPlaysRow, standIns := [], harness := (true, "728f788392f9a19c4d2f90e203554bee623fe8ceaf3325bc7af448aea68ba716"), looks := false }, kinds := [], alts := [], laidByText := true, laidKinds := [.data], laidTests := true, laidLooks := .later }
def TimerPlaysCardSaid : Prop := Claim7.holds Tryz.pinned (.plain (OpenSpec.ofChange timerPlaysSpec)) timerPlaysCard

/-- THE TIED CARD OF 'detentlaw26.TimerNil'. -/
def timerNilCard : Claim7 := { stood := { row := timerNilRow, standIns := [], harness := (true, "728f788392f9a19c4d2f90e203554bee623fe8ceaf3325bc7af448aea68ba716"), looks := false }, kinds := [], alts := [], laidByText := true, laidKinds := [.data], laidTests := true, laidLooks := .later }
def TimerNilCardSaid : Prop := Claim7.holds Tryz.pinned (.plain (OpenSpec.ofChange timerNilSpec)) timerNilCard

/-- THE SECOND FORM's CARD OF 'detentlaw26.TimerAgain'. -/
def timerAgainUptoCard : Claim7 := { stood := { row := timerAgainUptoRow, standIns := [], harness := (true, "728f788392f9a19c4d2f90e203554bee623fe8ceaf3325bc7af448aea68ba716"), looks := false }, kinds := [], alts := [], laidByText := true, laidKinds := [.data], laidTests := true, laidLooks := .later }
def TimerAgainUptoCardSaid : Prop := Claim7.holds Tryz.pinned (.plain (OpenSpec.upto timerAgainSpec)) timerAgainUptoCard

/-- THE SECOND FORM's CARD OF 'detentlaw26.TimerOnce'. -/
def timerOnceUptoCard : Claim7 := { stood := { row := timerOnceUptoRow, standIns := [], harness := (true, "728f788392f9a19c4d2f90e203554bee623fe8ceaf3325bc7af448aea68ba716"), looks := false }, kinds := [], alts := [], laidByText := true, laidKinds := [.data], laidTests := true, laidLooks := .later }
def TimerOnceUptoCardSaid : Prop := Claim7.holds Tryz.pinned (.plain (OpenSpec.upto timerOnceSpec)) timerOnceUptoCard

/-- THE SECOND FORM's CARD OF 'detentlaw26.TimerCloses'. -/
def timerClosesUptoCard : Claim7 := { stood := { row := timerClosesUptoRow, standIns := [], harness := (true, "728f788392f9a19c4d2f90e203554bee623fe8ceaf3325bc7af448aea68ba716"), looks := false }, kinds := [], alts := [], laidByText := true, laidKinds := [.data], laidTests := true, laidLooks := .later }
def TimerClosesUptoCardSaid : Prop := Claim7.holds Tryz.pinned (.plain (OpenSpec.upto timerClosesSpec)) timerClosesUptoCard

/-- THE SECOND FORM's CARD OF 'detentlaw26.TimerPlays'. -/
def timerPlaysUptoCard : Claim7 := { stood := { row := timerPlaysUptoRow, standIns := [], harness := (true, "728f788392f9a19c4d2f90e203554bee623fe8ceaf3325bc7af448aea68ba716"), looks := false }, kinds := [], alts := [], laidByText := true, laidKinds := [.data], laidTests := true, laidLooks := .later }
def TimerPlaysUptoCardSaid : Prop := Claim7.holds Tryz.pinned (.plain (OpenSpec.upto timerPlaysSpec)) timerPlaysUptoCard

/-- THE SECOND FORM's CARD OF 'detentlaw26.TimerNil'. -/
def timerNilUptoCard : Claim7 := { stood := { row := timerNilUptoRow, standIns := [], harness := (true, "728f788392f9a19c4d2f90e203554bee623fe8ceaf3325bc7af448aea68ba716"), looks := false }, kinds := [], alts := [], laidByText := true, laidKinds := [.data], laidTests := true, laidLooks := .later }
def TimerNilUptoCardSaid : Prop := Claim7.holds Tryz.pinned (.plain (OpenSpec.upto timerNilSpec)) timerNilUptoCard
end Rows
end Go.Proofs.YtcmfldfeakmdoaaGreatDoor

/-
  DERIVED. GIVEN WITH THE SEED: THE CARDS: each row of YtknbohnoiigioaaDoorRows.lean that lists a variable, with what it lists TIED to the program's text (the seventh form; the later family's looks); each row that meets fmt, with fmt's text TOLD by the authors' own Lean function (tested against real Go, not proved from fmt's source: count such statements apart). THE CARD IS WHAT COUNTS. Prove the row's statement (the work); the ties are given (YtknbohnoiigioaaDoorTie.lean); close each card by the builder's one call (the guide's Derived/Test/ToyasCard.lean, 'card_holds'). Laid BY PROGRAM, IN A SANDBOX (cutbox-door.mjs). By AI agents, Wed Nov 11 2026. No macro, syntax, notation, axiom, sorry.
-/
import Derived.Test.YtknbohnoiigioaaDoorRows
import GoSem.ClaimSeven
namespace Go.Proofs.YtknbohnoiigioaaDoor
namespace Rows

/-- THE TIED CARD OF 'detentlaw07.WheelNext'. -/
def wheelNextCard : Claim7 := { stood := { row := wheelNextRow, standIns := [], harness := (true, "78162d3c843213f00255108b11ee90b9ed015ae5ee020ae524eb58e17034995f"), looks := false }, kinds := [], alts := [], laidByText := true, laidKinds := [.data], laidTests := true, laidLooks := .later }
def WheelNextCardSaid : Prop := Claim7.holds Tryd.pinned (.plain (OpenSpec.ofChange wheelNextSpec)) wheelNextCard

/-- THE TIED CARD OF 'detentlaw07.WheelLimits'. -/
def wheelLimitsCard : Claim7 := { stood := { row := wheelLimitsRow, standIns := [], harness := (true, "78162d3c843213f00255108b11ee90b9ed015ae5ee020ae524eb58e17034995f"), looks := false }, kinds := [], alts := [], laidByText := true, laidKinds := [.data], laidTests := true, laidLooks := .later }
def WheelLimitsCardSaid : Prop := Claim7.holds Tryd.pinned (.plain (OpenSpec.ofChange wheelLimitsSpec)) wheelLimitsCard

/-- THE TIED CARD OF 'detentlaw07.WheelOnce'. -/
def wheelOnceCard : Claim7 := { stood := { row := wheelOnceRow, standIns := [], harness := (true, "78162d3c843213f00255108b11ee90b9ed015ae5ee020ae524eb58e17034995f"), looks := false }, kinds := [], alts := [], laidByText := true, laidKinds := [.data], laidTests := true, laidLooks := .later }
def WheelOnceCardSaid : Prop := Claim7.holds Tryd.pinned (.plain (OpenSpec.ofChange wheelOnceSpec)) wheelOnceCard

/-- THE TIED CARD OF 'detentlaw08.BankApart'. -/
def bankApartCard : Claim7 := { stood := { row := bankApartRow, standIns := [], harness := (true, "78162d3c843213f00255108b11ee90b9ed015ae5ee020ae524eb58e17034995f"), looks := false }, kinds := [], alts := [], laidByText := true, laidKinds := [.data], laidTests := true, laidLooks := .later }
def BankApartCardSaid : Prop := Claim7.holds Tryd.pinned (.plain (OpenSpec.ofChange bankApartSpec)) bankApartCard

/-- THE TIED CARD OF 'detentlaw08.BankAll'. -/
def bankAllCard : Claim7 := { stood := { row := bankAllRow, standIns := [], harness := (true, "78162d3c843213f00255108b11ee90b9ed015ae5ee020ae524eb58e17034995f"), looks := false }, kinds := [], alts := [], laidByText := true, laidKinds := [.data], laidTests := true, laidLooks := .later }
def BankAllCardSaid : Prop := Claim7.holds Tryd.pinned (.plain (OpenSpec.ofChange bankAllSpec)) bankAllCard

/-- THE TIED CARD OF 'detentlaw08.BankPlays'. -/
def bankPlaysCard : Claim7 := { stood := { row := bankPlaysRow, standIns := [], harness := (true, "78162d3c843213f00255108b11ee90b9ed015ae5ee020ae524eb58e17034995f"), looks := false }, kinds := [], alts := [], laidByText := true, laidKinds := [.data], laidTests := true, laidLooks := .later }
def BankPlaysCardSaid : Prop := Claim7.holds Tryd.pinned (.plain (OpenSpec.ofChange bankPlaysSpec)) bankPlaysCard

/-- THE TIED CARD OF 'detentlaw08.BankLimits'. -/
def bankLimitsCard : Claim7 := { stood := { row := bankLimitsRow, standIns := [], harness := (true, "78162d3c843213f00255108b11ee90b9ed015ae5ee020ae524eb58e17034995f"), looks := false }, kinds := [], alts := [], laidByText := true, laidKinds := [.data], laidTests := true, laidLooks := .later }
def BankLimitsCardSaid : Prop := Claim7.holds Tryd.pinned (.plain (OpenSpec.ofChange bankLimitsSpec)) bankLimitsCard

/-- THE TIED CARD OF 'detentlaw07.WheelSteps'. -/
def wheelStepsCard : Claim7 := { stood := { row := wheelStepsRow, standIns := [], harness := (true, "78162d3c843213f00255108b11ee90b9ed015ae5ee020ae524eb58e17034995f"), looks := false }, kinds := [], alts := [], laidByText := true, laidKinds := [.data], laidTests := true, laidLooks := .later }
def WheelStepsCardSaid : Prop := Claim7.holds Tryd.pinned (.plain (OpenSpec.ofChange wheelStepsSpec)) wheelStepsCard

/-- THE TIED CARD OF 'detentlaw07.WheelPlays'. -/
def wheelPlaysCard : Claim7 := { stood := { row := wheelPlaysRow, standIns := [], harness := (true, "78162d3c843213f00255108b11ee90b9ed015ae5ee020ae524eb58e17034995f"), looks := false }, kinds := [], alts := [], laidByText := true, laidKinds := [.data], laidTests := true, laidLooks := .later }
def WheelPlaysCardSaid : Prop := Claim7.holds Tryd.pinned (.plain (OpenSpec.ofChange wheelPlaysSpec)) wheelPlaysCard

/-- THE TIED CARD OF 'detentlaw07.WheelNil'. -/
def wheelNilCard : Claim7 := { stood := { row := wheelNilRow, standIns := [], harness := (true, "78162d3c843213f00255108b11ee90b9ed015ae5ee020ae524eb58e17034995f"), looks := false }, kinds := [], alts := [], laidByText := true, laidKinds := [.data], laidTests := true, laidLooks := .later }
def WheelNilCardSaid : Prop := Claim7.holds Tryd.pinned (.plain (OpenSpec.ofChange wheelNilSpec)) wheelNilCard

/-- THE SECOND FORM's CARD OF 'detentlaw07.WheelNext'. -/
def wheelNextUptoCard : Claim7 := { stood := { row := wheelNextUptoRow, standIns := [], harness := (true, "78162d3c843213f00255108b11ee90b9ed015ae5ee020ae524eb58e17034995f"), looks := false }, kinds := [], alts := [], laidByText := true, laidKinds := [.data], laidTests := true, laidLooks := .later }
def WheelNextUptoCardSaid : Prop := Claim7.holds Tryd.pinned (.plain (OpenSpec.upto wheelNextSpec)) wheelNextUptoCard

/-- THE SECOND FORM's CARD OF 'detentlaw07.WheelLimits'. -/
def wheelLimitsUptoCard : Claim7 := { stood := { row := wheelLimitsUptoRow, standIns := [], harness := (true, "78162d3c843213f00255108b11ee90b9ed015ae5ee020ae524eb58e17034995f"), looks := false }, kinds := [], alts := [], laidByText := true, laidKinds := [.data], laidTests := true, laidLooks := .later }
def WheelLimitsUptoCardSaid : Prop := Claim7.holds Tryd.pinned (.plain (OpenSpec.upto wheelLimitsSpec)) wheelLimitsUptoCard

/-- THE SECOND FORM's CARD OF 'detentlaw07.WheelOnce'. -/
def wheelOnceUptoCard : Claim7 := { stood := { row := wheelOnceUptoRow, standIns := [], harness := (true, "78162d3c843213f00255108b11ee90b9ed015ae5ee020ae524eb58e17034995f"), looks := false }, kinds := [], alts := [], laidByText := true, laidKinds := [.data], laidTests := true, laidLooks := .later }
def WheelOnceUptoCardSaid : Prop := Claim7.holds Tryd.pinned (.plain (OpenSpec.upto wheelOnceSpec)) wheelOnceUptoCard

/-- THE SECOND FORM's CARD OF 'detentlaw08.BankApart'. -/
def bankApartUptoCard : Claim7 := { stood := { row := bankApartUptoRow, standIns := [], harness := (true, "78162d3c843213f00255108b11ee90b9ed015ae5ee020ae524eb58e17034995f"), looks := false }, kinds := [], alts := [], laidByText := true, laidKinds := [.data], laidTests := true, laidLooks := .later }
def BankApartUptoCardSaid : Prop := Claim7.holds Tryd.pinned (.plain (OpenSpec.upto bankApartSpec)) bankApartUptoCard

/-- THE SECOND FORM's CARD OF 'detentlaw08.BankAll'. -/
def bankAllUptoCard : Claim7 := { stood := { row := bankAllUptoRow, standIns := [], harness := (true, "78162d3c843213f00255108b11ee90b9ed015ae5ee020ae524eb58e17034995f"), looks := false }, kinds := [], alts := [], laidByText := true, laidKinds := [.data], laidTests := true, laidLooks := .later }
def BankAllUptoCardSaid : Prop := Claim7.holds Tryd.pinned (.plain (OpenSpec.upto bankAllSpec)) bankAllUptoCard

/-- THE SECOND FORM's CARD OF 'detentlaw08.BankPlays'. -/
def bankPlaysUptoCard : Claim7 := { stood := { row := bankPlaysUptoRow, standIns := [], harness := (true, "78162d3c843213f00255108b11ee90b9ed015ae5ee020ae524eb58e17034995f"), looks := false }, kinds := [], alts := [], laidByText := true, laidKinds := [.data], laidTests := true, laidLooks := .later }
def BankPlaysUptoCardSaid : Prop := Claim7.holds Tryd.pinned (.plain (OpenSpec.upto bankPlaysSpec)) bankPlaysUptoCard

/-- THE SECOND FORM's CARD OF 'detentlaw08.BankLimits'. -/
def bankLimitsUptoCard : Claim7 := { stood := { row := bankLimitsUptoRow, standIns := [], harness := (true, "78162d3c843213f00255108b11ee90b9ed015ae5ee020ae524eb58e17034995f"), looks := false }, kinds := [], alts := [], laidByText := true, laidKinds := [.data], laidTests := true, laidLooks := .later }
def BankLimitsUptoCardSaid : Prop := Claim7.holds Tryd.pinned (.plain (OpenSpec.upto bankLimitsSpec)) bankLimitsUptoCard

/-- THE SECOND FORM's CARD OF 'detentlaw07.WheelSteps'. -/
def wheelStepsUptoCard : Claim7 := { stood := { row := wheelStepsUptoRow, standIns := [], harness := (true, "78162d3c843213f00255108b11ee90b9ed015ae5ee020ae524eb58e17034995f"), looks := false }, kinds := [], alts := [], laidByText := true, laidKinds := [.data], laidTests := true, laidLooks := .later }
def WheelStepsUptoCardSaid : Prop := Claim7.holds Tryd.pinned (.plain (OpenSpec.upto wheelStepsSpec)) wheelStepsUptoCard

/-- THE SECOND FORM's CARD OF 'detentlaw07.WheelPlays'. -/
def wheelPlaysUptoCard : Claim7 := { stood := { row := wheelPlaysUptoRow, standIns := [], harness := (true, "78162d3c843213f00255108b11ee90b9ed015ae5ee020ae524eb58e17034995f"), looks := false }, kinds := [], alts := [], laidByText := true, laidKinds := [.data], laidTests := true, laidLooks := .later }
def WheelPlaysUptoCardSaid : Prop := Claim7.holds Tryd.pinned (.plain (OpenSpec.upto wheelPlaysSpec)) wheelPlaysUptoCard

/-- THE SECOND FORM's CARD OF 'detentlaw07.WheelNil'. -/
def wheelNilUptoCard : Claim7 := { stood := { row := wheelNilUptoRow, standIns := [], harness := (true, "78162d3c843213f00255108b11ee90b9ed015ae5ee020ae524eb58e17034995f"), looks := false }, kinds := [], alts := [], laidByText := true, laidKinds := [.data], laidTests := true, laidLooks := .later }
def WheelNilUptoCardSaid : Prop := Claim7.holds Tryd.pinned (.plain (OpenSpec.upto wheelNilSpec)) wheelNilUptoCard
end Rows
end Go.Proofs.YtknbohnoiigioaaDoor

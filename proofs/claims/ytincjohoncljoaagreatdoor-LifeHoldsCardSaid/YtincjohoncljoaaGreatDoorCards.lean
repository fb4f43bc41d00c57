/-
  DERIVED. GIVEN WITH THE SEED: THE CARDS: each row of YtincjohoncljoaaGreatDoorRows.lean that lists a variable, with what it lists TIED to the program's text (the seventh form; the later family's looks); each row that meets fmt, with fmt's text TOLD by the authors' own Lean function (tested against real Go, not proved from fmt's source: count such statements apart). THE CARD IS WHAT COUNTS. Prove the row's statement (the work); the ties are given (YtincjohoncljoaaGreatDoorTie.lean); close each card by the builder's one call (the guide's Derived/Test/ToyasCard.lean, 'card_holds'). Laid BY PROGRAM, IN A SANDBOX (cutbox-door.mjs). By AI agents, Wed Nov 11 2026. No macro, syntax, notation, axiom, sorry.
-/
import Derived.Test.YtincjohoncljoaaGreatDoorRows
import GoSem.ClaimSeven
namespace Go.Proofs.YtincjohoncljoaaGreatDoor
namespace Rows

/-- THE TIED CARD OF 'detentlaw30.LifeHolds'. -/
def lifeHoldsCard : Claim7 := { stood := { row := lifeHoldsRow, standIns := [], harness := (true, "06d3cd6a51e7ebdd1766bec5a54b218e2312dc5a1ddad5e2d21aaa365b621e41"), looks := false }, kinds := [], alts := [], laidByText := true, laidKinds := [.data], laidTests := true, laidLooks := .later }
def LifeHoldsCardSaid : Prop := Claim7.holds Tryz.pinned (.plain (OpenSpec.ofChange lifeHoldsSpec)) lifeHoldsCard

/-- THE TIED CARD OF 'detentlaw30.LifeUses'. -/
def lifeUsesCard : Claim7 := { stood := { row := lifeUsesRow, standIns := [], harness := (true, "06d3cd6a51e7ebdd1766bec5a54b218e2312dc5a1ddad5e2d21aaa365b621e41"), looks := false }, kinds := [], alts := [], laidByText := true, laidKinds := [.data], laidTests := true, laidLooks := .later }
def LifeUsesCardSaid : Prop := Claim7.holds Tryz.pinned (.plain (OpenSpec.ofChange lifeUsesSpec)) lifeUsesCard

/-- THE TIED CARD OF 'detentlaw30.LifeNil'. -/
def lifeNilCard : Claim7 := { stood := { row := lifeNilRow, standIns := [], harness := (true, "06d3cd6a51e7ebdd1766bec5a54b218e2312dc5a1ddad5e2d21aaa365b621e41"), looks := false }, kinds := [], alts := [], laidByText := true, laidKinds := [.data], laidTests := true, laidLooks := .later }
def LifeNilCardSaid : Prop := Claim7.holds Tryz.pinned (.plain (OpenSpec.ofChange lifeNilSpec)) lifeNilCard

/-- THE TIED CARD OF 'detentlaw30.LifeQuiet'. -/
def lifeQuietCard : Claim7 := { stood := { row := lifeQuietRow, standIns := [], harness := (true, "06d3cd6a51e7ebdd1766bec5a54b218e2312dc5a1ddad5e2d21aaa365b621e41"), looks := false }, kinds := [], alts := [], laidByText := true, laidKinds := [.data], laidTests := true, laidLooks := .later }
def LifeQuietCardSaid : Prop := Claim7.holds Tryz.pinned (.plain (OpenSpec.ofChange lifeQuietSpec)) lifeQuietCard

/-- THE TIED CARD OF 'detentlaw30.LifeEnds'. -/
def lifeEndsCard : Claim7 := { stood := { row := lifeEndsRow, standIns := [], harness := (true, "06d3cd6a51e7ebdd1766bec5a54b218e2312dc5a1ddad5e2d21aaa365b621e41"), looks := false }, kinds := [], alts := [], laidByText := true, laidKinds := [.data], laidTests := true, laidLooks := .later }
def LifeEndsCardSaid : Prop := Claim7.holds Tryz.pinned (.plain (OpenSpec.ofChange lifeEndsSpec)) lifeEndsCard

/-- THE TIED CARD OF 'detentlaw30.LifePlays'. -/
def lifePlaysCard : Claim7 := { stood := { row := lifePlaysRow, standIns := [], harness := (true, "06d3cd6a51e7ebdd1766bec5a54b218e2312dc5a1ddad5e2d21aaa365b621e41"), looks := false }, kinds := [], alts := [], laidByText := true, laidKinds := [.data], laidTests := true, laidLooks := .later }
def LifePlaysCardSaid : Prop := Claim7.holds Tryz.pinned (.plain (OpenSpec.ofChange lifePlaysSpec)) lifePlaysCard

/-- THE SECOND FORM's CARD OF 'detentlaw30.LifeHolds'. -/
def lifeHoldsUptoCard : Claim7 := { stood := { row := lifeHoldsUptoRow, standIns := [], harness := (true, "06d3cd6a51e7ebdd1766bec5a54b218e2312dc5a1ddad5e2d21aaa365b621e41"), looks := false }, kinds := [], alts := [], laidByText := true, laidKinds := [.data], laidTests := true, laidLooks := .later }
def LifeHoldsUptoCardSaid : Prop := Claim7.holds Tryz.pinned (.plain (OpenSpec.upto lifeHoldsSpec)) lifeHoldsUptoCard

/-- THE SECOND FORM's CARD OF 'detentlaw30.LifeUses'. -/
def lifeUsesUptoCard : Claim7 := { stood := { row := lifeUsesUptoRow, standIns := [], harness := (true, "06d3cd6a51e7ebdd1766bec5a54b218e2312dc5a1ddad5e2d21aaa365b621e41"), looks := false }, kinds := [], alts := [], laidByText := true, laidKinds := [.data], laidTests := true, laidLooks := .later }
def LifeUsesUptoCardSaid : Prop := Claim7.holds Tryz.pinned (.plain (OpenSpec.upto lifeUsesSpec)) lifeUsesUptoCard

/-- THE SECOND FORM's CARD OF 'detentlaw30.LifeNil'. -/
def lifeNilUptoCard : Claim7 := { stood := { row := lifeNilUptoRow, standIns := [], harness := (true, "06d3cd6a51e7ebdd1766bec5a54b218e2312dc5a1ddad5e2d21aaa365b621e41"), looks := false }, kinds := [], alts := [], laidByText := true, laidKinds := [.data], laidTests := true, laidLooks := .later }
def LifeNilUptoCardSaid : Prop := Claim7.holds Tryz.pinned (.plain (OpenSpec.upto lifeNilSpec)) lifeNilUptoCard

/-- THE SECOND FORM's CARD OF 'detentlaw30.LifeQuiet'. -/
def lifeQuietUptoCard : Claim7 := { stood := { row := lifeQuietUptoRow, standIns := [], harness := (true, "06d3cd6a51e7ebdd1766bec5a54b218e2312dc5a1ddad5e2d21aaa365b621e41"), looks := false }, kinds := [], alts := [], laidByText := true, laidKinds := [.data], laidTests := true, laidLooks := .later }
def LifeQuietUptoCardSaid : Prop := Claim7.holds Tryz.pinned (.plain (OpenSpec.upto lifeQuietSpec)) lifeQuietUptoCard

/-- THE SECOND FORM's CARD OF 'detentlaw30.LifeEnds'. -/
def lifeEndsUptoCard : Claim7 := { stood := { row := lifeEndsUptoRow, standIns := [], harness := (true, "06d3cd6a51e7ebdd1766bec5a54b218e2312dc5a1ddad5e2d21aaa365b621e41"), looks := false }, kinds := [], alts := [], laidByText := true, laidKinds := [.data], laidTests := true, laidLooks := .later }
def LifeEndsUptoCardSaid : Prop := Claim7.holds Tryz.pinned (.plain (OpenSpec.upto lifeEndsSpec)) lifeEndsUptoCard

/-- THE SECOND FORM's CARD OF 'detentlaw30.LifePlays'. -/
def lifePlaysUptoCard : Claim7 := { stood := { row := lifePlaysUptoRow, standIns := [], harness := (true, "06d3cd6a51e7ebdd1766bec5a54b218e2312dc5a1ddad5e2d21aaa365b621e41"), looks := false }, kinds := [], alts := [], laidByText := true, laidKinds := [.data], laidTests := true, laidLooks := .later }
def LifePlaysUptoCardSaid : Prop := Claim7.holds Tryz.pinned (.plain (OpenSpec.upto lifePlaysSpec)) lifePlaysUptoCard
end Rows
end Go.Proofs.YtincjohoncljoaaGreatDoor

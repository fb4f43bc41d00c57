/-
  NARROWER THAN 'FOR EVERY INPUT', by the rows' own cells (each row's printed sentence says how): AluSums: laid · AluJumps: laid · AluDivides: laid · AluOpposites: laid · AluWords: laid · AluFolds: laid · CheckHelpers: laid · CheckPlaces: laid · CheckNext: laid · CheckSleeps: laid · CheckStays: laid.
  DERIVED. THE GIVEN ROWS OF THIS SEAT. 11 by the template 'for every input the law returns true; each argument reads behind the call as it read before'; 0 by the template 'total and deterministic' (their statements: YtpfoecmianohjaaDoorTotals.lean).
  GIVEN WITH THE SEED: the statements are not yours to turn. If you find one false, say at which input.
  Laid BY PROGRAM, IN A SANDBOX (cutbox-rows.mjs): the forced cells as the released guide's own fill.sh prints them over the translation dafef94808ee5b07… (all of the seat's roots in one cut). By AI agents, Wed Nov 11 2026. No macro, syntax, notation, axiom, sorry.
-/
import Derived.Test.YtpfoecmianohjaaDoorChecked
import GoSem.Claim
import GoSem.ClaimJoined
import GoSem.ClaimMapViews
import Derived.JoinedTies
import Derived.KernelRfl
namespace Go.Proofs.YtpfoecmianohjaaDoor
/- THE CELL 'sum', in the pinned program and in every row, IS THE sha256 OF THE DUMP (.gsa) THAT YtpfoecmianohjaaDoorProg.lean LOADS. Nothing in Lean hashes anything: it is a label: what it is worth is what the hold of that sum in a sandbox is worth. -/
noncomputable def Tryd.pinned : Pinned := { name := "ytpfoecmianohjaadoor", sum := "dafef94808ee5b070e152f6a2c175028fdb80b3c043017af57763925c06f01c2", checked := Tryd.checked }
namespace Rows
def none {H : Type} : Left H := { results := [], args := [] }

/- WHAT THE LISTED PACKAGE-LEVEL VARIABLES READ AS WHEN THE CALL BEGINS. Each datum BY PROGRAM (the guide's laid-datum.mjs) off the statement by which the dump's own 'gosem.cut.vars' lays the variable. In a bare row this is a premise. The card (YtpfoecmianohjaaDoorCards.lean) ties it to the program's text. -/
def laid_unicode_White_Space {H : Type} : DataW H := .ptr (.agg [.slice [.agg [.lit (.int .u16 9), .lit (.int .u16 13), .lit (.int .u16 1)], .agg [.lit (.int .u16 32), .lit (.int .u16 133), .lit (.int .u16 101)], .agg [.lit (.int .u16 160), .lit (.int .u16 5760), .lit (.int .u16 5600)], .agg [.lit (.int .u16 8192), .lit (.int .u16 8202), .lit (.int .u16 1)], .agg [.lit (.int .u16 8232), .lit (.int .u16 8233), .lit (.int .u16 1)], .agg [.lit (.int .u16 8239), .lit (.int .u16 8287), .lit (.int .u16 48)], .agg [.lit (.int .u16 12288), .lit (.int .u16 12288), .lit (.int .u16 1)]] [], .nil, .lit (.int .i64 2)])
def laid_strings_asciiSpace {H : Type} : DataW H := .agg [.lit (.int .u8 0), .lit (.int .u8 0), .lit (.int .u8 0), .lit (.int .u8 0), .lit (.int .u8 0), .lit (.int .u8 0), .lit (.int .u8 0), .lit (.int .u8 0), .lit (.int .u8 0), .lit (.int .u8 1), .lit (.int .u8 1), .lit (.int .u8 1), .lit (.int .u8 1), .lit (.int .u8 1), .lit (.int .u8 0), .lit (.int .u8 0), .lit (.int .u8 0), .lit (.int .u8 0), .lit (.int .u8 0), .lit (.int .u8 0), .lit (.int .u8 0), .lit (.int .u8 0), .lit (.int .u8 0), .lit (.int .u8 0), .lit (.int .u8 0), .lit (.int .u8 0), .lit (.int .u8 0), .lit (.int .u8 0), .lit (.int .u8 0), .lit (.int .u8 0), .lit (.int .u8 0), .lit (.int .u8 0), .lit (.int .u8 1), .lit (.int .u8 0), .lit (.int .u8 0), .lit (.int .u8 0), .lit (.int .u8 0), .lit (.int .u8 0), .lit (.int .u8 0), .lit (.int .u8 0), .lit (.int .u8 0), .lit (.int .u8 0), .lit (.int .u8 0), .lit (.int .u8 0), .lit (.int .u8 0), .lit (.int .u8 0), .lit (.int .u8 0), .lit (.int .u8 0), .lit (.int .u8 0), .lit (.int .u8 0), .lit (.int .u8 0), .lit (.int .u8 0), .lit (.int .u8 0), .lit (.int .u8 0), .lit (.int .u8 0), .lit (.int .u8 0), .lit (.int .u8 0), .lit (.int .u8 0), .lit (.int .u8 0), .lit (.int .u8 0), .lit (.int .u8 0), .lit (.int .u8 0), .lit (.int .u8 0), .lit (.int .u8 0), .lit (.int .u8 0), .lit (.int .u8 0), .lit (.int .u8 0), .lit (.int .u8 0), .lit (.int .u8 0), .lit (.int .u8 0), .lit (.int .u8 0), .lit (.int .u8 0), .lit (.int .u8 0), .lit (.int .u8 0), .lit (.int .u8 0), .lit (.int .u8 0), .lit (.int .u8 0), .lit (.int .u8 0), .lit (.int .u8 0), .lit (.int .u8 0), .lit (.int .u8 0), .lit (.int .u8 0), .lit (.int .u8 0), .lit (.int .u8 0), .lit (.int .u8 0), .lit (.int .u8 0), .lit (.int .u8 0), .lit (.int .u8 0), .lit (.int .u8 0), .lit (.int .u8 0), .lit (.int .u8 0), .lit (.int .u8 0), .lit (.int .u8 0), .lit (.int .u8 0), .lit (.int .u8 0), .lit (.int .u8 0), .lit (.int .u8 0), .lit (.int .u8 0), .lit (.int .u8 0), .lit (.int .u8 0), .lit (.int .u8 0), .lit (.int .u8 0), .lit (.int .u8 0), .lit (.int .u8 0), .lit (.int .u8 0), .lit (.int .u8 0), .lit (.int .u8 0), .lit (.int .u8 0), .lit (.int .u8 0), .lit (.int .u8 0), .lit (.int .u8 0), .lit (.int .u8 0), .lit (.int .u8 0), .lit (.int .u8 0), .lit (.int .u8 0), .lit (.int .u8 0), .lit (.int .u8 0), .lit (.int .u8 0), .lit (.int .u8 0), .lit (.int .u8 0), .lit (.int .u8 0), .lit (.int .u8 0), .lit (.int .u8 0), .lit (.int .u8 0), .lit (.int .u8 0), .lit (.int .u8 0), .lit (.int .u8 0), .lit (.int .u8 0), .lit (.int .u8 0), .lit (.int .u8 0), .lit (.int .u8 0), .lit (.int .u8 0), .lit (.int .u8 0), .lit (.int .u8 0), .lit (.int .u8 0), .lit (.int .u8 0), .lit (.int .u8 0), .lit (.int .u8 0), .lit (.int .u8 0), .lit (.int .u8 0), .lit (.int .u8 0), .lit (.int .u8 0), .lit (.int .u8 0), .lit (.int .u8 0), .lit (.int .u8 0), .lit (.int .u8 0), .lit (.int .u8 0), .lit (.int .u8 0), .lit (.int .u8 0), .lit (.int .u8 0), .lit (.int .u8 0), .lit (.int .u8 0), .lit (.int .u8 0), .lit (.int .u8 0), .lit (.int .u8 0), .lit (.int .u8 0), .lit (.int .u8 0), .lit (.int .u8 0), .lit (.int .u8 0), .lit (.int .u8 0), .lit (.int .u8 0), .lit (.int .u8 0), .lit (.int .u8 0), .lit (.int .u8 0), .lit (.int .u8 0), .lit (.int .u8 0), .lit (.int .u8 0), .lit (.int .u8 0), .lit (.int .u8 0), .lit (.int .u8 0), .lit (.int .u8 0), .lit (.int .u8 0), .lit (.int .u8 0), .lit (.int .u8 0), .lit (.int .u8 0), .lit (.int .u8 0), .lit (.int .u8 0), .lit (.int .u8 0), .lit (.int .u8 0), .lit (.int .u8 0), .lit (.int .u8 0), .lit (.int .u8 0), .lit (.int .u8 0), .lit (.int .u8 0), .lit (.int .u8 0), .lit (.int .u8 0), .lit (.int .u8 0), .lit (.int .u8 0), .lit (.int .u8 0), .lit (.int .u8 0), .lit (.int .u8 0), .lit (.int .u8 0), .lit (.int .u8 0), .lit (.int .u8 0), .lit (.int .u8 0), .lit (.int .u8 0), .lit (.int .u8 0), .lit (.int .u8 0), .lit (.int .u8 0), .lit (.int .u8 0), .lit (.int .u8 0), .lit (.int .u8 0), .lit (.int .u8 0), .lit (.int .u8 0), .lit (.int .u8 0), .lit (.int .u8 0), .lit (.int .u8 0), .lit (.int .u8 0), .lit (.int .u8 0), .lit (.int .u8 0), .lit (.int .u8 0), .lit (.int .u8 0), .lit (.int .u8 0), .lit (.int .u8 0), .lit (.int .u8 0), .lit (.int .u8 0), .lit (.int .u8 0), .lit (.int .u8 0), .lit (.int .u8 0), .lit (.int .u8 0), .lit (.int .u8 0), .lit (.int .u8 0), .lit (.int .u8 0), .lit (.int .u8 0), .lit (.int .u8 0), .lit (.int .u8 0), .lit (.int .u8 0), .lit (.int .u8 0), .lit (.int .u8 0), .lit (.int .u8 0), .lit (.int .u8 0), .lit (.int .u8 0), .lit (.int .u8 0), .lit (.int .u8 0), .lit (.int .u8 0), .lit (.int .u8 0), .lit (.int .u8 0), .lit (.int .u8 0), .lit (.int .u8 0), .lit (.int .u8 0), .lit (.int .u8 0), .lit (.int .u8 0), .lit (.int .u8 0), .lit (.int .u8 0), .lit (.int .u8 0), .lit (.int .u8 0), .lit (.int .u8 0), .lit (.int .u8 0), .lit (.int .u8 0), .lit (.int .u8 0), .lit (.int .u8 0), .lit (.int .u8 0), .lit (.int .u8 0), .lit (.int .u8 0), .lit (.int .u8 0), .lit (.int .u8 0)]

/-- 'detentlaw16.AluSums': WHATEVER THE INPUT: true; the input reads as it did. -/
def aluSumsSpec : ChangeSpec := { name := "aluSums", fn := fun _ => fun
  | [d1, d2, d3] => { results := [.lit (.bool true)], args := [d1, d2, d3] }
  | _ => none }
def aluSumsRow : OpenClaim := { program := "ytpfoecmianohjaadoor", sum := "dafef94808ee5b070e152f6a2c175028fdb80b3c043017af57763925c06f01c2", func := "detent/detentlaw16.AluSums", spec := "aluSums", unfollowed := true, recurses := true, named := ["strings.asciiSpace", "unicode.White_Space"], apart := false, laid := [("unicode.White_Space", laid_unicode_White_Space), ("strings.asciiSpace", laid_strings_asciiSpace)] }
def AluSumsSaid : Prop := aluSumsRow.holds Tryd.pinned (OpenSpec.ofChange aluSumsSpec)

/-- ITS FALSE NEIGHBOUR: 'it returns false'. Refute it at one input. -/
def aluSumsWrong : ChangeSpec := { name := "aluSums", fn := fun _ => fun
  | [d1, d2, d3] => { results := [.lit (.bool false)], args := [d1, d2, d3] }
  | _ => none }
def AluSumsWrongFalsely : Prop := aluSumsRow.holds Tryd.pinned (OpenSpec.ofChange aluSumsWrong)

/-- 'detentlaw16.AluJumps': WHATEVER THE INPUT: true; the input reads as it did. -/
def aluJumpsSpec : ChangeSpec := { name := "aluJumps", fn := fun _ => fun
  | [d1, d2, d3] => { results := [.lit (.bool true)], args := [d1, d2, d3] }
  | _ => none }
def aluJumpsRow : OpenClaim := { program := "ytpfoecmianohjaadoor", sum := "dafef94808ee5b070e152f6a2c175028fdb80b3c043017af57763925c06f01c2", func := "detent/detentlaw16.AluJumps", spec := "aluJumps", unfollowed := true, recurses := true, named := ["strings.asciiSpace", "unicode.White_Space"], apart := false, laid := [("unicode.White_Space", laid_unicode_White_Space), ("strings.asciiSpace", laid_strings_asciiSpace)] }
def AluJumpsSaid : Prop := aluJumpsRow.holds Tryd.pinned (OpenSpec.ofChange aluJumpsSpec)

/-- ITS FALSE NEIGHBOUR: 'it returns false'. Refute it at one input. -/
def aluJumpsWrong : ChangeSpec := { name := "aluJumps", fn := fun _ => fun
  | [d1, d2, d3] => { results := [.lit (.bool false)], args := [d1, d2, d3] }
  | _ => none }
def AluJumpsWrongFalsely : Prop := aluJumpsRow.holds Tryd.pinned (OpenSpec.ofChange aluJumpsWrong)

/-- 'detentlaw16.AluDivides': WHATEVER THE INPUT: true; the input reads as it did. -/
def aluDividesSpec : ChangeSpec := { name := "aluDivides", fn := fun _ => fun
  | [d1, d2] => { results := [.lit (.bool true)], args := [d1, d2] }
  | _ => none }
def aluDividesRow : OpenClaim := { program := "ytpfoecmianohjaadoor", sum := "dafef94808ee5b070e152f6a2c175028fdb80b3c043017af57763925c06f01c2", func := "detent/detentlaw16.AluDivides", spec := "aluDivides", unfollowed := true, recurses := true, named := ["strings.asciiSpace", "unicode.White_Space"], apart := false, laid := [("unicode.White_Space", laid_unicode_White_Space), ("strings.asciiSpace", laid_strings_asciiSpace)] }
def AluDividesSaid : Prop := aluDividesRow.holds Tryd.pinned (OpenSpec.ofChange aluDividesSpec)

/-- ITS FALSE NEIGHBOUR: 'it returns false'. Refute it at one input. -/
def aluDividesWrong : ChangeSpec := { name := "aluDivides", fn := fun _ => fun
  | [d1, d2] => { results := [.lit (.bool false)], args := [d1, d2] }
  | _ => none }
def AluDividesWrongFalsely : Prop := aluDividesRow.holds Tryd.pinned (OpenSpec.ofChange aluDividesWrong)

/-- 'detentlaw16.AluOpposites': WHATEVER THE INPUT: true; the input reads as it did. -/
def aluOppositesSpec : ChangeSpec := { name := "aluOpposites", fn := fun _ => fun
  | [d1, d2] => { results := [.lit (.bool true)], args := [d1, d2] }
  | _ => none }
def aluOppositesRow : OpenClaim := { program := "ytpfoecmianohjaadoor", sum := "dafef94808ee5b070e152f6a2c175028fdb80b3c043017af57763925c06f01c2", func := "detent/detentlaw16.AluOpposites", spec := "aluOpposites", unfollowed := true, recurses := true, named := ["strings.asciiSpace", "unicode.White_Space"], apart := false, laid := [("unicode.White_Space", laid_unicode_White_Space), ("strings.asciiSpace", laid_strings_asciiSpace)] }
def AluOppositesSaid : Prop := aluOppositesRow.holds Tryd.pinned (OpenSpec.ofChange aluOppositesSpec)

/-- ITS FALSE NEIGHBOUR: 'it returns false'. Refute it at one input. -/
def aluOppositesWrong : ChangeSpec := { name := "aluOpposites", fn := fun _ => fun
  | [d1, d2] => { results := [.lit (.bool false)], args := [d1, d2] }
  | _ => none }
def AluOppositesWrongFalsely : Prop := aluOppositesRow.holds Tryd.pinned (OpenSpec.ofChange aluOppositesWrong)

/-- 'detentlaw16.AluWords': WHATEVER THE INPUT: true; the input reads as it did. -/
def aluWordsSpec : ChangeSpec := { name := "aluWords", fn := fun _ => fun
  | [d1, d2] => { results := [.lit (.bool true)], args := [d1, d2] }
  | _ => none }
def aluWordsRow : OpenClaim := { program := "ytpfoecmianohjaadoor", sum := "dafef94808ee5b070e152f6a2c175028fdb80b3c043017af57763925c06f01c2", func := "detent/detentlaw16.AluWords", spec := "aluWords", unfollowed := true, recurses := true, named := ["strings.asciiSpace", "unicode.White_Space"], apart := false, laid := [("unicode.White_Space", laid_unicode_White_Space), ("strings.asciiSpace", laid_strings_asciiSpace)] }
def AluWordsSaid : Prop := aluWordsRow.holds Tryd.pinned (OpenSpec.ofChange aluWordsSpec)

/-- ITS FALSE NEIGHBOUR: 'it returns false'. Refute it at one input. -/
def aluWordsWrong : ChangeSpec := { name := "aluWords", fn := fun _ => fun
  | [d1, d2] => { results := [.lit (.bool false)], args := [d1, d2] }
  | _ => none }
def AluWordsWrongFalsely : Prop := aluWordsRow.holds Tryd.pinned (OpenSpec.ofChange aluWordsWrong)

/-- 'detentlaw16.AluFolds': WHATEVER THE INPUT: true; the input reads as it did. -/
def aluFoldsSpec : ChangeSpec := { name := "aluFolds", fn := fun _ => fun
  | [d1, d2, d3] => { results := [.lit (.bool true)], args := [d1, d2, d3] }
  | _ => none }
def aluFoldsRow : OpenClaim := { program := "ytpfoecmianohjaadoor", sum := "dafef94808ee5b070e152f6a2c175028fdb80b3c043017af57763925c06f01c2", func := "detent/detentlaw16.AluFolds", spec := "aluFolds", unfollowed := true, recurses := true, named := ["strings.asciiSpace", "unicode.White_Space"], apart := false, laid := [("unicode.White_Space", laid_unicode_White_Space), ("strings.asciiSpace", laid_strings_asciiSpace)] }
def AluFoldsSaid : Prop := aluFoldsRow.holds Tryd.pinned (OpenSpec.ofChange aluFoldsSpec)

/-- ITS FALSE NEIGHBOUR: 'it returns false'. Refute it at one input. -/
def aluFoldsWrong : ChangeSpec := { name := "aluFolds", fn := fun _ => fun
  | [d1, d2, d3] => { results := [.lit (.bool false)], args := [d1, d2, d3] }
  | _ => none }
def AluFoldsWrongFalsely : Prop := aluFoldsRow.holds Tryd.pinned (OpenSpec.ofChange aluFoldsWrong)

/-- 'detentlaw17.CheckHelpers': WHATEVER THE INPUT: true; the input reads as it did. -/
def checkHelpersSpec : ChangeSpec := { name := "checkHelpers", fn := fun _ => fun
  | [d] => { results := [.lit (.bool true)], args := [d] }
  | _ => none }
def checkHelpersRow : OpenClaim := { program := "ytpfoecmianohjaadoor", sum := "dafef94808ee5b070e152f6a2c175028fdb80b3c043017af57763925c06f01c2", func := "detent/detentlaw17.CheckHelpers", spec := "checkHelpers", unfollowed := true, recurses := true, named := ["strings.asciiSpace", "unicode.White_Space"], apart := false, laid := [("unicode.White_Space", laid_unicode_White_Space), ("strings.asciiSpace", laid_strings_asciiSpace)] }
def CheckHelpersSaid : Prop := checkHelpersRow.holds Tryd.pinned (OpenSpec.ofChange checkHelpersSpec)

/-- ITS FALSE NEIGHBOUR: 'it returns false'. Refute it at one input. -/
def checkHelpersWrong : ChangeSpec := { name := "checkHelpers", fn := fun _ => fun
  | [d] => { results := [.lit (.bool false)], args := [d] }
  | _ => none }
def CheckHelpersWrongFalsely : Prop := checkHelpersRow.holds Tryd.pinned (OpenSpec.ofChange checkHelpersWrong)

/-- 'detentlaw17.CheckPlaces': WHATEVER THE INPUT: true; the input reads as it did. -/
def checkPlacesSpec : ChangeSpec := { name := "checkPlaces", fn := fun _ => fun
  | [d1, d2] => { results := [.lit (.bool true)], args := [d1, d2] }
  | _ => none }
def checkPlacesRow : OpenClaim := { program := "ytpfoecmianohjaadoor", sum := "dafef94808ee5b070e152f6a2c175028fdb80b3c043017af57763925c06f01c2", func := "detent/detentlaw17.CheckPlaces", spec := "checkPlaces", unfollowed := true, recurses := true, named := ["strings.asciiSpace", "unicode.White_Space"], apart := false, laid := [("unicode.White_Space", laid_unicode_White_Space), ("strings.asciiSpace", laid_strings_asciiSpace)] }
def CheckPlacesSaid : Prop := checkPlacesRow.holds Tryd.pinned (OpenSpec.ofChange checkPlacesSpec)

/-- ITS FALSE NEIGHBOUR: 'it returns false'. Refute it at one input. -/
def checkPlacesWrong : ChangeSpec := { name := "checkPlaces", fn := fun _ => fun
  | [d1, d2] => { results := [.lit (.bool false)], args := [d1, d2] }
  | _ => none }
def CheckPlacesWrongFalsely : Prop := checkPlacesRow.holds Tryd.pinned (OpenSpec.ofChange checkPlacesWrong)

/-- 'detentlaw17.CheckNext': WHATEVER THE INPUT: true; the input reads as it did. -/
def checkNextSpec : ChangeSpec := { name := "checkNext", fn := fun _ => fun
  | [d1, d2] => { results := [.lit (.bool true)], args := [d1, d2] }
  | _ => none }
def checkNextRow : OpenClaim := { program := "ytpfoecmianohjaadoor", sum := "dafef94808ee5b070e152f6a2c175028fdb80b3c043017af57763925c06f01c2", func := "detent/detentlaw17.CheckNext", spec := "checkNext", unfollowed := true, recurses := true, named := ["strings.asciiSpace", "unicode.White_Space"], apart := false, laid := [("unicode.White_Space", laid_unicode_White_Space), ("strings.asciiSpace", laid_strings_asciiSpace)] }
def CheckNextSaid : Prop := checkNextRow.holds Tryd.pinned (OpenSpec.ofChange checkNextSpec)

/-- ITS FALSE NEIGHBOUR: 'it returns false'. Refute it at one input. -/
def checkNextWrong : ChangeSpec := { name := "checkNext", fn := fun _ => fun
  | [d1, d2] => { results := [.lit (.bool false)], args := [d1, d2] }
  | _ => none }
def CheckNextWrongFalsely : Prop := checkNextRow.holds Tryd.pinned (OpenSpec.ofChange checkNextWrong)

/-- 'detentlaw17.CheckSleeps': WHATEVER THE INPUT: true; the input reads as it did. -/
def checkSleepsSpec : ChangeSpec := { name := "checkSleeps", fn := fun _ => fun
  | [d] => { results := [.lit (.bool true)], args := [d] }
  | _ => none }
def checkSleepsRow : OpenClaim := { program := "ytpfoecmianohjaadoor", sum := "dafef94808ee5b070e152f6a2c175028fdb80b3c043017af57763925c06f01c2", func := "detent/detentlaw17.CheckSleeps", spec := "checkSleeps", unfollowed := true, recurses := true, named := ["strings.asciiSpace", "unicode.White_Space"], apart := false, laid := [("unicode.White_Space", laid_unicode_White_Space), ("strings.asciiSpace", laid_strings_asciiSpace)] }
def CheckSleepsSaid : Prop := checkSleepsRow.holds Tryd.pinned (OpenSpec.ofChange checkSleepsSpec)

/-- ITS FALSE NEIGHBOUR: 'it returns false'. Refute it at one input. -/
def checkSleepsWrong : ChangeSpec := { name := "checkSleeps", fn := fun _ => fun
  | [d] => { results := [.lit (.bool false)], args := [d] }
  | _ => none }
def CheckSleepsWrongFalsely : Prop := checkSleepsRow.holds Tryd.pinned (OpenSpec.ofChange checkSleepsWrong)

/-- 'detentlaw17.CheckStays': WHATEVER THE INPUT: true; the input reads as it did. -/
def checkStaysSpec : ChangeSpec := { name := "checkStays", fn := fun _ => fun
  | [d1, d2, d3] => { results := [.lit (.bool true)], args := [d1, d2, d3] }
  | _ => none }
def checkStaysRow : OpenClaim := { program := "ytpfoecmianohjaadoor", sum := "dafef94808ee5b070e152f6a2c175028fdb80b3c043017af57763925c06f01c2", func := "detent/detentlaw17.CheckStays", spec := "checkStays", unfollowed := true, recurses := true, named := ["strings.asciiSpace", "unicode.White_Space"], apart := false, laid := [("unicode.White_Space", laid_unicode_White_Space), ("strings.asciiSpace", laid_strings_asciiSpace)] }
def CheckStaysSaid : Prop := checkStaysRow.holds Tryd.pinned (OpenSpec.ofChange checkStaysSpec)

/-- ITS FALSE NEIGHBOUR: 'it returns false'. Refute it at one input. -/
def checkStaysWrong : ChangeSpec := { name := "checkStays", fn := fun _ => fun
  | [d1, d2, d3] => { results := [.lit (.bool false)], args := [d1, d2, d3] }
  | _ => none }
def CheckStaysWrongFalsely : Prop := checkStaysRow.holds Tryd.pinned (OpenSpec.ofChange checkStaysWrong)

/- THE SECOND FORM. 'bulk': how many values and letters a reading holds, each counted each time it is reached (what is shared counts as often as it is met; a slice's spare places count too). A statement '..UptoSaid' is the law's where the arguments, and the package variables that the reading takes, are together of bulk at most 1048576: NARROWER than '..Said'. Prove '..Said' where nothing that the law and all that it calls make is longer than what came in: it says more and counts as full. Else prove '..UptoSaid'. A law counts once. -/
mutual
def uptoBulk {H : Type} : DataW H → Nat
  | .lit (.string bytes) => bytes.length + 1
  | .lit _ => 1
  | .nil => 1
  | .ptr d => uptoBulk d + 1
  | .slice elems spare => uptoBulkAll elems + uptoBulkAll spare + 1
  | .agg parts => uptoBulkAll parts + 1
  | .iface _ d => uptoBulk d + 1
  | .map entries => uptoBulkEntries entries + 1
  | .held _ => 1
def uptoBulkAll {H : Type} : List (DataW H) → Nat
  | [] => 0
  | d :: r => uptoBulk d + uptoBulkAll r
def uptoBulkEntries {H : Type} : List (Lit × DataW H) → Nat
  | [] => 0
  | x :: r => uptoBulkEntry x + uptoBulkEntries r
def uptoBulkEntry {H : Type} : Lit × DataW H → Nat
  | (.string bytes, d) => bytes.length + uptoBulk d + 1
  | (_, d) => uptoBulk d + 1
 end
def uptoSmall : (H : Type) → List (DataW H) → Bool := fun _ ds => decide (uptoBulkAll ds ≤ 1048576)
def OpenSpec.upto (s : _root_.Go.ChangeSpec) : _root_.Go.OpenSpec := { _root_.Go.OpenSpec.ofChange s with cond := some uptoSmall }

/-- 'detentlaw16.AluSums', WHERE WHAT IT READS IS OF BULK AT MOST 1048576: true; the input reads as it did. -/
def aluSumsUptoRow : OpenClaim := { program := "ytpfoecmianohjaadoor", sum := "dafef94808ee5b070e152f6a2c175028fdb80b3c043017af57763925c06f01c2", func := "detent/detentlaw16.AluSums", spec := "aluSums", unfollowed := true, recurses := true, named := ["strings.asciiSpace", "unicode.White_Space"], apart := false, laid := [("unicode.White_Space", laid_unicode_White_Space), ("strings.asciiSpace", laid_strings_asciiSpace)], narrowed := true }
def AluSumsUptoSaid : Prop := aluSumsUptoRow.holds Tryd.pinned (OpenSpec.upto aluSumsSpec)

/-- 'detentlaw16.AluJumps', WHERE WHAT IT READS IS OF BULK AT MOST 1048576: true; the input reads as it did. -/
def aluJumpsUptoRow : OpenClaim := { program := "ytpfoecmianohjaadoor", sum := "dafef94808ee5b070e152f6a2c175028fdb80b3c043017af57763925c06f01c2", func := "detent/detentlaw16.AluJumps", spec := "aluJumps", unfollowed := true, recurses := true, named := ["strings.asciiSpace", "unicode.White_Space"], apart := false, laid := [("unicode.White_Space", laid_unicode_White_Space), ("strings.asciiSpace", laid_strings_asciiSpace)], narrowed := true }
def AluJumpsUptoSaid : Prop := aluJumpsUptoRow.holds Tryd.pinned (OpenSpec.upto aluJumpsSpec)

/-- 'detentlaw16.AluDivides', WHERE WHAT IT READS IS OF BULK AT MOST 1048576: true; the input reads as it did. -/
def aluDividesUptoRow : OpenClaim := { program := "ytpfoecmianohjaadoor", sum := "dafef94808ee5b070e152f6a2c175028fdb80b3c043017af57763925c06f01c2", func := "detent/detentlaw16.AluDivides", spec := "aluDivides", unfollowed := true, recurses := true, named := ["strings.asciiSpace", "unicode.White_Space"], apart := false, laid := [("unicode.White_Space", laid_unicode_White_Space), ("strings.asciiSpace", laid_strings_asciiSpace)], narrowed := true }
def AluDividesUptoSaid : Prop := aluDividesUptoRow.holds Tryd.pinned (OpenSpec.upto aluDividesSpec)

/-- 'detentlaw16.AluOpposites', WHERE WHAT IT READS IS OF BULK AT MOST 1048576: true; the input reads as it did. -/
def aluOppositesUptoRow : OpenClaim := { program := "ytpfoecmianohjaadoor", sum := "dafef94808ee5b070e152f6a2c175028fdb80b3c043017af57763925c06f01c2", func := "detent/detentlaw16.AluOpposites", spec := "aluOpposites", unfollowed := true, recurses := true, named := ["strings.asciiSpace", "unicode.White_Space"], apart := false, laid := [("unicode.White_Space", laid_unicode_White_Space), ("strings.asciiSpace", laid_strings_asciiSpace)], narrowed := true }
def AluOppositesUptoSaid : Prop := aluOppositesUptoRow.holds Tryd.pinned (OpenSpec.upto aluOppositesSpec)

/-- 'detentlaw16.AluWords', WHERE WHAT IT READS IS OF BULK AT MOST 1048576: true; the input reads as it did. -/
def aluWordsUptoRow : OpenClaim := { program := "ytpfoecmianohjaadoor", sum := "dafef94808ee5b070e152f6a2c175028fdb80b3c043017af57763925c06f01c2", func := "detent/detentlaw16.AluWords", spec := "aluWords", unfollowed := true, recurses := true, named := ["strings.asciiSpace", "unicode.White_Space"], apart := false, laid := [("unicode.White_Space", laid_unicode_White_Space), ("strings.asciiSpace", laid_strings_asciiSpace)], narrowed := true }
def AluWordsUptoSaid : Prop := aluWordsUptoRow.holds Tryd.pinned (OpenSpec.upto aluWordsSpec)

/-- 'detentlaw16.AluFolds', WHERE WHAT IT READS IS OF BULK AT MOST 1048576: true; the input reads as it did. -/
def aluFoldsUptoRow : OpenClaim := { program := "ytpfoecmianohjaadoor", sum := "dafef94808ee5b070e152f6a2c175028fdb80b3c043017af57763925c06f01c2", func := "detent/detentlaw16.AluFolds", spec := "aluFolds", unfollowed := true, recurses := true, named := ["strings.asciiSpace", "unicode.White_Space"], apart := false, laid := [("unicode.White_Space", laid_unicode_White_Space), ("strings.asciiSpace", laid_strings_asciiSpace)], narrowed := true }
def AluFoldsUptoSaid : Prop := aluFoldsUptoRow.holds Tryd.pinned (OpenSpec.upto aluFoldsSpec)

/-- 'detentlaw17.CheckHelpers', WHERE WHAT IT READS IS OF BULK AT MOST 1048576: true; the input reads as it did. -/
def checkHelpersUptoRow : OpenClaim := { program := "ytpfoecmianohjaadoor", sum := "dafef94808ee5b070e152f6a2c175028fdb80b3c043017af57763925c06f01c2", func := "detent/detentlaw17.CheckHelpers", spec := "checkHelpers", unfollowed := true, recurses := true, named := ["strings.asciiSpace", "unicode.White_Space"], apart := false, laid := [("unicode.White_Space", laid_unicode_White_Space), ("strings.asciiSpace", laid_strings_asciiSpace)], narrowed := true }
def CheckHelpersUptoSaid : Prop := checkHelpersUptoRow.holds Tryd.pinned (OpenSpec.upto checkHelpersSpec)

/-- 'detentlaw17.CheckPlaces', WHERE WHAT IT READS IS OF BULK AT MOST 1048576: true; the input reads as it did. -/
def checkPlacesUptoRow : OpenClaim := { program := "ytpfoecmianohjaadoor", sum := "dafef94808ee5b070e152f6a2c175028fdb80b3c043017af57763925c06f01c2", func := "detent/detentlaw17.CheckPlaces", spec := "checkPlaces", unfollowed := true, recurses := true, named := ["strings.asciiSpace", "unicode.White_Space"], apart := false, laid := [("unicode.White_Space", laid_unicode_White_Space), ("strings.asciiSpace", laid_strings_asciiSpace)], narrowed := true }
def CheckPlacesUptoSaid : Prop := checkPlacesUptoRow.holds Tryd.pinned (OpenSpec.upto checkPlacesSpec)

/-- 'detentlaw17.CheckNext', WHERE WHAT IT READS IS OF BULK AT MOST 1048576: true; the input reads as it did. -/
def checkNextUptoRow : OpenClaim := { program := "ytpfoecmianohjaadoor", sum := "dafef94808ee5b070e152f6a2c175028fdb80b3c043017af57763925c06f01c2", func := "detent/detentlaw17.CheckNext", spec := "checkNext", unfollowed := true, recurses := true, named := ["strings.asciiSpace", "unicode.White_Space"], apart := false, laid := [("unicode.White_Space", laid_unicode_White_Space), ("strings.asciiSpace", laid_strings_asciiSpace)], narrowed := true }
def CheckNextUptoSaid : Prop := checkNextUptoRow.holds Tryd.pinned (OpenSpec.upto checkNextSpec)

/-- 'detentlaw17.CheckSleeps', WHERE WHAT IT READS IS OF BULK AT MOST 1048576: true; the input reads as it did. -/
def checkSleepsUptoRow : OpenClaim := { program := "ytpfoecmianohjaadoor", sum := "dafef94808ee5b070e152f6a2c175028fdb80b3c043017af57763925c06f01c2", func := "detent/detentlaw17.CheckSleeps", spec := "checkSleeps", unfollowed := true, recurses := true, named := ["strings.asciiSpace", "unicode.White_Space"], apart := false, laid := [("unicode.White_Space", laid_unicode_White_Space), ("strings.asciiSpace", laid_strings_asciiSpace)], narrowed := true }
def CheckSleepsUptoSaid : Prop := checkSleepsUptoRow.holds Tryd.pinned (OpenSpec.upto checkSleepsSpec)

/-- 'detentlaw17.CheckStays', WHERE WHAT IT READS IS OF BULK AT MOST 1048576: true; the input reads as it did. -/
def checkStaysUptoRow : OpenClaim := { program := "ytpfoecmianohjaadoor", sum := "dafef94808ee5b070e152f6a2c175028fdb80b3c043017af57763925c06f01c2", func := "detent/detentlaw17.CheckStays", spec := "checkStays", unfollowed := true, recurses := true, named := ["strings.asciiSpace", "unicode.White_Space"], apart := false, laid := [("unicode.White_Space", laid_unicode_White_Space), ("strings.asciiSpace", laid_strings_asciiSpace)], narrowed := true }
def CheckStaysUptoSaid : Prop := checkStaysUptoRow.holds Tryd.pinned (OpenSpec.upto checkStaysSpec)

end Rows
end Go.Proofs.YtpfoecmianohjaaDoor

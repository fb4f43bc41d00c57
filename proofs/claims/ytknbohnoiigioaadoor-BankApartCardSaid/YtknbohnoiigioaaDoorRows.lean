/-
  NARROWER THAN 'FOR EVERY INPUT', by the rows' own cells (each row's printed sentence says how): WheelNext: laid · WheelLimits: laid · WheelOnce: laid · BankApart: laid · BankAll: laid · BankPlays: laid · BankLimits: laid · WheelSteps: laid · WheelPlays: laid · WheelNil: laid.
  DERIVED. THE GIVEN ROWS OF THIS SEAT. 10 by the template 'for every input the law returns true; each argument reads behind the call as it read before'; 0 by the template 'total and deterministic' (their statements: YtknbohnoiigioaaDoorTotals.lean).
  GIVEN WITH THE SEED: the statements are not yours to turn. If you find one false, say at which input.
  Laid BY PROGRAM, IN A SANDBOX (cutbox-rows.mjs): the forced cells as the released guide's own fill.sh prints them over the translation 5aa9af85f746345b… (all of the seat's roots in one cut). By AI agents, Wed Nov 11 2026. No macro, syntax, notation, axiom, sorry.
-/
import Derived.Test.YtknbohnoiigioaaDoorChecked
import GoSem.Claim
import GoSem.ClaimJoined
import GoSem.ClaimMapViews
import Derived.JoinedTies
import Derived.KernelRfl
namespace Go.Proofs.YtknbohnoiigioaaDoor
/- THE CELL 'sum', in the pinned program and in every row, IS THE sha256 OF THE DUMP (.gsa) THAT YtknbohnoiigioaaDoorProg.lean LOADS. Nothing in Lean hashes anything: it is a label: what it is worth is what the hold of that sum in a sandbox is worth. -/
noncomputable def Tryd.pinned : Pinned := { name := "ytknbohnoiigioaadoor", sum := "5aa9af85f746345bf2fd499f17f1e1c92e0e49c8744e53359aa542c80d94e1a8", checked := Tryd.checked }
namespace Rows
def none {H : Type} : Left H := { results := [], args := [] }

/- WHAT THE LISTED PACKAGE-LEVEL VARIABLES READ AS WHEN THE CALL BEGINS. Each datum BY PROGRAM (the guide's laid-datum.mjs) off the statement by which the dump's own 'gosem.cut.vars' lays the variable. In a bare row this is a premise. The card (YtknbohnoiigioaaDoorCards.lean) ties it to the program's text. -/
def laid_math_bits_deBruijn64tab {H : Type} : DataW H := .agg [.lit (.int .u8 0), .lit (.int .u8 1), .lit (.int .u8 56), .lit (.int .u8 2), .lit (.int .u8 57), .lit (.int .u8 49), .lit (.int .u8 28), .lit (.int .u8 3), .lit (.int .u8 61), .lit (.int .u8 58), .lit (.int .u8 42), .lit (.int .u8 50), .lit (.int .u8 38), .lit (.int .u8 29), .lit (.int .u8 17), .lit (.int .u8 4), .lit (.int .u8 62), .lit (.int .u8 47), .lit (.int .u8 59), .lit (.int .u8 36), .lit (.int .u8 45), .lit (.int .u8 43), .lit (.int .u8 51), .lit (.int .u8 22), .lit (.int .u8 53), .lit (.int .u8 39), .lit (.int .u8 33), .lit (.int .u8 30), .lit (.int .u8 24), .lit (.int .u8 18), .lit (.int .u8 12), .lit (.int .u8 5), .lit (.int .u8 63), .lit (.int .u8 55), .lit (.int .u8 48), .lit (.int .u8 27), .lit (.int .u8 60), .lit (.int .u8 41), .lit (.int .u8 37), .lit (.int .u8 16), .lit (.int .u8 46), .lit (.int .u8 35), .lit (.int .u8 44), .lit (.int .u8 21), .lit (.int .u8 52), .lit (.int .u8 32), .lit (.int .u8 23), .lit (.int .u8 11), .lit (.int .u8 54), .lit (.int .u8 26), .lit (.int .u8 40), .lit (.int .u8 15), .lit (.int .u8 34), .lit (.int .u8 20), .lit (.int .u8 31), .lit (.int .u8 10), .lit (.int .u8 25), .lit (.int .u8 14), .lit (.int .u8 19), .lit (.int .u8 9), .lit (.int .u8 13), .lit (.int .u8 8), .lit (.int .u8 7), .lit (.int .u8 6)]

/-- 'detentlaw07.WheelNext': WHATEVER THE INPUT: true; the input reads as it did. -/
def wheelNextSpec : ChangeSpec := { name := "wheelNext", fn := fun _ => fun
  | [d1, d2] => { results := [.lit (.bool true)], args := [d1, d2] }
  | _ => none }
def wheelNextRow : OpenClaim := { program := "ytknbohnoiigioaadoor", sum := "5aa9af85f746345bf2fd499f17f1e1c92e0e49c8744e53359aa542c80d94e1a8", func := "detent/detentlaw07.WheelNext", spec := "wheelNext", unfollowed := true, recurses := true, named := ["math/bits.deBruijn64tab"], apart := false, laid := [("math/bits.deBruijn64tab", laid_math_bits_deBruijn64tab)] }
def WheelNextSaid : Prop := wheelNextRow.holds Tryd.pinned (OpenSpec.ofChange wheelNextSpec)

/-- ITS FALSE NEIGHBOUR: 'it returns false'. Refute it at one input. -/
def wheelNextWrong : ChangeSpec := { name := "wheelNext", fn := fun _ => fun
  | [d1, d2] => { results := [.lit (.bool false)], args := [d1, d2] }
  | _ => none }
def WheelNextWrongFalsely : Prop := wheelNextRow.holds Tryd.pinned (OpenSpec.ofChange wheelNextWrong)

/-- 'detentlaw07.WheelLimits': WHATEVER THE INPUT: true; the input reads as it did. -/
def wheelLimitsSpec : ChangeSpec := { name := "wheelLimits", fn := fun _ => fun
  | [d1, d2] => { results := [.lit (.bool true)], args := [d1, d2] }
  | _ => none }
def wheelLimitsRow : OpenClaim := { program := "ytknbohnoiigioaadoor", sum := "5aa9af85f746345bf2fd499f17f1e1c92e0e49c8744e53359aa542c80d94e1a8", func := "detent/detentlaw07.WheelLimits", spec := "wheelLimits", unfollowed := true, recurses := true, named := ["math/bits.deBruijn64tab"], apart := false, laid := [("math/bits.deBruijn64tab", laid_math_bits_deBruijn64tab)] }
def WheelLimitsSaid : Prop := wheelLimitsRow.holds Tryd.pinned (OpenSpec.ofChange wheelLimitsSpec)

/-- ITS FALSE NEIGHBOUR: 'it returns false'. Refute it at one input. -/
def wheelLimitsWrong : ChangeSpec := { name := "wheelLimits", fn := fun _ => fun
  | [d1, d2] => { results := [.lit (.bool false)], args := [d1, d2] }
  | _ => none }
def WheelLimitsWrongFalsely : Prop := wheelLimitsRow.holds Tryd.pinned (OpenSpec.ofChange wheelLimitsWrong)

/-- 'detentlaw07.WheelOnce': WHATEVER THE INPUT: true; the input reads as it did. -/
def wheelOnceSpec : ChangeSpec := { name := "wheelOnce", fn := fun _ => fun
  | [d1, d2, d3] => { results := [.lit (.bool true)], args := [d1, d2, d3] }
  | _ => none }
def wheelOnceRow : OpenClaim := { program := "ytknbohnoiigioaadoor", sum := "5aa9af85f746345bf2fd499f17f1e1c92e0e49c8744e53359aa542c80d94e1a8", func := "detent/detentlaw07.WheelOnce", spec := "wheelOnce", unfollowed := true, recurses := true, named := ["math/bits.deBruijn64tab"], apart := false, laid := [("math/bits.deBruijn64tab", laid_math_bits_deBruijn64tab)] }
def WheelOnceSaid : Prop := wheelOnceRow.holds Tryd.pinned (OpenSpec.ofChange wheelOnceSpec)

/-- ITS FALSE NEIGHBOUR: 'it returns false'. Refute it at one input. -/
def wheelOnceWrong : ChangeSpec := { name := "wheelOnce", fn := fun _ => fun
  | [d1, d2, d3] => { results := [.lit (.bool false)], args := [d1, d2, d3] }
  | _ => none }
def WheelOnceWrongFalsely : Prop := wheelOnceRow.holds Tryd.pinned (OpenSpec.ofChange wheelOnceWrong)

/-- 'detentlaw08.BankApart': WHATEVER THE INPUT: true; the input reads as it did. -/
def bankApartSpec : ChangeSpec := { name := "bankApart", fn := fun _ => fun
  | [d1, d2, d3, d4, d5] => { results := [.lit (.bool true)], args := [d1, d2, d3, d4, d5] }
  | _ => none }
def bankApartRow : OpenClaim := { program := "ytknbohnoiigioaadoor", sum := "5aa9af85f746345bf2fd499f17f1e1c92e0e49c8744e53359aa542c80d94e1a8", func := "detent/detentlaw08.BankApart", spec := "bankApart", unfollowed := true, recurses := true, named := ["math/bits.deBruijn64tab"], apart := false, laid := [("math/bits.deBruijn64tab", laid_math_bits_deBruijn64tab)] }
def BankApartSaid : Prop := bankApartRow.holds Tryd.pinned (OpenSpec.ofChange bankApartSpec)

/-- ITS FALSE NEIGHBOUR: 'it returns false'. Refute it at one input. -/
def bankApartWrong : ChangeSpec := { name := "bankApart", fn := fun _ => fun
  | [d1, d2, d3, d4, d5] => { results := [.lit (.bool false)], args := [d1, d2, d3, d4, d5] }
  | _ => none }
def BankApartWrongFalsely : Prop := bankApartRow.holds Tryd.pinned (OpenSpec.ofChange bankApartWrong)

/-- 'detentlaw08.BankAll': WHATEVER THE INPUT: true; the input reads as it did. -/
def bankAllSpec : ChangeSpec := { name := "bankAll", fn := fun _ => fun
  | [d1, d2, d3] => { results := [.lit (.bool true)], args := [d1, d2, d3] }
  | _ => none }
def bankAllRow : OpenClaim := { program := "ytknbohnoiigioaadoor", sum := "5aa9af85f746345bf2fd499f17f1e1c92e0e49c8744e53359aa542c80d94e1a8", func := "detent/detentlaw08.BankAll", spec := "bankAll", unfollowed := true, recurses := true, named := ["math/bits.deBruijn64tab"], apart := false, laid := [("math/bits.deBruijn64tab", laid_math_bits_deBruijn64tab)] }
def BankAllSaid : Prop := bankAllRow.holds Tryd.pinned (OpenSpec.ofChange bankAllSpec)

/-- ITS FALSE NEIGHBOUR: 'it returns false'. Refute it at one input. -/
def bankAllWrong : ChangeSpec := { name := "bankAll", fn := fun _ => fun
  | [d1, d2, d3] => { results := [.lit (.bool false)], args := [d1, d2, d3] }
  | _ => none }
def BankAllWrongFalsely : Prop := bankAllRow.holds Tryd.pinned (OpenSpec.ofChange bankAllWrong)

/-- 'detentlaw08.BankPlays': WHATEVER THE INPUT: true; the input reads as it did. -/
def bankPlaysSpec : ChangeSpec := { name := "bankPlays", fn := fun _ => fun
  | [d1, d2, d3, d4] => { results := [.lit (.bool true)], args := [d1, d2, d3, d4] }
  | _ => none }
def bankPlaysRow : OpenClaim := { program := "ytknbohnoiigioaadoor", sum := "5aa9af85f746345bf2fd499f17f1e1c92e0e49c8744e53359aa542c80d94e1a8", func := "detent/detentlaw08.BankPlays", spec := "bankPlays", unfollowed := true, recurses := true, named := ["math/bits.deBruijn64tab"], apart := false, laid := [("math/bits.deBruijn64tab", laid_math_bits_deBruijn64tab)] }
def BankPlaysSaid : Prop := bankPlaysRow.holds Tryd.pinned (OpenSpec.ofChange bankPlaysSpec)

/-- ITS FALSE NEIGHBOUR: 'it returns false'. Refute it at one input. -/
def bankPlaysWrong : ChangeSpec := { name := "bankPlays", fn := fun _ => fun
  | [d1, d2, d3, d4] => { results := [.lit (.bool false)], args := [d1, d2, d3, d4] }
  | _ => none }
def BankPlaysWrongFalsely : Prop := bankPlaysRow.holds Tryd.pinned (OpenSpec.ofChange bankPlaysWrong)

/-- 'detentlaw08.BankLimits': WHATEVER THE INPUT: true; the input reads as it did. -/
def bankLimitsSpec : ChangeSpec := { name := "bankLimits", fn := fun _ => fun
  | [d1, d2, d3] => { results := [.lit (.bool true)], args := [d1, d2, d3] }
  | _ => none }
def bankLimitsRow : OpenClaim := { program := "ytknbohnoiigioaadoor", sum := "5aa9af85f746345bf2fd499f17f1e1c92e0e49c8744e53359aa542c80d94e1a8", func := "detent/detentlaw08.BankLimits", spec := "bankLimits", unfollowed := true, recurses := true, named := ["math/bits.deBruijn64tab"], apart := false, laid := [("math/bits.deBruijn64tab", laid_math_bits_deBruijn64tab)] }
def BankLimitsSaid : Prop := bankLimitsRow.holds Tryd.pinned (OpenSpec.ofChange bankLimitsSpec)

/-- ITS FALSE NEIGHBOUR: 'it returns false'. Refute it at one input. -/
def bankLimitsWrong : ChangeSpec := { name := "bankLimits", fn := fun _ => fun
  | [d1, d2, d3] => { results := [.lit (.bool false)], args := [d1, d2, d3] }
  | _ => none }
def BankLimitsWrongFalsely : Prop := bankLimitsRow.holds Tryd.pinned (OpenSpec.ofChange bankLimitsWrong)

/-- 'detentlaw07.WheelSteps': WHATEVER THE INPUT: true; the input reads as it did. -/
def wheelStepsSpec : ChangeSpec := { name := "wheelSteps", fn := fun _ => fun
  | [d1, d2, d3, d4] => { results := [.lit (.bool true)], args := [d1, d2, d3, d4] }
  | _ => none }
def wheelStepsRow : OpenClaim := { program := "ytknbohnoiigioaadoor", sum := "5aa9af85f746345bf2fd499f17f1e1c92e0e49c8744e53359aa542c80d94e1a8", func := "detent/detentlaw07.WheelSteps", spec := "wheelSteps", unfollowed := true, recurses := true, named := ["math/bits.deBruijn64tab"], apart := false, laid := [("math/bits.deBruijn64tab", laid_math_bits_deBruijn64tab)] }
def WheelStepsSaid : Prop := wheelStepsRow.holds Tryd.pinned (OpenSpec.ofChange wheelStepsSpec)

/-- ITS FALSE NEIGHBOUR: 'it returns false'. Refute it at one input. -/
def wheelStepsWrong : ChangeSpec := { name := "wheelSteps", fn := fun _ => fun
  | [d1, d2, d3, d4] => { results := [.lit (.bool false)], args := [d1, d2, d3, d4] }
  | _ => none }
def WheelStepsWrongFalsely : Prop := wheelStepsRow.holds Tryd.pinned (OpenSpec.ofChange wheelStepsWrong)

/-- 'detentlaw07.WheelPlays': WHATEVER THE INPUT: true; the input reads as it did. -/
def wheelPlaysSpec : ChangeSpec := { name := "wheelPlays", fn := fun _ => fun
  | [d1, d2] => { results := [.lit (.bool true)], args := [d1, d2] }
  | _ => none }
def wheelPlaysRow : OpenClaim := { program := "ytknbohnoiigioaadoor", sum := "5aa9af85f746345bf2fd499f17f1e1c92e0e49c8744e53359aa542c80d94e1a8", func := "detent/detentlaw07.WheelPlays", spec := "wheelPlays", unfollowed := true, recurses := true, named := ["math/bits.deBruijn64tab"], apart := false, laid := [("math/bits.deBruijn64tab", laid_math_bits_deBruijn64tab)] }
def WheelPlaysSaid : Prop := wheelPlaysRow.holds Tryd.pinned (OpenSpec.ofChange wheelPlaysSpec)

/-- ITS FALSE NEIGHBOUR: 'it returns false'. Refute it at one input. -/
def wheelPlaysWrong : ChangeSpec := { name := "wheelPlays", fn := fun _ => fun
  | [d1, d2] => { results := [.lit (.bool false)], args := [d1, d2] }
  | _ => none }
def WheelPlaysWrongFalsely : Prop := wheelPlaysRow.holds Tryd.pinned (OpenSpec.ofChange wheelPlaysWrong)

/-- 'detentlaw07.WheelNil': WHATEVER THE INPUT: true; the input reads as it did. -/
def wheelNilSpec : ChangeSpec := { name := "wheelNil", fn := fun _ => fun
  | [d1, d2] => { results := [.lit (.bool true)], args := [d1, d2] }
  | _ => none }
def wheelNilRow : OpenClaim := { program := "ytknbohnoiigioaadoor", sum := "5aa9af85f746345bf2fd499f17f1e1c92e0e49c8744e53359aa542c80d94e1a8", func := "detent/detentlaw07.WheelNil", spec := "wheelNil", unfollowed := true, recurses := true, named := ["math/bits.deBruijn64tab"], apart := false, laid := [("math/bits.deBruijn64tab", laid_math_bits_deBruijn64tab)] }
def WheelNilSaid : Prop := wheelNilRow.holds Tryd.pinned (OpenSpec.ofChange wheelNilSpec)

/-- ITS FALSE NEIGHBOUR: 'it returns false'. Refute it at one input. -/
def wheelNilWrong : ChangeSpec := { name := "wheelNil", fn := fun _ => fun
  | [d1, d2] => { results := [.lit (.bool false)], args := [d1, d2] }
  | _ => none }
def WheelNilWrongFalsely : Prop := wheelNilRow.holds Tryd.pinned (OpenSpec.ofChange wheelNilWrong)

/- THE SECOND FORM. 'bulk': how many values and letters a reading holds, each counted each time it is reached (what is shared counts as often as it is met; a slice's spare places count too). A statement '..UptoSaid' is the law's where the arguments, and the package variables that the reading takes, are together of bulk at most 1048576: NARROWER than '..Said'. Prove '..Said' where nothing that the law and all that it calls make is longer than what came in: it says more and counts as full. Else prove '..UptoSaid'. A law counts once. -/
mutual
def uptoBulk {H : Type} : DataW H → Nat
  | .lit (.string bytes) => bytes.length + 1
  | .lit _ => 1
  | .nil => 1
  | .ptr d => uptoBulk d + 1
  | .slice elems spare => uptoBulkAll elems + uptoBulkAll spare + 1
  | .agg parts => uptoBulkAll parts + 1
  | .iface _ d => uptoBulk d + 1
  | .map entries => uptoBulkEntries entries + 1
  | .held _ => 1
def uptoBulkAll {H : Type} : List (DataW H) → Nat
  | [] => 0
  | d :: r => uptoBulk d + uptoBulkAll r
def uptoBulkEntries {H : Type} : List (Lit × DataW H) → Nat
  | [] => 0
  | x :: r => uptoBulkEntry x + uptoBulkEntries r
def uptoBulkEntry {H : Type} : Lit × DataW H → Nat
  | (.string bytes, d) => bytes.length + uptoBulk d + 1
  | (_, d) => uptoBulk d + 1
 end
def uptoSmall : (H : Type) → List (DataW H) → Bool := fun _ ds => decide (uptoBulkAll ds ≤ 1048576)
def OpenSpec.upto (s : _root_.Go.ChangeSpec) : _root_.Go.OpenSpec := { _root_.Go.OpenSpec.ofChange s with cond := some uptoSmall }

/-- 'detentlaw07.WheelNext', WHERE WHAT IT READS IS OF BULK AT MOST 1048576: true; the input reads as it did. -/
def wheelNextUptoRow : OpenClaim := { program := "ytknbohnoiigioaadoor", sum := "5aa9af85f746345bf2fd499f17f1e1c92e0e49c8744e53359aa542c80d94e1a8", func := "detent/detentlaw07.WheelNext", spec := "wheelNext", unfollowed := true, recurses := true, named := ["math/bits.deBruijn64tab"], apart := false, laid := [("math/bits.deBruijn64tab", laid_math_bits_deBruijn64tab)], narrowed := true }
def WheelNextUptoSaid : Prop := wheelNextUptoRow.holds Tryd.pinned (OpenSpec.upto wheelNextSpec)

/-- 'detentlaw07.WheelLimits', WHERE WHAT IT READS IS OF BULK AT MOST 1048576: true; the input reads as it did. -/
def wheelLimitsUptoRow : OpenClaim := { program := "ytknbohnoiigioaadoor", sum := "5aa9af85f746345bf2fd499f17f1e1c92e0e49c8744e53359aa542c80d94e1a8", func := "detent/detentlaw07.WheelLimits", spec := "wheelLimits", unfollowed := true, recurses := true, named := ["math/bits.deBruijn64tab"], apart := false, laid := [("math/bits.deBruijn64tab", laid_math_bits_deBruijn64tab)], narrowed := true }
def WheelLimitsUptoSaid : Prop := wheelLimitsUptoRow.holds Tryd.pinned (OpenSpec.upto wheelLimitsSpec)

/-- 'detentlaw07.WheelOnce', WHERE WHAT IT READS IS OF BULK AT MOST 1048576: true; the input reads as it did. -/
def wheelOnceUptoRow : OpenClaim := { program := "ytknbohnoiigioaadoor", sum := "5aa9af85f746345bf2fd499f17f1e1c92e0e49c8744e53359aa542c80d94e1a8", func := "detent/detentlaw07.WheelOnce", spec := "wheelOnce", unfollowed := true, recurses := true, named := ["math/bits.deBruijn64tab"], apart := false, laid := [("math/bits.deBruijn64tab", laid_math_bits_deBruijn64tab)], narrowed := true }
def WheelOnceUptoSaid : Prop := wheelOnceUptoRow.holds Tryd.pinned (OpenSpec.upto wheelOnceSpec)

/-- 'detentlaw08.BankApart', WHERE WHAT IT READS IS OF BULK AT MOST 1048576: true; the input reads as it did. -/
def bankApartUptoRow : OpenClaim := { program := "ytknbohnoiigioaadoor", sum := "5aa9af85f746345bf2fd499f17f1e1c92e0e49c8744e53359aa542c80d94e1a8", func := "detent/detentlaw08.BankApart", spec := "bankApart", unfollowed := true, recurses := true, named := ["math/bits.deBruijn64tab"], apart := false, laid := [("math/bits.deBruijn64tab", laid_math_bits_deBruijn64tab)], narrowed := true }
def BankApartUptoSaid : Prop := bankApartUptoRow.holds Tryd.pinned (OpenSpec.upto bankApartSpec)

/-- 'detentlaw08.BankAll', WHERE WHAT IT READS IS OF BULK AT MOST 1048576: true; the input reads as it did. -/
def bankAllUptoRow : OpenClaim := { program := "ytknbohnoiigioaadoor", sum := "5aa9af85f746345bf2fd499f17f1e1c92e0e49c8744e53359aa542c80d94e1a8", func := "detent/detentlaw08.BankAll", spec := "bankAll", unfollowed := true, recurses := true, named := ["math/bits.deBruijn64tab"], apart := false, laid := [("math/bits.deBruijn64tab", laid_math_bits_deBruijn64tab)], narrowed := true }
def BankAllUptoSaid : Prop := bankAllUptoRow.holds Tryd.pinned (OpenSpec.upto bankAllSpec)

/-- 'detentlaw08.BankPlays', WHERE WHAT IT READS IS OF BULK AT MOST 1048576: true; the input reads as it did. -/
def bankPlaysUptoRow : OpenClaim := { program := "ytknbohnoiigioaadoor", sum := "5aa9af85f746345bf2fd499f17f1e1c92e0e49c8744e53359aa542c80d94e1a8", func := "detent/detentlaw08.BankPlays", spec := "bankPlays", unfollowed := true, recurses := true, named := ["math/bits.deBruijn64tab"], apart := false, laid := [("math/bits.deBruijn64tab", laid_math_bits_deBruijn64tab)], narrowed := true }
def BankPlaysUptoSaid : Prop := bankPlaysUptoRow.holds Tryd.pinned (OpenSpec.upto bankPlaysSpec)

/-- 'detentlaw08.BankLimits', WHERE WHAT IT READS IS OF BULK AT MOST 1048576: true; the input reads as it did. -/
def bankLimitsUptoRow : OpenClaim := { program := "ytknbohnoiigioaadoor", sum := "5aa9af85f746345bf2fd499f17f1e1c92e0e49c8744e53359aa542c80d94e1a8", func := "detent/detentlaw08.BankLimits", spec := "bankLimits", unfollowed := true, recurses := true, named := ["math/bits.deBruijn64tab"], apart := false, laid := [("math/bits.deBruijn64tab", laid_math_bits_deBruijn64tab)], narrowed := true }
def BankLimitsUptoSaid : Prop := bankLimitsUptoRow.holds Tryd.pinned (OpenSpec.upto bankLimitsSpec)

/-- 'detentlaw07.WheelSteps', WHERE WHAT IT READS IS OF BULK AT MOST 1048576: true; the input reads as it did. -/
def wheelStepsUptoRow : OpenClaim := { program := "ytknbohnoiigioaadoor", sum := "5aa9af85f746345bf2fd499f17f1e1c92e0e49c8744e53359aa542c80d94e1a8", func := "detent/detentlaw07.WheelSteps", spec := "wheelSteps", unfollowed := true, recurses := true, named := ["math/bits.deBruijn64tab"], apart := false, laid := [("math/bits.deBruijn64tab", laid_math_bits_deBruijn64tab)], narrowed := true }
def WheelStepsUptoSaid : Prop := wheelStepsUptoRow.holds Tryd.pinned (OpenSpec.upto wheelStepsSpec)

/-- 'detentlaw07.WheelPlays', WHERE WHAT IT READS IS OF BULK AT MOST 1048576: true; the input reads as it did. -/
def wheelPlaysUptoRow : OpenClaim := { program := "ytknbohnoiigioaadoor", sum := "5aa9af85f746345bf2fd499f17f1e1c92e0e49c8744e53359aa542c80d94e1a8", func := "detent/detentlaw07.WheelPlays", spec := "wheelPlays", unfollowed := true, recurses := true, named := ["math/bits.deBruijn64tab"], apart := false, laid := [("math/bits.deBruijn64tab", laid_math_bits_deBruijn64tab)], narrowed := true }
def WheelPlaysUptoSaid : Prop := wheelPlaysUptoRow.holds Tryd.pinned (OpenSpec.upto wheelPlaysSpec)

/-- 'detentlaw07.WheelNil', WHERE WHAT IT READS IS OF BULK AT MOST 1048576: true; the input reads as it did. -/
def wheelNilUptoRow : OpenClaim := { program := "ytknbohnoiigioaadoor", sum := "5aa9af85f746345bf2fd499f17f1e1c92e0e49c8744e53359aa542c80d94e1a8", func := "detent/detentlaw07.WheelNil", spec := "wheelNil", unfollowed := true, recurses := true, named := ["math/bits.deBruijn64tab"], apart := false, laid := [("math/bits.deBruijn64tab", laid_math_bits_deBruijn64tab)], narrowed := true }
def WheelNilUptoSaid : Prop := wheelNilUptoRow.holds Tryd.pinned (OpenSpec.upto wheelNilSpec)

end Rows
end Go.Proofs.YtknbohnoiigioaaDoor

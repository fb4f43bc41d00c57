/-
  NARROWER THAN 'FOR EVERY INPUT', by the rows' own cells (each row's printed sentence says how): XmapArrays: laid · XmapOldest: laid · XmapKeeps: laid · XmapPlays: laid · XmapNil: laid.
  DERIVED. THE GIVEN ROWS OF THIS SEAT. 5 by the template 'for every input the law returns true; each argument reads behind the call as it read before'; 0 by the template 'total and deterministic' (their statements: YtphdlpmnidiliaaGreatDoorTotals.lean).
  GIVEN WITH THE SEED: the statements are not yours to turn. If you find one false, say at which input.
  Laid BY PROGRAM, IN A SANDBOX (cutbox-rows.mjs): the forced cells as the released guide's own fill.sh prints them over the translation fc6e161eed88284b… (all of the seat's roots in one cut). By AI agents, Wed Nov 11 2026. No macro, syntax, notation, axiom, sorry.
-/
import Derived.Test.YtphdlpmnidiliaaGreatDoorChecked
import GoSem.Claim
import GoSem.ClaimJoined
import GoSem.ClaimMapViews
import Derived.JoinedTies
import Derived.KernelRfl
namespace Go.Proofs.YtphdlpmnidiliaaGreatDoor
/- THE CELL 'sum', in the pinned program and in every row, IS THE sha256 OF THE DUMP (.gsa) THAT YtphdlpmnidiliaaGreatDoorProg.lean LOADS. Nothing in Lean hashes anything: it is a label: what it is worth is what the hold of that sum in a sandbox is worth. -/
noncomputable def Tryz.pinned : Pinned := { name := "ytphdlpmnidiliaagreatdoor", sum := "fc6e161eed88284be6dbbbe9593f3fbc0a0001e807bbb70dcf92693b66e1a3cc", checked := Tryz.checked }
namespace Rows
def none {H : Type} : Left H := { results := [], args := [] }

/- WHAT THE LISTED PACKAGE-LEVEL VARIABLES READ AS WHEN THE CALL BEGINS. Each datum BY PROGRAM (the guide's laid-datum.mjs) off the statement by which the dump's own 'gosem.cut.vars' lays the variable. In a bare row this is a premise. The card (YtphdlpmnidiliaaGreatDoorCards.lean) ties it to the program's text. -/
def laid_math_bits_deBruijn64tab {H : Type} : DataW H := .agg [.lit (.int .u8 0), .lit (.int .u8 1), .lit (.int .u8 56), .lit (.int .u8 2), .lit (.int .u8 57), .lit (.int .u8 49), .lit (.int .u8 28), .lit (.int .u8 3), .lit (.int .u8 61), .lit (.int .u8 58), .lit (.int .u8 42), .lit (.int .u8 50), .lit (.int .u8 38), .lit (.int .u8 29), .lit (.int .u8 17), .lit (.int .u8 4), .lit (.int .u8 62), .lit (.int .u8 47), .lit (.int .u8 59), .lit (.int .u8 36), .lit (.int .u8 45), .lit (.int .u8 43), .lit (.int .u8 51), .lit (.int .u8 22), .lit (.int .u8 53), .lit (.int .u8 39), .lit (.int .u8 33), .lit (.int .u8 30), .lit (.int .u8 24), .lit (.int .u8 18), .lit (.int .u8 12), .lit (.int .u8 5), .lit (.int .u8 63), .lit (.int .u8 55), .lit (.int .u8 48), .lit (.int .u8 27), .lit (.int .u8 60), .lit (.int .u8 41), .lit (.int .u8 37), .lit (.int .u8 16), .lit (.int .u8 46), .lit (.int .u8 35), .lit (.int .u8 44), .lit (.int .u8 21), .lit (.int .u8 52), .lit (.int .u8 32), .lit (.int .u8 23), .lit (.int .u8 11), .lit (.int .u8 54), .lit (.int .u8 26), .lit (.int .u8 40), .lit (.int .u8 15), .lit (.int .u8 34), .lit (.int .u8 20), .lit (.int .u8 31), .lit (.int .u8 10), .lit (.int .u8 25), .lit (.int .u8 14), .lit (.int .u8 19), .lit (.int .u8 9), .lit (.int .u8 13), .lit (.int .u8 8), .lit (.int .u8 7), .lit (.int .u8 6)]

/-- 'detentlaw22.XmapArrays': WHATEVER THE INPUT: true; the input reads as it did. -/
def xmapArraysSpec : ChangeSpec := { name := "xmapArrays", fn := fun _ => fun
  | [d1, d2, d3] => { results := [.lit (.bool true)], args := [d1, d2, d3] }
  | _ => none }
def xmapArraysRow : OpenClaim := { program := "ytphdlpmnidiliaagreatdoor", sum := "fc6e161eed88284be6dbbbe9593f3fbc0a0001e807bbb70dcf92693b66e1a3cc", func := "detent/detentlaw22.XmapArrays", spec := "xmapArrays", unfollowed := true, recurses := true, named := ["math/bits.deBruijn64tab"], apart := false, laid := [("math/bits.deBruijn64tab", laid_math_bits_deBruijn64tab)] }
def XmapArraysSaid : Prop := xmapArraysRow.holds Tryz.pinned (OpenSpec.ofChange xmapArraysSpec)

/-- ITS FALSE NEIGHBOUR: 'it returns false'. Refute it at one input. -/
def xmapArraysWrong : ChangeSpec := { name := "xmapArrays", fn := fun _ => fun
  | [d1, d2, d3] => { results := [.lit (.bool false)], args := [d1, d2, d3] }
  | _ => none }
def XmapArraysWrongFalsely : Prop := xmapArraysRow.holds Tryz.pinned (OpenSpec.ofChange xmapArraysWrong)

/-- 'detentlaw22.XmapOldest': WHATEVER THE INPUT: true; the input reads as it did. -/
def xmapOldestSpec : ChangeSpec := { name := "xmapOldest", fn := fun _ => fun
  | [d1, d2, d3] => { results := [.lit (.bool true)], args := [d1, d2, d3] }
  | _ => none }
def xmapOldestRow : OpenClaim := { program := "ytphdlpmnidiliaagreatdoor", sum := "fc6e161eed88284be6dbbbe9593f3fbc0a0001e807bbb70dcf92693b66e1a3cc", func := "detent/detentlaw22.XmapOldest", spec := "xmapOldest", unfollowed := true, recurses := true, named := ["math/bits.deBruijn64tab"], apart := false, laid := [("math/bits.deBruijn64tab", laid_math_bits_deBruijn64tab)] }
def XmapOldestSaid : Prop := xmapOldestRow.holds Tryz.pinned (OpenSpec.ofChange xmapOldestSpec)

/-- ITS FALSE NEIGHBOUR: 'it returns false'. Refute it at one input. -/
def xmapOldestWrong : ChangeSpec := { name := "xmapOldest", fn := fun _ => fun
  | [d1, d2, d3] => { results := [.lit (.bool false)], args := [d1, d2, d3] }
  | _ => none }
def XmapOldestWrongFalsely : Prop := xmapOldestRow.holds Tryz.pinned (OpenSpec.ofChange xmapOldestWrong)

/-- 'detentlaw22.XmapKeeps': WHATEVER THE INPUT: true; the input reads as it did. -/
def xmapKeepsSpec : ChangeSpec := { name := "xmapKeeps", fn := fun _ => fun
  | [d1, d2, d3, d4] => { results := [.lit (.bool true)], args := [d1, d2, d3, d4] }
  | _ => none }
def xmapKeepsRow : OpenClaim := { program := "ytphdlpmnidiliaagreatdoor", sum := "fc6e161eed88284be6dbbbe9593f3fbc0a0001e807bbb70dcf92693b66e1a3cc", func := "detent/detentlaw22.XmapKeeps", spec := "xmapKeeps", unfollowed := true, recurses := true, named := ["math/bits.deBruijn64tab"], apart := false, laid := [("math/bits.deBruijn64tab", laid_math_bits_deBruijn64tab)] }
def XmapKeepsSaid : Prop := xmapKeepsRow.holds Tryz.pinned (OpenSpec.ofChange xmapKeepsSpec)

/-- ITS FALSE NEIGHBOUR: 'it returns false'. Refute it at one input. -/
def xmapKeepsWrong : ChangeSpec := { name := "xmapKeeps", fn := fun _ => fun
  | [d1, d2, d3, d4] => { results := [.lit (.bool false)], args := [d1, d2, d3, d4] }
  | _ => none }
def XmapKeepsWrongFalsely : Prop := xmapKeepsRow.holds Tryz.pinned (OpenSpec.ofChange xmapKeepsWrong)

/-- 'detentlaw22.XmapPlays': WHATEVER THE INPUT: true; the input reads as it did. -/
def xmapPlaysSpec : ChangeSpec := { name := "xmapPlays", fn := fun _ => fun
  | [d1, d2, d3, d4] => { results := [.lit (.bool true)], args := [d1, d2, d3, d4] }
  | _ => none }
def xmapPlaysRow : OpenClaim := { program := "ytphdlpmnidiliaagreatdoor", sum := "fc6e161eed88284be6dbbbe9593f3fbc0a0001e807bbb70dcf92693b66e1a3cc", func := "detent/detentlaw22.XmapPlays", spec := "xmapPlays", unfollowed := true, recurses := true, named := ["math/bits.deBruijn64tab"], apart := false, laid := [("math/bits.deBruijn64tab", laid_math_bits_deBruijn64tab)] }
def XmapPlaysSaid : Prop := xmapPlaysRow.holds Tryz.pinned (OpenSpec.ofChange xmapPlaysSpec)

/-- ITS FALSE NEIGHBOUR: 'it returns false'. Refute it at one input. -/
def xmapPlaysWrong : ChangeSpec := { name := "xmapPlays", fn := fun _ => fun
  | [d1, d2, d3, d4] => { results := [.lit (.bool false)], args := [d1, d2, d3, d4] }
  | _ => none }
def XmapPlaysWrongFalsely : Prop := xmapPlaysRow.holds Tryz.pinned (OpenSpec.ofChange xmapPlaysWrong)

/-- 'detentlaw22.XmapNil': WHATEVER THE INPUT: true; the input reads as it did. -/
def xmapNilSpec : ChangeSpec := { name := "xmapNil", fn := fun _ => fun
  | [d1, d2, d3] => { results := [.lit (.bool true)], args := [d1, d2, d3] }
  | _ => none }
def xmapNilRow : OpenClaim := { program := "ytphdlpmnidiliaagreatdoor", sum := "fc6e161eed88284be6dbbbe9593f3fbc0a0001e807bbb70dcf92693b66e1a3cc", func := "detent/detentlaw22.XmapNil", spec := "xmapNil", unfollowed := true, recurses := true, named := ["math/bits.deBruijn64tab"], apart := false, laid := [("math/bits.deBruijn64tab", laid_math_bits_deBruijn64tab)] }
def XmapNilSaid : Prop := xmapNilRow.holds Tryz.pinned (OpenSpec.ofChange xmapNilSpec)

/-- ITS FALSE NEIGHBOUR: 'it returns false'. Refute it at one input. -/
def xmapNilWrong : ChangeSpec := { name := "xmapNil", fn := fun _ => fun
  | [d1, d2, d3] => { results := [.lit (.bool false)], args := [d1, d2, d3] }
  | _ => none }
def XmapNilWrongFalsely : Prop := xmapNilRow.holds Tryz.pinned (OpenSpec.ofChange xmapNilWrong)

/- THE SECOND FORM. 'bulk': how many values and letters a reading holds, each counted each time it is reached (what is shared counts as often as it is met; a slice's spare places count too). A statement '..UptoSaid' is the law's where the arguments, and the package variables that the reading takes, are together of bulk at most 1048576: NARROWER than '..Said'. Prove '..Said' where nothing that the law and all that it calls make is longer than what came in: it says more and counts as full. Else prove '..UptoSaid'. A law counts once. -/
mutual
def uptoBulk {H : Type} : DataW H → Nat
  | .lit (.string bytes) => bytes.length + 1
  | .lit _ => 1
  | .nil => 1
  | .ptr d => uptoBulk d + 1
  | .slice elems spare => uptoBulkAll elems + uptoBulkAll spare + 1
  | .agg parts => uptoBulkAll parts + 1
  | .iface _ d => uptoBulk d + 1
  | .map entries => uptoBulkEntries entries + 1
  | .held _ => 1
def uptoBulkAll {H : Type} : List (DataW H) → Nat
  | [] => 0
  | d :: r => uptoBulk d + uptoBulkAll r
def uptoBulkEntries {H : Type} : List (Lit × DataW H) → Nat
  | [] => 0
  | x :: r => uptoBulkEntry x + uptoBulkEntries r
def uptoBulkEntry {H : Type} : Lit × DataW H → Nat
  | (.string bytes, d) => bytes.length + uptoBulk d + 1
  | (_, d) => uptoBulk d + 1
 end
def uptoSmall : (H : Type) → List (DataW H) → Bool := fun _ ds => decide (uptoBulkAll ds ≤ 1048576)
def OpenSpec.upto (s : _root_.Go.ChangeSpec) : _root_.Go.OpenSpec := { _root_.Go.OpenSpec.ofChange s with cond := some uptoSmall }

/-- 'detentlaw22.XmapArrays', WHERE WHAT IT READS IS OF BULK AT MOST 1048576: true; the input reads as it did. -/
def xmapArraysUptoRow : OpenClaim := { program := "ytphdlpmnidiliaagreatdoor", sum := "fc6e161eed88284be6dbbbe9593f3fbc0a0001e807bbb70dcf92693b66e1a3cc", func := "detent/detentlaw22.XmapArrays", spec := "xmapArrays", unfollowed := true, recurses := true, named := ["math/bits.deBruijn64tab"], apart := false, laid := [("math/bits.deBruijn64tab", laid_math_bits_deBruijn64tab)], narrowed := true }
def XmapArraysUptoSaid : Prop := xmapArraysUptoRow.holds Tryz.pinned (OpenSpec.upto xmapArraysSpec)

/-- 'detentlaw22.XmapOldest', WHERE WHAT IT READS IS OF BULK AT MOST 1048576: true; the input reads as it did. -/
def xmapOldestUptoRow : OpenClaim := { program := "ytphdlpmnidiliaagreatdoor", sum := "fc6e161eed88284be6dbbbe9593f3fbc0a0001e807bbb70dcf92693b66e1a3cc", func := "detent/detentlaw22.XmapOldest", spec := "xmapOldest", unfollowed := true, recurses := true, named := ["math/bits.deBruijn64tab"], apart := false, laid := [("math/bits.deBruijn64tab", laid_math_bits_deBruijn64tab)], narrowed := true }
def XmapOldestUptoSaid : Prop := xmapOldestUptoRow.holds Tryz.pinned (OpenSpec.upto xmapOldestSpec)

/-- 'detentlaw22.XmapKeeps', WHERE WHAT IT READS IS OF BULK AT MOST 1048576: true; the input reads as it did. -/
def xmapKeepsUptoRow : OpenClaim := { program := "ytphdlpmnidiliaagreatdoor", sum := "fc6e161eed88284be6dbbbe9593f3fbc0a0001e807bbb70dcf92693b66e1a3cc", func := "detent/detentlaw22.XmapKeeps", spec := "xmapKeeps", unfollowed := true, recurses := true, named := ["math/bits.deBruijn64tab"], apart := false, laid := [("math/bits.deBruijn64tab", laid_math_bits_deBruijn64tab)], narrowed := true }
def XmapKeepsUptoSaid : Prop := xmapKeepsUptoRow.holds Tryz.pinned (OpenSpec.upto xmapKeepsSpec)

/-- 'detentlaw22.XmapPlays', WHERE WHAT IT READS IS OF BULK AT MOST 1048576: true; the input reads as it did. -/
def xmapPlaysUptoRow : OpenClaim := { program := "ytphdlpmnidiliaagreatdoor", sum := "fc6e161eed88284be6dbbbe9593f3fbc0a0001e807bbb70dcf92693b66e1a3cc", func := "detent/detentlaw22.XmapPlays", spec := "xmapPlays", unfollowed := true, recurses := true, named := ["math/bits.deBruijn64tab"], apart := false, laid := [("math/bits.deBruijn64tab", laid_math_bits_deBruijn64tab)], narrowed := true }
def XmapPlaysUptoSaid : Prop := xmapPlaysUptoRow.holds Tryz.pinned (OpenSpec.upto xmapPlaysSpec)

/-- 'detentlaw22.XmapNil', WHERE WHAT IT READS IS OF BULK AT MOST 1048576: true; the input reads as it did. -/
def xmapNilUptoRow : OpenClaim := { program := "ytphdlpmnidiliaagreatdoor", sum := "fc6e161eed88284be6dbbbe9593f3fbc0a0001e807bbb70dcf92693b66e1a3cc", func := "detent/detentlaw22.XmapNil", spec := "xmapNil", unfollowed := true, recurses := true, named := ["math/bits.deBruijn64tab"], apart := false, laid := [("math/bits.deBruijn64tab", laid_math_bits_deBruijn64tab)], narrowed := true }
def XmapNilUptoSaid : Prop := xmapNilUptoRow.holds Tryz.pinned (OpenSpec.upto xmapNilSpec)

end Rows
end Go.Proofs.YtphdlpmnidiliaaGreatDoor

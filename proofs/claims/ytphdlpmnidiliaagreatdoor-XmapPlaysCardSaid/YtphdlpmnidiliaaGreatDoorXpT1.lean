/-
  Own work: contracts of functions that the statement reaches, and plain facts on what they compute; each theorem says its conditions.
-/
import Derived.Test.YtphdlpmnidiliaaGreatDoorRows
import Derived.Test.YtphdlpmnidiliaaGreatDoorXpS1
import Derived.Test.YtphdlpmnidiliaaGreatDoorXpS2
import Derived.IntWalk
import Derived.Lib.TrailingZeros
import Derived.Test.YtphdlpmnidiliaaGreatDoorXpA
set_option linter.all false
set_option linter.unusedSimpArgs false
set_option linter.unusedVariables false
namespace Go.Proofs.YtphdlpmnidiliaaGreatDoor
open Go Go.Sl
set_option maxRecDepth 100000
theorem ty3 : Ty Tryz.prog 3 (Go.TypeDesc.int Go.IntKind.i64) 1 (Go.Value.int Go.IntKind.i64 0) 8 := ⟨by kernel_rfl, Tryz.t3, by kernel_rfl, rfl, rfl, rfl⟩
theorem ty4 : Ty Tryz.prog 4 Go.TypeDesc.bool 1 (Go.Value.bool false) 1 := ⟨by kernel_rfl, Tryz.t4, by kernel_rfl, rfl, rfl, rfl⟩
theorem ty5 : Ty Tryz.prog 5 (Go.TypeDesc.int Go.IntKind.u8) 1 (Go.Value.int Go.IntKind.u8 0) 1 := ⟨by kernel_rfl, Tryz.t5, by kernel_rfl, rfl, rfl, rfl⟩
theorem ty22 : Ty Tryz.prog 22 (Go.TypeDesc.int Go.IntKind.u64) 1 (Go.Value.int Go.IntKind.u64 0) 8 := ⟨by kernel_rfl, Tryz.t22, by kernel_rfl, rfl, rfl, rfl⟩
theorem ty23 : Ty Tryz.prog 23 (Go.TypeDesc.pointer 78) 1 (Go.Value.pointer Option.none) 8 := ⟨by kernel_rfl, Tryz.t23, by kernel_rfl, rfl, rfl, rfl⟩
theorem ty29 : Ty Tryz.prog 29 Tryz.t28.desc 2 (Go.Value.agg #[(Go.Value.int Go.IntKind.i64 0), (Go.Value.int Go.IntKind.i64 0)]) 16 := ⟨by kernel_rfl, Tryz.t29, by kernel_rfl, rfl, rfl, rfl⟩
theorem ty31 : Ty Tryz.prog 31 Tryz.t30.desc 5 (Go.Value.agg #[(Go.Value.int Go.IntKind.i64 0), (Go.Value.int Go.IntKind.i64 0), (Go.Value.int Go.IntKind.i64 0), (Go.Value.int Go.IntKind.i64 0), (Go.Value.bool false)]) 40 := ⟨by kernel_rfl, Tryz.t31, by kernel_rfl, rfl, rfl, rfl⟩
theorem ty38 : Ty Tryz.prog 38 (Go.TypeDesc.slice 29) 1 (Go.Value.slice Option.none 0 0) 24 := ⟨by kernel_rfl, Tryz.t38, by kernel_rfl, rfl, rfl, rfl⟩
theorem ty42 : Ty Tryz.prog 42 (Go.TypeDesc.slice 22) 1 (Go.Value.slice Option.none 0 0) 24 := ⟨by kernel_rfl, Tryz.t42, by kernel_rfl, rfl, rfl, rfl⟩
theorem ty51 : Ty Tryz.prog 51 (Go.TypeDesc.slice 62) 1 (Go.Value.slice Option.none 0 0) 24 := ⟨by kernel_rfl, Tryz.t51, by kernel_rfl, rfl, rfl, rfl⟩
theorem ty52 : Ty Tryz.prog 52 (Go.TypeDesc.slice 117) 1 (Go.Value.slice Option.none 0 0) 24 := ⟨by kernel_rfl, Tryz.t52, by kernel_rfl, rfl, rfl, rfl⟩
theorem ty53 : Ty Tryz.prog 53 (Go.TypeDesc.slice 71) 1 (Go.Value.slice Option.none 0 0) 24 := ⟨by kernel_rfl, Tryz.t53, by kernel_rfl, rfl, rfl, rfl⟩
theorem ty54 : Ty Tryz.prog 54 (Go.TypeDesc.slice 178) 1 (Go.Value.slice Option.none 0 0) 24 := ⟨by kernel_rfl, Tryz.t54, by kernel_rfl, rfl, rfl, rfl⟩
theorem ty56 : Ty Tryz.prog 56 Tryz.t55.desc 8 (Go.Value.agg #[(Go.Value.int Go.IntKind.i64 0), (Go.Value.int Go.IntKind.i64 0), (Go.Value.int Go.IntKind.i64 0), (Go.Value.bool false), (Go.Value.slice Option.none 0 0), (Go.Value.slice Option.none 0 0), (Go.Value.slice Option.none 0 0), (Go.Value.slice Option.none 0 0)]) 128 := ⟨by kernel_rfl, Tryz.t56, by kernel_rfl, rfl, rfl, rfl⟩
theorem ty62 : Ty Tryz.prog 62 Tryz.t61.desc 9 (Go.Value.agg #[(Go.Value.int Go.IntKind.i64 0), (Go.Value.int Go.IntKind.i64 0), (Go.Value.int Go.IntKind.i64 0), (Go.Value.int Go.IntKind.i64 0), (Go.Value.bool false), (Go.Value.int Go.IntKind.i64 0), (Go.Value.int Go.IntKind.i64 0), (Go.Value.int Go.IntKind.u64 0), (Go.Value.slice Option.none 0 0)]) 88 := ⟨by kernel_rfl, Tryz.t62, by kernel_rfl, rfl, rfl, rfl⟩
theorem ty69 : Ty Tryz.prog 69 (Go.TypeDesc.array 4 22) 4 (Go.Value.agg #[(Go.Value.int Go.IntKind.u64 0), (Go.Value.int Go.IntKind.u64 0), (Go.Value.int Go.IntKind.u64 0), (Go.Value.int Go.IntKind.u64 0)]) 32 := ⟨by kernel_rfl, Tryz.t69, by kernel_rfl, rfl, rfl, rfl⟩
theorem ty71 : Ty Tryz.prog 71 Tryz.t70.desc 8 (Go.Value.agg #[(Go.Value.int Go.IntKind.u64 0), (Go.Value.int Go.IntKind.i64 0), (Go.Value.int Go.IntKind.i64 0), (Go.Value.int Go.IntKind.u64 0), (Go.Value.int Go.IntKind.u64 0), (Go.Value.int Go.IntKind.u64 0), (Go.Value.int Go.IntKind.u64 0), (Go.Value.bool false)]) 64 := ⟨by kernel_rfl, Tryz.t71, by kernel_rfl, rfl, rfl, rfl⟩
theorem ty74 : Ty Tryz.prog 74 (Go.TypeDesc.pointer 125) 1 (Go.Value.pointer Option.none) 8 := ⟨by kernel_rfl, Tryz.t74, by kernel_rfl, rfl, rfl, rfl⟩
theorem ty75 : Ty Tryz.prog 75 (Go.TypeDesc.pointer 130) 1 (Go.Value.pointer Option.none) 8 := ⟨by kernel_rfl, Tryz.t75, by kernel_rfl, rfl, rfl, rfl⟩
theorem ty76 : Ty Tryz.prog 76 (Go.TypeDesc.pointer 133) 1 (Go.Value.pointer Option.none) 8 := ⟨by kernel_rfl, Tryz.t76, by kernel_rfl, rfl, rfl, rfl⟩
theorem ty78 : Ty Tryz.prog 78 Tryz.t77.desc 7 (Go.Value.agg #[(Go.Value.int Go.IntKind.i64 0), (Go.Value.int Go.IntKind.i64 0), (Go.Value.int Go.IntKind.i64 0), (Go.Value.pointer Option.none), (Go.Value.pointer Option.none), (Go.Value.pointer Option.none), (Go.Value.bool false)]) 56 := ⟨by kernel_rfl, Tryz.t78, by kernel_rfl, rfl, rfl, rfl⟩
theorem ty82 : Ty Tryz.prog 82 Tryz.t81.desc 5 (Go.Value.agg #[(Go.Value.int Go.IntKind.u64 0), (Go.Value.int Go.IntKind.u64 0), (Go.Value.int Go.IntKind.u64 0), (Go.Value.int Go.IntKind.u64 0), (Go.Value.int Go.IntKind.u64 0)]) 40 := ⟨by kernel_rfl, Tryz.t82, by kernel_rfl, rfl, rfl, rfl⟩
theorem ty97 : Ty Tryz.prog 97 Tryz.t97.desc 1 Go.Value.nilFunc 8 := ⟨by kernel_rfl, Tryz.t97, by kernel_rfl, rfl, rfl, rfl⟩
theorem ty113 : Ty Tryz.prog 113 (Go.TypeDesc.slice 3) 1 (Go.Value.slice Option.none 0 0) 24 := ⟨by kernel_rfl, Tryz.t113, by kernel_rfl, rfl, rfl, rfl⟩
theorem ty117 : Ty Tryz.prog 117 Tryz.t116.desc 3 (Go.Value.agg #[(Go.Value.int Go.IntKind.i64 0), (Go.Value.bool false), (Go.Value.int Go.IntKind.i64 0)]) 24 := ⟨by kernel_rfl, Tryz.t117, by kernel_rfl, rfl, rfl, rfl⟩
theorem ty121 : Ty Tryz.prog 121 (Go.TypeDesc.slice 127) 1 (Go.Value.slice Option.none 0 0) 24 := ⟨by kernel_rfl, Tryz.t121, by kernel_rfl, rfl, rfl, rfl⟩
theorem ty122 : Ty Tryz.prog 122 (Go.TypeDesc.int Go.IntKind.u64) 1 (Go.Value.int Go.IntKind.u64 0) 8 := ⟨by kernel_rfl, Tryz.t122, by kernel_rfl, rfl, rfl, rfl⟩
theorem ty125 : Ty Tryz.prog 125 Tryz.t124.desc 3 (Go.Value.agg #[(Go.Value.slice Option.none 0 0), (Go.Value.int Go.IntKind.u64 0), (Go.Value.int Go.IntKind.u64 0)]) 40 := ⟨by kernel_rfl, Tryz.t125, by kernel_rfl, rfl, rfl, rfl⟩
theorem ty127 : Ty Tryz.prog 127 Tryz.t126.desc 7 (Go.Value.agg #[(Go.Value.int Go.IntKind.i64 0), (Go.Value.int Go.IntKind.i64 0), (Go.Value.int Go.IntKind.u64 0), (Go.Value.int Go.IntKind.u64 0), (Go.Value.int Go.IntKind.u64 0), (Go.Value.int Go.IntKind.u64 0), (Go.Value.int Go.IntKind.u64 0)]) 56 := ⟨by kernel_rfl, Tryz.t127, by kernel_rfl, rfl, rfl, rfl⟩
theorem ty128 : Ty Tryz.prog 128 (Go.TypeDesc.slice 147) 1 (Go.Value.slice Option.none 0 0) 24 := ⟨by kernel_rfl, Tryz.t128, by kernel_rfl, rfl, rfl, rfl⟩
theorem ty130 : Ty Tryz.prog 130 Tryz.t129.desc 3 (Go.Value.agg #[(Go.Value.slice Option.none 0 0), (Go.Value.int Go.IntKind.i64 0), (Go.Value.int Go.IntKind.i64 0)]) 40 := ⟨by kernel_rfl, Tryz.t130, by kernel_rfl, rfl, rfl, rfl⟩
theorem ty131 : Ty Tryz.prog 131 (Go.TypeDesc.map 22 3) 1 (Go.Value.map Option.none) 8 := ⟨by kernel_rfl, Tryz.t131, by kernel_rfl, rfl, rfl, rfl⟩
theorem ty133 : Ty Tryz.prog 133 Tryz.t132.desc 3 (Go.Value.agg #[(Go.Value.int Go.IntKind.i64 0), (Go.Value.int Go.IntKind.i64 0), (Go.Value.map Option.none)]) 24 := ⟨by kernel_rfl, Tryz.t133, by kernel_rfl, rfl, rfl, rfl⟩
theorem ty146 : Ty Tryz.prog 146 Tryz.t145.desc 3 (Go.Value.agg #[(Go.Value.int Go.IntKind.u64 0), (Go.Value.int Go.IntKind.i64 0), (Go.Value.int Go.IntKind.i64 0)]) 24 := ⟨by kernel_rfl, Tryz.t146, by kernel_rfl, rfl, rfl, rfl⟩
theorem ty147 : Ty Tryz.prog 147 (Go.TypeDesc.slice 146) 1 (Go.Value.slice Option.none 0 0) 24 := ⟨by kernel_rfl, Tryz.t147, by kernel_rfl, rfl, rfl, rfl⟩
theorem ty163 : Ty Tryz.prog 163 (Go.TypeDesc.int Go.IntKind.u64) 1 (Go.Value.int Go.IntKind.u64 0) 8 := ⟨by kernel_rfl, Tryz.t163, by kernel_rfl, rfl, rfl, rfl⟩
theorem ty168 : Ty Tryz.prog 168 Tryz.t168.desc 1 Go.Value.nilFunc 8 := ⟨by kernel_rfl, Tryz.t168, by kernel_rfl, rfl, rfl, rfl⟩
theorem ty178 : Ty Tryz.prog 178 Tryz.t177.desc 2 (Go.Value.agg #[(Go.Value.int Go.IntKind.u64 0), (Go.Value.int Go.IntKind.i64 0)]) 16 := ⟨by kernel_rfl, Tryz.t178, by kernel_rfl, rfl, rfl, rfl⟩
theorem ty213 : Ty Tryz.prog 213 (Go.TypeDesc.array 64 5) 64 (Go.Value.agg #[(Go.Value.int Go.IntKind.u8 0), (Go.Value.int Go.IntKind.u8 0), (Go.Value.int Go.IntKind.u8 0), (Go.Value.int Go.IntKind.u8 0), (Go.Value.int Go.IntKind.u8 0), (Go.Value.int Go.IntKind.u8 0), (Go.Value.int Go.IntKind.u8 0), (Go.Value.int Go.IntKind.u8 0), (Go.Value.int Go.IntKind.u8 0), (Go.Value.int Go.IntKind.u8 0), (Go.Value.int Go.IntKind.u8 0), (Go.Value.int Go.IntKind.u8 0), (Go.Value.int Go.IntKind.u8 0), (Go.Value.int Go.IntKind.u8 0), (Go.Value.int Go.IntKind.u8 0), (Go.Value.int Go.IntKind.u8 0), (Go.Value.int Go.IntKind.u8 0), (Go.Value.int Go.IntKind.u8 0), (Go.Value.int Go.IntKind.u8 0), (Go.Value.int Go.IntKind.u8 0), (Go.Value.int Go.IntKind.u8 0), (Go.Value.int Go.IntKind.u8 0), (Go.Value.int Go.IntKind.u8 0), (Go.Value.int Go.IntKind.u8 0), (Go.Value.int Go.IntKind.u8 0), (Go.Value.int Go.IntKind.u8 0), (Go.Value.int Go.IntKind.u8 0), (Go.Value.int Go.IntKind.u8 0), (Go.Value.int Go.IntKind.u8 0), (Go.Value.int Go.IntKind.u8 0), (Go.Value.int Go.IntKind.u8 0), (Go.Value.int Go.IntKind.u8 0), (Go.Value.int Go.IntKind.u8 0), (Go.Value.int Go.IntKind.u8 0), (Go.Value.int Go.IntKind.u8 0), (Go.Value.int Go.IntKind.u8 0), (Go.Value.int Go.IntKind.u8 0), (Go.Value.int Go.IntKind.u8 0), (Go.Value.int Go.IntKind.u8 0), (Go.Value.int Go.IntKind.u8 0), (Go.Value.int Go.IntKind.u8 0), (Go.Value.int Go.IntKind.u8 0), (Go.Value.int Go.IntKind.u8 0), (Go.Value.int Go.IntKind.u8 0), (Go.Value.int Go.IntKind.u8 0), (Go.Value.int Go.IntKind.u8 0), (Go.Value.int Go.IntKind.u8 0), (Go.Value.int Go.IntKind.u8 0), (Go.Value.int Go.IntKind.u8 0), (Go.Value.int Go.IntKind.u8 0), (Go.Value.int Go.IntKind.u8 0), (Go.Value.int Go.IntKind.u8 0), (Go.Value.int Go.IntKind.u8 0), (Go.Value.int Go.IntKind.u8 0), (Go.Value.int Go.IntKind.u8 0), (Go.Value.int Go.IntKind.u8 0), (Go.Value.int Go.IntKind.u8 0), (Go.Value.int Go.IntKind.u8 0), (Go.Value.int Go.IntKind.u8 0), (Go.Value.int Go.IntKind.u8 0), (Go.Value.int Go.IntKind.u8 0), (Go.Value.int Go.IntKind.u8 0), (Go.Value.int Go.IntKind.u8 0), (Go.Value.int Go.IntKind.u8 0)]) 64 := ⟨by kernel_rfl, Tryz.t213, by kernel_rfl, rfl, rfl, rfl⟩
theorem fld29_0 : Fld Tryz.prog 29 0 0 1 false := ⟨_, _, (by kernel_rfl : Tryz.prog.underlying 29 = some Tryz.t28.desc), rfl, rfl, _, _, _, ty3, rfl⟩
theorem fld29_1 : Fld Tryz.prog 29 1 1 1 false := ⟨_, _, (by kernel_rfl : Tryz.prog.underlying 29 = some Tryz.t28.desc), rfl, rfl, _, _, _, ty3, rfl⟩
theorem fld31_0 : Fld Tryz.prog 31 0 0 2 true := ⟨_, _, (by kernel_rfl : Tryz.prog.underlying 31 = some Tryz.t30.desc), rfl, rfl, _, _, _, ty29, rfl⟩
theorem fld31_1 : Fld Tryz.prog 31 1 2 2 true := ⟨_, _, (by kernel_rfl : Tryz.prog.underlying 31 = some Tryz.t30.desc), rfl, rfl, _, _, _, ty29, rfl⟩
theorem fld31_2 : Fld Tryz.prog 31 2 4 1 false := ⟨_, _, (by kernel_rfl : Tryz.prog.underlying 31 = some Tryz.t30.desc), rfl, rfl, _, _, _, ty4, rfl⟩
theorem fld56_0 : Fld Tryz.prog 56 0 0 1 false := ⟨_, _, (by kernel_rfl : Tryz.prog.underlying 56 = some Tryz.t55.desc), rfl, rfl, _, _, _, ty3, rfl⟩
theorem fld56_1 : Fld Tryz.prog 56 1 1 1 false := ⟨_, _, (by kernel_rfl : Tryz.prog.underlying 56 = some Tryz.t55.desc), rfl, rfl, _, _, _, ty3, rfl⟩
theorem fld56_2 : Fld Tryz.prog 56 2 2 1 false := ⟨_, _, (by kernel_rfl : Tryz.prog.underlying 56 = some Tryz.t55.desc), rfl, rfl, _, _, _, ty3, rfl⟩
theorem fld56_3 : Fld Tryz.prog 56 3 3 1 false := ⟨_, _, (by kernel_rfl : Tryz.prog.underlying 56 = some Tryz.t55.desc), rfl, rfl, _, _, _, ty4, rfl⟩
theorem fld56_4 : Fld Tryz.prog 56 4 4 1 false := ⟨_, _, (by kernel_rfl : Tryz.prog.underlying 56 = some Tryz.t55.desc), rfl, rfl, _, _, _, ty52, rfl⟩
theorem fld56_5 : Fld Tryz.prog 56 5 5 1 false := ⟨_, _, (by kernel_rfl : Tryz.prog.underlying 56 = some Tryz.t55.desc), rfl, rfl, _, _, _, ty53, rfl⟩
theorem fld56_6 : Fld Tryz.prog 56 6 6 1 false := ⟨_, _, (by kernel_rfl : Tryz.prog.underlying 56 = some Tryz.t55.desc), rfl, rfl, _, _, _, ty54, rfl⟩
theorem fld56_7 : Fld Tryz.prog 56 7 7 1 false := ⟨_, _, (by kernel_rfl : Tryz.prog.underlying 56 = some Tryz.t55.desc), rfl, rfl, _, _, _, ty42, rfl⟩
theorem fld62_0 : Fld Tryz.prog 62 0 0 1 false := ⟨_, _, (by kernel_rfl : Tryz.prog.underlying 62 = some Tryz.t61.desc), rfl, rfl, _, _, _, ty3, rfl⟩
theorem fld62_1 : Fld Tryz.prog 62 1 1 1 false := ⟨_, _, (by kernel_rfl : Tryz.prog.underlying 62 = some Tryz.t61.desc), rfl, rfl, _, _, _, ty3, rfl⟩
theorem fld62_2 : Fld Tryz.prog 62 2 2 1 false := ⟨_, _, (by kernel_rfl : Tryz.prog.underlying 62 = some Tryz.t61.desc), rfl, rfl, _, _, _, ty3, rfl⟩
theorem fld62_3 : Fld Tryz.prog 62 3 3 1 false := ⟨_, _, (by kernel_rfl : Tryz.prog.underlying 62 = some Tryz.t61.desc), rfl, rfl, _, _, _, ty3, rfl⟩
theorem fld62_4 : Fld Tryz.prog 62 4 4 1 false := ⟨_, _, (by kernel_rfl : Tryz.prog.underlying 62 = some Tryz.t61.desc), rfl, rfl, _, _, _, ty4, rfl⟩
theorem fld62_5 : Fld Tryz.prog 62 5 5 2 true := ⟨_, _, (by kernel_rfl : Tryz.prog.underlying 62 = some Tryz.t61.desc), rfl, rfl, _, _, _, ty29, rfl⟩
theorem fld62_6 : Fld Tryz.prog 62 6 7 1 false := ⟨_, _, (by kernel_rfl : Tryz.prog.underlying 62 = some Tryz.t61.desc), rfl, rfl, _, _, _, ty22, rfl⟩
theorem fld62_7 : Fld Tryz.prog 62 7 8 1 false := ⟨_, _, (by kernel_rfl : Tryz.prog.underlying 62 = some Tryz.t61.desc), rfl, rfl, _, _, _, ty42, rfl⟩
theorem fld71_0 : Fld Tryz.prog 71 0 0 1 false := ⟨_, _, (by kernel_rfl : Tryz.prog.underlying 71 = some Tryz.t70.desc), rfl, rfl, _, _, _, ty22, rfl⟩
theorem fld71_1 : Fld Tryz.prog 71 1 1 1 false := ⟨_, _, (by kernel_rfl : Tryz.prog.underlying 71 = some Tryz.t70.desc), rfl, rfl, _, _, _, ty3, rfl⟩
theorem fld71_2 : Fld Tryz.prog 71 2 2 1 false := ⟨_, _, (by kernel_rfl : Tryz.prog.underlying 71 = some Tryz.t70.desc), rfl, rfl, _, _, _, ty3, rfl⟩
theorem fld71_3 : Fld Tryz.prog 71 3 3 4 true := ⟨_, _, (by kernel_rfl : Tryz.prog.underlying 71 = some Tryz.t70.desc), rfl, rfl, _, _, _, ty69, rfl⟩
theorem fld71_4 : Fld Tryz.prog 71 4 7 1 false := ⟨_, _, (by kernel_rfl : Tryz.prog.underlying 71 = some Tryz.t70.desc), rfl, rfl, _, _, _, ty4, rfl⟩
theorem fld78_0 : Fld Tryz.prog 78 0 0 1 false := ⟨_, _, (by kernel_rfl : Tryz.prog.underlying 78 = some Tryz.t77.desc), rfl, rfl, _, _, _, ty3, rfl⟩
theorem fld78_1 : Fld Tryz.prog 78 1 1 1 false := ⟨_, _, (by kernel_rfl : Tryz.prog.underlying 78 = some Tryz.t77.desc), rfl, rfl, _, _, _, ty3, rfl⟩
theorem fld78_2 : Fld Tryz.prog 78 2 2 1 false := ⟨_, _, (by kernel_rfl : Tryz.prog.underlying 78 = some Tryz.t77.desc), rfl, rfl, _, _, _, ty3, rfl⟩
theorem fld78_3 : Fld Tryz.prog 78 3 3 1 false := ⟨_, _, (by kernel_rfl : Tryz.prog.underlying 78 = some Tryz.t77.desc), rfl, rfl, _, _, _, ty74, rfl⟩
theorem fld78_4 : Fld Tryz.prog 78 4 4 1 false := ⟨_, _, (by kernel_rfl : Tryz.prog.underlying 78 = some Tryz.t77.desc), rfl, rfl, _, _, _, ty75, rfl⟩
theorem fld78_5 : Fld Tryz.prog 78 5 5 1 false := ⟨_, _, (by kernel_rfl : Tryz.prog.underlying 78 = some Tryz.t77.desc), rfl, rfl, _, _, _, ty76, rfl⟩
theorem fld78_6 : Fld Tryz.prog 78 6 6 1 false := ⟨_, _, (by kernel_rfl : Tryz.prog.underlying 78 = some Tryz.t77.desc), rfl, rfl, _, _, _, ty4, rfl⟩
theorem fld82_0 : Fld Tryz.prog 82 0 0 1 false := ⟨_, _, (by kernel_rfl : Tryz.prog.underlying 82 = some Tryz.t81.desc), rfl, rfl, _, _, _, ty22, rfl⟩
theorem fld82_1 : Fld Tryz.prog 82 1 1 4 true := ⟨_, _, (by kernel_rfl : Tryz.prog.underlying 82 = some Tryz.t81.desc), rfl, rfl, _, _, _, ty69, rfl⟩
theorem fld117_0 : Fld Tryz.prog 117 0 0 1 false := ⟨_, _, (by kernel_rfl : Tryz.prog.underlying 117 = some Tryz.t116.desc), rfl, rfl, _, _, _, ty3, rfl⟩
theorem fld117_1 : Fld Tryz.prog 117 1 1 1 false := ⟨_, _, (by kernel_rfl : Tryz.prog.underlying 117 = some Tryz.t116.desc), rfl, rfl, _, _, _, ty4, rfl⟩
theorem fld117_2 : Fld Tryz.prog 117 2 2 1 false := ⟨_, _, (by kernel_rfl : Tryz.prog.underlying 117 = some Tryz.t116.desc), rfl, rfl, _, _, _, ty3, rfl⟩
theorem fld125_0 : Fld Tryz.prog 125 0 0 1 false := ⟨_, _, (by kernel_rfl : Tryz.prog.underlying 125 = some Tryz.t124.desc), rfl, rfl, _, _, _, ty121, rfl⟩
theorem fld125_1 : Fld Tryz.prog 125 1 1 1 false := ⟨_, _, (by kernel_rfl : Tryz.prog.underlying 125 = some Tryz.t124.desc), rfl, rfl, _, _, _, ty122, rfl⟩
theorem fld125_2 : Fld Tryz.prog 125 2 2 1 false := ⟨_, _, (by kernel_rfl : Tryz.prog.underlying 125 = some Tryz.t124.desc), rfl, rfl, _, _, _, ty122, rfl⟩
theorem fld127_0 : Fld Tryz.prog 127 0 0 2 true := ⟨_, _, (by kernel_rfl : Tryz.prog.underlying 127 = some Tryz.t126.desc), rfl, rfl, _, _, _, ty29, rfl⟩
theorem fld127_1 : Fld Tryz.prog 127 1 2 5 true := ⟨_, _, (by kernel_rfl : Tryz.prog.underlying 127 = some Tryz.t126.desc), rfl, rfl, _, _, _, ty82, rfl⟩
theorem fld130_0 : Fld Tryz.prog 130 0 0 1 false := ⟨_, _, (by kernel_rfl : Tryz.prog.underlying 130 = some Tryz.t129.desc), rfl, rfl, _, _, _, ty128, rfl⟩
theorem fld130_1 : Fld Tryz.prog 130 1 1 1 false := ⟨_, _, (by kernel_rfl : Tryz.prog.underlying 130 = some Tryz.t129.desc), rfl, rfl, _, _, _, ty3, rfl⟩
theorem fld130_2 : Fld Tryz.prog 130 2 2 1 false := ⟨_, _, (by kernel_rfl : Tryz.prog.underlying 130 = some Tryz.t129.desc), rfl, rfl, _, _, _, ty3, rfl⟩
theorem fld133_0 : Fld Tryz.prog 133 0 0 1 false := ⟨_, _, (by kernel_rfl : Tryz.prog.underlying 133 = some Tryz.t132.desc), rfl, rfl, _, _, _, ty3, rfl⟩
theorem fld133_1 : Fld Tryz.prog 133 1 1 1 false := ⟨_, _, (by kernel_rfl : Tryz.prog.underlying 133 = some Tryz.t132.desc), rfl, rfl, _, _, _, ty3, rfl⟩
theorem fld133_2 : Fld Tryz.prog 133 2 2 1 false := ⟨_, _, (by kernel_rfl : Tryz.prog.underlying 133 = some Tryz.t132.desc), rfl, rfl, _, _, _, ty131, rfl⟩
theorem fld146_0 : Fld Tryz.prog 146 0 0 1 false := ⟨_, _, (by kernel_rfl : Tryz.prog.underlying 146 = some Tryz.t145.desc), rfl, rfl, _, _, _, ty22, rfl⟩
theorem fld146_1 : Fld Tryz.prog 146 1 1 2 true := ⟨_, _, (by kernel_rfl : Tryz.prog.underlying 146 = some Tryz.t145.desc), rfl, rfl, _, _, _, ty29, rfl⟩
theorem fld178_0 : Fld Tryz.prog 178 0 0 1 false := ⟨_, _, (by kernel_rfl : Tryz.prog.underlying 178 = some Tryz.t177.desc), rfl, rfl, _, _, _, ty22, rfl⟩
theorem pl29 : StructPl Tryz.prog 29 [(0, 1), (1, 1)] := ⟨_, (by kernel_rfl : Tryz.prog.underlying 29 = some Tryz.t28.desc), fun _ => by kernel_rfl⟩
theorem pl31 : StructPl Tryz.prog 31 [(0, 2), (2, 2), (4, 1)] := ⟨_, (by kernel_rfl : Tryz.prog.underlying 31 = some Tryz.t30.desc), fun _ => by kernel_rfl⟩
theorem pl56 : StructPl Tryz.prog 56 [(0, 1), (1, 1), (2, 1), (3, 1), (4, 1), (5, 1), (6, 1), (7, 1)] := ⟨_, (by kernel_rfl : Tryz.prog.underlying 56 = some Tryz.t55.desc), fun _ => by kernel_rfl⟩
theorem pl71 : StructPl Tryz.prog 71 [(0, 1), (1, 1), (2, 1), (3, 4), (7, 1)] := ⟨_, (by kernel_rfl : Tryz.prog.underlying 71 = some Tryz.t70.desc), fun _ => by kernel_rfl⟩
theorem pl78 : StructPl Tryz.prog 78 [(0, 1), (1, 1), (2, 1), (3, 1), (4, 1), (5, 1), (6, 1)] := ⟨_, (by kernel_rfl : Tryz.prog.underlying 78 = some Tryz.t77.desc), fun _ => by kernel_rfl⟩
theorem pl82 : StructPl Tryz.prog 82 [(0, 1), (1, 4)] := ⟨_, (by kernel_rfl : Tryz.prog.underlying 82 = some Tryz.t81.desc), fun _ => by kernel_rfl⟩
theorem pl117 : StructPl Tryz.prog 117 [(0, 1), (1, 1), (2, 1)] := ⟨_, (by kernel_rfl : Tryz.prog.underlying 117 = some Tryz.t116.desc), fun _ => by kernel_rfl⟩
theorem pl125 : StructPl Tryz.prog 125 [(0, 1), (1, 1), (2, 1)] := ⟨_, (by kernel_rfl : Tryz.prog.underlying 125 = some Tryz.t124.desc), fun _ => by kernel_rfl⟩
theorem pl130 : StructPl Tryz.prog 130 [(0, 1), (1, 1), (2, 1)] := ⟨_, (by kernel_rfl : Tryz.prog.underlying 130 = some Tryz.t129.desc), fun _ => by kernel_rfl⟩
theorem pl133 : StructPl Tryz.prog 133 [(0, 1), (1, 1), (2, 1)] := ⟨_, (by kernel_rfl : Tryz.prog.underlying 133 = some Tryz.t132.desc), fun _ => by kernel_rfl⟩
theorem pl146 : StructPl Tryz.prog 146 [(0, 1), (1, 2)] := ⟨_, (by kernel_rfl : Tryz.prog.underlying 146 = some Tryz.t145.desc), fun _ => by kernel_rfl⟩
theorem pl178 : StructPl Tryz.prog 178 [(0, 1), (1, 1)] := ⟨_, (by kernel_rfl : Tryz.prog.underlying 178 = some Tryz.t177.desc), fun _ => by kernel_rfl⟩
end Go.Proofs.YtphdlpmnidiliaaGreatDoor
namespace Go.Proofs.YtphdlpmnidiliaaGreatDoor
open Go Go.Sl
attribute [local irreducible] W
def popN : Nat → Nat → Nat
  | 0, _ => 0
  | k + 1, x => popN k x + (x.testBit k).toNat
def ofB : List Nat → Nat
  | [] => 0
  | b :: l => 256 * ofB l + b
theorem and_byte {b c y m : Nat} (hb : b < 256) (hc : c < 256) : (256 * y + b) &&& (256 * m + c) = 256 * (y &&& m) + (b &&& c) := by
  have hbc : b &&& c < 2 ^ 8 := Nat.lt_of_le_of_lt Nat.and_le_left hb
  have hb : b < 2 ^ 8 := hb
  have hc : c < 2 ^ 8 := hc
  have e : (256 : Nat) = 2 ^ 8 := rfl
  rw [e]
  apply Nat.eq_of_testBit_eq
  intro i
  rw [Nat.testBit_and, Nat.testBit_two_pow_mul_add _ hb, Nat.testBit_two_pow_mul_add _ hc, Nat.testBit_two_pow_mul_add _ hbc]
  split
  · rw [Nat.testBit_and]
  · rw [Nat.testBit_and]
theorem shr_byte {b c y m k : Nat} (hb : b < 256) (hk : k ≤ 8) (hc : c < 2 ^ (8 - k)) : ((256 * y + b) >>> k) &&& (256 * m + c) = 256 * ((y >>> k) &&& m) + ((b >>> k) &&& c) := by
  have hc8 : c < 2 ^ 8 := Nat.lt_of_lt_of_le hc (Nat.pow_le_pow_right (by decide) (by omega))
  have hbc : (b >>> k) &&& c < 2 ^ 8 := Nat.lt_of_le_of_lt Nat.and_le_right hc8
  have hb : b < 2 ^ 8 := hb
  have e : (256 : Nat) = 2 ^ 8 := rfl
  rw [e]
  apply Nat.eq_of_testBit_eq
  intro i
  rw [Nat.testBit_and, Nat.testBit_shiftRight, Nat.testBit_two_pow_mul_add _ hb, Nat.testBit_two_pow_mul_add _ hc8, Nat.testBit_two_pow_mul_add _ hbc, Nat.testBit_and, Nat.testBit_and, Nat.testBit_shiftRight, Nat.testBit_shiftRight]
  by_cases h : i < 8
  · rw [if_pos h, if_pos h]
    by_cases h2 : k + i < 8
    · rw [if_pos h2]
    · rw [if_neg h2]
      have : c.testBit i = false := Nat.testBit_lt_two_pow (Nat.lt_of_lt_of_le hc (Nat.pow_le_pow_right (by decide) (by omega)))
      rw [this, Bool.and_false, Bool.and_false]
  · rw [if_neg h, if_neg h, if_neg (by omega)]
    rw [show k + i - 8 = k + (i - 8) by omega]
def repB (c : Nat) : Nat → Nat
  | 0 => 0
  | n + 1 => 256 * repB c n + c
def g1 (b : Nat) : Nat := ((b >>> 1) &&& 85) + (b &&& 85)
def g2 (b : Nat) : Nat := ((b >>> 2) &&& 51) + (b &&& 51)
def g3 (b : Nat) : Nat := (b / 16 + b) % 16
theorem step1 : ∀ (l : List Nat), (∀ b ∈ l, b < 256) → ((ofB l >>> 1) &&& repB 85 l.length) + (ofB l &&& repB 85 l.length) = ofB (l.map g1)
  | [], _ => rfl
  | b :: l, h => by
    have ih := step1 l (fun x hx => h x (List.mem_cons_of_mem _ hx))
    have hb := h b List.mem_cons_self
    show ((256 * ofB l + b) >>> 1 &&& (256 * repB 85 l.length + 85)) + ((256 * ofB l + b) &&& (256 * repB 85 l.length + 85)) = 256 * ofB (l.map g1) + g1 b
    rw [shr_byte hb (by decide) (by decide), and_byte hb (by decide), ← ih]
    unfold g1; omega
theorem step2 : ∀ (l : List Nat), (∀ b ∈ l, b < 256) → ((ofB l >>> 2) &&& repB 51 l.length) + (ofB l &&& repB 51 l.length) = ofB (l.map g2)
  | [], _ => rfl
  | b :: l, h => by
    have ih := step2 l (fun x hx => h x (List.mem_cons_of_mem _ hx))
    have hb := h b List.mem_cons_self
    show ((256 * ofB l + b) >>> 2 &&& (256 * repB 51 l.length + 51)) + ((256 * ofB l + b) &&& (256 * repB 51 l.length + 51)) = 256 * ofB (l.map g2) + g2 b
    rw [shr_byte hb (by decide) (by decide), and_byte hb (by decide), ← ih]
    unfold g2; omega
theorem step3 : ∀ (l : List Nat), (∀ b ∈ l, b / 16 + b ≤ 100 ∧ b % 16 ≤ 4) → ((ofB l >>> 4) + ofB l) &&& repB 15 l.length = ofB (l.map g3)
  | [], _ => rfl
  | b :: l, h => by
    have hl : ∀ x ∈ l, x / 16 + x ≤ 100 ∧ x % 16 ≤ 4 := fun x hx => h x (List.mem_cons_of_mem _ hx)
    have ih := step3 l hl
    have hb := h b List.mem_cons_self
    have hy : ofB l % 16 ≤ 4 := by
      cases l with
      | nil => decide
      | cons c l =>
        have := (hl c List.mem_cons_self).2
        show (256 * ofB l + c) % 16 ≤ 4
        omega
    have e : ((256 * ofB l + b) >>> 4) + (256 * ofB l + b) = 256 * ((ofB l >>> 4) + ofB l) + (b / 16 + b + 16 * (ofB l % 16)) := by
      rw [Nat.shiftRight_eq_div_pow, Nat.shiftRight_eq_div_pow]
      omega
    show (((256 * ofB l + b) >>> 4) + (256 * ofB l + b)) &&& (256 * repB 15 l.length + 15) = 256 * ofB (l.map g3) + g3 b
    rw [e, and_byte (by omega) (by decide), ih, show (15 : Nat) = 2 ^ 4 - 1 from rfl, Nat.and_two_pow_sub_one_eq_mod]
    unfold g3; omega
theorem byte_pop : ∀ b : Fin 256, g3 (g2 (g1 b.val)) = popN 8 b.val ∧ g1 b.val < 256 ∧ g2 (g1 b.val) / 16 + g2 (g1 b.val) ≤ 100 ∧ g2 (g1 b.val) % 16 ≤ 4 ∧ popN 8 b.val ≤ 8 := by decide +kernel
theorem popN_add (x : Nat) : ∀ j k, popN (j + k) x = popN j x + popN k (x >>> j)
  | j, 0 => rfl
  | j, k + 1 => by
    show popN (j + k) x + (x.testBit (j + k)).toNat = popN j x + (popN k (x >>> j) + ((x >>> j).testBit k).toNat)
    rw [popN_add x j k, Nat.testBit_shiftRight]; omega
theorem popN_low {b y : Nat} (hb : b < 256) : ∀ k, k ≤ 8 → popN k (256 * y + b) = popN k b
  | 0, _ => rfl
  | k + 1, h => by
    show popN k (256 * y + b) + ((256 * y + b).testBit k).toNat = popN k b + (b.testBit k).toNat
    have hb2 : b < 2 ^ 8 := hb
    rw [popN_low hb k (by omega), show (256 : Nat) = 2 ^ 8 from rfl, Nat.testBit_two_pow_mul_add _ hb2, if_pos (by omega)]
theorem popN_B : ∀ (l : List Nat), (∀ b ∈ l, b < 256) → popN (8 * l.length) (ofB l) = ((l.map (popN 8)).sum)
  | [], _ => rfl
  | b :: l, h => by
    have hb := h b List.mem_cons_self
    have ih := popN_B l (fun x hx => h x (List.mem_cons_of_mem _ hx))
    have e : 8 * (b :: l).length = 8 + 8 * l.length := by rw [List.length_cons]; omega
    rw [e, popN_add]
    show popN 8 (256 * ofB l + b) + popN (8 * l.length) ((256 * ofB l + b) >>> 8) = popN 8 b + (l.map (popN 8)).sum
    rw [popN_low hb 8 (Nat.le_refl _), Nat.shiftRight_eq_div_pow, show (256 * ofB l + b) / 2 ^ 8 = ofB l by omega, ih]
def ones64 (x : Nat) : Nat :=
  let a := ((x >>> 1) &&& 6148914691236517205) + (x &&& 6148914691236517205)
  let b := ((a >>> 2) &&& 3689348814741910323) + (a &&& 3689348814741910323)
  let c := ((b >>> 4) + b) &&& 1085102592571150095
  let d := c + c >>> 8
  let e := d + d >>> 16
  let f := e + e >>> 32
  f % 128
theorem ones64_is {x : Nat} (hx : x < 18446744073709551616) : ones64 x = popN 64 x := by
  obtain ⟨b0, b1, b2, b3, b4, b5, b6, b7, h0, h1, h2, h3, h4, h5, h6, h7, e⟩ : ∃ b0 b1 b2 b3 b4 b5 b6 b7 : Nat, b0 < 256 ∧ b1 < 256 ∧ b2 < 256 ∧ b3 < 256 ∧ b4 < 256 ∧ b5 < 256 ∧ b6 < 256 ∧ b7 < 256 ∧ x = ofB [b0, b1, b2, b3, b4, b5, b6, b7] := by
    refine ⟨x % 256, x / 256 % 256, x / 65536 % 256, x / 16777216 % 256, x / 4294967296 % 256, x / 1099511627776 % 256, x / 281474976710656 % 256, x / 72057594037927936, ?_⟩
    simp only [ofB]
    omega
  subst e
  have hl : ∀ b ∈ [b0, b1, b2, b3, b4, b5, b6, b7], b < 256 := by simp; omega
  have s1 := step1 [b0, b1, b2, b3, b4, b5, b6, b7] hl
  have hl1 : ∀ b ∈ [b0, b1, b2, b3, b4, b5, b6, b7].map g1, b < 256 := fun y hy => by
    obtain ⟨b, hb, rfl⟩ := List.mem_map.1 hy
    exact (byte_pop ⟨b, hl b hb⟩).2.1
  have s2 := step2 ([b0, b1, b2, b3, b4, b5, b6, b7].map g1) hl1
  have hl2 : ∀ b ∈ ([b0, b1, b2, b3, b4, b5, b6, b7].map g1).map g2, b / 16 + b ≤ 100 ∧ b % 16 ≤ 4 := fun y hy => by
    obtain ⟨b, hb, rfl⟩ := List.mem_map.1 hy
    obtain ⟨c, hc, rfl⟩ := List.mem_map.1 hb
    have := (byte_pop ⟨c, hl c hc⟩).2.2
    exact ⟨this.1, this.2.1⟩
  have s3 := step3 (([b0, b1, b2, b3, b4, b5, b6, b7].map g1).map g2) hl2
  have hp := popN_B [b0, b1, b2, b3, b4, b5, b6, b7] hl
  have q0 := byte_pop ⟨b0, h0⟩; have q1 := byte_pop ⟨b1, h1⟩; have q2 := byte_pop ⟨b2, h2⟩; have q3 := byte_pop ⟨b3, h3⟩
  have q4 := byte_pop ⟨b4, h4⟩; have q5 := byte_pop ⟨b5, h5⟩; have q6 := byte_pop ⟨b6, h6⟩; have q7 := byte_pop ⟨b7, h7⟩
  dsimp only at q0 q1 q2 q3 q4 q5 q6 q7
  have e1 : repB 85 8 = 6148914691236517205 := by decide
  have e2 : repB 51 8 = 3689348814741910323 := by decide
  have e3 : repB 15 8 = 1085102592571150095 := by decide
  rw [show [b0, b1, b2, b3, b4, b5, b6, b7].length = 8 from rfl, e1] at s1
  rw [show ([b0, b1, b2, b3, b4, b5, b6, b7].map g1).length = 8 from rfl, e2] at s2
  rw [show (([b0, b1, b2, b3, b4, b5, b6, b7].map g1).map g2).length = 8 from rfl, e3] at s3
  unfold ones64
  dsimp only
  rw [s1, s2, s3]
  rw [show 8 * [b0, b1, b2, b3, b4, b5, b6, b7].length = 64 from rfl] at hp
  rw [hp]
  simp only [List.map_cons, List.map_nil, ofB, List.sum_cons, List.sum_nil, Nat.shiftRight_eq_div_pow]
  rw [q0.1, q1.1, q2.1, q3.1, q4.1, q5.1, q6.1, q7.1]
  have r0 := q0.2.2.2.2; have r1 := q1.2.2.2.2; have r2 := q2.2.2.2.2; have r3 := q3.2.2.2.2
  have r4 := q4.2.2.2.2; have r5 := q5.2.2.2.2; have r6 := q6.2.2.2.2; have r7 := q7.2.2.2.2
  generalize popN 8 b0 = d0 at *; generalize popN 8 b1 = d1 at *; generalize popN 8 b2 = d2 at *; generalize popN 8 b3 = d3 at *
  generalize popN 8 b4 = d4 at *; generalize popN 8 b5 = d5 at *; generalize popN 8 b6 = d6 at *; generalize popN 8 b7 = d7 at *
  clear hp s1 s2 s3 hl hl1 hl2 q0 q1 q2 q3 q4 q5 q6 q7 hx
  obtain ⟨c, hc⟩ : ∃ c, c = (256 * (256 * (256 * (256 * (256 * (256 * (256 * (256 * 0 + d7) + d6) + d5) + d4) + d3) + d2) + d1) + d0) := ⟨_, rfl⟩
  rw [← hc]
  have hx : c / (2 ^ 8) = (256 * (256 * (256 * (256 * (256 * (256 * (256 * 0 + (d7)) + (d6)) + (d5)) + (d4)) + (d3)) + (d2)) + (d1)) := by
    rw [hc]; simp only [Nat.reducePow] ; omega
  rw [hx]
  obtain ⟨c0, hc0⟩ : ∃ c0, c0 = c + (256 * (256 * (256 * (256 * (256 * (256 * (256 * 0 + (d7)) + (d6)) + (d5)) + (d4)) + (d3)) + (d2)) + (d1)) := ⟨_, rfl⟩
  rw [← hc0]
  have hd0 : c0 = (256 * (256 * (256 * (256 * (256 * (256 * (256 * (256 * 0 + (d7)) + (d6 + d7)) + (d5 + d6)) + (d4 + d5)) + (d3 + d4)) + (d2 + d3)) + (d1 + d2)) + (d0 + d1)) := by rw [hc0, hc]; omega
  clear hc hc0 hx
  have hc := hd0
  clear hd0
  have hy : c0 / (2 ^ 16) = (256 * (256 * (256 * (256 * (256 * (256 * 0 + (d7)) + (d6 + d7)) + (d5 + d6)) + (d4 + d5)) + (d3 + d4)) + (d2 + d3)) := by
    rw [hc]; simp only [Nat.reducePow] ; omega
  rw [hy]
  obtain ⟨c1, hc1⟩ : ∃ c1, c1 = c0 + (256 * (256 * (256 * (256 * (256 * (256 * 0 + (d7)) + (d6 + d7)) + (d5 + d6)) + (d4 + d5)) + (d3 + d4)) + (d2 + d3)) := ⟨_, rfl⟩
  rw [← hc1]
  have hd1 : c1 = (256 * (256 * (256 * (256 * (256 * (256 * (256 * (256 * 0 + (d7)) + (d6 + d7)) + (d5 + d6 + d7)) + (d4 + d5 + d6 + d7)) + (d3 + d4 + d5 + d6)) + (d2 + d3 + d4 + d5)) + (d1 + d2 + d3 + d4)) + (d0 + d1 + d2 + d3)) := by rw [hc1, hc]; omega
  clear hc hc1 hy
  have hc := hd1
  clear hd1
  have hz : c1 / (2 ^ 32) = (256 * (256 * (256 * (256 * 0 + (d7)) + (d6 + d7)) + (d5 + d6 + d7)) + (d4 + d5 + d6 + d7)) := by
    rw [hc]; simp only [Nat.reducePow] ; omega
  rw [hz]
  obtain ⟨c2, hc2⟩ : ∃ c2, c2 = c1 + (256 * (256 * (256 * (256 * 0 + (d7)) + (d6 + d7)) + (d5 + d6 + d7)) + (d4 + d5 + d6 + d7)) := ⟨_, rfl⟩
  rw [← hc2]
  have hd2 : c2 = (256 * (256 * (256 * (256 * (256 * (256 * (256 * (256 * 0 + (d7)) + (d6 + d7)) + (d5 + d6 + d7)) + (d4 + d5 + d6 + d7)) + (d3 + d4 + d5 + d6 + d7)) + (d2 + d3 + d4 + d5 + d6 + d7)) + (d1 + d2 + d3 + d4 + d5 + d6 + d7)) + (d0 + d1 + d2 + d3 + d4 + d5 + d6 + d7)) := by rw [hc2, hc]; omega
  clear hc hc2 hz
  have hc := hd2
  clear hd2
  rw [hc]; omega
end Go.Proofs.YtphdlpmnidiliaaGreatDoor
namespace Go.Proofs.YtphdlpmnidiliaaGreatDoor
open Go Go.Sl
attribute [local irreducible] W
theorem rows_get {α : Type} {f : α → List Value} {s : Nat} (hf : ∀ x, (f x).length = s) {l : List α} {i j : Nat} {x : α} (h : l[i]? = some x) (hj : j < s) : (l.flatMap f)[i * s + j]? = (f x)[j]? := by
  induction l generalizing i with
  | nil => simp at h
  | cons y l ih =>
    cases i with
    | zero =>
      obtain rfl : y = x := by simpa using h
      rw [Nat.zero_mul, Nat.zero_add, List.flatMap_cons, List.getElem?_append_left (by rw [hf]; exact hj)]
    | succ i =>
      rw [List.flatMap_cons, List.getElem?_append_right (by rw [hf, Nat.succ_mul]; omega), hf, show (i + 1) * s + j - s = i * s + j by rw [Nat.succ_mul]; omega]
      exact ih (by simpa using h)
theorem rows_len {α : Type} {f : α → List Value} {s : Nat} (hf : ∀ x, (f x).length = s) (l : List α) : (l.flatMap f).length = l.length * s := by
  induction l with
  | nil => simp
  | cons y l ih => rw [List.flatMap_cons, List.length_append, hf, ih, List.length_cons, Nat.succ_mul]; omega
theorem rows_lt {α : Type} {f : α → List Value} {s : Nat} (hf : ∀ x, (f x).length = s) {l : List α} {i j : Nat} {x : α} (h : l[i]? = some x) (hj : j < s) : i * s + j < (l.flatMap f).length := by
  have hi := (List.getElem?_eq_some_iff.1 h).1
  have := Nat.mul_le_mul_right s (show i + 1 ≤ l.length by omega)
  rw [rows_len hf, Nat.succ_mul] at *
  omega
theorem rows_part {α : Type} {f : α → List Value} {s : Nat} (hf : ∀ x, (f x).length = s) {l : List α} {i o m : Nat} {x : α} (h : l[i]? = some x) (ho : o + m ≤ s) : ((l.flatMap f).drop (i * s + o)).take m = ((f x).drop o).take m := by
  apply List.ext_getElem?
  intro j
  by_cases c : j < m
  · rw [List.getElem?_take, if_pos c, List.getElem?_drop, List.getElem?_take, if_pos c, List.getElem?_drop, Nat.add_assoc, rows_get hf h (by omega)]
  · rw [List.getElem?_take, if_neg c, List.getElem?_take, if_neg c]
theorem rows_set {α : Type} {f : α → List Value} {s : Nat} (hf : ∀ x, (f x).length = s) {l : List α} {i j : Nat} {x x' : α} {v : Value} (h : l[i]? = some x) (hj : j < s) (e : (f x).set j v = f x') : (l.flatMap f).set (i * s + j) v = (l.set i x').flatMap f := by
  induction l generalizing i with
  | nil => simp at h
  | cons y l ih =>
    cases i with
    | zero =>
      obtain rfl : y = x := by simpa using h
      rw [Nat.zero_mul, Nat.zero_add, List.flatMap_cons, List.set_append_left _ _ (by rw [hf]; exact hj), e]
      rfl
    | succ i =>
      rw [List.flatMap_cons, List.set_append_right _ _ (by rw [hf, Nat.succ_mul]; omega), hf, show (i + 1) * s + j - s = i * s + j by rw [Nat.succ_mul]; omega, ih (by simpa using h)]
      rfl
theorem rows_spl {α : Type} {f : α → List Value} {s : Nat} (hf : ∀ x, (f x).length = s) {l : List α} {i o : Nat} {x x' : α} {vs : List Value} (h : l[i]? = some x) (ho : o + vs.length ≤ s) (e : spliceL (f x) o vs = f x') : spliceL (l.flatMap f) (i * s + o) vs = (l.set i x').flatMap f := by
  induction l generalizing i with
  | nil => simp at h
  | cons y l ih =>
    cases i with
    | zero =>
      obtain rfl : y = x := by simpa using h
      unfold spliceL at e ⊢
      show _ = f x' ++ l.flatMap f
      rw [Nat.zero_mul, Nat.zero_add, List.flatMap_cons, ← e, List.take_append_of_le_length (by rw [hf]; omega), List.drop_append_of_le_length (by rw [hf]; omega)]
      simp only [List.append_assoc]
    | succ i =>
      have ih := ih (i := i) (by simpa using h)
      unfold spliceL at ih ⊢
      show _ = f y ++ (l.set i x').flatMap f
      rw [← ih, List.flatMap_cons, show (i + 1) * s + o = (f y).length + (i * s + o) by rw [hf, Nat.succ_mul]; omega, show (f y).length + (i * s + o) + vs.length = (f y).length + (i * s + o + vs.length) by omega, List.take_length_add_append, List.drop_length_add_append]
      simp only [List.append_assoc]
theorem rows_same {α : Type} {f : α → List Value} {l : List α} {i : Nat} {x y : α} (e : f x = f y) : (l.set i x).flatMap f = (l.set i y).flatMap f := by
  induction l generalizing i with
  | nil => rfl
  | cons z l ih => cases i with
    | zero => rw [List.set_cons_zero, List.set_cons_zero, List.flatMap_cons, List.flatMap_cons, e]
    | succ i => rw [List.set_cons_succ, List.set_cons_succ, List.flatMap_cons, List.flatMap_cons, ih]
theorem set_same' {α : Type} {l : List α} {i : Nat} {x : α} (h : l[i]? = some x) : l.set i x = l := by
  apply List.ext_getElem?
  intro j
  by_cases e : i = j
  · subst e; rw [List.getElem?_set_self (List.getElem?_eq_some_iff.1 h).1, h]
  · rw [List.getElem?_set_ne e]
structure W4 where
  a : Int
  b : Int
  c : Int
  d : Int
deriving DecidableEq
def W4.get (w : W4) : Nat → Int
  | 0 => w.a
  | 1 => w.b
  | 2 => w.c
  | _ => w.d
def W4.put (w : W4) (i : Nat) (x : Int) : W4 := match i with
  | 0 => { w with a := x }
  | 1 => { w with b := x }
  | 2 => { w with c := x }
  | _ => { w with d := x }
def W4.vals (w : W4) : List Value := [.int .u64 w.a, .int .u64 w.b, .int .u64 w.c, .int .u64 w.d]
def zW : W4 := ⟨0, 0, 0, 0⟩
def W4.of (l : List Int) : W4 := ⟨l.getD 0 0, l.getD 1 0, l.getD 2 0, l.getD 3 0⟩
theorem W4.at {w : W4} {i : Nat} (h : i < 4) : w.vals[i]? = some (.int .u64 (w.get i)) := by
  have : i = 0 ∨ i = 1 ∨ i = 2 ∨ i = 3 := by omega
  rcases this with rfl | rfl | rfl | rfl <;> rfl
theorem W4.set {w : W4} {i : Nat} {x : Int} (h : i < 4) : w.vals.set i (.int .u64 x) = (w.put i x).vals := by
  have : i = 0 ∨ i = 1 ∨ i = 2 ∨ i = 3 := by omega
  rcases this with rfl | rfl | rfl | rfl <;> rfl
theorem W4.copy {l : List Int} (h : l.length ≤ 4) (k : Value) : spliceL [k, .int .u64 0, .int .u64 0, .int .u64 0, .int .u64 0] 1 (l.map (.int .u64)) = k :: (W4.of l).vals := by
  match l, h with
  | [], _ => rfl
  | [_], _ => rfl
  | [_, _], _ => rfl
  | [_, _, _], _ => rfl
  | [_, _, _, _], _ => rfl
structure Hd where
  slot : Int
  gen : Int
deriving DecidableEq
def hdC (h : Hd) : List Value := [.int .i64 h.slot, .int .i64 h.gen]
def zHd : Hd := ⟨0, 0⟩
structure Cel where
  key : Int
  w : W4
deriving DecidableEq
def celC (c : Cel) : List Value := [.int .u64 c.key, .int .u64 c.w.a, .int .u64 c.w.b, .int .u64 c.w.c, .int .u64 c.w.d]
def zCel : Cel := ⟨0, zW⟩
structure Slt where
  own : Hd
  st : Nat
  cel : Cel
deriving DecidableEq
def sltC (s : Slt) : List Value := [.int .i64 s.own.slot, .int .i64 s.own.gen, .int .u64 s.cel.key, .int .u64 s.cel.w.a, .int .u64 s.cel.w.b, .int .u64 s.cel.w.c, .int .u64 s.cel.w.d]
theorem sltC_len (s : Slt) : (sltC s).length = 7 := rfl
def relS (s : Slt) : Slt := if s.own.gen = 255 then ⟨s.own, 2, zCel⟩ else ⟨⟨s.own.slot, s.own.gen + 1⟩, 0, zCel⟩
def errA (L : List Slt) (h : Hd) : Int := if h.slot < 0 ∨ (L.length : Int) ≤ h.slot then 2 else match L[h.slot.toNat]? with
  | some s => if s.st = 1 ∧ s.own = h then 0 else 7
  | none => 2
def celA (L : List Slt) (h : Hd) : Cel := match L[h.slot.toNat]? with
  | some s => if errA L h = 0 then s.cel else zCel
  | none => zCel
def setA (L : List Slt) (h : Hd) (f : Slt → Slt) : List Slt := match L[h.slot.toNat]? with
  | some s => if errA L h = 0 then L.set h.slot.toNat (f s) else L
  | none => L
inductive FindA (L : List Slt) (h : Hd) : Prop
  | is (i : Nat) (s : Slt) (hi : h.slot = (i : Int)) (hs : L[i]? = some s) (hu : s.st = 1) (ho : s.own = h) (he : errA L h = 0) (hc : celA L h = s.cel) (hset : ∀ f, setA L h f = L.set i (f s))
  | lo (hi : h.slot < 0) (he : errA L h = 2) (hc : celA L h = zCel) (hset : ∀ f, setA L h f = L)
  | hi (hi : (L.length : Int) ≤ h.slot) (he : errA L h = 2) (hc : celA L h = zCel) (hset : ∀ f, setA L h f = L)
  | un (i : Nat) (s : Slt) (hi : h.slot = (i : Int)) (hs : L[i]? = some s) (hu : s.st ≠ 1) (he : errA L h = 7) (hc : celA L h = zCel) (hset : ∀ f, setA L h f = L)
  | old (i : Nat) (s : Slt) (hi : h.slot = (i : Int)) (hs : L[i]? = some s) (hu : s.st = 1) (ho : s.own ≠ h) (he : errA L h = 7) (hc : celA L h = zCel) (hset : ∀ f, setA L h f = L)
theorem findA (L : List Slt) (h : Hd) : FindA L h := by
  by_cases h1 : h.slot < 0
  · have he : errA L h = 2 := by unfold errA; rw [if_pos (.inl h1)]
    refine .lo h1 he ?_ (fun f => ?_)
    · unfold celA; split; rw [if_neg (by rw [he]; decide)]; rfl
    · unfold setA; split; rw [if_neg (by rw [he]; decide)]; rfl
  · by_cases h2 : (L.length : Int) ≤ h.slot
    · have he : errA L h = 2 := by unfold errA; rw [if_pos (.inr h2)]
      refine .hi h2 he ?_ (fun f => ?_)
      · unfold celA; split; rw [if_neg (by rw [he]; decide)]; rfl
      · unfold setA; split; rw [if_neg (by rw [he]; decide)]; rfl
    · obtain ⟨i, hi⟩ : ∃ i : Nat, h.slot = (i : Int) := ⟨h.slot.toNat, by omega⟩
      obtain ⟨s, hs⟩ : ∃ s, L[i]? = some s := ⟨_, List.getElem?_eq_getElem (by omega)⟩
      have ei : h.slot.toNat = i := by omega
      have hs' : L[h.slot.toNat]? = some s := by rw [ei]; exact hs
      by_cases h3 : s.st = 1
      · by_cases h4 : s.own = h
        · have he : errA L h = 0 := by unfold errA; rw [if_neg (by omega), hs']; exact if_pos ⟨h3, h4⟩
          refine .is i s hi hs h3 h4 he ?_ (fun f => ?_)
          · unfold celA; rw [hs']; exact if_pos he
          · unfold setA; rw [hs']; rw [ei]; exact if_pos he
        · have he : errA L h = 7 := by unfold errA; rw [if_neg (by omega), hs']; exact if_neg (fun h => h4 h.2)
          refine .old i s hi hs h3 h4 he ?_ (fun f => ?_)
          · unfold celA; rw [hs']; exact if_neg (by rw [he]; decide)
          · unfold setA; rw [hs']; exact if_neg (by rw [he]; decide)
      · have he : errA L h = 7 := by unfold errA; rw [if_neg (by omega), hs']; exact if_neg (fun h => h3 h.1)
        refine .un i s hi hs h3 he ?_ (fun f => ?_)
        · unfold celA; rw [hs']; exact if_neg (by rw [he]; decide)
        · unfold setA; rw [hs']; exact if_neg (by rw [he]; decide)
theorem errA_is {L : List Slt} {h : Hd} {i : Nat} {s : Slt} (hi : h.slot = (i : Int)) (hs : L[i]? = some s) (hu : s.st = 1) (ho : s.own = h) : errA L h = 0 := by
  have := (List.getElem?_eq_some_iff.1 hs).1
  unfold errA; rw [if_neg (by omega), show h.slot.toNat = i by omega, hs]; exact if_pos ⟨hu, ho⟩
theorem errA_ok {L : List Slt} {h : Hd} (he : errA L h = 0) : ∃ i s, h.slot = ((i : Nat) : Int) ∧ L[i]? = some s ∧ s.st = 1 ∧ s.own = h ∧ celA L h = s.cel ∧ ∀ f, setA L h f = L.set i (f s) := by
  cases findA L h with
  | is i s hi hs hu ho _ hc hset => exact ⟨i, s, hi, hs, hu, ho, hc, hset⟩
  | lo _ e _ _ => rw [e] at he; cases he
  | hi _ e _ _ => rw [e] at he; cases he
  | un _ _ _ _ _ e _ _ => rw [e] at he; cases he
  | old _ _ _ _ _ _ e _ _ => rw [e] at he; cases he
theorem errA_no {L : List Slt} {h : Hd} (he : errA L h ≠ 0) : celA L h = zCel ∧ ∀ f, setA L h f = L := by
  cases findA L h with
  | is i s hi hs hu ho e hc hset => exact absurd e he
  | lo _ _ a b => exact ⟨a, b⟩
  | hi _ _ a b => exact ⟨a, b⟩
  | un _ _ _ _ _ _ a b => exact ⟨a, b⟩
  | old _ _ _ _ _ _ _ a b => exact ⟨a, b⟩
theorem setA_len (L : List Slt) (h : Hd) (f : Slt → Slt) : (setA L h f).length = L.length := by
  unfold setA; split
  · split
    · exact List.length_set
    · rfl
  · rfl
def firstF (L : List Slt) : Option Nat := L.findIdx? (fun s => decide (s.st = 0))
def cntA (n : Nat) (L : List Slt) : Nat := L.countP (fun s => decide (s.st = n))
theorem firstF_some {L : List Slt} {i : Nat} (h : firstF L = some i) : ∃ s, L[i]? = some s ∧ s.st = 0 ∧ ∀ j t, j < i → L[j]? = some t → t.st ≠ 0 := by
  unfold firstF at h
  rw [List.findIdx?_eq_some_iff_getElem] at h
  obtain ⟨hi, h1, h2⟩ := h
  refine ⟨L[i], List.getElem?_eq_getElem hi, of_decide_eq_true h1, fun j t hj ht => ?_⟩
  have := h2 j hj
  obtain ⟨hj2, rfl⟩ := List.getElem?_eq_some_iff.1 ht
  simpa using this
theorem firstF_none {L : List Slt} : firstF L = none ↔ ∀ s ∈ L, s.st ≠ 0 := by
  unfold firstF
  rw [List.findIdx?_eq_none_iff]
  exact ⟨fun h s hs => by simpa using h s hs, fun h s hs => by simpa using h s hs⟩
theorem cntA_pos {L : List Slt} {n : Nat} : cntA n L ≠ 0 ↔ ∃ s ∈ L, s.st = n := by
  unfold cntA
  rw [← Nat.pos_iff_ne_zero, List.countP_pos_iff]
  exact ⟨fun ⟨s, h1, h2⟩ => ⟨s, h1, of_decide_eq_true h2⟩, fun ⟨s, h1, h2⟩ => ⟨s, h1, decide_eq_true h2⟩⟩
def TellsA (n : Nat) (L : List Slt) (m : Nat) : Prop := m < 18446744073709551616 ∧ ∀ i, m.testBit i = (match L[i]? with
  | some s => decide (s.st = n)
  | none => false)
theorem popN_tells {n : Nat} {L : List Slt} {m : Nat} (h : TellsA n L m) (hl : L.length ≤ 64) : popN 64 m = cntA n L := by
  have key : ∀ k, popN k m = cntA n (L.take k) := by
    intro k
    induction k with
    | zero => rfl
    | succ k ih =>
      show popN k m + (m.testBit k).toNat = _
      rw [ih, h.2 k, List.take_add_one]
      unfold cntA
      rw [List.countP_append]
      cases L[k]? with
      | none => rfl
      | some s => by_cases e : s.st = n <;> simp [e]
  rw [key, List.take_of_length_le hl]
theorem TellsA.at {n : Nat} {L : List Slt} {m i : Nat} {s : Slt} (h : TellsA n L m) (hs : L[i]? = some s) : m.testBit i = decide (s.st = n) := by rw [h.2 i, hs]
structure AreOk (L : List Slt) : Prop where
  len : 1 ≤ L.length ∧ L.length ≤ 64
  own : ∀ i s, L[i]? = some s → s.own.slot = ((i : Nat) : Int) ∧ 1 ≤ s.own.gen ∧ s.own.gen ≤ 255
theorem AreOk.set {L : List Slt} (h : AreOk L) {i : Nat} {t : Slt} (ht : t.own.slot = (i : Int) ∧ 1 ≤ t.own.gen ∧ t.own.gen ≤ 255) : AreOk (L.set i t) := by
  refine ⟨by rw [List.length_set]; exact h.len, fun j s hs => ?_⟩
  by_cases e : i = j
  · subst e
    by_cases hl : i < L.length
    · rw [List.getElem?_set_self hl] at hs
      obtain rfl := Option.some.inj hs
      exact ht
    · rw [List.getElem?_eq_none (by rw [List.length_set]; omega)] at hs; cases hs
  · rw [List.getElem?_set_ne e] at hs; exact h.own j s hs
theorem AreOk.rel {L : List Slt} (h : AreOk L) {i : Nat} {s : Slt} (hs : L[i]? = some s) : AreOk (L.set i (relS s)) := by
  have := h.own i s hs
  refine h.set ?_
  unfold relS; split
  · exact this
  · exact ⟨this.1, by show 1 ≤ s.own.gen + 1; omega, by show s.own.gen + 1 ≤ 255; omega⟩
theorem bkt_ex : ∃ f : Int → Nat, ∀ k, f k = ((k * 11400714819323198485 % 18446744073709551616) / 4294967296 % 8).toNat := ⟨_, fun _ => rfl⟩
noncomputable def bkt : Int → Nat := Classical.choose bkt_ex
theorem bkt_is (k : Int) : bkt k = ((k * 11400714819323198485 % 18446744073709551616) / 4294967296 % 8).toNat := Classical.choose_spec bkt_ex k
theorem bkt_lt (k : Int) : bkt k < 8 := by rw [bkt_is]; omega
def entC (p : Int × Hd) : List Value := [.int .u64 p.1, .int .i64 p.2.slot, .int .i64 p.2.gen]
theorem entC_len (p : Int × Hd) : (entC p).length = 3 := rfl
noncomputable def inB (C : List (Int × Hd)) (b : Nat) : List (Int × Hd) := C.filter (fun p => decide (bkt p.1 = b))
def fndC (C : List (Int × Hd)) (k : Int) : Option Hd := (C.find? (fun p => decide (p.1 = k))).map (·.2)
def delC (C : List (Int × Hd)) (k : Int) : List (Int × Hd) := C.filter (fun p => decide (p.1 ≠ k))
noncomputable def keysC (C : List (Int × Hd)) : List Int := (List.range 8).flatMap (fun b => (inB C b).map (·.1))
abbrev keyL (C : List (Int × Hd)) : List Int := C.map (·.1)
theorem fndC_none {C : List (Int × Hd)} {k : Int} : fndC C k = none ↔ k ∉ keyL C := by
  unfold fndC
  rw [Option.map_eq_none_iff, List.find?_eq_none]
  constructor
  · intro h hm
    obtain ⟨p, hp, e⟩ := List.mem_map.1 hm
    exact h p hp (decide_eq_true e)
  · intro h p hp e
    exact h (List.mem_map.2 ⟨p, hp, of_decide_eq_true e⟩)
theorem fndC_mem {C : List (Int × Hd)} {k : Int} {h : Hd} (hf : fndC C k = some h) : (k, h) ∈ C := by
  unfold fndC at hf
  rw [Option.map_eq_some_iff] at hf
  obtain ⟨p, hp, rfl⟩ := hf
  have e : p.1 = k := by simpa using List.find?_some hp
  subst e
  exact List.mem_of_find?_eq_some hp
theorem fndC_of {C : List (Int × Hd)} {k : Int} {h : Hd} (hn : (keyL C).Nodup) (hm : (k, h) ∈ C) : fndC C k = some h := by
  induction C with
  | nil => cases hm
  | cons p C ih =>
    have hn' := List.nodup_cons.1 hn
    unfold fndC
    by_cases e : p.1 = k
    · rw [List.find?_cons_of_pos (by simpa using e)]
      rcases List.mem_cons.1 hm with rfl | hm
      · rfl
      · exact absurd (List.mem_map.2 ⟨(k, h), hm, rfl⟩) (by rw [← e]; exact hn'.1)
    · rw [List.find?_cons_of_neg (by simpa using e)]
      rcases List.mem_cons.1 hm with rfl | hm
      · exact absurd rfl e
      · exact ih hn'.2 hm
theorem inB_sub {C : List (Int × Hd)} {b : Nat} {p : Int × Hd} (h : p ∈ inB C b) : p ∈ C ∧ bkt p.1 = b := by
  obtain ⟨h1, h2⟩ := List.mem_filter.1 h
  exact ⟨h1, of_decide_eq_true h2⟩
theorem inB_len (C : List (Int × Hd)) (b : Nat) : (inB C b).length ≤ C.length := List.length_filter_le _ _
theorem inB_nodup {C : List (Int × Hd)} (hn : (keyL C).Nodup) (b : Nat) : (keyL (inB C b)).Nodup := hn.sublist (List.filter_sublist.map _)
theorem inB_cons (p : Int × Hd) (C : List (Int × Hd)) (b : Nat) : inB (p :: C) b = if bkt p.1 = b then p :: inB C b else inB C b := by
  unfold inB
  by_cases e : bkt p.1 = b
  · rw [if_pos e, List.filter_cons_of_pos (by simpa using e)]
  · rw [if_neg e, List.filter_cons_of_neg (by simpa using e)]
theorem inB_del (C : List (Int × Hd)) (k : Int) (b : Nat) : inB (delC C k) b = delC (inB C b) k := by
  unfold inB delC
  rw [List.filter_filter, List.filter_filter]
  apply List.filter_congr
  intro p _
  rw [Bool.and_comm]
theorem delC_out {C : List (Int × Hd)} {k : Int} (h : k ∉ keyL C) : delC C k = C := by
  unfold delC
  rw [List.filter_eq_self]
  intro p hp
  exact decide_eq_true fun e => h (List.mem_map.2 ⟨p, hp, e⟩)
theorem delC_at {C : List (Int × Hd)} {j : Nat} {p : Int × Hd} (hn : (keyL C).Nodup) (h : C[j]? = some p) : delC C p.1 = C.take j ++ C.drop (j + 1) := by
  induction C generalizing j with
  | nil => simp at h
  | cons q C ih =>
    have hn' := List.nodup_cons.1 hn
    cases j with
    | zero =>
      obtain rfl : q = p := by simpa using h
      show delC (q :: C) q.1 = C
      unfold delC
      rw [List.filter_cons_of_neg (by simp)]
      exact delC_out hn'.1
    | succ j =>
      have hj : C[j]? = some p := by simpa using h
      have e : q.1 ≠ p.1 := fun e => hn'.1 (List.mem_map.2 ⟨p, List.mem_of_getElem? hj, e.symm⟩)
      show delC (q :: C) p.1 = q :: (C.take j ++ C.drop (j + 1))
      rw [← ih hn'.2 hj]
      unfold delC
      rw [List.filter_cons_of_pos (by simpa using e)]
theorem delC_len {C : List (Int × Hd)} {k : Int} (hn : (keyL C).Nodup) (hk : k ∈ keyL C) : (delC C k).length + 1 = C.length := by
  obtain ⟨p, hp, rfl⟩ := List.mem_map.1 hk
  obtain ⟨j, hj, rfl⟩ := List.getElem_of_mem hp
  rw [delC_at hn (List.getElem?_eq_getElem hj), List.length_append, List.length_take, List.length_drop]
  omega
theorem delC_nodup {C : List (Int × Hd)} (hn : (keyL C).Nodup) (k : Int) : (keyL (delC C k)).Nodup := hn.sublist (List.filter_sublist.map _)
theorem keyL_del (C : List (Int × Hd)) (k : Int) : keyL (delC C k) = (keyL C).filter (fun x => decide (x ≠ k)) := by
  unfold delC
  rw [List.filter_map]; rfl
theorem keysC_mem {C : List (Int × Hd)} {k : Int} : k ∈ keysC C ↔ k ∈ keyL C := by
  unfold keysC
  rw [List.mem_flatMap]
  constructor
  · rintro ⟨b, _, h⟩
    obtain ⟨p, hp, rfl⟩ := List.mem_map.1 h
    exact List.mem_map.2 ⟨p, (inB_sub hp).1, rfl⟩
  · intro h
    obtain ⟨p, hp, rfl⟩ := List.mem_map.1 h
    exact ⟨bkt p.1, List.mem_range.2 (bkt_lt _), List.mem_map.2 ⟨p, List.mem_filter.2 ⟨hp, decide_eq_true rfl⟩, rfl⟩⟩
theorem keysC_nodup {C : List (Int × Hd)} (hn : (keyL C).Nodup) : (keysC C).Nodup := by
  unfold keysC
  unfold List.Nodup
  rw [List.pairwise_flatMap]
  refine ⟨fun b _ => inB_nodup hn b, ?_⟩
  refine List.Pairwise.imp ?_ (List.nodup_range (n := 8))
  intro a b hab x hx y hy exy
  subst exy
  obtain ⟨p, hp, rfl⟩ := List.mem_map.1 hx
  obtain ⟨q, hq, e⟩ := List.mem_map.1 hy
  apply hab
  rw [← (inB_sub hp).2, ← (inB_sub hq).2, e]
theorem keysC_perm {C : List (Int × Hd)} (hn : (keyL C).Nodup) : (keysC C).Perm (keyL C) :=
  (List.perm_ext_iff_of_nodup (keysC_nodup hn) hn).2 fun _ => keysC_mem
end Go.Proofs.YtphdlpmnidiliaaGreatDoor
namespace Go.Proofs.YtphdlpmnidiliaaGreatDoor
open Go Go.Sl
attribute [local irreducible] W
theorem i64w {m : Int} (h : -9223372036854775808 ≤ m ∧ m ≤ 9223372036854775807) : IntKind.i64.wrap m = m := IntWalk.i64_in m h
theorem u64w {m : Int} (h : 0 ≤ m ∧ m ≤ 18446744073709551615) : IntKind.u64.wrap m = m := by
  have e : IntKind.u64.wrap m = m % 18446744073709551616 := by simp [IntKind.wrap, IntKind.signed, IntKind.bits]
  rw [e]; omega
structure Spot where
  lv : Nat
  slot : Nat
  at_ : Nat
  due : Nat
deriving DecidableEq
def Spot.v (s : Spot) : List Value := [.int .i64 (s.lv : Int), .int .i64 (s.slot : Int), .int .u64 (s.at_ : Int), .int .u64 (s.due : Int)]
end Go.Proofs.YtphdlpmnidiliaaGreatDoor
namespace Go.Proofs.YtphdlpmnidiliaaGreatDoor
open Go Go.Sl
attribute [local irreducible] W
theorem neqN (a b : Nat) : decide ((a : Int) ≠ (b : Int)) = true ↔ a ≠ b := by rw [decide_eq_true_eq]; exact not_congr Int.ofNat_inj
end Go.Proofs.YtphdlpmnidiliaaGreatDoor
namespace Go.Proofs.YtphdlpmnidiliaaGreatDoor
open Go Go.Sl
attribute [local irreducible] W
theorem and64 {a b : Nat} (ha : a < 18446744073709551616) (hb : b < 18446744073709551616) : bitsOf .and .u64 (a : Int) (b : Int) = ((a &&& b : Nat) : Int) := by
  have ea : BitVec.ofInt 64 (a : Int) = BitVec.ofNat 64 a := by simp
  have eb : BitVec.ofInt 64 (b : Int) = BitVec.ofNat 64 b := by simp
  have h : a &&& b < 18446744073709551616 := Nat.lt_of_le_of_lt Nat.and_le_left ha
  show IntKind.u64.wrap (((BitVec.ofInt 64 (a : Int) &&& BitVec.ofInt 64 (b : Int)).toNat : Nat) : Int) = _
  rw [ea, eb]
  rw [BitVec.toNat_and, BitVec.toNat_ofNat, BitVec.toNat_ofNat, Nat.mod_eq_of_lt (show a < 2 ^ 64 from ha), Nat.mod_eq_of_lt (show b < 2 ^ 64 from hb)]
  exact u64w ⟨by omega, by omega⟩
theorem or64 {a b : Nat} (ha : a < 18446744073709551616) (hb : b < 18446744073709551616) : bitsOf .or .u64 (a : Int) (b : Int) = ((a ||| b : Nat) : Int) := by
  have ea : BitVec.ofInt 64 (a : Int) = BitVec.ofNat 64 a := by simp
  have eb : BitVec.ofInt 64 (b : Int) = BitVec.ofNat 64 b := by simp
  have h : a ||| b < 18446744073709551616 := Nat.or_lt_two_pow (n := 64) ha hb
  show IntKind.u64.wrap (((BitVec.ofInt 64 (a : Int) ||| BitVec.ofInt 64 (b : Int)).toNat : Nat) : Int) = _
  rw [ea, eb]
  rw [BitVec.toNat_or, BitVec.toNat_ofNat, BitVec.toNat_ofNat, Nat.mod_eq_of_lt (show a < 2 ^ 64 from ha), Nat.mod_eq_of_lt (show b < 2 ^ 64 from hb)]
  exact u64w ⟨by omega, by omega⟩
theorem andNot64 {a b : Nat} (ha : a < 18446744073709551616) (hb : b < 18446744073709551616) : bitsOf .andNot .u64 (a : Int) (b : Int) = ((a &&& (18446744073709551615 - b) : Nat) : Int) := by
  have ea : BitVec.ofInt 64 (a : Int) = BitVec.ofNat 64 a := by simp
  have eb : BitVec.ofInt 64 (b : Int) = BitVec.ofNat 64 b := by simp
  have h : a &&& (18446744073709551615 - b) < 18446744073709551616 := Nat.lt_of_le_of_lt Nat.and_le_left ha
  show IntKind.u64.wrap (((BitVec.ofInt 64 (a : Int) &&& ~~~(BitVec.ofInt 64 (b : Int))).toNat : Nat) : Int) = _
  rw [ea, eb]
  rw [BitVec.toNat_and, BitVec.toNat_not, BitVec.toNat_ofNat, BitVec.toNat_ofNat, Nat.mod_eq_of_lt (show a < 2 ^ 64 from ha), Nat.mod_eq_of_lt (show b < 2 ^ 64 from hb)]
  show IntKind.u64.wrap ((a &&& (18446744073709551615 - b) : Nat) : Int) = _
  exact u64w ⟨by omega, by omega⟩
def bitN (i : Int) : Nat := if 0 ≤ i ∧ i < 64 then 2 ^ i.toNat else 0
def goodB (i : Int) : Bool := decide (0 ≤ i) && decide (i < 64)
theorem pow64 {i : Nat} (h : i < 64) : 2 ^ i ≤ 9223372036854775808 := by
  have : 2 ^ i ≤ 2 ^ 63 := Nat.pow_le_pow_right (by omega) (by omega)
  simpa using this
theorem bitN_lt (i : Int) : bitN i < 18446744073709551616 := by
  unfold bitN; split
  · have := pow64 (i := i.toNat) (by omega); omega
  · omega
theorem shl_one {i : Int} (hi : 0 ≤ i ∧ i < 64) : IntKind.u64.wrap (1 * 2 ^ (min i.toNat IntKind.u64.bits)) = ((bitN i : Nat) : Int) := by
  have h := pow64 (i := i.toNat) (by omega)
  have e : min i.toNat IntKind.u64.bits = i.toNat := by
    have : IntKind.u64.bits = 64 := rfl
    omega
  have e2 : (2 : Int) ^ i.toNat = ((2 ^ i.toNat : Nat) : Int) := (Int.natCast_pow 2 _).symm
  unfold bitN
  rw [if_pos hi, Int.one_mul, e, e2]
  generalize 2 ^ i.toNat = k at *
  exact u64w ⟨by omega, by omega⟩
set_option maxHeartbeats 1000000 in
theorem good_pure (i : Int) : Pure Tryz.prog (fun _ => True) 123 [.int .i64 i] (.bool (goodB i)) := by
  intro w0 H hT
  refine L_enter Tryz.func123 rfl Tryz.ntmps123 rfl rfl ?_
  refine W_sr ?_
  refine W_assign rfl rfl ?_
  refine W_nil ?_
  refine W_sr ?_
  refine W_move rfl rfl ?_
  refine W_bin rfl rfl b_geq rfl ?_
  refine W_move rfl rfl ?_
  apply W_and
  iterate 4 exact rfl
  case h1 =>
    intro hg2
    refine W_gyes rfl rfl ?_
    refine W_move rfl rfl ?_
    refine W_gyes rfl rfl ?_
    refine W_bin rfl rfl b_lss rfl ?_
    exact W_met rfl zR
  refine W_assign rfl rfl ?_
  refine W_nil ?_
  refine W_ret1m (H2 := H) Tryz.results123 rfl (.nil _) zH ?_
  exact ⟨rfl, rfl⟩
set_option maxHeartbeats 1000000 in
theorem bit_pure (i : Int) : Pure Tryz.prog (fun _ => True) 96 [.int .i64 i] (.int .u64 (bitN i : Nat)) := by
  intro w0 H hT
  refine L_enter Tryz.func96 rfl Tryz.ntmps96 rfl rfl ?_
  refine W_sr ?_
  refine W_assign rfl rfl ?_
  refine W_nil ?_
  refine W_seq ?_
  refine W_sr ?_
  refine W_move rfl rfl ?_
  refine W_callp (.cons rfl .nil) Tryz.call123 rfl (T := fun _ => True) trivial (good_pure _) ?_
  refine W_not rfl rfl ?_
  refine W_nil ?_
  refine W_condS rfl (fun c0 => ?_) (fun c0 => ?_)
  · skip
    refine W_sr ?_
    refine W_assign rfl rfl ?_
    refine W_nil ?_
    refine W_ret1m (H2 := H) Tryz.results96 rfl (.nil _) zH ?_
    exact ⟨by unfold bitN; rw [if_neg (by intro h; have : goodB i = true := (by unfold goodB; simp [h.1, h.2]); simp [this] at c0)]; rfl, rfl⟩
  · skip
    refine W_skip ?_
    refine W_sr ?_
    refine W_move rfl rfl ?_
    have hi : 0 ≤ i ∧ i < 64 := by
      have : goodB i = true := by cases h : goodB i <;> simp_all
      unfold goodB at this
      simpa using this
    refine W_conv rfl ty3 ty163 (u64w (by omega)) rfl ?_
    refine W_bin rfl rfl (b_shl (by omega) (shl_one hi)) rfl ?_
    refine W_assign rfl rfl ?_
    refine W_nil ?_
    refine W_ret1m (H2 := H) Tryz.results96 rfl (.nil _) zH ?_
    exact ⟨rfl, rfl⟩
def withL (m : Nat) (l : List Int) : Nat := l.foldl (fun m i => m ||| bitN i) m
def outL (m : Nat) (l : List Int) : Nat := l.foldl (fun m i => m &&& (18446744073709551615 - bitN i)) m
theorem withL_ok : ∀ (l : List Int) {m : Nat}, m < 18446744073709551616 → withL m l < 18446744073709551616
  | [], _, h => h
  | i :: l, _, h => withL_ok l (Nat.or_lt_two_pow (n := 64) h (bitN_lt i))
theorem outL_ok : ∀ (l : List Int) {m : Nat}, m < 18446744073709551616 → outL m l < 18446744073709551616
  | [], _, h => h
  | i :: l, _, h => outL_ok l (Nat.lt_of_le_of_lt Nat.and_le_left h)
theorem takeAt {α : Type} {l : List α} {i : Nat} {x : α} (h : l[i]? = some x) : l.take (i + 1) = l.take i ++ [x] := by
  rw [List.take_add_one, h]; rfl
theorem foldl_at {β : Type} {f : β → Int → β} {b : β} {l : List Int} {i : Nat} {x : Int} (h : l[i]? = some x) : (l.take (i + 1)).foldl f b = f ((l.take i).foldl f b) x := by
  rw [takeAt h, List.foldl_append]; rfl
set_option maxHeartbeats 1000000 in
theorem with_q {w0 : World} {H : Heap} {m : Nat} {l : List Int} {ad : Option Addr} {cap : Nat} (hm : m < 18446744073709551616) (hn : l.length ≤ 4611686018427387904) (hrow : Holds w0 H ad (l.map (Value.int .i64)))  : PureAt Tryz.prog w0 H 98 [.int .u64 ((m : Nat) : Int), .slice ad l.length cap] (.int .u64 ((withL m l : Nat) : Int)) := by
  refine L_enter Tryz.func98 rfl Tryz.ntmps98 rfl rfl ?_
  refine W_sr ?_
  refine W_assign rfl rfl ?_
  refine W_nil ?_
  refine W_seq ?_
  refine W_sr ?_
  refine W_move rfl rfl ?_
  refine W_len rfl ty113 rfl rfl ?_
  refine W_move rfl rfl ?_
  refine W_nil ?_
  refine W_block ?_
  refine W_loopC (X := Nat) [(7, _), (8, _)] (fun (i : Nat) => [(0, .int .u64 ((withL m (l.take i) : Nat) : Int)), (9, .int .i64 (i : Int))]) (fun _ => _) (fun (i : Nat) => H) (fun (i : Nat) => i ≤ l.length) (fun (i : Nat) => l.length - i) 0 (Nat.zero_le _) (sub_cons rfl (sub_cons rfl (sub_nil _))) (sub_cons rfl (sub_cons rfl (sub_nil _))) rfl zH ?_
  intro i hi
  simp only [List.cons_append, List.nil_append]
  refine W_sr ?_
  refine W_bin rfl rfl b_lss rfl ?_
  refine W_nil ?_
  refine W_seq ?_
  refine W_condPS (p := (i : Int) < (l.length : Int)) rfl (by simp) (fun q0 => ?_) (fun q0 => ?_)
  · skip
    refine W_skip ?_
    refine W_seq ?_
    refine W_block ?_
    refine W_sr ?_
    obtain ⟨x, hx⟩ : ∃ x, l[i]? = some x := ⟨_, List.getElem?_eq_getElem (by omega)⟩
    obtain ⟨q0, p0, rfl, hc⟩ := hrow.at (i := i) (v := .int .i64 x) (by rw [List.getElem?_map, hx]; rfl)
    refine W_indexAddr (j := i) rfl rfl ty113 ty3 rfl (by omega) rfl rfl ?_
    refine W_load (v := .int .i64 x) rfl ty3 rfl (by rw [Nat.mul_one]; exact hc) rfl ?_
    refine W_assign rfl rfl ?_
    refine W_nil ?_
    refine W_region ?_
    refine W_move rfl rfl ?_
    refine W_move rfl rfl ?_
    refine W_callp (.cons rfl .nil) Tryz.call96 rfl (T := fun _ => True) trivial (bit_pure _) ?_
    refine W_bin rfl rfl (b_or (m := ((withL m (l.take (i + 1)) : Nat) : Int)) (by rw [show withL m (l.take (i + 1)) = _ from foldl_at hx]; exact or64 (withL_ok _ hm) (bitN_lt x))) rfl ?_
    refine W_assign rfl rfl ?_
    refine W_nil ?_
    refine W_blk ?_
    refine W_region ?_
    refine W_bin rfl rfl (b_add (m := ((i + 1 : Nat) : Int)) (by rw [i64w (by omega)]; omega)) rfl ?_
    refine W_move rfl rfl ?_
    refine W_nil ?_
    refine W_again (i + 1) (by omega) (by omega) (sub_cons rfl (sub_cons rfl (sub_cons rfl (sub_cons rfl (sub_nil _))))) rfl zH
  · skip
    refine W_exit rfl ?_
    refine W_sr ?_
    refine W_move rfl rfl ?_
    refine W_assign rfl rfl ?_
    refine W_nil ?_
    refine W_ret1m (H2 := H) Tryz.results98 rfl (.nil _) zH ?_
    obtain rfl : i = l.length := by omega
    exact ⟨by rw [List.take_length], rfl⟩
set_option maxHeartbeats 1000000 in
theorem out_q {w0 : World} {H : Heap} {m : Nat} {l : List Int} {ad : Option Addr} {cap : Nat} (hm : m < 18446744073709551616) (hn : l.length ≤ 4611686018427387904) (hrow : Holds w0 H ad (l.map (Value.int .i64)))  : PureAt Tryz.prog w0 H 99 [.int .u64 ((m : Nat) : Int), .slice ad l.length cap] (.int .u64 ((outL m l : Nat) : Int)) := by
  refine L_enter Tryz.func99 rfl Tryz.ntmps99 rfl rfl ?_
  refine W_sr ?_
  refine W_assign rfl rfl ?_
  refine W_nil ?_
  refine W_seq ?_
  refine W_sr ?_
  refine W_move rfl rfl ?_
  refine W_len rfl ty113 rfl rfl ?_
  refine W_move rfl rfl ?_
  refine W_nil ?_
  refine W_block ?_
  refine W_loopC (X := Nat) [(7, _), (8, _)] (fun (i : Nat) => [(0, .int .u64 ((outL m (l.take i) : Nat) : Int)), (9, .int .i64 (i : Int))]) (fun _ => _) (fun (i : Nat) => H) (fun (i : Nat) => i ≤ l.length) (fun (i : Nat) => l.length - i) 0 (Nat.zero_le _) (sub_cons rfl (sub_cons rfl (sub_nil _))) (sub_cons rfl (sub_cons rfl (sub_nil _))) rfl zH ?_
  intro i hi
  simp only [List.cons_append, List.nil_append]
  refine W_sr ?_
  refine W_bin rfl rfl b_lss rfl ?_
  refine W_nil ?_
  refine W_seq ?_
  refine W_condPS (p := (i : Int) < (l.length : Int)) rfl (by simp) (fun q0 => ?_) (fun q0 => ?_)
  · skip
    refine W_skip ?_
    refine W_seq ?_
    refine W_block ?_
    refine W_sr ?_
    obtain ⟨x, hx⟩ : ∃ x, l[i]? = some x := ⟨_, List.getElem?_eq_getElem (by omega)⟩
    obtain ⟨q0, p0, rfl, hc⟩ := hrow.at (i := i) (v := .int .i64 x) (by rw [List.getElem?_map, hx]; rfl)
    refine W_indexAddr (j := i) rfl rfl ty113 ty3 rfl (by omega) rfl rfl ?_
    refine W_load (v := .int .i64 x) rfl ty3 rfl (by rw [Nat.mul_one]; exact hc) rfl ?_
    refine W_assign rfl rfl ?_
    refine W_nil ?_
    refine W_region ?_
    refine W_move rfl rfl ?_
    refine W_move rfl rfl ?_
    refine W_callp (.cons rfl .nil) Tryz.call96 rfl (T := fun _ => True) trivial (bit_pure _) ?_
    refine W_bin rfl rfl (b_andNot (m := ((outL m (l.take (i + 1)) : Nat) : Int)) (by rw [show outL m (l.take (i + 1)) = _ from foldl_at hx]; exact andNot64 (outL_ok _ hm) (bitN_lt x))) rfl ?_
    refine W_assign rfl rfl ?_
    refine W_nil ?_
    refine W_blk ?_
    refine W_region ?_
    refine W_bin rfl rfl (b_add (m := ((i + 1 : Nat) : Int)) (by rw [i64w (by omega)]; omega)) rfl ?_
    refine W_move rfl rfl ?_
    refine W_nil ?_
    refine W_again (i + 1) (by omega) (by omega) (sub_cons rfl (sub_cons rfl (sub_cons rfl (sub_cons rfl (sub_nil _))))) rfl zH
  · skip
    refine W_exit rfl ?_
    refine W_sr ?_
    refine W_move rfl rfl ?_
    refine W_assign rfl rfl ?_
    refine W_nil ?_
    refine W_ret1m (H2 := H) Tryz.results99 rfl (.nil _) zH ?_
    obtain rfl : i = l.length := by omega
    exact ⟨by rw [List.take_length], rfl⟩
end Go.Proofs.YtphdlpmnidiliaaGreatDoor
namespace Go.Proofs.YtphdlpmnidiliaaGreatDoor
open Go Go.Sl
attribute [local irreducible] W
open Go.Lib in
def Tab (w : World) : Prop := ∀ j, j < 64 → w.cell? ⟨0, j, none⟩ = some (.int .u8 ((deBruijn64tab.getD j 0 : Nat) : Int))
open Go.Lib in
theorem low_bit {r : Nat} (h0 : r ≠ 0) (h : r < 18446744073709551616) : ctz 64 r < 64 ∧ r.testBit (ctz 64 r) = true ∧ (∀ i, i < ctz 64 r → r.testBit i = false) ∧ ∀ i, (r &&& (r - 1)).testBit i = (r.testBit i && decide (i ≠ ctz 64 r)) := by
  obtain ⟨m, hm, hk⟩ := ctzFrom_spec 64 r (by omega) (by simpa using h)
  have hc : ctz 64 r = ctzFrom 64 r := if_neg h0
  rw [hc]
  generalize ctzFrom 64 r = k at *
  have hp : 0 < 2 ^ k := Nat.two_pow_pos k
  have e1 : r = 2 ^ k * (2 * m + 1) + 0 := by omega
  have e2 : r - 1 = 2 ^ k * (2 * m) + (2 ^ k - 1) := by
    rw [hm, Nat.mul_add, Nat.mul_one]; omega
  have b1 : ∀ i, r.testBit i = if i < k then false else (2 * m + 1).testBit (i - k) := fun i => by
    rw [e1, Nat.testBit_two_pow_mul_add _ hp]; simp
  have b2 : ∀ i, (r - 1).testBit i = if i < k then true else (2 * m).testBit (i - k) := fun i => by
    rw [e2, Nat.testBit_two_pow_mul_add _ (by omega), Nat.testBit_two_pow_sub_one]
    split <;> simp_all
  refine ⟨hk, ?_, fun i hi => ?_, fun i => ?_⟩
  · rw [b1, if_neg (by omega), Nat.sub_self, Nat.testBit_zero]; simp
  · rw [b1, if_pos hi]
  · rw [Nat.testBit_and, b1, b2]
    by_cases c1 : i < k
    · rw [if_pos c1, if_pos c1]; rfl
    · rw [if_neg c1, if_neg c1]
      by_cases c2 : i = k
      · subst c2; rw [Nat.sub_self, Nat.testBit_zero, Nat.testBit_zero]; simp
      · obtain ⟨t, ht⟩ : ∃ t, i - k = t + 1 := ⟨i - k - 1, by omega⟩
        rw [ht, Nat.testBit_succ, Nat.testBit_succ, show (2 * m + 1) / 2 = m by omega, show 2 * m / 2 = m by omega]
        simp [c2]
def nextN (m : Nat) (f : Int) : Option Nat := (List.range 64).find? (fun i => m.testBit i && decide (f ≤ (i : Int)))
theorem nextN_some {m i : Nat} {f : Int} (hi : i < 64) (hb : m.testBit i = true) (hf : f ≤ (i : Int)) (hl : ∀ j, j < i → m.testBit j = true → (j : Int) < f) : nextN m f = some i := by
  unfold nextN
  rw [List.find?_range_eq_some]
  refine ⟨by rw [hb, decide_eq_true hf]; rfl, List.mem_range.2 hi, fun j hj => ?_⟩
  cases h : m.testBit j with
  | false => rfl
  | true => have := hl j hj h; rw [decide_eq_false (by omega)]; rfl
theorem nextN_none {m : Nat} {f : Int} (hl : ∀ j, m.testBit j = true → (j : Int) < f) : nextN m f = none := by
  unfold nextN
  rw [List.find?_eq_none]
  intro j _ h
  rw [Bool.and_eq_true] at h
  have := hl j h.1
  have := of_decide_eq_true h.2
  omega
def nextV (m : Nat) (f : Int) : Value := match nextN m f with
  | some i => .tuple #[.int .i64 (i : Int), .bool true]
  | none => .tuple #[.int .i64 0, .bool false]
theorem mulW (a b : Nat) : IntKind.u64.wrap ((a : Int) * (b : Int)) = ((a * b % 18446744073709551616 : Nat) : Int) := by
  have e : IntKind.u64.wrap ((a : Int) * (b : Int)) = ((a : Int) * (b : Int)) % 18446744073709551616 := by simp [IntKind.wrap, IntKind.signed, IntKind.bits]
  rw [e, ← Int.natCast_mul]; omega
theorem shr58 (x : Nat) : Int.fdiv (x : Int) (2 ^ (min (58 : Int).toNat IntKind.u64.bits)) = ((x / 288230376151711744 : Nat) : Int) := by
  have e : (2 : Int) ^ (min (58 : Int).toNat IntKind.u64.bits) = 288230376151711744 := by decide
  rw [e, Int.fdiv_eq_ediv_of_nonneg _ (by decide)]; omega
open Go.Lib in
set_option maxHeartbeats 1000000 in
theorem tz_pure {x : Nat} (hx : x < 18446744073709551616) : Pure Tryz.prog (Tab) 146 [.int .u64 ((x : Nat) : Int)] (.int .i64 ((ctz 64 x : Nat) : Int)) := by
  intro w0 H hT
  refine L_enter Tryz.func146 rfl Tryz.ntmps146 rfl rfl ?_
  refine W_sr ?_
  refine W_assign rfl rfl ?_
  refine W_nil ?_
  refine W_seq ?_
  refine W_sr ?_
  refine W_move rfl rfl ?_
  refine W_bin rfl rfl b_eql rfl ?_
  refine W_nil ?_
  refine W_condPS (p := x = 0) rfl (by rw [decide_eq_true_eq]; exact Int.ofNat_inj) (fun c0 => ?_) (fun c0 => ?_)
  · skip
    refine W_sr ?_
    refine W_assign rfl rfl ?_
    refine W_nil ?_
    refine W_ret1m (H2 := H) Tryz.results146 rfl (.nil _) zH ?_
    exact ⟨by rw [c0]; rfl, rfl⟩
  · skip
    refine W_skip ?_
    refine W_sr ?_
    refine W_move rfl rfl ?_
    refine W_move rfl rfl ?_
    have hx0 : x ≠ 0 := fun e => c0 (by rw [e])
    obtain ⟨hlow, hk⟩ := lowest_bit 64 x hx0 (by simpa using hx)
    obtain ⟨hi64, htab⟩ := deBruijn64_at _ hk
    refine W_neg rfl (m := ((18446744073709551616 - x : Nat) : Int)) (by have e : IntKind.u64.wrap (0 - (x : Int)) = (0 - (x : Int)) % 18446744073709551616 := by simp [IntKind.wrap, IntKind.signed, IntKind.bits]
                                                                         rw [e]; omega) rfl ?_
    refine W_bin rfl rfl (b_and (m := ((2 ^ ctz 64 x : Nat) : Int)) ((and64 hx (by omega)).trans (congrArg (fun z : Nat => (z : Int)) hlow))) rfl ?_
    refine W_bin rfl rfl (b_mul (m := ((2 ^ ctz 64 x * 285870213051353865 % 18446744073709551616 : Nat) : Int)) (mulW _ _)) rfl ?_
    refine W_bin rfl rfl (b_shr (by decide) (m := ((2 ^ ctz 64 x * 285870213051353865 % 18446744073709551616 / 288230376151711744 : Nat) : Int)) (shr58 _)) rfl ?_
    generalize 2 ^ ctz 64 x * 285870213051353865 % 18446744073709551616 / 288230376151711744 = jj at *
    refine W_indexAddrA (j := jj) rfl rfl ty213 ty5 rfl hi64 rfl rfl ?_
    refine W_load (v := .int .u8 ((ctz 64 x : Nat) : Int)) rfl ty5 rfl (Cell.old (by have h := hT jj hi64; rw [htab] at h; rw [Nat.mul_one, Nat.zero_add]; exact h)) rfl ?_
    refine W_conv rfl ty5 ty3 (i64w (by omega)) rfl ?_
    refine W_assign rfl rfl ?_
    refine W_nil ?_
    refine W_ret1m (H2 := H) Tryz.results146 rfl (.nil _) zH ?_
    exact ⟨rfl, rfl⟩
end Go.Proofs.YtphdlpmnidiliaaGreatDoor
namespace Go.Proofs.YtphdlpmnidiliaaGreatDoor
open Go Go.Sl
attribute [local irreducible] W
theorem and_lt {r : Nat} (h0 : r ≠ 0) : r &&& (r - 1) < r := Nat.lt_of_le_of_lt Nat.and_le_right (by omega)
open Go.Lib in
set_option maxHeartbeats 1000000 in
theorem bits_iter {w0 : World} {H : Heap} {lp b1 m : Nat} (hT : Tab w0) (J : Nat → Heap → Prop) (S : Heap → Prop) (hm : m < 18446744073709551616)
    (hround : ∀ r Hi, r ≠ 0 → r < 18446744073709551616 → J r Hi → RoundC Tryz.prog w0 lp #[.int .i64 ((ctz 64 r : Nat) : Int)] ((b1, .cells 122 1 [.int .u64 (m : Int)]) :: Hi) (fun v H' => ∃ Hi', HSub H' ((b1, .cells 122 1 [.int .u64 (m : Int)]) :: Hi') ∧ (v = .bool true ∧ J (r &&& (r - 1)) Hi' ∨ v = .bool false ∧ S Hi'))) (hJ : J m H) :
    LCalls Tryz.prog w0 145 #[.func (.yield lp) #[] #[], .pointer (some ⟨b1, 0, none⟩)] ((b1, .cells 122 1 [.int .u64 (m : Int)]) :: H) (fun _ H' => ∃ Hi', HSub H' ((b1, .cells 122 1 [.int .u64 (m : Int)]) :: Hi') ∧ (J 0 Hi' ∨ S Hi')) := by
  refine L_enter (l := [.func (.yield lp) #[] #[], .pointer (some ⟨b1, 0, none⟩)]) Tryz.func145 rfl Tryz.ntmps145 rfl rfl ?_
  refine W_sr ?_
  refine W_load rfl ty122 rfl (Cell.own zM rfl) rfl ?_
  refine W_assign rfl rfl ?_
  refine W_nil ?_
  refine W_block ?_
  refine W_loopC (X := (Nat × Heap)) [(0, _)] (fun (x : (Nat × Heap)) => [(3, .int .u64 (x.1 : Int))]) (fun _ => _) (fun (x : (Nat × Heap)) => (b1, .cells 122 1 [.int .u64 (m : Int)]) :: x.2) (fun (x : (Nat × Heap)) => x.1 < 18446744073709551616 ∧ J x.1 x.2) (fun (x : (Nat × Heap)) => x.1) (m, H) ⟨hm, hJ⟩ (sub_cons rfl (sub_nil _)) (sub_cons rfl (sub_nil _)) rfl (HSub.refl _) ?_
  rintro ⟨r, Hi⟩ ⟨hr, hJi⟩
  dsimp only at hr hJi ⊢
  simp only [List.cons_append, List.nil_append]
  refine W_seq ?_
  refine W_sr ?_
  refine W_move rfl rfl ?_
  refine W_bin rfl rfl b_neq rfl ?_
  refine W_nil ?_
  refine W_condPS (p := r ≠ 0) rfl (neqN r 0) (fun q0 => ?_) (fun q0 => ?_)
  · skip
    refine W_skip ?_
    refine W_seq ?_
    refine W_block ?_
    refine W_sr ?_
    refine W_move rfl rfl ?_
    refine W_move rfl rfl ?_
    refine W_callp (.cons rfl .nil) Tryz.call146 rfl hT (tz_pure hr) ?_
    refine W_yield rfl (.cons rfl .nil) rfl (hround r Hi q0 hr hJi) ?_
    rintro v H' ⟨Hi', hsub, ⟨rfl, hJ'⟩ | ⟨rfl, hS'⟩⟩
    · skip
      refine W_hsub hsub ?_
      refine W_not rfl rfl ?_
      refine W_nil ?_
      refine W_condF rfl rfl ?_
      refine W_skip ?_
      refine W_blk ?_
      refine W_region ?_
      refine W_move rfl rfl ?_
      refine W_move rfl rfl ?_
      refine W_bin rfl rfl (b_sub (m := ((r - 1 : Nat) : Int)) (by rw [u64w (by omega)]; omega)) rfl ?_
      refine W_bin rfl rfl (b_and (m := ((r &&& (r - 1) : Nat) : Int)) (and64 hr (by omega))) rfl ?_
      refine W_assign rfl rfl ?_
      refine W_nil ?_
      refine W_again (r &&& (r - 1), Hi') ⟨by have := and_lt q0; show r &&& (r - 1) < _; omega, hJ'⟩ (and_lt q0) (sub_cons rfl (sub_cons rfl (sub_nil _))) rfl (HSub.refl _)
    · skip
      refine W_hsub hsub ?_
      refine W_not rfl rfl ?_
      refine W_nil ?_
      refine W_condT rfl rfl ?_
      refine W_ret0m Tryz.results145 (.nil _) (.refl _) ?_
      exact ⟨Hi', .refl _, .inr hS'⟩
  · skip
    refine W_exit rfl ?_
    refine W_end0m Tryz.results145 (.nil _) (.refl _) ?_
    obtain rfl : r = 0 := Classical.not_not.1 q0
    exact ⟨Hi, .refl _, .inl hJi⟩
set_option maxHeartbeats 1000000 in
theorem all_L {w0 : World} {H : Heap} {m : Nat}  : LCalls Tryz.prog w0 135 #[.int .u64 ((m : Nat) : Int)] (H) (fun v H' => ∃ b1, v = .func (.func 145) #[] #[.pointer (some ⟨b1, 0, none⟩)] ∧ H' = (b1, .cells 122 1 [.int .u64 (m : Int)]) :: H) := by
  refine L_enter (l := [.int .u64 ((m : Nat) : Int)]) Tryz.func135 rfl Tryz.ntmps135 rfl rfl ?_
  refine W_sr ?_
  refine W_box rfl rfl rfl (fun b1 => ?_)
  refine W_assign rfl rfl ?_
  refine W_nil ?_
  refine W_sr ?_
  refine W_makeFunc .nil (.cons rfl .nil) rfl ?_
  refine W_assign rfl rfl ?_
  refine W_nil ?_
  refine W_ret1m Tryz.results135 rfl (.nil _) (.refl _) ?_
  exact ⟨b1, rfl, rfl⟩
set_option maxHeartbeats 1000000 in
theorem nx_q {w0 : World} {H : Heap} {bf : Nat} {f i : Int} (hb : (bf, .cells 3 1 [.int .i64 f]) ∈ H)  : PureAt Tryz.prog w0 H 125 [.int .i64 i, .pointer (some ⟨bf, 0, none⟩)] (.bool (decide (f ≤ i))) := by
  refine L_enter Tryz.func125 rfl Tryz.ntmps125 rfl rfl ?_
  refine W_sr ?_
  refine W_assign rfl rfl ?_
  refine W_nil ?_
  refine W_sr ?_
  refine W_move rfl rfl ?_
  refine W_load (v := .int .i64 f) rfl ty3 rfl (Cell.own hb rfl) rfl ?_
  refine W_bin rfl rfl b_geq rfl ?_
  refine W_assign rfl rfl ?_
  refine W_nil ?_
  refine W_ret1m (H2 := H) Tryz.results125 rfl (.nil _) zH ?_
  exact ⟨rfl, rfl⟩
set_option maxHeartbeats 2000000 in
theorem first_L {w0 : World} {H : Heap} {m bf : Nat} {f : Int} (hT : Tab w0) (hm : m < 18446744073709551616) :
    LCalls Tryz.prog w0 124 #[.int .u64 (m : Int), .func (.func 125) #[] #[.pointer (some ⟨bf, 0, none⟩)]] ((bf, .cells 3 1 [.int .i64 f]) :: H) (fun v H' => v = nextV m f ∧ H' = (bf, .cells 3 1 [.int .i64 f]) :: H) := by
  refine L_enter (l := [.int .u64 (m : Int), .func (.func 125) #[] #[.pointer (some ⟨bf, 0, none⟩)]]) Tryz.func124 rfl Tryz.ntmps124 rfl rfl ?_
  refine W_sr ?_
  refine W_box rfl rfl rfl (fun b3 => ?_)
  refine W_alloc (l := [.int .i64 0]) ty3 rfl rfl (fun b4 => ?_)
  refine W_alloc (l := [.bool false]) ty4 rfl rfl (fun b5 => ?_)
  refine W_nil ?_
  refine W_seq ?_
  refine W_sr ?_
  refine W_move rfl rfl ?_
  refine W_call (.cons rfl .nil) Tryz.call135 rfl (all_L (m := m)) ?_
  rintro v H' ⟨b1, rfl, rfl⟩
  refine W_nil ?_
  refine W_block ?_
  refine W_rangeFunc rfl Tryz.call145 ?_
  intro lp D r hst hpd hps hasg hbody hA
  have hr := loop_ready hst hpd
  show LCalls _ _ _ #[_, _] _ _
  refine ((bits_iter (b1 := b1) (m := m) (H := (lp, .obj (.loop r)) :: (D, .obj (.deferred (some []))) :: (b5, .cells 4 1 [.bool false]) :: (b4, .cells 3 1 [.int .i64 0]) :: (b3, .cells 168 1 [.func (.func 125) #[] #[.pointer (some ⟨bf, 0, none⟩)]]) :: (bf, .cells 3 1 [.int .i64 f]) :: H) hT (fun q Hi => ((∀ j, m.testBit j = true → q.testBit j = true ∨ (j : Int) < f) ∧ ∀ j, q.testBit j = true → m.testBit j = true) ∧ Hi = (lp, .obj (.loop r)) :: (D, .obj (.deferred (some []))) :: (b5, .cells 4 1 [.bool false]) :: (b4, .cells 3 1 [.int .i64 0]) :: (b3, .cells 168 1 [.func (.func 125) #[] #[.pointer (some ⟨bf, 0, none⟩)]]) :: (bf, .cells 3 1 [.int .i64 f]) :: H) (fun Hi => ∃ i : Nat, nextN m f = some i ∧ Hi = (lp, .obj (.loop (Loop.at r .done (some .ret)))) :: (D, .obj (.deferred (some []))) :: (b5, .cells 4 1 [.bool true]) :: (b4, .cells 3 1 [.int .i64 (i : Int)]) :: (b3, .cells 168 1 [.func (.func 125) #[] #[.pointer (some ⟨bf, 0, none⟩)]]) :: (bf, .cells 3 1 [.int .i64 f]) :: H) hm ?_ ⟨⟨fun j hj => .inl hj, fun j hj => hj⟩, rfl⟩).hsub zH).mono ?_
  · intro q Hi hq0 hq hJ
    obtain ⟨⟨hj1, hj2⟩, rfl⟩ := hJ
    obtain ⟨hk, hkb, hkl, hka⟩ := low_bit hq0 hq
    obtain ⟨k, hkk⟩ : ∃ k, k = Go.Lib.ctz 64 q := ⟨_, rfl⟩
    rw [← hkk] at hk hkb hkl hka ⊢
    refine round_intro hst hpd hA hps rfl hasg rfl rfl rfl zT ?_
    refine W_region ?_
    refine W_assign rfl rfl ?_
    refine W_nil ?_
    refine W_begin hst hpd zT hbody ?_
    refine W_block ?_
    refine W_sr ?_
    refine W_load (v := .func (.func 125) #[] #[.pointer (some ⟨bf, 0, none⟩)]) rfl ty168 rfl (Cell.own (b := b3) zM rfl) rfl ?_
    refine W_move rfl rfl ?_
    refine W_callqv (fa := []) (ca := [.pointer (some ⟨bf, 0, none⟩)]) rfl (.cons rfl .nil) rfl Tryz.call125 rfl (nx_q (bf := bf) (f := f) zM) ?_
    refine W_nil ?_
    refine W_condPS (p := f ≤ (k : Int)) rfl (by simp) (fun g0 => ?_) (fun g0 => ?_)
    · skip
      refine W_sr ?_
      refine W_move rfl rfl ?_
      refine W_store (l' := [.int .i64 (k : Int)]) rfl rfl ty3 rfl rfl (b := b4) zM rfl rfl zU ?_
      refine W_store (l' := [.bool true]) rfl rfl ty4 rfl rfl (b := b5) zM rfl rfl zU ?_
      refine W_nil ?_
      refine W_retround zT ?_
      exact ⟨(lp, .obj (.loop (Loop.at r .done (some .ret)))) :: (D, .obj (.deferred (some []))) :: (b5, .cells 4 1 [.bool true]) :: (b4, .cells 3 1 [.int .i64 (k : Int)]) :: (b3, .cells 168 1 [.func (.func 125) #[] #[.pointer (some ⟨bf, 0, none⟩)]]) :: (bf, .cells 3 1 [.int .i64 f]) :: H, zH, .inr ⟨rfl, k, nextN_some hk (hj2 k hkb) g0 (fun j hj hb => (hj1 j hb).elim (fun h => by rw [hkl j hj] at h; cases h) id), rfl⟩⟩
      skip
    · skip
      refine W_skip ?_
      refine W_blk ?_
      refine W_endround zT ?_
      rw [hr]
      refine ⟨(lp, .obj (.loop r)) :: (D, .obj (.deferred (some []))) :: (b5, .cells 4 1 [.bool false]) :: (b4, .cells 3 1 [.int .i64 0]) :: (b3, .cells 168 1 [.func (.func 125) #[] #[.pointer (some ⟨bf, 0, none⟩)]]) :: (bf, .cells 3 1 [.int .i64 f]) :: H, zH, .inl ⟨rfl, ⟨fun j hb => ?_, fun j hb => hj2 j ?_⟩, rfl⟩⟩
      · rcases hj1 j hb with h | h
        · by_cases e : j = k
          · subst e; exact .inr (by omega)
          · exact .inl (by rw [hka, h, decide_eq_true e]; rfl)
        · exact .inr h
      · rw [hka, Bool.and_eq_true] at hb; exact hb.1
  · intro _ H' hp
    obtain ⟨Hi', hs, hJS⟩ := hp
    rcases hJS with ⟨⟨hj1, hj2⟩, rfl⟩ | ⟨i, hi, rfl⟩
    case inr =>
      refine ⟨.done, some .ret, (b1, .cells 122 1 [.int .u64 (m : Int)]) :: (D, .obj (.deferred (some []))) :: (b5, .cells 4 1 [.bool true]) :: (b4, .cells 3 1 [.int .i64 (i : Int)]) :: (b3, .cells 168 1 [.func (.func 125) #[] #[.pointer (some ⟨bf, 0, none⟩)]]) :: (bf, .cells 3 1 [.int .i64 f]) :: H, hs.trans zH, by decide, ?_⟩
      show W _ _ _ _ _ _ _ _ _
      refine W_ret2G (H2 := (bf, .cells 3 1 [.int .i64 f]) :: H) Tryz.results124 (.cons zT (.nil _)) (.one rfl ty3 rfl (Cell.own (b := b4) zM rfl)) (.one rfl ty4 rfl (Cell.own (b := b5) zM rfl)) zH ?_
      exact ⟨by unfold nextV; rw [hi], rfl⟩
    refine ⟨.ready, none, (b1, .cells 122 1 [.int .u64 (m : Int)]) :: (D, .obj (.deferred (some []))) :: (b5, .cells 4 1 [.bool false]) :: (b4, .cells 3 1 [.int .i64 0]) :: (b3, .cells 168 1 [.func (.func 125) #[] #[.pointer (some ⟨bf, 0, none⟩)]]) :: (bf, .cells 3 1 [.int .i64 f]) :: H, by rw [hr]; exact hs.trans zH, by decide, ?_⟩
    show W _ _ _ _ _ _ _ _ _
    refine W_blk ?_
    refine W_sr ?_
    refine W_store (l' := [.int .i64 0]) rfl rfl ty3 rfl rfl (b := b4) zM rfl rfl zU ?_
    refine W_store (l' := [.bool false]) rfl rfl ty4 rfl rfl (b := b5) zM rfl rfl zU ?_
    refine W_nil ?_
    refine W_ret2G (H2 := (bf, .cells 3 1 [.int .i64 f]) :: H) Tryz.results124 (.cons zT (.nil _)) (.one rfl ty3 rfl (Cell.own (b := b4) zM rfl)) (.one rfl ty4 rfl (Cell.own (b := b5) zM rfl)) zH ?_
    exact ⟨by unfold nextV; rw [nextN_none (fun j hb => (hj1 j hb).resolve_left (by simp))], rfl⟩
end Go.Proofs.YtphdlpmnidiliaaGreatDoor
namespace Go.Proofs.YtphdlpmnidiliaaGreatDoor
open Go Go.Sl
attribute [local irreducible] W
set_option maxHeartbeats 1000000 in
theorem next_pure {m : Nat} {f : Int} (hm : m < 18446744073709551616) : Pure Tryz.prog (Tab) 97 [.int .u64 ((m : Nat) : Int), .int .i64 f] (nextV m f) := by
  intro w0 H hT
  refine L_enter Tryz.func97 rfl Tryz.ntmps97 rfl rfl ?_
  refine W_sr ?_
  refine W_box rfl rfl rfl (fun b3 => ?_)
  refine W_assign rfl rfl ?_
  refine W_assign rfl rfl ?_
  refine W_nil ?_
  refine W_sr ?_
  refine W_move rfl rfl ?_
  refine W_makeFunc .nil (.cons rfl .nil) rfl ?_
  refine W_call (.cons rfl (.cons rfl .nil)) Tryz.call124 rfl ((first_L (m := m) (bf := b3) (f := f) (H := H) hT hm).hsub (.refl _)) ?_
  rintro v H' ⟨rfl, rfl⟩
  rcases hn : nextN m f with _ | i
  · skip
    rw [show nextV m f = .tuple #[.int .i64 0, .bool false] from by unfold nextV; rw [hn]]
    refine W_extract rfl rfl rfl ?_
    refine W_extract rfl rfl rfl ?_
    refine W_assign rfl rfl ?_
    refine W_assign rfl rfl ?_
    refine W_nil ?_
    refine W_ret2m (H2 := H) Tryz.results97 rfl rfl (.nil _) zH ?_
    exact ⟨rfl, rfl⟩
  · skip
    rw [show nextV m f = .tuple #[.int .i64 (i : Int), .bool true] from by unfold nextV; rw [hn]]
    refine W_extract rfl rfl rfl ?_
    refine W_extract rfl rfl rfl ?_
    refine W_assign rfl rfl ?_
    refine W_assign rfl rfl ?_
    refine W_nil ?_
    refine W_ret2m (H2 := H) Tryz.results97 rfl rfl (.nil _) zH ?_
    exact ⟨rfl, rfl⟩
end Go.Proofs.YtphdlpmnidiliaaGreatDoor
namespace Go.Proofs.YtphdlpmnidiliaaGreatDoor
open Go Go.Sl
attribute [local irreducible] W
theorem shrN (x k : Nat) (hk : k < 64) : Int.fdiv (x : Int) (2 ^ (min (k : Int).toNat IntKind.u64.bits)) = ((x >>> k : Nat) : Int) := by
  have e0 : min (k : Int).toNat IntKind.u64.bits = k := by
    have : IntKind.u64.bits = 64 := rfl
    omega
  rw [e0, Nat.shiftRight_eq_div_pow, Int.fdiv_eq_ediv_of_nonneg _ (by exact Int.le_of_lt (Int.pow_pos (by decide)))]
  rw [show (2 : Int) ^ k = ((2 ^ k : Nat) : Int) from (Int.natCast_pow 2 k).symm]
  exact (Int.natCast_ediv _ _).symm
theorem shr_mul (x k : Nat) : (x >>> k) * 2 ^ k ≤ x := by rw [Nat.shiftRight_eq_div_pow]; exact Nat.div_mul_le_self x _
theorem and127 {a : Nat} (ha : a < 9223372036854775808) : bitsOf .and .i64 (a : Int) 127 = ((a % 128 : Nat) : Int) := by
  have ea : BitVec.ofInt 64 (a : Int) = BitVec.ofNat 64 a := by simp
  have eb : BitVec.ofInt 64 (127 : Int) = BitVec.ofNat 64 127 := by decide
  show IntKind.i64.wrap (((BitVec.ofInt 64 (a : Int) &&& BitVec.ofInt 64 (127 : Int)).toNat : Nat) : Int) = _
  rw [ea, eb, BitVec.toNat_and, BitVec.toNat_ofNat, BitVec.toNat_ofNat, Nat.mod_eq_of_lt (show a < 2 ^ 64 by omega), Nat.mod_eq_of_lt (show 127 < 2 ^ 64 by decide), show (127 : Nat) = 2 ^ 7 - 1 from rfl, Nat.and_two_pow_sub_one_eq_mod]
  exact i64w ⟨by omega, by omega⟩
set_option maxHeartbeats 1000000 in
theorem ones_pure {x : Nat} (hx : x < 18446744073709551616) : Pure Tryz.prog (fun _ => True) 100 [.int .u64 ((x : Nat) : Int)] (.int .i64 ((popN 64 x : Nat) : Int)) := by
  intro w0 H hT
  obtain ⟨s1, es1⟩ : ∃ y : Nat, y = x >>> 1 := ⟨_, rfl⟩
  obtain ⟨p1, ep1⟩ : ∃ y : Nat, y = s1 &&& 6148914691236517205 := ⟨_, rfl⟩
  obtain ⟨q1, eq1⟩ : ∃ y : Nat, y = x &&& 6148914691236517205 := ⟨_, rfl⟩
  obtain ⟨a, ea⟩ : ∃ y : Nat, y = p1 + q1 := ⟨_, rfl⟩
  obtain ⟨s2, es2⟩ : ∃ y : Nat, y = a >>> 2 := ⟨_, rfl⟩
  obtain ⟨p2, ep2⟩ : ∃ y : Nat, y = s2 &&& 3689348814741910323 := ⟨_, rfl⟩
  obtain ⟨q2, eq2⟩ : ∃ y : Nat, y = a &&& 3689348814741910323 := ⟨_, rfl⟩
  obtain ⟨b, eb⟩ : ∃ y : Nat, y = p2 + q2 := ⟨_, rfl⟩
  obtain ⟨s3, es3⟩ : ∃ y : Nat, y = b >>> 4 := ⟨_, rfl⟩
  obtain ⟨t3, et3⟩ : ∃ y : Nat, y = s3 + b := ⟨_, rfl⟩
  obtain ⟨c, ec⟩ : ∃ y : Nat, y = t3 &&& 1085102592571150095 := ⟨_, rfl⟩
  obtain ⟨s4, es4⟩ : ∃ y : Nat, y = c >>> 8 := ⟨_, rfl⟩
  obtain ⟨d, ed⟩ : ∃ y : Nat, y = c + s4 := ⟨_, rfl⟩
  obtain ⟨s5, es5⟩ : ∃ y : Nat, y = d >>> 16 := ⟨_, rfl⟩
  obtain ⟨f, ef⟩ : ∃ y : Nat, y = d + s5 := ⟨_, rfl⟩
  obtain ⟨s6, es6⟩ : ∃ y : Nat, y = f >>> 32 := ⟨_, rfl⟩
  obtain ⟨g, eg⟩ : ∃ y : Nat, y = f + s6 := ⟨_, rfl⟩
  have hr : popN 64 x = g % 128 := by
    rw [← ones64_is hx]
    unfold ones64
    dsimp only
    rw [eg, es6, ef, es5, ed, es4, ec, et3, es3, eb, ep2, eq2, es2, ea, ep1, eq1, es1]
  have bp1 : p1 ≤ 6148914691236517205 := ep1 ▸ Nat.and_le_right
  have bq1 : q1 ≤ 6148914691236517205 := eq1 ▸ Nat.and_le_right
  have bp2 : p2 ≤ 3689348814741910323 := ep2 ▸ Nat.and_le_right
  have bq2 : q2 ≤ 3689348814741910323 := eq2 ▸ Nat.and_le_right
  have bc : c ≤ 1085102592571150095 := ec ▸ Nat.and_le_right
  have bs1 : s1 ≤ x := es1 ▸ Nat.shiftRight_le ..
  have bs2 : s2 ≤ a := es2 ▸ Nat.shiftRight_le ..
  have bs3 : s3 ≤ b := es3 ▸ Nat.shiftRight_le ..
  have bs4 : s4 ≤ c := es4 ▸ Nat.shiftRight_le ..
  have bs5 : s5 ≤ d := es5 ▸ Nat.shiftRight_le ..
  have bs6 : s6 ≤ f := es6 ▸ Nat.shiftRight_le ..
  have bs3' : s3 * 16 ≤ b := es3 ▸ shr_mul b 4
  have bs6' : s6 * 4294967296 ≤ f := es6 ▸ shr_mul f 32
  have bs5' : s5 * 65536 ≤ d := es5 ▸ shr_mul d 16
  rw [hr]
  refine L_enter Tryz.func100 rfl Tryz.ntmps100 rfl rfl ?_
  refine W_sr ?_
  refine W_assign rfl rfl ?_
  refine W_nil ?_
  refine W_sr ?_
  refine W_move rfl rfl ?_
  refine W_bin rfl rfl (b_shr (by decide) (m := ((s1 : Nat) : Int)) ((shrN x 1 (by decide)).trans (by rw [es1]))) rfl ?_
  refine W_bin rfl rfl (b_and (m := ((p1 : Nat) : Int)) ((and64 (b := 6148914691236517205) (by omega) (by decide)).trans (by rw [ep1]))) rfl ?_
  refine W_move rfl rfl ?_
  refine W_bin rfl rfl (b_and (m := ((q1 : Nat) : Int)) ((and64 (b := 6148914691236517205) (by omega) (by decide)).trans (by rw [eq1]))) rfl ?_
  refine W_bin rfl rfl (b_add (m := ((a : Nat) : Int)) (by rw [u64w (by omega)]; omega)) rfl ?_
  refine W_assign rfl rfl ?_
  refine W_nil ?_
  refine W_sr ?_
  refine W_move rfl rfl ?_
  refine W_bin rfl rfl (b_shr (by decide) (m := ((s2 : Nat) : Int)) ((shrN a 2 (by decide)).trans (by rw [es2]))) rfl ?_
  refine W_bin rfl rfl (b_and (m := ((p2 : Nat) : Int)) ((and64 (b := 3689348814741910323) (by omega) (by decide)).trans (by rw [ep2]))) rfl ?_
  refine W_move rfl rfl ?_
  refine W_bin rfl rfl (b_and (m := ((q2 : Nat) : Int)) ((and64 (b := 3689348814741910323) (by omega) (by decide)).trans (by rw [eq2]))) rfl ?_
  refine W_bin rfl rfl (b_add (m := ((b : Nat) : Int)) (by rw [u64w (by omega)]; omega)) rfl ?_
  refine W_assign rfl rfl ?_
  refine W_nil ?_
  refine W_sr ?_
  refine W_move rfl rfl ?_
  refine W_bin rfl rfl (b_shr (by decide) (m := ((s3 : Nat) : Int)) ((shrN b 4 (by decide)).trans (by rw [es3]))) rfl ?_
  refine W_move rfl rfl ?_
  refine W_bin rfl rfl (b_add (m := ((t3 : Nat) : Int)) (by rw [u64w (by omega)]; omega)) rfl ?_
  refine W_bin rfl rfl (b_and (m := ((c : Nat) : Int)) ((and64 (b := 1085102592571150095) (by omega) (by decide)).trans (by rw [ec]))) rfl ?_
  refine W_assign rfl rfl ?_
  refine W_nil ?_
  refine W_sr ?_
  refine W_move rfl rfl ?_
  refine W_move rfl rfl ?_
  refine W_bin rfl rfl (b_shr (by decide) (m := ((s4 : Nat) : Int)) ((shrN c 8 (by decide)).trans (by rw [es4]))) rfl ?_
  refine W_bin rfl rfl (b_add (m := ((d : Nat) : Int)) (by rw [u64w (by omega)]; omega)) rfl ?_
  refine W_assign rfl rfl ?_
  refine W_nil ?_
  refine W_sr ?_
  refine W_move rfl rfl ?_
  refine W_move rfl rfl ?_
  refine W_bin rfl rfl (b_shr (by decide) (m := ((s5 : Nat) : Int)) ((shrN d 16 (by decide)).trans (by rw [es5]))) rfl ?_
  refine W_bin rfl rfl (b_add (m := ((f : Nat) : Int)) (by rw [u64w (by omega)]; omega)) rfl ?_
  refine W_assign rfl rfl ?_
  refine W_nil ?_
  refine W_sr ?_
  refine W_move rfl rfl ?_
  refine W_move rfl rfl ?_
  refine W_bin rfl rfl (b_shr (by decide) (m := ((s6 : Nat) : Int)) ((shrN f 32 (by decide)).trans (by rw [es6]))) rfl ?_
  refine W_bin rfl rfl (b_add (m := ((g : Nat) : Int)) (by rw [u64w (by omega)]; omega)) rfl ?_
  refine W_assign rfl rfl ?_
  refine W_nil ?_
  refine W_sr ?_
  refine W_move rfl rfl ?_
  refine W_conv rfl ty22 ty3 (i64w (by omega)) rfl ?_
  refine W_bin rfl rfl (b_and (m := ((g % 128 : Nat) : Int)) (and127 (by omega))) rfl ?_
  refine W_assign rfl rfl ?_
  refine W_nil ?_
  refine W_ret1m (H2 := H) Tryz.results100 rfl (.nil _) zH ?_
  exact ⟨rfl, rfl⟩
set_option maxHeartbeats 1000000 in
theorem mlen_pure {x : Nat} (hx : x < 18446744073709551616) : Pure Tryz.prog (fun _ => True) 73 [.int .u64 ((x : Nat) : Int)] (.int .i64 ((popN 64 x : Nat) : Int)) := by
  intro w0 H hT
  refine L_enter Tryz.func73 rfl Tryz.ntmps73 rfl rfl ?_
  refine W_sr ?_
  refine W_assign rfl rfl ?_
  refine W_nil ?_
  refine W_sr ?_
  refine W_move rfl rfl ?_
  refine W_callp (.cons rfl .nil) Tryz.call100 rfl (T := fun _ => True) trivial (ones_pure hx) ?_
  refine W_assign rfl rfl ?_
  refine W_nil ?_
  refine W_ret1m (H2 := H) Tryz.results73 rfl (.nil _) zH ?_
  exact ⟨rfl, rfl⟩
set_option maxHeartbeats 1000000 in
theorem full_pure {n : Nat} (h1 : 1 ≤ n) (h2 : n ≤ 64) : Pure Tryz.prog (fun _ => True) 70 [.int .i64 (n : Int)] (.int .u64 ((2 ^ n - 1 : Nat) : Int)) := by
  intro w0 H hT
  refine L_enter Tryz.func70 rfl Tryz.ntmps70 rfl rfl ?_
  refine W_sr ?_
  refine W_assign rfl rfl ?_
  refine W_nil ?_
  refine W_seq ?_
  refine W_block ?_
  refine W_sr ?_
  refine W_move rfl rfl ?_
  refine W_bin rfl rfl b_lss rfl ?_
  refine W_assign rfl rfl ?_
  refine W_nil ?_
  refine W_condF rfl (decide_eq_false (by omega)) ?_
  refine W_sr ?_
  refine W_move rfl rfl ?_
  refine W_bin rfl rfl b_geq rfl ?_
  refine W_assign rfl rfl ?_
  refine W_nil ?_
  refine W_condPS (p := n = 64) rfl (by simp; omega) (fun c0 => ?_) (fun c0 => ?_)
  · skip
    refine W_sr ?_
    refine W_assign rfl rfl ?_
    refine W_nil ?_
    refine W_ret1m (H2 := H) Tryz.results70 rfl (.nil _) zH ?_
    subst c0
    exact ⟨rfl, rfl⟩
  · skip
    refine W_skip ?_
    refine W_blk ?_
    refine W_sr ?_
    refine W_move rfl rfl ?_
    refine W_callp (.cons rfl .nil) Tryz.call96 rfl (T := fun _ => True) trivial (bit_pure _) ?_
    have hbn : bitN (n : Int) = 2 ^ n := by unfold bitN; rw [if_pos (by omega)]; rfl
    have hp := pow64 (i := n) (by omega)
    have hp0 : 0 < 2 ^ n := Nat.two_pow_pos n
    rw [hbn]
    obtain ⟨z, hz⟩ : ∃ z : Nat, z = 2 ^ n := ⟨_, rfl⟩
    rw [← hz] at hp hp0 ⊢
    refine W_bin rfl rfl (b_sub (m := ((z - 1 : Nat) : Int)) (by rw [u64w (by omega)]; omega)) rfl ?_
    refine W_assign rfl rfl ?_
    refine W_nil ?_
    refine W_ret1m (H2 := H) Tryz.results70 rfl (.nil _) zH ?_
    exact ⟨rfl, rfl⟩
set_option maxHeartbeats 1000000 in
theorem mhas_pure {m : Nat} {i : Int} (hm : m < 18446744073709551616) : Pure Tryz.prog (fun _ => True) 101 [.int .u64 ((m : Nat) : Int), .int .i64 i] (.bool (decide (m &&& bitN i ≠ 0))) := by
  intro w0 H hT
  refine L_enter Tryz.func101 rfl Tryz.ntmps101 rfl rfl ?_
  refine W_sr ?_
  refine W_assign rfl rfl ?_
  refine W_nil ?_
  refine W_sr ?_
  refine W_move rfl rfl ?_
  refine W_move rfl rfl ?_
  refine W_callp (.cons rfl .nil) Tryz.call96 rfl (T := fun _ => True) trivial (bit_pure _) ?_
  refine W_bin rfl rfl (b_and (m := ((m &&& bitN i : Nat) : Int)) (and64 hm (bitN_lt i))) rfl ?_
  refine W_bin rfl rfl b_neq rfl ?_
  rw [show decide (((m &&& bitN i : Nat) : Int) ≠ 0) = decide (m &&& bitN i ≠ 0) from decide_eq_decide.2 (by omega)]
  refine W_assign rfl rfl ?_
  refine W_nil ?_
  refine W_ret1m (H2 := H) Tryz.results101 rfl (.nil _) zH ?_
  exact ⟨rfl, rfl⟩
theorem bitN_at {i : Nat} (h : i < 64) : bitN (i : Int) = 2 ^ i := by unfold bitN; rw [if_pos (by omega)]; rfl
theorem withOne {z i : Nat} (hi : i < 64) (s : Nat) : (withL z [(i : Int)]).testBit s = (z.testBit s || decide (i = s)) := by
  show (z ||| bitN (i : Int)).testBit s = _
  rw [bitN_at hi, Nat.testBit_or, Nat.testBit_two_pow]
theorem outOne {z i : Nat} (hz : z < 18446744073709551616) (hi : i < 64) (s : Nat) : (outL z [(i : Int)]).testBit s = (z.testBit s && !decide (i = s)) := by
  show (z &&& (18446744073709551615 - bitN (i : Int))).testBit s = _
  rw [bitN_at hi, Nat.testBit_and, show (18446744073709551615 - 2 ^ i : Nat) = 2 ^ 64 - (2 ^ i + 1) by omega]
  by_cases hs : s < 64
  · rw [Nat.testBit_two_pow_sub_succ (by have := pow64 hi; omega), decide_eq_true hs, Bool.true_and, Nat.testBit_two_pow]
  · rw [Nat.testBit_lt_two_pow (show z < 2 ^ s from Nat.lt_of_lt_of_le hz (show 2 ^ 64 ≤ 2 ^ s from Nat.pow_le_pow_right (by decide) (by omega)))]; rfl
theorem TellsA.with_ {n m i : Nat} {L : List Slt} {s t : Slt} (h : TellsA n L m) (hl : L.length ≤ 64) (hs : L[i]? = some s) (ht : t.st = n) : TellsA n (L.set i t) (withL m [(i : Int)]) := by
  have hi := (List.getElem?_eq_some_iff.1 hs).1
  refine ⟨withL_ok _ h.1, fun j => ?_⟩
  rw [withOne (by omega), h.2 j]
  by_cases e : i = j
  · subst e
    rw [List.getElem?_set_self hi]
    simp [ht]
  · rw [List.getElem?_set_ne e]
    simp [e]
theorem TellsA.out {n m i : Nat} {L : List Slt} {s t : Slt} (h : TellsA n L m) (hl : L.length ≤ 64) (hs : L[i]? = some s) (ht : t.st ≠ n) : TellsA n (L.set i t) (outL m [(i : Int)]) := by
  have hi := (List.getElem?_eq_some_iff.1 hs).1
  refine ⟨outL_ok _ h.1, fun j => ?_⟩
  rw [outOne h.1 (by omega), h.2 j]
  by_cases e : i = j
  · subst e
    rw [List.getElem?_set_self hi]
    simp [ht]
  · rw [List.getElem?_set_ne e]
    simp [e]
theorem TellsA.same {n m i : Nat} {L : List Slt} {s t : Slt} (h : TellsA n L m) (hs : L[i]? = some s) (ht : s.st = n ↔ t.st = n) : TellsA n (L.set i t) m := by
  have hi := (List.getElem?_eq_some_iff.1 hs).1
  refine ⟨h.1, fun j => ?_⟩
  rw [h.2 j]
  by_cases e : i = j
  · subst e
    rw [List.getElem?_set_self hi, hs]
    exact decide_eq_decide.2 ht
  · rw [List.getElem?_set_ne e]
theorem next_tells {L : List Slt} {m : Nat} (h : TellsA 0 L m) (hl : L.length ≤ 64) : nextN m 0 = firstF L := by
  cases hf : firstF L with
  | none =>
    refine nextN_none (fun j hj => ?_)
    rw [h.2 j] at hj
    cases hs : L[j]? with
    | none => rw [hs] at hj; cases hj
    | some s => rw [hs] at hj; exact absurd (of_decide_eq_true hj) (firstF_none.1 hf s (List.mem_of_getElem? hs))
  | some i =>
    obtain ⟨s, hs, h0, hlow⟩ := firstF_some hf
    have hi := (List.getElem?_eq_some_iff.1 hs).1
    refine nextN_some (by omega) (by rw [h.at hs]; exact decide_eq_true h0) (by omega) (fun j hj hb => ?_)
    rw [h.2 j] at hb
    cases ht : L[j]? with
    | none => rw [ht] at hb; cases hb
    | some t => rw [ht] at hb; exact absurd (of_decide_eq_true hb) (hlow j t hj ht)
theorem has_tells {n m i : Nat} {L : List Slt} {s : Slt} (h : TellsA n L m) (hl : L.length ≤ 64) (hs : L[i]? = some s) : (m &&& bitN (i : Int) ≠ 0) ↔ s.st = n := by
  have hi := (List.getElem?_eq_some_iff.1 hs).1
  rw [bitN_at (by omega)]
  have hb := h.at hs
  constructor
  · intro hne
    by_cases e : s.st = n
    · exact e
    · exfalso
      apply hne
      apply Nat.eq_of_testBit_eq
      intro j
      rw [Nat.testBit_and, Nat.testBit_two_pow, Nat.zero_testBit]
      by_cases ej : i = j
      · subst ej; rw [hb, decide_eq_false e]; rfl
      · rw [decide_eq_false ej, Bool.and_false]
  · intro e h0
    have := congrArg (fun z => Nat.testBit z i) h0
    simp only [Nat.testBit_and, Nat.testBit_two_pow, Nat.zero_testBit, hb, decide_eq_true e, decide_true, Bool.and_self] at this
    cases this
end Go.Proofs.YtphdlpmnidiliaaGreatDoor
namespace Go.Proofs.YtphdlpmnidiliaaGreatDoor
open Go Go.Sl
attribute [local irreducible] W
theorem flat29 : Flat Tryz.prog 1 29 [.int .i64, .int .i64] := (Flat.struct ty29 (by kernel_rfl) (by kernel_rfl) (.cons (ks := [.int .i64]) (by decide) rfl (by kernel_rfl) (Flat.leaf (k := .int .i64) ty3) (.cons (ks := [.int .i64]) (by decide) rfl (by kernel_rfl) (Flat.leaf (k := .int .i64) ty3) .nil)))
theorem agg29 : aggB Tryz.prog 29 = true := by kernel_rfl
theorem gt29 : Tryz.prog.eqGuardType Tryz.prog.depth 29 = false := by kernel_rfl
instance : Inhabited Hd := ⟨⟨0, 0⟩⟩
theorem hdC_len (v : Hd) : (hdC v).length = 2 := rfl
theorem hdC_like (v : Hd) : Likes [.int .i64, .int .i64] (hdC v) := ⟨⟨_, rfl⟩, ⟨_, rfl⟩, trivial⟩
theorem hdC_inj (v w : Hd) (h : hdC v = hdC w) : v = w := by
  cases v; cases w; simp only [hdC, List.cons.injEq, Value.int.injEq, Value.bool.injEq, Value.string.injEq, true_and, and_true] at h; simp only [Hd.mk.injEq]; exact h
def findV (sb : Nat) (L : List Slt) (h : Hd) : Value := .tuple #[.pointer (if errA L h = 0 then some ⟨sb, h.slot.toNat * 7, none⟩ else none), .int .i64 (errA L h)]
theorem findV_is {sb i : Nat} {L : List Slt} {h : Hd} (he : errA L h = 0) (hi : h.slot = (i : Int)) : findV sb L h = .tuple #[.pointer (some ⟨sb, i * 7, none⟩), .int .i64 0] := by unfold findV; rw [he, if_pos rfl, hi]; rfl
theorem findV_no {sb : Nat} {L : List Slt} {h : Hd} (he : errA L h ≠ 0) : findV sb L h = .tuple #[.pointer none, .int .i64 (errA L h)] := by unfold findV; rw [if_neg he]
set_option maxHeartbeats 1000000 in
theorem findI_q {w0 : World} {H : Heap} {ab sb u f : Nat} {L : List Slt} (hu : TellsA 1 L u) (hk : AreOk L) {h : Hd} (hm1 : (ab, .cells 125 3 [.slice (some ⟨sb, 0, none⟩) L.length L.length, .int .u64 ((u : Nat) : Int), .int .u64 ((f : Nat) : Int)]) ∈ H) (hm2 : (sb, .cells 127 (L.length * 7) ((L).flatMap sltC)) ∈ H) {i : Nat} {s : Slt} (hi : h.slot = (i : Int)) (hs : L[i]? = some s) (hus : s.st = 1) (ho : s.own = h) (he : errA L h = 0)  : PureAt Tryz.prog w0 H 75 [.pointer (some ⟨ab, 0, none⟩), .agg (List.toArray (hdC h))] (findV sb L h) := by
  have hil : i < L.length := (List.getElem?_eq_some_iff.1 hs).1
  have hlen := hk.len
  refine L_enter Tryz.func75 rfl Tryz.ntmps75 rfl rfl ?_
  refine W_sr ?_
  refine W_box rfl rfl rfl (fun b3 => ?_)
  refine W_assign rfl rfl ?_
  refine W_assign rfl rfl ?_
  refine W_nil ?_
  refine W_seq ?_
  refine W_block ?_
  refine W_sr ?_
  refine W_move rfl rfl ?_
  refine W_x (X_ptrNil rfl rfl ty74) (fun _ h => by cases h) rfl ?_
  refine W_assign rfl rfl ?_
  refine W_nil ?_
  refine W_condF rfl rfl ?_
  refine W_quietsr (by kernel_rfl) (by decide +kernel) ?_
  refine WQ_x (X_fieldAddr rfl fld29_0 (by decide)) rfl ?_
  refine WQ_x (X_load rfl ty3 rfl (Cell.own zM rfl)) rfl ?_
  refine WQ_x (X_bin rfl rfl b_lss) rfl ?_
  rw [decide_eq_false (by omega)]
  refine WQ_x (X_move rfl) rfl ?_
  refine WQ_gyes rfl rfl ?_
  refine WQ_x (X_fieldAddr rfl fld29_0 (by decide)) rfl ?_
  refine WQ_gyes rfl rfl ?_
  refine WQ_x (X_load rfl ty3 rfl (Cell.own zM rfl)) rfl ?_
  refine WQ_gyes rfl rfl ?_
  refine WQ_x (X_move rfl) rfl ?_
  refine WQ_gyes rfl rfl ?_
  refine WQ_x (X_nilCheck rfl) rfl ?_
  refine WQ_gyes rfl rfl ?_
  refine WQ_x (X_fieldAddr rfl fld125_0 (by decide)) rfl ?_
  refine WQ_gyes rfl rfl ?_
  refine WQ_x (X_load (v := .slice (some ⟨sb, 0, none⟩) L.length L.length) rfl ty121 rfl (Cell.own (b := ab) (by repeat (first | exact hm1 | apply List.mem_cons_of_mem)) rfl)) rfl ?_
  refine WQ_gyes rfl rfl ?_
  refine WQ_x (X_len rfl ty121 rfl) rfl ?_
  refine WQ_gyes rfl rfl ?_
  refine WQ_x (X_bin rfl rfl b_geq) rfl ?_
  rw [decide_eq_false (by omega)]
  first | refine WQ_x (X_pickt rfl rfl) rfl ?_ | refine WQ_x (X_pickf rfl rfl) rfl ?_
  refine WQ_x (X_assign rfl) rfl ?_
  refine WQ_nil ?_
  refine W_condF rfl rfl ?_
  refine W_quietsr (by kernel_rfl) (by decide +kernel) ?_
  refine WQ_x (X_move rfl) rfl ?_
  refine WQ_x (X_nilCheck rfl) rfl ?_
  refine WQ_x (X_fieldAddr rfl fld125_1 (by decide)) rfl ?_
  refine WQ_x (X_load (v := .int .u64 (u : Int)) rfl ty122 rfl (Cell.own (b := ab) (by repeat (first | exact hm1 | apply List.mem_cons_of_mem)) rfl)) rfl ?_
  refine WQ_x (X_fieldAddr rfl fld29_0 (by decide)) rfl ?_
  refine WQ_x (X_load rfl ty3 rfl (Cell.own zM rfl)) rfl ?_
  refine WQ_callp (.cons rfl (.cons rfl .nil)) Tryz.call101 rfl (T := fun _ => True) trivial (mhas_pure hu.1) ?_
  rw [decide_eq_true (by rw [hi]; exact (has_tells hu hk.len.2 hs).2 hus)]
  refine WQ_x (X_not rfl) rfl ?_
  refine WQ_x (X_move rfl) rfl ?_
  refine WQ_gyes rfl rfl ?_
  refine WQ_x (X_move rfl) rfl ?_
  refine WQ_gyes rfl rfl ?_
  refine WQ_x (X_nilCheck rfl) rfl ?_
  refine WQ_gyes rfl rfl ?_
  refine WQ_x (X_fieldAddr rfl fld125_0 (by decide)) rfl ?_
  refine WQ_gyes rfl rfl ?_
  refine WQ_x (X_load (v := .slice (some ⟨sb, 0, none⟩) L.length L.length) rfl ty121 rfl (Cell.own (b := ab) (by repeat (first | exact hm1 | apply List.mem_cons_of_mem)) rfl)) rfl ?_
  refine WQ_gyes rfl rfl ?_
  refine WQ_x (X_fieldAddr rfl fld29_0 (by decide)) rfl ?_
  refine WQ_gyes rfl rfl ?_
  refine WQ_x (X_load rfl ty3 rfl (Cell.own zM rfl)) rfl ?_
  refine WQ_gyes rfl rfl ?_
  refine WQ_x (X_indexAddr (j := i) rfl rfl ty121 ty127 (by first | rfl | omega) (by first | decide | omega | simp) rfl) rfl ?_
  refine WQ_gyes rfl rfl ?_
  refine WQ_x (X_fieldAddr rfl fld127_0 (by decide)) rfl ?_
  refine WQ_gyes rfl rfl ?_
  refine WQ_x (X_loadB (vs := hdC s.own) rfl ty29 rfl (b := sb) (by repeat (first | exact hm2 | apply List.mem_cons_of_mem)) (by rw [Nat.ble_eq, rows_len sltC_len]; omega) (by rw [show (0 : Nat) + i * 7 + 0 = i * 7 + 0 by omega]; exact rows_part (o := 0) (m := 2) sltC_len hs (by decide))) rfl ?_
  refine WQ_gyes rfl rfl ?_
  refine WQ_x (X_loadB rfl ty29 rfl zM rfl zF) rfl ?_
  refine WQ_gyes rfl rfl ?_
  refine WQ_x (X_neF (f := hdC) rfl rfl flat29 agg29 hdC_like hdC_inj gt29 (by decide)) rfl ?_
  rw [decide_eq_true ho]
  first | refine WQ_x (X_pickt rfl rfl) rfl ?_ | refine WQ_x (X_pickf rfl rfl) rfl ?_
  refine WQ_x (X_assign rfl) rfl ?_
  refine WQ_nil ?_
  refine W_condF rfl rfl ?_
  refine W_skip ?_
  refine W_blk ?_
  refine W_quietsr (by kernel_rfl) (by decide +kernel) ?_
  refine WQ_x (X_move rfl) rfl ?_
  refine WQ_x (X_nilCheck rfl) rfl ?_
  refine WQ_x (X_fieldAddr rfl fld125_0 (by decide)) rfl ?_
  refine WQ_x (X_load (v := .slice (some ⟨sb, 0, none⟩) L.length L.length) rfl ty121 rfl (Cell.own (b := ab) (by repeat (first | exact hm1 | apply List.mem_cons_of_mem)) rfl)) rfl ?_
  refine WQ_x (X_fieldAddr rfl fld29_0 (by decide)) rfl ?_
  refine WQ_x (X_load rfl ty3 rfl (Cell.own zM rfl)) rfl ?_
  refine WQ_x (X_indexAddr (j := i) rfl rfl ty121 ty127 (by first | rfl | omega) (by first | decide | omega | simp) rfl) rfl ?_
  refine WQ_x (X_assign rfl) rfl ?_
  refine WQ_x (X_assign rfl) rfl ?_
  refine WQ_nil ?_
  refine W_ret2m (H2 := H) Tryz.results75 rfl rfl (.nil _) zH ?_
  exact ⟨by unfold findV; rw [he, if_pos rfl, hi, Nat.zero_add]; rfl, rfl⟩
set_option maxHeartbeats 1000000 in
theorem findL_q {w0 : World} {H : Heap} {ab sb u f : Nat} {L : List Slt} (hu : TellsA 1 L u) (hk : AreOk L) {h : Hd} (hm1 : (ab, .cells 125 3 [.slice (some ⟨sb, 0, none⟩) L.length L.length, .int .u64 ((u : Nat) : Int), .int .u64 ((f : Nat) : Int)]) ∈ H) (hm2 : (sb, .cells 127 (L.length * 7) ((L).flatMap sltC)) ∈ H) (hi : h.slot < 0) (he : errA L h = 2)  : PureAt Tryz.prog w0 H 75 [.pointer (some ⟨ab, 0, none⟩), .agg (List.toArray (hdC h))] (findV sb L h) := by
  refine L_enter Tryz.func75 rfl Tryz.ntmps75 rfl rfl ?_
  refine W_sr ?_
  refine W_box rfl rfl rfl (fun b3 => ?_)
  refine W_assign rfl rfl ?_
  refine W_assign rfl rfl ?_
  refine W_nil ?_
  refine W_seq ?_
  refine W_block ?_
  refine W_sr ?_
  refine W_move rfl rfl ?_
  refine W_x (X_ptrNil rfl rfl ty74) (fun _ h => by cases h) rfl ?_
  refine W_assign rfl rfl ?_
  refine W_nil ?_
  refine W_condF rfl rfl ?_
  refine W_quietsr (by kernel_rfl) (by decide +kernel) ?_
  refine WQ_x (X_fieldAddr rfl fld29_0 (by decide)) rfl ?_
  refine WQ_x (X_load rfl ty3 rfl (Cell.own zM rfl)) rfl ?_
  refine WQ_x (X_bin rfl rfl b_lss) rfl ?_
  rw [decide_eq_true (by omega)]
  refine WQ_x (X_move rfl) rfl ?_
  refine WQ_gno rfl rfl rfl rfl ?_
  refine WQ_gno rfl rfl rfl rfl ?_
  refine WQ_gno rfl rfl rfl rfl ?_
  refine WQ_gno rfl rfl rfl rfl ?_
  refine WQ_gno rfl rfl rfl rfl ?_
  refine WQ_gno rfl rfl rfl rfl ?_
  refine WQ_gno rfl rfl rfl rfl ?_
  refine WQ_gno rfl rfl rfl rfl ?_
  first | refine WQ_x (X_pickt rfl rfl) rfl ?_ | refine WQ_x (X_pickf rfl rfl) rfl ?_
  refine WQ_x (X_assign rfl) rfl ?_
  refine WQ_nil ?_
  refine W_condT rfl rfl ?_
  refine W_sr ?_
  refine W_assign rfl rfl ?_
  refine W_assign rfl rfl ?_
  refine W_nil ?_
  refine W_ret2m (H2 := H) Tryz.results75 rfl rfl (.nil _) zH ?_
  exact ⟨by unfold findV; rw [he, if_neg (by decide)], rfl⟩
set_option maxHeartbeats 1000000 in
theorem findH_q {w0 : World} {H : Heap} {ab sb u f : Nat} {L : List Slt} (hu : TellsA 1 L u) (hk : AreOk L) {h : Hd} (hm1 : (ab, .cells 125 3 [.slice (some ⟨sb, 0, none⟩) L.length L.length, .int .u64 ((u : Nat) : Int), .int .u64 ((f : Nat) : Int)]) ∈ H) (hm2 : (sb, .cells 127 (L.length * 7) ((L).flatMap sltC)) ∈ H) (hi : (L.length : Int) ≤ h.slot) (he : errA L h = 2)  : PureAt Tryz.prog w0 H 75 [.pointer (some ⟨ab, 0, none⟩), .agg (List.toArray (hdC h))] (findV sb L h) := by
  have hlen := hk.len
  have hh0 : ¬ h.slot < 0 := by omega
  refine L_enter Tryz.func75 rfl Tryz.ntmps75 rfl rfl ?_
  refine W_sr ?_
  refine W_box rfl rfl rfl (fun b3 => ?_)
  refine W_assign rfl rfl ?_
  refine W_assign rfl rfl ?_
  refine W_nil ?_
  refine W_seq ?_
  refine W_block ?_
  refine W_sr ?_
  refine W_move rfl rfl ?_
  refine W_x (X_ptrNil rfl rfl ty74) (fun _ h => by cases h) rfl ?_
  refine W_assign rfl rfl ?_
  refine W_nil ?_
  refine W_condF rfl rfl ?_
  refine W_quietsr (by kernel_rfl) (by decide +kernel) ?_
  refine WQ_x (X_fieldAddr rfl fld29_0 (by decide)) rfl ?_
  refine WQ_x (X_load rfl ty3 rfl (Cell.own zM rfl)) rfl ?_
  refine WQ_x (X_bin rfl rfl b_lss) rfl ?_
  rw [decide_eq_false (by omega)]
  refine WQ_x (X_move rfl) rfl ?_
  refine WQ_gyes rfl rfl ?_
  refine WQ_x (X_fieldAddr rfl fld29_0 (by decide)) rfl ?_
  refine WQ_gyes rfl rfl ?_
  refine WQ_x (X_load rfl ty3 rfl (Cell.own zM rfl)) rfl ?_
  refine WQ_gyes rfl rfl ?_
  refine WQ_x (X_move rfl) rfl ?_
  refine WQ_gyes rfl rfl ?_
  refine WQ_x (X_nilCheck rfl) rfl ?_
  refine WQ_gyes rfl rfl ?_
  refine WQ_x (X_fieldAddr rfl fld125_0 (by decide)) rfl ?_
  refine WQ_gyes rfl rfl ?_
  refine WQ_x (X_load (v := .slice (some ⟨sb, 0, none⟩) L.length L.length) rfl ty121 rfl (Cell.own (b := ab) (by repeat (first | exact hm1 | apply List.mem_cons_of_mem)) rfl)) rfl ?_
  refine WQ_gyes rfl rfl ?_
  refine WQ_x (X_len rfl ty121 rfl) rfl ?_
  refine WQ_gyes rfl rfl ?_
  refine WQ_x (X_bin rfl rfl b_geq) rfl ?_
  rw [decide_eq_true (by omega)]
  first | refine WQ_x (X_pickt rfl rfl) rfl ?_ | refine WQ_x (X_pickf rfl rfl) rfl ?_
  refine WQ_x (X_assign rfl) rfl ?_
  refine WQ_nil ?_
  refine W_condT rfl rfl ?_
  refine W_sr ?_
  refine W_assign rfl rfl ?_
  refine W_assign rfl rfl ?_
  refine W_nil ?_
  refine W_ret2m (H2 := H) Tryz.results75 rfl rfl (.nil _) zH ?_
  exact ⟨by unfold findV; rw [he, if_neg (by decide)], rfl⟩
set_option maxHeartbeats 1000000 in
theorem findU_q {w0 : World} {H : Heap} {ab sb u f : Nat} {L : List Slt} (hu : TellsA 1 L u) (hk : AreOk L) {h : Hd} (hm1 : (ab, .cells 125 3 [.slice (some ⟨sb, 0, none⟩) L.length L.length, .int .u64 ((u : Nat) : Int), .int .u64 ((f : Nat) : Int)]) ∈ H) (hm2 : (sb, .cells 127 (L.length * 7) ((L).flatMap sltC)) ∈ H) {i : Nat} {s : Slt} (hi : h.slot = (i : Int)) (hs : L[i]? = some s) (hus : s.st ≠ 1) (he : errA L h = 7)  : PureAt Tryz.prog w0 H 75 [.pointer (some ⟨ab, 0, none⟩), .agg (List.toArray (hdC h))] (findV sb L h) := by
  have hil : i < L.length := (List.getElem?_eq_some_iff.1 hs).1
  have hlen := hk.len
  refine L_enter Tryz.func75 rfl Tryz.ntmps75 rfl rfl ?_
  refine W_sr ?_
  refine W_box rfl rfl rfl (fun b3 => ?_)
  refine W_assign rfl rfl ?_
  refine W_assign rfl rfl ?_
  refine W_nil ?_
  refine W_seq ?_
  refine W_block ?_
  refine W_sr ?_
  refine W_move rfl rfl ?_
  refine W_x (X_ptrNil rfl rfl ty74) (fun _ h => by cases h) rfl ?_
  refine W_assign rfl rfl ?_
  refine W_nil ?_
  refine W_condF rfl rfl ?_
  refine W_quietsr (by kernel_rfl) (by decide +kernel) ?_
  refine WQ_x (X_fieldAddr rfl fld29_0 (by decide)) rfl ?_
  refine WQ_x (X_load rfl ty3 rfl (Cell.own zM rfl)) rfl ?_
  refine WQ_x (X_bin rfl rfl b_lss) rfl ?_
  rw [decide_eq_false (by omega)]
  refine WQ_x (X_move rfl) rfl ?_
  refine WQ_gyes rfl rfl ?_
  refine WQ_x (X_fieldAddr rfl fld29_0 (by decide)) rfl ?_
  refine WQ_gyes rfl rfl ?_
  refine WQ_x (X_load rfl ty3 rfl (Cell.own zM rfl)) rfl ?_
  refine WQ_gyes rfl rfl ?_
  refine WQ_x (X_move rfl) rfl ?_
  refine WQ_gyes rfl rfl ?_
  refine WQ_x (X_nilCheck rfl) rfl ?_
  refine WQ_gyes rfl rfl ?_
  refine WQ_x (X_fieldAddr rfl fld125_0 (by decide)) rfl ?_
  refine WQ_gyes rfl rfl ?_
  refine WQ_x (X_load (v := .slice (some ⟨sb, 0, none⟩) L.length L.length) rfl ty121 rfl (Cell.own (b := ab) (by repeat (first | exact hm1 | apply List.mem_cons_of_mem)) rfl)) rfl ?_
  refine WQ_gyes rfl rfl ?_
  refine WQ_x (X_len rfl ty121 rfl) rfl ?_
  refine WQ_gyes rfl rfl ?_
  refine WQ_x (X_bin rfl rfl b_geq) rfl ?_
  rw [decide_eq_false (by omega)]
  first | refine WQ_x (X_pickt rfl rfl) rfl ?_ | refine WQ_x (X_pickf rfl rfl) rfl ?_
  refine WQ_x (X_assign rfl) rfl ?_
  refine WQ_nil ?_
  refine W_condF rfl rfl ?_
  refine W_quietsr (by kernel_rfl) (by decide +kernel) ?_
  refine WQ_x (X_move rfl) rfl ?_
  refine WQ_x (X_nilCheck rfl) rfl ?_
  refine WQ_x (X_fieldAddr rfl fld125_1 (by decide)) rfl ?_
  refine WQ_x (X_load (v := .int .u64 (u : Int)) rfl ty122 rfl (Cell.own (b := ab) (by repeat (first | exact hm1 | apply List.mem_cons_of_mem)) rfl)) rfl ?_
  refine WQ_x (X_fieldAddr rfl fld29_0 (by decide)) rfl ?_
  refine WQ_x (X_load rfl ty3 rfl (Cell.own zM rfl)) rfl ?_
  refine WQ_callp (.cons rfl (.cons rfl .nil)) Tryz.call101 rfl (T := fun _ => True) trivial (mhas_pure hu.1) ?_
  rw [decide_eq_false (by rw [hi]; exact fun h => hus ((has_tells hu hk.len.2 hs).1 h))]
  refine WQ_x (X_not rfl) rfl ?_
  refine WQ_x (X_move rfl) rfl ?_
  refine WQ_gno rfl rfl rfl rfl ?_
  refine WQ_gno rfl rfl rfl rfl ?_
  refine WQ_gno rfl rfl rfl rfl ?_
  refine WQ_gno rfl rfl rfl rfl ?_
  refine WQ_gno rfl rfl rfl rfl ?_
  refine WQ_gno rfl rfl rfl rfl ?_
  refine WQ_gno rfl rfl rfl rfl ?_
  refine WQ_gno rfl rfl rfl rfl ?_
  refine WQ_gno rfl rfl rfl rfl ?_
  refine WQ_gno rfl rfl rfl rfl ?_
  refine WQ_gno rfl rfl rfl rfl ?_
  first | refine WQ_x (X_pickt rfl rfl) rfl ?_ | refine WQ_x (X_pickf rfl rfl) rfl ?_
  refine WQ_x (X_assign rfl) rfl ?_
  refine WQ_nil ?_
  refine W_condT rfl rfl ?_
  refine W_sr ?_
  refine W_assign rfl rfl ?_
  refine W_assign rfl rfl ?_
  refine W_nil ?_
  refine W_ret2m (H2 := H) Tryz.results75 rfl rfl (.nil _) zH ?_
  exact ⟨by unfold findV; rw [he, if_neg (by decide)], rfl⟩
set_option maxHeartbeats 1000000 in
theorem findO_q {w0 : World} {H : Heap} {ab sb u f : Nat} {L : List Slt} (hu : TellsA 1 L u) (hk : AreOk L) {h : Hd} (hm1 : (ab, .cells 125 3 [.slice (some ⟨sb, 0, none⟩) L.length L.length, .int .u64 ((u : Nat) : Int), .int .u64 ((f : Nat) : Int)]) ∈ H) (hm2 : (sb, .cells 127 (L.length * 7) ((L).flatMap sltC)) ∈ H) {i : Nat} {s : Slt} (hi : h.slot = (i : Int)) (hs : L[i]? = some s) (hus : s.st = 1) (ho : s.own ≠ h) (he : errA L h = 7)  : PureAt Tryz.prog w0 H 75 [.pointer (some ⟨ab, 0, none⟩), .agg (List.toArray (hdC h))] (findV sb L h) := by
  have hil : i < L.length := (List.getElem?_eq_some_iff.1 hs).1
  have hlen := hk.len
  refine L_enter Tryz.func75 rfl Tryz.ntmps75 rfl rfl ?_
  refine W_sr ?_
  refine W_box rfl rfl rfl (fun b3 => ?_)
  refine W_assign rfl rfl ?_
  refine W_assign rfl rfl ?_
  refine W_nil ?_
  refine W_seq ?_
  refine W_block ?_
  refine W_sr ?_
  refine W_move rfl rfl ?_
  refine W_x (X_ptrNil rfl rfl ty74) (fun _ h => by cases h) rfl ?_
  refine W_assign rfl rfl ?_
  refine W_nil ?_
  refine W_condF rfl rfl ?_
  refine W_quietsr (by kernel_rfl) (by decide +kernel) ?_
  refine WQ_x (X_fieldAddr rfl fld29_0 (by decide)) rfl ?_
  refine WQ_x (X_load rfl ty3 rfl (Cell.own zM rfl)) rfl ?_
  refine WQ_x (X_bin rfl rfl b_lss) rfl ?_
  rw [decide_eq_false (by omega)]
  refine WQ_x (X_move rfl) rfl ?_
  refine WQ_gyes rfl rfl ?_
  refine WQ_x (X_fieldAddr rfl fld29_0 (by decide)) rfl ?_
  refine WQ_gyes rfl rfl ?_
  refine WQ_x (X_load rfl ty3 rfl (Cell.own zM rfl)) rfl ?_
  refine WQ_gyes rfl rfl ?_
  refine WQ_x (X_move rfl) rfl ?_
  refine WQ_gyes rfl rfl ?_
  refine WQ_x (X_nilCheck rfl) rfl ?_
  refine WQ_gyes rfl rfl ?_
  refine WQ_x (X_fieldAddr rfl fld125_0 (by decide)) rfl ?_
  refine WQ_gyes rfl rfl ?_
  refine WQ_x (X_load (v := .slice (some ⟨sb, 0, none⟩) L.length L.length) rfl ty121 rfl (Cell.own (b := ab) (by repeat (first | exact hm1 | apply List.mem_cons_of_mem)) rfl)) rfl ?_
  refine WQ_gyes rfl rfl ?_
  refine WQ_x (X_len rfl ty121 rfl) rfl ?_
  refine WQ_gyes rfl rfl ?_
  refine WQ_x (X_bin rfl rfl b_geq) rfl ?_
  rw [decide_eq_false (by omega)]
  first | refine WQ_x (X_pickt rfl rfl) rfl ?_ | refine WQ_x (X_pickf rfl rfl) rfl ?_
  refine WQ_x (X_assign rfl) rfl ?_
  refine WQ_nil ?_
  refine W_condF rfl rfl ?_
  refine W_quietsr (by kernel_rfl) (by decide +kernel) ?_
  refine WQ_x (X_move rfl) rfl ?_
  refine WQ_x (X_nilCheck rfl) rfl ?_
  refine WQ_x (X_fieldAddr rfl fld125_1 (by decide)) rfl ?_
  refine WQ_x (X_load (v := .int .u64 (u : Int)) rfl ty122 rfl (Cell.own (b := ab) (by repeat (first | exact hm1 | apply List.mem_cons_of_mem)) rfl)) rfl ?_
  refine WQ_x (X_fieldAddr rfl fld29_0 (by decide)) rfl ?_
  refine WQ_x (X_load rfl ty3 rfl (Cell.own zM rfl)) rfl ?_
  refine WQ_callp (.cons rfl (.cons rfl .nil)) Tryz.call101 rfl (T := fun _ => True) trivial (mhas_pure hu.1) ?_
  rw [decide_eq_true (by rw [hi]; exact (has_tells hu hk.len.2 hs).2 hus)]
  refine WQ_x (X_not rfl) rfl ?_
  refine WQ_x (X_move rfl) rfl ?_
  refine WQ_gyes rfl rfl ?_
  refine WQ_x (X_move rfl) rfl ?_
  refine WQ_gyes rfl rfl ?_
  refine WQ_x (X_nilCheck rfl) rfl ?_
  refine WQ_gyes rfl rfl ?_
  refine WQ_x (X_fieldAddr rfl fld125_0 (by decide)) rfl ?_
  refine WQ_gyes rfl rfl ?_
  refine WQ_x (X_load (v := .slice (some ⟨sb, 0, none⟩) L.length L.length) rfl ty121 rfl (Cell.own (b := ab) (by repeat (first | exact hm1 | apply List.mem_cons_of_mem)) rfl)) rfl ?_
  refine WQ_gyes rfl rfl ?_
  refine WQ_x (X_fieldAddr rfl fld29_0 (by decide)) rfl ?_
  refine WQ_gyes rfl rfl ?_
  refine WQ_x (X_load rfl ty3 rfl (Cell.own zM rfl)) rfl ?_
  refine WQ_gyes rfl rfl ?_
  refine WQ_x (X_indexAddr (j := i) rfl rfl ty121 ty127 (by first | rfl | omega) (by first | decide | omega | simp) rfl) rfl ?_
  refine WQ_gyes rfl rfl ?_
  refine WQ_x (X_fieldAddr rfl fld127_0 (by decide)) rfl ?_
  refine WQ_gyes rfl rfl ?_
  refine WQ_x (X_loadB (vs := hdC s.own) rfl ty29 rfl (b := sb) (by repeat (first | exact hm2 | apply List.mem_cons_of_mem)) (by rw [Nat.ble_eq, rows_len sltC_len]; omega) (by rw [show (0 : Nat) + i * 7 + 0 = i * 7 + 0 by omega]; exact rows_part (o := 0) (m := 2) sltC_len hs (by decide))) rfl ?_
  refine WQ_gyes rfl rfl ?_
  refine WQ_x (X_loadB rfl ty29 rfl zM rfl zF) rfl ?_
  refine WQ_gyes rfl rfl ?_
  refine WQ_x (X_neF (f := hdC) rfl rfl flat29 agg29 hdC_like hdC_inj gt29 (by decide)) rfl ?_
  rw [decide_eq_false ho]
  first | refine WQ_x (X_pickt rfl rfl) rfl ?_ | refine WQ_x (X_pickf rfl rfl) rfl ?_
  refine WQ_x (X_assign rfl) rfl ?_
  refine WQ_nil ?_
  refine W_condT rfl rfl ?_
  refine W_sr ?_
  refine W_assign rfl rfl ?_
  refine W_assign rfl rfl ?_
  refine W_nil ?_
  refine W_ret2m (H2 := H) Tryz.results75 rfl rfl (.nil _) zH ?_
  exact ⟨by unfold findV; rw [he, if_neg (by decide)], rfl⟩
theorem find_q {w0 : World} {H : Heap} {ab sb u f : Nat} {L : List Slt} (hu : TellsA 1 L u) (hk : AreOk L) {h : Hd} (hm1 : (ab, .cells 125 3 [.slice (some ⟨sb, 0, none⟩) L.length L.length, .int .u64 ((u : Nat) : Int), .int .u64 ((f : Nat) : Int)]) ∈ H) (hm2 : (sb, .cells 127 (L.length * 7) ((L).flatMap sltC)) ∈ H) : PureAt Tryz.prog w0 H 75 [.pointer (some ⟨ab, 0, none⟩), .agg (List.toArray (hdC h))] (findV sb L h) := by
  cases findA L h with
  | is i s hi hs hus ho he hc hset => exact findI_q hu hk hm1 hm2 hi hs hus ho he
  | lo hi he hc hset => exact findL_q hu hk hm1 hm2 hi he
  | hi hi he hc hset => exact findH_q hu hk hm1 hm2 hi he
  | un i s hi hs hus he hc hset => exact findU_q hu hk hm1 hm2 hi hs hus he
  | old i s hi hs hus ho he hc hset => exact findO_q hu hk hm1 hm2 hi hs hus ho he
end Go.Proofs.YtphdlpmnidiliaaGreatDoor

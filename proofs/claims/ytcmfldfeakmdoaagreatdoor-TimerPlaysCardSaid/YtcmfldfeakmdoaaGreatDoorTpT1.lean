/-
  Own work: contracts of functions that the statement reaches, and plain facts on what they compute; each theorem says its conditions.
-/
import Derived.Test.YtcmfldfeakmdoaaGreatDoorRows
import Derived.Test.YtcmfldfeakmdoaaGreatDoorTpS1
import Derived.Test.YtcmfldfeakmdoaaGreatDoorTpS2
import Derived.IntWalk
import Derived.Lib.TrailingZeros
import Derived.Test.YtcmfldfeakmdoaaGreatDoorTpA
set_option linter.all false
set_option linter.unusedSimpArgs false
set_option linter.unusedVariables false
set_option maxHeartbeats 16000000
namespace Go.Proofs.YtcmfldfeakmdoaaGreatDoor
open Go Go.Sl
set_option maxRecDepth 100000
theorem ty3 : Ty Tryz.prog 3 (Go.TypeDesc.int Go.IntKind.i64) 1 (Go.Value.int Go.IntKind.i64 0) 8 := ⟨by kernel_rfl, Tryz.t3, by kernel_rfl, rfl, rfl, rfl⟩
theorem ty4 : Ty Tryz.prog 4 Go.TypeDesc.bool 1 (Go.Value.bool false) 1 := ⟨by kernel_rfl, Tryz.t4, by kernel_rfl, rfl, rfl, rfl⟩
theorem ty5 : Ty Tryz.prog 5 (Go.TypeDesc.int Go.IntKind.u8) 1 (Go.Value.int Go.IntKind.u8 0) 1 := ⟨by kernel_rfl, Tryz.t5, by kernel_rfl, rfl, rfl, rfl⟩
theorem ty22 : Ty Tryz.prog 22 (Go.TypeDesc.int Go.IntKind.u64) 1 (Go.Value.int Go.IntKind.u64 0) 8 := ⟨by kernel_rfl, Tryz.t22, by kernel_rfl, rfl, rfl, rfl⟩
theorem ty24 : Ty Tryz.prog 24 (Go.TypeDesc.slice 3) 1 (Go.Value.slice Option.none 0 0) 24 := ⟨by kernel_rfl, Tryz.t24, by kernel_rfl, rfl, rfl, rfl⟩
theorem ty25 : Ty Tryz.prog 25 (Go.TypeDesc.pointer 91) 1 (Go.Value.pointer Option.none) 8 := ⟨by kernel_rfl, Tryz.t25, by kernel_rfl, rfl, rfl, rfl⟩
theorem ty32 : Ty Tryz.prog 32 Tryz.t31.desc 4 (Go.Value.agg #[(Go.Value.int Go.IntKind.i64 0), (Go.Value.int Go.IntKind.i64 0), (Go.Value.int Go.IntKind.u64 0), (Go.Value.int Go.IntKind.u64 0)]) 32 := ⟨by kernel_rfl, Tryz.t32, by kernel_rfl, rfl, rfl, rfl⟩
theorem ty39 : Ty Tryz.prog 39 (Go.TypeDesc.slice 45) 1 (Go.Value.slice Option.none 0 0) 24 := ⟨by kernel_rfl, Tryz.t39, by kernel_rfl, rfl, rfl, rfl⟩
theorem ty45 : Ty Tryz.prog 45 Tryz.t44.desc 5 (Go.Value.agg #[(Go.Value.int Go.IntKind.i64 0), (Go.Value.int Go.IntKind.i64 0), (Go.Value.int Go.IntKind.i64 0), (Go.Value.int Go.IntKind.i64 0), (Go.Value.int Go.IntKind.u64 0)]) 40 := ⟨by kernel_rfl, Tryz.t45, by kernel_rfl, rfl, rfl, rfl⟩
theorem ty57 : Ty Tryz.prog 57 (Go.TypeDesc.slice 76) 1 (Go.Value.slice Option.none 0 0) 24 := ⟨by kernel_rfl, Tryz.t57, by kernel_rfl, rfl, rfl, rfl⟩
theorem ty58 : Ty Tryz.prog 58 (Go.TypeDesc.slice 121) 1 (Go.Value.slice Option.none 0 0) 24 := ⟨by kernel_rfl, Tryz.t58, by kernel_rfl, rfl, rfl, rfl⟩
theorem ty60 : Ty Tryz.prog 60 Tryz.t59.desc 3 (Go.Value.agg #[(Go.Value.int Go.IntKind.i64 0), (Go.Value.slice Option.none 0 0), (Go.Value.slice Option.none 0 0)]) 56 := ⟨by kernel_rfl, Tryz.t60, by kernel_rfl, rfl, rfl, rfl⟩
theorem ty61 : Ty Tryz.prog 61 (Go.TypeDesc.slice 78) 1 (Go.Value.slice Option.none 0 0) 24 := ⟨by kernel_rfl, Tryz.t61, by kernel_rfl, rfl, rfl, rfl⟩
theorem ty63 : Ty Tryz.prog 63 Tryz.t62.desc 5 (Go.Value.agg #[(Go.Value.slice Option.none 0 0), (Go.Value.int Go.IntKind.i64 0), (Go.Value.slice Option.none 0 0), (Go.Value.slice Option.none 0 0), (Go.Value.slice Option.none 0 0)]) 104 := ⟨by kernel_rfl, Tryz.t63, by kernel_rfl, rfl, rfl, rfl⟩
theorem ty70 : Ty Tryz.prog 70 Tryz.t31.desc 4 (Go.Value.agg #[(Go.Value.int Go.IntKind.i64 0), (Go.Value.int Go.IntKind.i64 0), (Go.Value.int Go.IntKind.u64 0), (Go.Value.int Go.IntKind.u64 0)]) 32 := ⟨by kernel_rfl, Tryz.t70, by kernel_rfl, rfl, rfl, rfl⟩
theorem ty73 : Ty Tryz.prog 73 Tryz.t72.desc 5 (Go.Value.agg #[(Go.Value.int Go.IntKind.i64 0), (Go.Value.int Go.IntKind.i64 0), (Go.Value.int Go.IntKind.i64 0), (Go.Value.int Go.IntKind.u64 0), (Go.Value.int Go.IntKind.u64 0)]) 40 := ⟨by kernel_rfl, Tryz.t73, by kernel_rfl, rfl, rfl, rfl⟩
theorem ty74 : Ty Tryz.prog 74 (Go.TypeDesc.slice 73) 1 (Go.Value.slice Option.none 0 0) 24 := ⟨by kernel_rfl, Tryz.t74, by kernel_rfl, rfl, rfl, rfl⟩
theorem ty76 : Ty Tryz.prog 76 Tryz.t75.desc 2 (Go.Value.agg #[(Go.Value.int Go.IntKind.u64 0), (Go.Value.slice Option.none 0 0)]) 32 := ⟨by kernel_rfl, Tryz.t76, by kernel_rfl, rfl, rfl, rfl⟩
theorem ty78 : Ty Tryz.prog 78 Tryz.t77.desc 4 (Go.Value.agg #[(Go.Value.bool false), (Go.Value.bool false), (Go.Value.int Go.IntKind.i64 0), (Go.Value.int Go.IntKind.i64 0)]) 24 := ⟨by kernel_rfl, Tryz.t78, by kernel_rfl, rfl, rfl, rfl⟩
theorem ty81 : Ty Tryz.prog 81 (Go.TypeDesc.pointer 126) 1 (Go.Value.pointer Option.none) 8 := ⟨by kernel_rfl, Tryz.t81, by kernel_rfl, rfl, rfl, rfl⟩
theorem ty84 : Ty Tryz.prog 84 (Go.TypeDesc.pointer 132) 1 (Go.Value.pointer Option.none) 8 := ⟨by kernel_rfl, Tryz.t84, by kernel_rfl, rfl, rfl, rfl⟩
theorem ty88 : Ty Tryz.prog 88 Tryz.t87.desc 4 (Go.Value.agg #[(Go.Value.bool false), (Go.Value.bool false), (Go.Value.int Go.IntKind.i64 0), (Go.Value.int Go.IntKind.i64 0)]) 24 := ⟨by kernel_rfl, Tryz.t88, by kernel_rfl, rfl, rfl, rfl⟩
theorem ty89 : Ty Tryz.prog 89 (Go.TypeDesc.array 256 88) 1024 ((Tryz.t89.zero).getD undef) 6144 := ⟨by kernel_rfl, Tryz.t89, by kernel_rfl, rfl, rfl, rfl⟩
theorem ty91 : Ty Tryz.prog 91 Tryz.t90.desc 1026 ((Tryz.t91.zero).getD undef) 6160 := ⟨by kernel_rfl, Tryz.t91, by kernel_rfl, rfl, rfl, rfl⟩
theorem ty94 : Ty Tryz.prog 94 Tryz.t94.desc 1 Go.Value.nilFunc 8 := ⟨by kernel_rfl, Tryz.t94, by kernel_rfl, rfl, rfl, rfl⟩
theorem ty97 : Ty Tryz.prog 97 Tryz.t97.desc 1 Go.Value.nilFunc 8 := ⟨by kernel_rfl, Tryz.t97, by kernel_rfl, rfl, rfl, rfl⟩
theorem ty121 : Ty Tryz.prog 121 Tryz.t120.desc 2 (Go.Value.agg #[(Go.Value.int Go.IntKind.i64 0), (Go.Value.int Go.IntKind.i64 0)]) 16 := ⟨by kernel_rfl, Tryz.t121, by kernel_rfl, rfl, rfl, rfl⟩
theorem ty122 : Ty Tryz.prog 122 (Go.TypeDesc.slice 127) 1 (Go.Value.slice Option.none 0 0) 24 := ⟨by kernel_rfl, Tryz.t122, by kernel_rfl, rfl, rfl, rfl⟩
theorem ty123 : Ty Tryz.prog 123 (Go.TypeDesc.array 256 3) 256 ((Tryz.t123.zero).getD undef) 2048 := ⟨by kernel_rfl, Tryz.t123, by kernel_rfl, rfl, rfl, rfl⟩
theorem ty124 : Ty Tryz.prog 124 (Go.TypeDesc.array 32 3) 32 (Go.Value.agg #[(Go.Value.int Go.IntKind.i64 0), (Go.Value.int Go.IntKind.i64 0), (Go.Value.int Go.IntKind.i64 0), (Go.Value.int Go.IntKind.i64 0), (Go.Value.int Go.IntKind.i64 0), (Go.Value.int Go.IntKind.i64 0), (Go.Value.int Go.IntKind.i64 0), (Go.Value.int Go.IntKind.i64 0), (Go.Value.int Go.IntKind.i64 0), (Go.Value.int Go.IntKind.i64 0), (Go.Value.int Go.IntKind.i64 0), (Go.Value.int Go.IntKind.i64 0), (Go.Value.int Go.IntKind.i64 0), (Go.Value.int Go.IntKind.i64 0), (Go.Value.int Go.IntKind.i64 0), (Go.Value.int Go.IntKind.i64 0), (Go.Value.int Go.IntKind.i64 0), (Go.Value.int Go.IntKind.i64 0), (Go.Value.int Go.IntKind.i64 0), (Go.Value.int Go.IntKind.i64 0), (Go.Value.int Go.IntKind.i64 0), (Go.Value.int Go.IntKind.i64 0), (Go.Value.int Go.IntKind.i64 0), (Go.Value.int Go.IntKind.i64 0), (Go.Value.int Go.IntKind.i64 0), (Go.Value.int Go.IntKind.i64 0), (Go.Value.int Go.IntKind.i64 0), (Go.Value.int Go.IntKind.i64 0), (Go.Value.int Go.IntKind.i64 0), (Go.Value.int Go.IntKind.i64 0), (Go.Value.int Go.IntKind.i64 0), (Go.Value.int Go.IntKind.i64 0)]) 256 := ⟨by kernel_rfl, Tryz.t124, by kernel_rfl, rfl, rfl, rfl⟩
theorem ty126 : Ty Tryz.prog 126 Tryz.t125.desc 289 ((Tryz.t126.zero).getD undef) 2328 := ⟨by kernel_rfl, Tryz.t126, by kernel_rfl, rfl, rfl, rfl⟩
theorem ty127 : Ty Tryz.prog 127 (Go.TypeDesc.pointer 160) 1 (Go.Value.pointer Option.none) 8 := ⟨by kernel_rfl, Tryz.t127, by kernel_rfl, rfl, rfl, rfl⟩
theorem ty130 : Ty Tryz.prog 130 (Go.TypeDesc.slice 133) 1 (Go.Value.slice Option.none 0 0) 24 := ⟨by kernel_rfl, Tryz.t130, by kernel_rfl, rfl, rfl, rfl⟩
theorem ty132 : Ty Tryz.prog 132 Tryz.t131.desc 1 (Go.Value.agg #[(Go.Value.slice Option.none 0 0)]) 24 := ⟨by kernel_rfl, Tryz.t132, by kernel_rfl, rfl, rfl, rfl⟩
theorem ty133 : Ty Tryz.prog 133 (Go.TypeDesc.pointer 167) 1 (Go.Value.pointer Option.none) 8 := ⟨by kernel_rfl, Tryz.t133, by kernel_rfl, rfl, rfl, rfl⟩
theorem ty140 : Ty Tryz.prog 140 Tryz.t140.desc 1 Go.Value.nilFunc 8 := ⟨by kernel_rfl, Tryz.t140, by kernel_rfl, rfl, rfl, rfl⟩
theorem ty160 : Ty Tryz.prog 160 Tryz.t159.desc 3 (Go.Value.agg #[(Go.Value.slice Option.none 0 0), (Go.Value.int Go.IntKind.i64 0), (Go.Value.int Go.IntKind.i64 0)]) 40 := ⟨by kernel_rfl, Tryz.t160, by kernel_rfl, rfl, rfl, rfl⟩
theorem ty161 : Ty Tryz.prog 161 (Go.TypeDesc.map 3 169) 1 (Go.Value.map Option.none) 8 := ⟨by kernel_rfl, Tryz.t161, by kernel_rfl, rfl, rfl, rfl⟩
theorem ty162 : Ty Tryz.prog 162 (Go.TypeDesc.array 64 24) 64 (Go.Value.agg #[(Go.Value.slice Option.none 0 0), (Go.Value.slice Option.none 0 0), (Go.Value.slice Option.none 0 0), (Go.Value.slice Option.none 0 0), (Go.Value.slice Option.none 0 0), (Go.Value.slice Option.none 0 0), (Go.Value.slice Option.none 0 0), (Go.Value.slice Option.none 0 0), (Go.Value.slice Option.none 0 0), (Go.Value.slice Option.none 0 0), (Go.Value.slice Option.none 0 0), (Go.Value.slice Option.none 0 0), (Go.Value.slice Option.none 0 0), (Go.Value.slice Option.none 0 0), (Go.Value.slice Option.none 0 0), (Go.Value.slice Option.none 0 0), (Go.Value.slice Option.none 0 0), (Go.Value.slice Option.none 0 0), (Go.Value.slice Option.none 0 0), (Go.Value.slice Option.none 0 0), (Go.Value.slice Option.none 0 0), (Go.Value.slice Option.none 0 0), (Go.Value.slice Option.none 0 0), (Go.Value.slice Option.none 0 0), (Go.Value.slice Option.none 0 0), (Go.Value.slice Option.none 0 0), (Go.Value.slice Option.none 0 0), (Go.Value.slice Option.none 0 0), (Go.Value.slice Option.none 0 0), (Go.Value.slice Option.none 0 0), (Go.Value.slice Option.none 0 0), (Go.Value.slice Option.none 0 0), (Go.Value.slice Option.none 0 0), (Go.Value.slice Option.none 0 0), (Go.Value.slice Option.none 0 0), (Go.Value.slice Option.none 0 0), (Go.Value.slice Option.none 0 0), (Go.Value.slice Option.none 0 0), (Go.Value.slice Option.none 0 0), (Go.Value.slice Option.none 0 0), (Go.Value.slice Option.none 0 0), (Go.Value.slice Option.none 0 0), (Go.Value.slice Option.none 0 0), (Go.Value.slice Option.none 0 0), (Go.Value.slice Option.none 0 0), (Go.Value.slice Option.none 0 0), (Go.Value.slice Option.none 0 0), (Go.Value.slice Option.none 0 0), (Go.Value.slice Option.none 0 0), (Go.Value.slice Option.none 0 0), (Go.Value.slice Option.none 0 0), (Go.Value.slice Option.none 0 0), (Go.Value.slice Option.none 0 0), (Go.Value.slice Option.none 0 0), (Go.Value.slice Option.none 0 0), (Go.Value.slice Option.none 0 0), (Go.Value.slice Option.none 0 0), (Go.Value.slice Option.none 0 0), (Go.Value.slice Option.none 0 0), (Go.Value.slice Option.none 0 0), (Go.Value.slice Option.none 0 0), (Go.Value.slice Option.none 0 0), (Go.Value.slice Option.none 0 0), (Go.Value.slice Option.none 0 0)]) 1536 := ⟨by kernel_rfl, Tryz.t162, by kernel_rfl, rfl, rfl, rfl⟩
theorem ty163 : Ty Tryz.prog 163 (Go.TypeDesc.array 8 162) 512 ((Tryz.t163.zero).getD undef) 12288 := ⟨by kernel_rfl, Tryz.t163, by kernel_rfl, rfl, rfl, rfl⟩
theorem ty164 : Ty Tryz.prog 164 (Go.TypeDesc.int Go.IntKind.u64) 1 (Go.Value.int Go.IntKind.u64 0) 8 := ⟨by kernel_rfl, Tryz.t164, by kernel_rfl, rfl, rfl, rfl⟩
theorem ty165 : Ty Tryz.prog 165 (Go.TypeDesc.array 8 164) 8 (Go.Value.agg #[(Go.Value.int Go.IntKind.u64 0), (Go.Value.int Go.IntKind.u64 0), (Go.Value.int Go.IntKind.u64 0), (Go.Value.int Go.IntKind.u64 0), (Go.Value.int Go.IntKind.u64 0), (Go.Value.int Go.IntKind.u64 0), (Go.Value.int Go.IntKind.u64 0), (Go.Value.int Go.IntKind.u64 0)]) 64 := ⟨by kernel_rfl, Tryz.t165, by kernel_rfl, rfl, rfl, rfl⟩
theorem ty167 : Ty Tryz.prog 167 Tryz.t166.desc 523 ((Tryz.t167.zero).getD undef) 12376 := ⟨by kernel_rfl, Tryz.t167, by kernel_rfl, rfl, rfl, rfl⟩
theorem ty169 : Ty Tryz.prog 169 Tryz.t168.desc 5 (Go.Value.agg #[(Go.Value.int Go.IntKind.i64 0), (Go.Value.int Go.IntKind.i64 0), (Go.Value.int Go.IntKind.u64 0), (Go.Value.int Go.IntKind.u64 0), (Go.Value.int Go.IntKind.i64 0)]) 40 := ⟨by kernel_rfl, Tryz.t169, by kernel_rfl, rfl, rfl, rfl⟩
theorem ty190 : Ty Tryz.prog 190 (Go.TypeDesc.int Go.IntKind.u64) 1 (Go.Value.int Go.IntKind.u64 0) 8 := ⟨by kernel_rfl, Tryz.t190, by kernel_rfl, rfl, rfl, rfl⟩
theorem ty235 : Ty Tryz.prog 235 (Go.TypeDesc.array 64 5) 64 (Go.Value.agg #[(Go.Value.int Go.IntKind.u8 0), (Go.Value.int Go.IntKind.u8 0), (Go.Value.int Go.IntKind.u8 0), (Go.Value.int Go.IntKind.u8 0), (Go.Value.int Go.IntKind.u8 0), (Go.Value.int Go.IntKind.u8 0), (Go.Value.int Go.IntKind.u8 0), (Go.Value.int Go.IntKind.u8 0), (Go.Value.int Go.IntKind.u8 0), (Go.Value.int Go.IntKind.u8 0), (Go.Value.int Go.IntKind.u8 0), (Go.Value.int Go.IntKind.u8 0), (Go.Value.int Go.IntKind.u8 0), (Go.Value.int Go.IntKind.u8 0), (Go.Value.int Go.IntKind.u8 0), (Go.Value.int Go.IntKind.u8 0), (Go.Value.int Go.IntKind.u8 0), (Go.Value.int Go.IntKind.u8 0), (Go.Value.int Go.IntKind.u8 0), (Go.Value.int Go.IntKind.u8 0), (Go.Value.int Go.IntKind.u8 0), (Go.Value.int Go.IntKind.u8 0), (Go.Value.int Go.IntKind.u8 0), (Go.Value.int Go.IntKind.u8 0), (Go.Value.int Go.IntKind.u8 0), (Go.Value.int Go.IntKind.u8 0), (Go.Value.int Go.IntKind.u8 0), (Go.Value.int Go.IntKind.u8 0), (Go.Value.int Go.IntKind.u8 0), (Go.Value.int Go.IntKind.u8 0), (Go.Value.int Go.IntKind.u8 0), (Go.Value.int Go.IntKind.u8 0), (Go.Value.int Go.IntKind.u8 0), (Go.Value.int Go.IntKind.u8 0), (Go.Value.int Go.IntKind.u8 0), (Go.Value.int Go.IntKind.u8 0), (Go.Value.int Go.IntKind.u8 0), (Go.Value.int Go.IntKind.u8 0), (Go.Value.int Go.IntKind.u8 0), (Go.Value.int Go.IntKind.u8 0), (Go.Value.int Go.IntKind.u8 0), (Go.Value.int Go.IntKind.u8 0), (Go.Value.int Go.IntKind.u8 0), (Go.Value.int Go.IntKind.u8 0), (Go.Value.int Go.IntKind.u8 0), (Go.Value.int Go.IntKind.u8 0), (Go.Value.int Go.IntKind.u8 0), (Go.Value.int Go.IntKind.u8 0), (Go.Value.int Go.IntKind.u8 0), (Go.Value.int Go.IntKind.u8 0), (Go.Value.int Go.IntKind.u8 0), (Go.Value.int Go.IntKind.u8 0), (Go.Value.int Go.IntKind.u8 0), (Go.Value.int Go.IntKind.u8 0), (Go.Value.int Go.IntKind.u8 0), (Go.Value.int Go.IntKind.u8 0), (Go.Value.int Go.IntKind.u8 0), (Go.Value.int Go.IntKind.u8 0), (Go.Value.int Go.IntKind.u8 0), (Go.Value.int Go.IntKind.u8 0), (Go.Value.int Go.IntKind.u8 0), (Go.Value.int Go.IntKind.u8 0), (Go.Value.int Go.IntKind.u8 0), (Go.Value.int Go.IntKind.u8 0)]) 64 := ⟨by kernel_rfl, Tryz.t235, by kernel_rfl, rfl, rfl, rfl⟩
theorem fld32_0 : Fld Tryz.prog 32 0 0 1 false := ⟨_, _, (by kernel_rfl : Tryz.prog.underlying 32 = some Tryz.t31.desc), rfl, rfl, _, _, _, ty3, rfl⟩
theorem fld32_1 : Fld Tryz.prog 32 1 1 1 false := ⟨_, _, (by kernel_rfl : Tryz.prog.underlying 32 = some Tryz.t31.desc), rfl, rfl, _, _, _, ty3, rfl⟩
theorem fld32_2 : Fld Tryz.prog 32 2 2 1 false := ⟨_, _, (by kernel_rfl : Tryz.prog.underlying 32 = some Tryz.t31.desc), rfl, rfl, _, _, _, ty22, rfl⟩
theorem fld32_3 : Fld Tryz.prog 32 3 3 1 false := ⟨_, _, (by kernel_rfl : Tryz.prog.underlying 32 = some Tryz.t31.desc), rfl, rfl, _, _, _, ty22, rfl⟩
theorem fld45_0 : Fld Tryz.prog 45 0 0 1 false := ⟨_, _, (by kernel_rfl : Tryz.prog.underlying 45 = some Tryz.t44.desc), rfl, rfl, _, _, _, ty3, rfl⟩
theorem fld45_1 : Fld Tryz.prog 45 1 1 1 false := ⟨_, _, (by kernel_rfl : Tryz.prog.underlying 45 = some Tryz.t44.desc), rfl, rfl, _, _, _, ty3, rfl⟩
theorem fld45_2 : Fld Tryz.prog 45 2 2 1 false := ⟨_, _, (by kernel_rfl : Tryz.prog.underlying 45 = some Tryz.t44.desc), rfl, rfl, _, _, _, ty3, rfl⟩
theorem fld45_3 : Fld Tryz.prog 45 3 3 1 false := ⟨_, _, (by kernel_rfl : Tryz.prog.underlying 45 = some Tryz.t44.desc), rfl, rfl, _, _, _, ty3, rfl⟩
theorem fld45_4 : Fld Tryz.prog 45 4 4 1 false := ⟨_, _, (by kernel_rfl : Tryz.prog.underlying 45 = some Tryz.t44.desc), rfl, rfl, _, _, _, ty22, rfl⟩
theorem fld60_0 : Fld Tryz.prog 60 0 0 1 false := ⟨_, _, (by kernel_rfl : Tryz.prog.underlying 60 = some Tryz.t59.desc), rfl, rfl, _, _, _, ty3, rfl⟩
theorem fld60_1 : Fld Tryz.prog 60 1 1 1 false := ⟨_, _, (by kernel_rfl : Tryz.prog.underlying 60 = some Tryz.t59.desc), rfl, rfl, _, _, _, ty58, rfl⟩
theorem fld60_2 : Fld Tryz.prog 60 2 2 1 false := ⟨_, _, (by kernel_rfl : Tryz.prog.underlying 60 = some Tryz.t59.desc), rfl, rfl, _, _, _, ty58, rfl⟩
theorem fld63_0 : Fld Tryz.prog 63 0 0 1 false := ⟨_, _, (by kernel_rfl : Tryz.prog.underlying 63 = some Tryz.t62.desc), rfl, rfl, _, _, _, ty57, rfl⟩
theorem fld63_1 : Fld Tryz.prog 63 1 1 3 true := ⟨_, _, (by kernel_rfl : Tryz.prog.underlying 63 = some Tryz.t62.desc), rfl, rfl, _, _, _, ty60, rfl⟩
theorem fld63_2 : Fld Tryz.prog 63 2 4 1 false := ⟨_, _, (by kernel_rfl : Tryz.prog.underlying 63 = some Tryz.t62.desc), rfl, rfl, _, _, _, ty61, rfl⟩
theorem fld70_3 : Fld Tryz.prog 70 3 3 1 false := ⟨_, _, (by kernel_rfl : Tryz.prog.underlying 70 = some Tryz.t31.desc), rfl, rfl, _, _, _, ty22, rfl⟩
theorem fld73_0 : Fld Tryz.prog 73 0 0 1 false := ⟨_, _, (by kernel_rfl : Tryz.prog.underlying 73 = some Tryz.t72.desc), rfl, rfl, _, _, _, ty3, rfl⟩
theorem fld73_1 : Fld Tryz.prog 73 1 1 4 true := ⟨_, _, (by kernel_rfl : Tryz.prog.underlying 73 = some Tryz.t72.desc), rfl, rfl, _, _, _, ty70, rfl⟩
theorem fld76_0 : Fld Tryz.prog 76 0 0 1 false := ⟨_, _, (by kernel_rfl : Tryz.prog.underlying 76 = some Tryz.t75.desc), rfl, rfl, _, _, _, ty22, rfl⟩
theorem fld76_1 : Fld Tryz.prog 76 1 1 1 false := ⟨_, _, (by kernel_rfl : Tryz.prog.underlying 76 = some Tryz.t75.desc), rfl, rfl, _, _, _, ty74, rfl⟩
theorem fld78_0 : Fld Tryz.prog 78 0 0 1 false := ⟨_, _, (by kernel_rfl : Tryz.prog.underlying 78 = some Tryz.t77.desc), rfl, rfl, _, _, _, ty4, rfl⟩
theorem fld78_1 : Fld Tryz.prog 78 1 1 1 false := ⟨_, _, (by kernel_rfl : Tryz.prog.underlying 78 = some Tryz.t77.desc), rfl, rfl, _, _, _, ty4, rfl⟩
theorem fld78_2 : Fld Tryz.prog 78 2 2 1 false := ⟨_, _, (by kernel_rfl : Tryz.prog.underlying 78 = some Tryz.t77.desc), rfl, rfl, _, _, _, ty3, rfl⟩
theorem fld78_3 : Fld Tryz.prog 78 3 3 1 false := ⟨_, _, (by kernel_rfl : Tryz.prog.underlying 78 = some Tryz.t77.desc), rfl, rfl, _, _, _, ty3, rfl⟩
theorem fld88_0 : Fld Tryz.prog 88 0 0 1 false := ⟨_, _, (by kernel_rfl : Tryz.prog.underlying 88 = some Tryz.t87.desc), rfl, rfl, _, _, _, ty4, rfl⟩
theorem fld88_1 : Fld Tryz.prog 88 1 1 1 false := ⟨_, _, (by kernel_rfl : Tryz.prog.underlying 88 = some Tryz.t87.desc), rfl, rfl, _, _, _, ty4, rfl⟩
theorem fld88_2 : Fld Tryz.prog 88 2 2 1 false := ⟨_, _, (by kernel_rfl : Tryz.prog.underlying 88 = some Tryz.t87.desc), rfl, rfl, _, _, _, ty3, rfl⟩
theorem fld88_3 : Fld Tryz.prog 88 3 3 1 false := ⟨_, _, (by kernel_rfl : Tryz.prog.underlying 88 = some Tryz.t87.desc), rfl, rfl, _, _, _, ty3, rfl⟩
theorem fld91_0 : Fld Tryz.prog 91 0 0 1 false := ⟨_, _, (by kernel_rfl : Tryz.prog.underlying 91 = some Tryz.t90.desc), rfl, rfl, _, _, _, ty81, rfl⟩
theorem fld91_1 : Fld Tryz.prog 91 1 1 1 false := ⟨_, _, (by kernel_rfl : Tryz.prog.underlying 91 = some Tryz.t90.desc), rfl, rfl, _, _, _, ty84, rfl⟩
theorem fld91_2 : Fld Tryz.prog 91 2 2 1024 true := ⟨_, _, (by kernel_rfl : Tryz.prog.underlying 91 = some Tryz.t90.desc), rfl, rfl, _, _, _, ty89, rfl⟩
theorem fld121_0 : Fld Tryz.prog 121 0 0 1 false := ⟨_, _, (by kernel_rfl : Tryz.prog.underlying 121 = some Tryz.t120.desc), rfl, rfl, _, _, _, ty3, rfl⟩
theorem fld121_1 : Fld Tryz.prog 121 1 1 1 false := ⟨_, _, (by kernel_rfl : Tryz.prog.underlying 121 = some Tryz.t120.desc), rfl, rfl, _, _, _, ty3, rfl⟩
theorem fld126_0 : Fld Tryz.prog 126 0 0 1 false := ⟨_, _, (by kernel_rfl : Tryz.prog.underlying 126 = some Tryz.t125.desc), rfl, rfl, _, _, _, ty122, rfl⟩
theorem fld126_1 : Fld Tryz.prog 126 1 1 256 true := ⟨_, _, (by kernel_rfl : Tryz.prog.underlying 126 = some Tryz.t125.desc), rfl, rfl, _, _, _, ty123, rfl⟩
theorem fld126_2 : Fld Tryz.prog 126 2 257 32 true := ⟨_, _, (by kernel_rfl : Tryz.prog.underlying 126 = some Tryz.t125.desc), rfl, rfl, _, _, _, ty124, rfl⟩
theorem fld132_0 : Fld Tryz.prog 132 0 0 1 false := ⟨_, _, (by kernel_rfl : Tryz.prog.underlying 132 = some Tryz.t131.desc), rfl, rfl, _, _, _, ty130, rfl⟩
theorem fld160_0 : Fld Tryz.prog 160 0 0 1 false := ⟨_, _, (by kernel_rfl : Tryz.prog.underlying 160 = some Tryz.t159.desc), rfl, rfl, _, _, _, ty24, rfl⟩
theorem fld160_1 : Fld Tryz.prog 160 1 1 1 false := ⟨_, _, (by kernel_rfl : Tryz.prog.underlying 160 = some Tryz.t159.desc), rfl, rfl, _, _, _, ty3, rfl⟩
theorem fld160_2 : Fld Tryz.prog 160 2 2 1 false := ⟨_, _, (by kernel_rfl : Tryz.prog.underlying 160 = some Tryz.t159.desc), rfl, rfl, _, _, _, ty3, rfl⟩
theorem fld167_0 : Fld Tryz.prog 167 0 0 1 false := ⟨_, _, (by kernel_rfl : Tryz.prog.underlying 167 = some Tryz.t166.desc), rfl, rfl, _, _, _, ty22, rfl⟩
theorem fld167_1 : Fld Tryz.prog 167 1 1 512 true := ⟨_, _, (by kernel_rfl : Tryz.prog.underlying 167 = some Tryz.t166.desc), rfl, rfl, _, _, _, ty163, rfl⟩
theorem fld167_2 : Fld Tryz.prog 167 2 513 8 true := ⟨_, _, (by kernel_rfl : Tryz.prog.underlying 167 = some Tryz.t166.desc), rfl, rfl, _, _, _, ty165, rfl⟩
theorem fld167_3 : Fld Tryz.prog 167 3 521 1 false := ⟨_, _, (by kernel_rfl : Tryz.prog.underlying 167 = some Tryz.t166.desc), rfl, rfl, _, _, _, ty161, rfl⟩
theorem fld167_4 : Fld Tryz.prog 167 4 522 1 false := ⟨_, _, (by kernel_rfl : Tryz.prog.underlying 167 = some Tryz.t166.desc), rfl, rfl, _, _, _, ty3, rfl⟩
theorem fld169_0 : Fld Tryz.prog 169 0 0 4 true := ⟨_, _, (by kernel_rfl : Tryz.prog.underlying 169 = some Tryz.t168.desc), rfl, rfl, _, _, _, ty32, rfl⟩
theorem fld169_1 : Fld Tryz.prog 169 1 4 1 false := ⟨_, _, (by kernel_rfl : Tryz.prog.underlying 169 = some Tryz.t168.desc), rfl, rfl, _, _, _, ty3, rfl⟩
theorem pl32 : StructPl Tryz.prog 32 [(0, 1), (1, 1), (2, 1), (3, 1)] := ⟨_, (by kernel_rfl : Tryz.prog.underlying 32 = some Tryz.t31.desc), fun _ => by kernel_rfl⟩
theorem pl60 : StructPl Tryz.prog 60 [(0, 1), (1, 1), (2, 1)] := ⟨_, (by kernel_rfl : Tryz.prog.underlying 60 = some Tryz.t59.desc), fun _ => by kernel_rfl⟩
theorem pl63 : StructPl Tryz.prog 63 [(0, 1), (1, 3), (4, 1)] := ⟨_, (by kernel_rfl : Tryz.prog.underlying 63 = some Tryz.t62.desc), fun _ => by kernel_rfl⟩
theorem pl70 : StructPl Tryz.prog 70 [(0, 1), (1, 1), (2, 1), (3, 1)] := ⟨_, (by kernel_rfl : Tryz.prog.underlying 70 = some Tryz.t31.desc), fun _ => by kernel_rfl⟩
theorem pl73 : StructPl Tryz.prog 73 [(0, 1), (1, 4)] := ⟨_, (by kernel_rfl : Tryz.prog.underlying 73 = some Tryz.t72.desc), fun _ => by kernel_rfl⟩
theorem pl76 : StructPl Tryz.prog 76 [(0, 1), (1, 1)] := ⟨_, (by kernel_rfl : Tryz.prog.underlying 76 = some Tryz.t75.desc), fun _ => by kernel_rfl⟩
theorem pl78 : StructPl Tryz.prog 78 [(0, 1), (1, 1), (2, 1), (3, 1)] := ⟨_, (by kernel_rfl : Tryz.prog.underlying 78 = some Tryz.t77.desc), fun _ => by kernel_rfl⟩
theorem pl88 : StructPl Tryz.prog 88 [(0, 1), (1, 1), (2, 1), (3, 1)] := ⟨_, (by kernel_rfl : Tryz.prog.underlying 88 = some Tryz.t87.desc), fun _ => by kernel_rfl⟩
theorem pl91 : StructPl Tryz.prog 91 [(0, 1), (1, 1), (2, 1024)] := ⟨_, (by kernel_rfl : Tryz.prog.underlying 91 = some Tryz.t90.desc), fun _ => by kernel_rfl⟩
theorem pl121 : StructPl Tryz.prog 121 [(0, 1), (1, 1)] := ⟨_, (by kernel_rfl : Tryz.prog.underlying 121 = some Tryz.t120.desc), fun _ => by kernel_rfl⟩
theorem pl126 : StructPl Tryz.prog 126 [(0, 1), (1, 256), (257, 32)] := ⟨_, (by kernel_rfl : Tryz.prog.underlying 126 = some Tryz.t125.desc), fun _ => by kernel_rfl⟩
theorem pl132 : StructPl Tryz.prog 132 [(0, 1)] := ⟨_, (by kernel_rfl : Tryz.prog.underlying 132 = some Tryz.t131.desc), fun _ => by kernel_rfl⟩
theorem pl160 : StructPl Tryz.prog 160 [(0, 1), (1, 1), (2, 1)] := ⟨_, (by kernel_rfl : Tryz.prog.underlying 160 = some Tryz.t159.desc), fun _ => by kernel_rfl⟩
theorem pl167 : StructPl Tryz.prog 167 [(0, 1), (1, 512), (513, 8), (521, 1), (522, 1)] := ⟨_, (by kernel_rfl : Tryz.prog.underlying 167 = some Tryz.t166.desc), fun _ => by kernel_rfl⟩
theorem pl169 : StructPl Tryz.prog 169 [(0, 4), (4, 1)] := ⟨_, (by kernel_rfl : Tryz.prog.underlying 169 = some Tryz.t168.desc), fun _ => by kernel_rfl⟩
theorem i64w {m : Int} (h : -9223372036854775808 ≤ m ∧ m ≤ 9223372036854775807) : IntKind.i64.wrap m = m := IntWalk.i64_in m h
theorem u64w {m : Int} (h : 0 ≤ m ∧ m ≤ 18446744073709551615) : IntKind.u64.wrap m = m := by
 have e : IntKind.u64.wrap m = m % 18446744073709551616 := by simp [IntKind.wrap, IntKind.signed, IntKind.bits]
 rw [e]; omega
def addT (a b : Nat) : Nat := if 18446744073709551615 < a + b then 18446744073709551615 else a + b
def addOk (a b : Nat) : Bool := !decide (18446744073709551615 < a + b)
theorem addT_le (a b : Nat) : addT a b ≤ 18446744073709551615 := by unfold addT; split <;> omega
def clampT (a b h : Nat) : Nat := min (max b (addT a 1)) (addT a h)
theorem clampT_le (a b h : Nat) : clampT a b h ≤ 18446744073709551615 := Nat.le_trans (Nat.min_le_right _ _) (addT_le a h)
theorem pow8 {n : Nat} (h : n < 8) : 1 ≤ 8 ^ n ∧ 8 ^ n ≤ 2097152 := by
 have h1 : 8 ^ n ≤ 8 ^ 7 := Nat.pow_le_pow_right zO zO
 exact ⟨Nat.pow_pos (by omega), by simpa using h1⟩
theorem two8 {n : Nat} (h : n < 8) : (2 : Int) ^ (min (((3 * n : Nat) : Int)).toNat IntKind.u64.bits) = ((8 ^ n : Nat) : Int) := by
 have e : min (((3 * n : Nat) : Int)).toNat IntKind.u64.bits = 3 * n := by
  have : IntKind.u64.bits = 64 := rfl
  omega
 rw [e, Int.pow_mul, Int.natCast_pow]; rfl
theorem shlT {x n : Nat} (hn : n < 8) (hx : x * 8 ^ n ≤ 18446744073709551615) : IntKind.u64.wrap ((x : Int) * 2 ^ (min (((3 * n : Nat) : Int)).toNat IntKind.u64.bits)) = ((x * 8 ^ n : Nat) : Int) := by
 rw [two8 hn, ← Int.natCast_mul]
 generalize x * 8 ^ n = k at *
 exact u64w ⟨by omega, by omega⟩
theorem shrT {x n : Nat} (hn : n < 8) : Int.fdiv (x : Int) (2 ^ (min (((3 * n : Nat) : Int)).toNat IntKind.u64.bits)) = ((x / 8 ^ n : Nat) : Int) := by
 rw [two8 hn, Int.fdiv_eq_ediv_of_nonneg _ (Int.natCast_nonneg _)]
 exact (Int.natCast_ediv _ _).symm
def lvOf (d : Nat) : Nat × Bool := if d < 63 then (0, true) else if d < 504 then (1, true) else if d < 4032 then (2, true) else if d < 32256 then (3, true) else if d < 258048 then (4, true) else if d < 2064384 then (5, true) else if d < 16515072 then (6, true) else if d < 132120576 then (7, true) else (0, false)
theorem lvOf_at {d n : Nat} (hn : n < 8) (h : d < 63 * 8 ^ n) (hl : ∀ j, j < n → 63 * 8 ^ j ≤ d) : lvOf d = (n, true) := by
 have hn' : n = 0 ∨ n = 1 ∨ n = 2 ∨ n = 3 ∨ n = 4 ∨ n = 5 ∨ n = 6 ∨ n = 7 := by omega
 unfold lvOf
 rcases hn' with rfl | rfl | rfl | rfl | rfl | rfl | rfl | rfl
 ·rw [if_pos (by omega)]
 ·have := hl 0 zO
  rw [if_neg (by omega), if_pos (by omega)]
 ·have := hl 1 zO
  rw [if_neg (by omega), if_neg (by omega), if_pos (by omega)]
 ·have := hl 2 zO
  rw [if_neg (by omega), if_neg (by omega), if_neg (by omega), if_pos (by omega)]
 ·have := hl 3 zO
  rw [if_neg (by omega), if_neg (by omega), if_neg (by omega), if_neg (by omega), if_pos (by omega)]
 ·have := hl 4 zO
  rw [if_neg (by omega), if_neg (by omega), if_neg (by omega), if_neg (by omega), if_neg (by omega), if_pos (by omega)]
 ·have := hl 5 zO
  rw [if_neg (by omega), if_neg (by omega), if_neg (by omega), if_neg (by omega), if_neg (by omega), if_neg (by omega), if_pos (by omega)]
 ·have := hl 6 zO
  rw [if_neg (by omega), if_neg (by omega), if_neg (by omega), if_neg (by omega), if_neg (by omega), if_neg (by omega), if_neg (by omega), if_pos (by omega)]
theorem lvOf_no {d : Nat} (hl : ∀ j, j < 8 → 63 * 8 ^ j ≤ d) : lvOf d = (0, false) := by
 have := hl 7 zO
 unfold lvOf
 rw [if_neg (by omega), if_neg (by omega), if_neg (by omega), if_neg (by omega), if_neg (by omega), if_neg (by omega), if_neg (by omega), if_neg (by omega)]
theorem lvOf_lt (d : Nat) : (lvOf d).1 < 8 := by unfold lvOf; (repeat' split) <;> decide
def tickT (x n : Nat) : Nat := if 18446744073709551615 / 8 ^ n < x then 18446744073709551615 else x * 8 ^ n
theorem tickT_le (x n : Nat) : tickT x n ≤ 18446744073709551615 := by
 unfold tickT; split
 ·omega
 ·rename_i h
  exact (Nat.le_div_iff_mul_le (Nat.pow_pos zO)).1 zO
def ceilT (a n : Nat) : Nat := if a / 8 ^ n * 8 ^ n ≠ a then a / 8 ^ n + 1 else a / 8 ^ n
structure Spot where
 lv : Nat
 slot : Nat
 at_ : Nat
 due : Nat
deriving DecidableEq
def Spot.v (s : Spot) : List Value := [.int .i64 (s.lv : Int), .int .i64 (s.slot : Int), .int .u64 (s.at_ : Int), .int .u64 (s.due : Int)]
def zSpot : Spot := ⟨0, 0, 0, 0⟩
def placeT (a b : Nat) : Spot × Int :=
 if a = 18446744073709551615 then (zSpot, 12)
 else let t := clampT a b 132120575; let n := (lvOf (t - a)).1; (⟨n, ceilT t n % 64, t, tickT (ceilT t n) n⟩, 0)
def moreT (x s : Nat) : Nat := if (s + 18446744073709551616 - x) % 64 = 0 then 64 else (s + 18446744073709551616 - x) % 64
def timeT (a n s : Nat) : Nat := if 18446744073709551615 < a / 8 ^ n + moreT (a / 8 ^ n) s then 18446744073709551615 else tickT (a / 8 ^ n + moreT (a / 8 ^ n) s) n
theorem Add_pure {a b : Nat} (ha : a ≤ 18446744073709551615) (hb : b ≤ 18446744073709551615) : Pure Tryz.prog (fun _ => True) 137 [.int .u64 ((a : Nat) : Int), .int .u64 ((b : Nat) : Int)] (.tuple #[.int .u64 ((addT a b : Nat) : Int), .bool (addOk a b)]) := by
 intro w0 H hT
 refine L_enter Tryz.func137 rfl Tryz.ntmps137 rfl rfl ?_
 refine W_sr ?_
 refine W_assign rfl rfl ?_
 refine W_assign rfl rfl ?_
 refine W_nil (W_seq (W_sr ?_))
 refine W_move rfl rfl ?_
 refine W_move rfl rfl ?_
 refine W_bin rfl rfl (b_sub (m := ((18446744073709551615 - a : Nat) : Int)) (by rw [u64w (by omega)]; omega)) rfl ?_
 refine W_bin rfl rfl b_gtr rfl ?_
 refine W_nil ?_
 refine W_condPS (p := 18446744073709551615 < a + b) rfl (by simp; omega) (fun c0 => ?_) (fun c0 => ?_)
 ·skip
  refine W_sr ?_
  refine W_assign rfl rfl ?_
  refine W_assign rfl rfl ?_
  refine W_nil ?_
  refine W_ret2m (H2 := H) Tryz.results137 rfl rfl (.nil _) zH ?_
  exact ⟨by unfold addT addOk; rw [if_pos c0, decide_eq_true c0]; rfl, rfl⟩
 ·skip
  refine W_skip (W_sr ?_)
  refine W_move rfl rfl ?_
  refine W_move rfl rfl ?_
  refine W_bin rfl rfl (b_add (m := ((a + b : Nat) : Int)) (by rw [u64w (by omega)]; omega)) rfl ?_
  refine W_assign rfl rfl ?_
  refine W_assign rfl rfl ?_
  refine W_nil ?_
  refine W_ret2m (H2 := H) Tryz.results137 rfl rfl (.nil _) zH ?_
  exact ⟨by unfold addT addOk; rw [if_neg c0, decide_eq_false c0]; rfl, rfl⟩
theorem Clamp_pure {a b h : Nat} (ha : a ≤ 18446744073709551615) (hb : b ≤ 18446744073709551615) (hh : h ≤ 18446744073709551615) : Pure Tryz.prog (fun _ => True) 120 [.int .u64 ((a : Nat) : Int), .int .u64 ((b : Nat) : Int), .int .u64 ((h : Nat) : Int)] (.int .u64 ((clampT a b h : Nat) : Int)) := by
 intro w0 H hT
 refine L_enter Tryz.func120 rfl Tryz.ntmps120 rfl rfl ?_
 refine W_sr ?_
 refine W_assign rfl rfl ?_
 refine W_nil (W_sr ?_)
 refine W_move rfl rfl ?_
 refine W_callp (.cons rfl (.cons rfl .nil)) Tryz.call137 rfl (T := fun _ => True) trivial (Add_pure (b := 1) ha zO) ?_
 refine W_move rfl rfl ?_
 refine W_extract rfl rfl rfl ?_
 refine W_extract rfl rfl rfl ?_
 refine W_assign rfl rfl ?_
 refine W_assign rfl rfl ?_
 refine W_nil (W_sr ?_)
 refine W_move rfl rfl ?_
 refine W_move rfl rfl ?_
 refine W_callp (.cons rfl (.cons rfl .nil)) Tryz.call137 rfl (T := fun _ => True) trivial (Add_pure ha hh) ?_
 refine W_move rfl rfl ?_
 refine W_extract rfl rfl rfl ?_
 refine W_extract rfl rfl rfl ?_
 refine W_assign rfl rfl ?_
 refine W_assign rfl rfl ?_
 refine W_nil (W_sr ?_)
 refine W_move rfl rfl ?_
 refine W_move rfl rfl ?_
 refine W_max2 rfl rfl (m := ((max b (addT a 1) : Nat) : Int)) (by split <;> omega) rfl ?_
 refine W_move rfl rfl ?_
 refine W_min2 rfl rfl (m := ((clampT a b h : Nat) : Int)) (by unfold clampT; split <;> omega) rfl ?_
 refine W_assign rfl rfl ?_
 refine W_nil ?_
 refine W_ret1m (H2 := H) Tryz.results120 rfl (.nil _) zH ?_
 exact ⟨rfl, rfl⟩
theorem bits_pure {n : Nat} (hn : n < 8) : Pure Tryz.prog (fun _ => True) 122 [.int .i64 (n : Int)] (.int .u64 ((3 * n : Nat) : Int)) := by
 intro w0 H hT
 refine L_enter Tryz.func122 rfl Tryz.ntmps122 rfl rfl ?_
 refine W_sr ?_
 refine W_assign rfl rfl ?_
 refine W_nil (W_sr ?_)
 refine W_move rfl rfl ?_
 refine W_bin rfl rfl (b_mul (m := ((3 * n : Nat) : Int)) (by rw [i64w (by omega)]; omega)) rfl ?_
 refine W_conv rfl ty3 ty190 (u64w zO) rfl ?_
 refine W_assign rfl rfl ?_
 refine W_nil ?_
 refine W_ret1m (H2 := H) Tryz.results122 rfl (.nil _) zH ?_
 exact ⟨rfl, rfl⟩
theorem is_pure {n : Nat} (hn : n < 8) : Pure Tryz.prog (fun _ => True) 153 [.int .i64 (n : Int)] (.bool true) := by
 intro w0 H hT
 refine L_enter Tryz.func153 rfl Tryz.ntmps153 rfl rfl ?_
 refine W_sr ?_
 refine W_assign rfl rfl ?_
 refine W_nil (W_sr ?_)
 refine W_move rfl rfl ?_
 refine W_bin rfl rfl b_geq rfl ?_
 rw [decide_eq_true (by omega)]
 refine W_move rfl rfl ?_
 refine W_gyes rfl rfl ?_
 refine W_move rfl rfl ?_
 refine W_gyes rfl rfl ?_
 refine W_bin rfl rfl b_lss rfl ?_
 rw [decide_eq_true (by omega)]
 first | refine W_pickt rfl rfl rfl ?_ | refine W_pickf rfl rfl rfl ?_
 refine W_assign rfl rfl ?_
 refine W_nil ?_
 refine W_ret1m (H2 := H) Tryz.results153 rfl (.nil _) zH ?_
 exact ⟨rfl, rfl⟩
theorem Gran_pure {n : Nat} (hn : n < 8) : Pure Tryz.prog (fun _ => True) 141 [.int .i64 (n : Int)] (.int .u64 ((8 ^ n : Nat) : Int)) := by
 intro w0 H hT
 refine L_enter Tryz.func141 rfl Tryz.ntmps141 rfl rfl ?_
 refine W_sr ?_
 refine W_assign rfl rfl ?_
 refine W_nil (W_seq (W_sr ?_))
 refine W_move rfl rfl ?_
 refine W_callp (.cons rfl .nil) Tryz.call153 rfl (T := fun _ => True) trivial (is_pure hn) ?_
 refine W_not rfl rfl ?_
 refine W_nil ?_
 refine W_condF rfl rfl ?_
 refine W_skip (W_sr ?_)
 refine W_move rfl rfl ?_
 refine W_callp (.cons rfl .nil) Tryz.call122 rfl (T := fun _ => True) trivial (bits_pure hn) ?_
 refine W_bin rfl rfl (b_shl (by omega) (m := ((8 ^ n : Nat) : Int)) (by have h := shlT (x := 1) hn (by have := pow8 hn; omega); rwa [Nat.one_mul] at h)) rfl ?_
 refine W_assign rfl rfl ?_
 refine W_nil ?_
 refine W_ret1m (H2 := H) Tryz.results141 rfl (.nil _) zH ?_
 exact ⟨rfl, rfl⟩
theorem tick_pure {x n : Nat} (hn : n < 8) : Pure Tryz.prog (fun _ => True) 123 [.int .u64 ((x : Nat) : Int), .int .i64 (n : Int)] (.int .u64 ((tickT x n : Nat) : Int)) := by
 intro w0 H hT
 refine L_enter Tryz.func123 rfl Tryz.ntmps123 rfl rfl ?_
 refine W_sr ?_
 refine W_assign rfl rfl ?_
 refine W_nil (W_seq (W_sr ?_))
 refine W_move rfl rfl ?_
 refine W_move rfl rfl ?_
 refine W_callp (.cons rfl .nil) Tryz.call122 rfl (T := fun _ => True) trivial (bits_pure hn) ?_
 refine W_bin rfl rfl (b_shr zO (m := ((18446744073709551615 / 8 ^ n : Nat) : Int)) (shrT (x := 18446744073709551615) hn)) rfl ?_
 generalize hq : 18446744073709551615 / 8 ^ n = qq
 refine W_bin rfl rfl b_gtr rfl ?_
 refine W_nil ?_
 refine W_condPS (p := qq < x) rfl (by simp) (fun c0 => ?_) (fun c0 => ?_)
 ·skip
  refine W_sr ?_
  refine W_assign rfl rfl ?_
  refine W_nil ?_
  refine W_ret1m (H2 := H) Tryz.results123 rfl (.nil _) zH ?_
  exact ⟨by unfold tickT; rw [if_pos (by omega)]; rfl, rfl⟩
 ·skip
  refine W_skip (W_sr ?_)
  refine W_move rfl rfl ?_
  refine W_move rfl rfl ?_
  refine W_callp (.cons rfl .nil) Tryz.call122 rfl (T := fun _ => True) trivial (bits_pure hn) ?_
  refine W_bin rfl rfl (b_shl zO (m := ((x * 8 ^ n : Nat) : Int)) (shlT hn ((Nat.le_div_iff_mul_le (Nat.pow_pos zO)).1 zO))) rfl ?_
  refine W_assign rfl rfl ?_
  refine W_nil ?_
  refine W_ret1m (H2 := H) Tryz.results123 rfl (.nil _) zH ?_
  exact ⟨by unfold tickT; rw [if_neg (by omega)], rfl⟩
theorem Of_pure {d : Nat} : Pure Tryz.prog (fun _ => True) 121 [.int .u64 ((d : Nat) : Int)] (.tuple #[.int .i64 ((lvOf d).1 : Int), .bool (lvOf d).2]) := by
 intro w0 H hT
 refine L_enter Tryz.func121 rfl Tryz.ntmps121 rfl rfl ?_
 refine W_sr ?_
 refine W_assign rfl rfl ?_
 refine W_assign rfl rfl ?_
 refine W_nil ?_
 refine W_scope (fun _ _ _ h => h) ?_
 refine W_sr ?_
 refine W_assign rfl rfl ?_
 refine W_assign rfl rfl ?_
 refine W_nil (W_seq ?_)
 refine W_label ?_
 refine W_seq (W_block ?_)
 refine W_loopC (X := Nat) [(0, _)] (fun (n : Nat) => [(4, .bool false), (5, .int .i64 (n : Int))]) (fun _ => _) (fun (n : Nat) => H) (fun (n : Nat) => n ≤ 8 ∧ ∀ j, j < n → 63 * 8 ^ j ≤ d) (fun (n : Nat) => 8 - n) 0 ⟨Nat.zero_le _, fun j hj => by omega⟩ (sub_cons rfl (sub_nil _)) (sub_cons rfl (sub_cons rfl (sub_nil _))) rfl zH ?_
 rintro n ⟨hn, hl⟩
 simp only [List.cons_append, List.nil_append]
 refine W_seq (W_sr ?_)
 refine W_move rfl rfl ?_
 refine W_bin rfl rfl b_lss rfl ?_
 refine W_nil ?_
 refine W_condPS (p := (n : Int) < 8) rfl (by simp) (fun c0 => ?_) (fun c0 => ?_)
 ·skip
  refine W_skip (W_seq ?_)
  refine W_block (W_sr ?_)
  refine W_move rfl rfl ?_
  refine W_move rfl rfl ?_
  refine W_callp (.cons rfl .nil) Tryz.call122 rfl (T := fun _ => True) trivial (bits_pure (n := n) zO) ?_
  refine W_bin rfl rfl (b_shl zO (m := ((63 * 8 ^ n : Nat) : Int)) (shlT (x := 63) zO (by have := pow8 (n := n) zO; omega))) rfl ?_
  refine W_bin rfl rfl b_lss rfl ?_
  refine W_nil ?_
  refine W_condPS (p := d < 63 * 8 ^ n) rfl (by rw [decide_eq_true_eq]; exact Int.ofNat_lt) (fun c1 => ?_) (fun c1 => ?_)
  ·skip
   refine W_sr ?_
   refine W_assign rfl rfl ?_
   refine W_nil ?_
   refine W_exit rfl ?_
   refine W_seq (W_sr ?_)
   refine W_move rfl rfl ?_
   refine W_not rfl rfl ?_
   refine W_nil ?_
   refine W_condF rfl rfl ?_
   refine W_skip (W_sr ?_)
   refine W_move rfl rfl ?_
   refine W_move rfl rfl ?_
   refine W_assign rfl rfl ?_
   refine W_assign rfl rfl ?_
   refine W_nil ?_
   refine W_ret2m (H2 := H) Tryz.results121 rfl rfl (.nil _) zH ?_
   exact ⟨by rw [lvOf_at (by omega) c1 hl], rfl⟩
  ·skip
   refine W_skip ?_
   refine W_blk ?_
   refine W_region ?_
   refine W_move rfl rfl ?_
   refine W_bin rfl rfl (b_add (m := ((n + 1 : Nat) : Int)) (by rw [i64w (by omega)]; omega)) rfl ?_
   refine W_assign rfl rfl ?_
   refine W_nil ?_
   refine W_again (n + 1) ⟨by omega, fun j hj => by by_cases e : j = n; exact e ▸ zO; exact hl j zO⟩ zO (sub_cons rfl (sub_cons rfl (sub_cons rfl (sub_nil _)))) rfl zH
 ·skip
  refine W_exit rfl ?_
  refine W_seq (W_sr ?_)
  refine W_move rfl rfl ?_
  refine W_not rfl rfl ?_
  refine W_nil ?_
  refine W_condT rfl rfl ?_
  refine W_region ?_
  refine W_assign rfl rfl ?_
  refine W_nil (W_sr ?_)
  refine W_move rfl rfl ?_
  refine W_move rfl rfl ?_
  refine W_assign rfl rfl ?_
  refine W_assign rfl rfl ?_
  refine W_nil ?_
  refine W_ret2m (H2 := H) Tryz.results121 rfl rfl (.nil _) zH ?_
  exact ⟨by rw [lvOf_no (fun j hj => hl j (by omega))]; rfl, rfl⟩
theorem tmN (x k : Nat) : (x : Int).tmod (k : Int) = ((x % k : Nat) : Int) := (Int.ofNat_tmod x k).symm
theorem tdN (x k : Nat) : (x : Int).tdiv (k : Int) = ((x / k : Nat) : Int) := (Int.ofNat_tdiv x k).symm
theorem clampT_ge {a : Nat} (ha : a ≤ 18446744073709551615) (b h : Nat) : a ≤ clampT a b h := by unfold clampT addT; split <;> split <;> omega
theorem ceil_up {t n : Nat} (ht : t ≤ 18446744073709551615) (h : t / 8 ^ n * 8 ^ n ≠ t) : t / 8 ^ n + 1 ≤ 18446744073709551615 := by
 have h1 := Nat.div_mul_le_self t (8 ^ n)
 have h2 : t / 8 ^ n ≤ t / 8 ^ n * 8 ^ n := Nat.le_mul_of_pos_right _ (Nat.pow_pos zO)
 omega
theorem subW {s x : Nat} (hx : x ≤ 18446744073709551615) : IntKind.u64.wrap ((s : Int) - (x : Int)) = (((s + 18446744073709551616 - x) % 18446744073709551616 : Nat) : Int) := by
 have e : IntKind.u64.wrap ((s : Int) - (x : Int)) = ((s : Int) - (x : Int)) % 18446744073709551616 := by simp [IntKind.wrap, IntKind.signed, IntKind.bits]
 rw [e]; omega
theorem neqN (a b : Nat) : decide ((a : Int) ≠ (b : Int)) = true ↔ a ≠ b := by rw [decide_eq_true_eq]; exact not_congr Int.ofNat_inj
theorem Place_pure {a b : Nat} (ha : a ≤ 18446744073709551615) (hb : b ≤ 18446744073709551615) : Pure Tryz.prog (fun _ => True) 105 [.int .u64 ((a : Nat) : Int), .int .u64 ((b : Nat) : Int)] (.tuple #[.agg (placeT a b).1.v.toArray, .int .i64 (placeT a b).2]) := by
 intro w0 H hT
 refine L_enter Tryz.func105 rfl Tryz.ntmps105 rfl rfl ?_
 refine W_sr ?_
 refine W_alloc (l := zSpot.v) ty32 rfl rfl (fun b4 => ?_)
 refine W_assign rfl rfl ?_
 refine W_nil (W_seq (W_sr ?_))
 refine W_move rfl rfl ?_
 refine W_bin rfl rfl b_eql rfl ?_
 refine W_nil ?_
 refine W_condPS (p := a = 18446744073709551615) rfl (by rw [decide_eq_true_eq]; exact Int.ofNat_inj) (fun c0 => ?_) (fun c0 => ?_)
 ·skip
  refine W_sr ?_
  refine W_build ty32 pl32 .nil rfl zF rfl ?_
  refine W_storeA (l' := zSpot.v) rfl rfl ty32 rfl rfl (b := b4) zM (by exact Nat.le_refl 4) rfl zU ?_
  refine W_assign rfl rfl ?_
  refine W_nil ?_
  refine W_ret2G (H2 := H) Tryz.results105 (.nil _) (.own rfl ty32 rfl zM rfl) (.tmp rfl) zH ?_
  exact ⟨by unfold placeT; rw [if_pos c0], rfl⟩
 ·skip
  refine W_skip (W_sr ?_)
  refine W_move rfl rfl ?_
  refine W_move rfl rfl ?_
  refine W_callp (.cons rfl (.cons rfl (.cons rfl .nil))) Tryz.call120 rfl (T := fun _ => True) trivial (Clamp_pure (h := 132120575) ha hb zO) ?_
  obtain ⟨t, ht⟩ : ∃ t, t = clampT a b 132120575 := ⟨_, rfl⟩
  rw [← ht]
  have ht1 : t ≤ 18446744073709551615 := ht ▸ clampT_le _ _ _
  have ht2 : a ≤ t := ht ▸ clampT_ge ha _ _
  refine W_assign rfl rfl ?_
  refine W_nil (W_sr ?_)
  refine W_move rfl rfl ?_
  refine W_move rfl rfl ?_
  refine W_bin rfl rfl (b_sub (m := ((t - a : Nat) : Int)) (by rw [u64w (by omega)]; omega)) rfl ?_
  refine W_callp (.cons rfl .nil) Tryz.call121 rfl (T := fun _ => True) trivial (Of_pure ) ?_
  obtain ⟨n, hn⟩ : ∃ n, n = (lvOf (t - a)).1 := ⟨_, rfl⟩
  rw [← hn]
  have hn8 : n < 8 := hn ▸ lvOf_lt _
  have hp8 := pow8 hn8
  refine W_move rfl rfl ?_
  refine W_extract rfl rfl rfl ?_
  refine W_extract rfl rfl rfl ?_
  refine W_assign rfl rfl ?_
  refine W_assign rfl rfl ?_
  refine W_nil (W_sr ?_)
  refine W_move rfl rfl ?_
  refine W_move rfl rfl ?_
  refine W_callp (.cons rfl .nil) Tryz.call122 rfl (T := fun _ => True) trivial (bits_pure hn8) ?_
  refine W_bin rfl rfl (b_shr zO (m := ((t / 8 ^ n : Nat) : Int)) (shrT hn8)) rfl ?_
  refine W_assign rfl rfl ?_
  refine W_nil (W_seq (W_sr ?_))
  refine W_move rfl rfl ?_
  refine W_move rfl rfl ?_
  refine W_callp (.cons rfl .nil) Tryz.call122 rfl (T := fun _ => True) trivial (bits_pure hn8) ?_
  refine W_bin rfl rfl (b_shl zO (m := ((t / 8 ^ n * 8 ^ n : Nat) : Int)) (shlT hn8 (Nat.le_trans (Nat.div_mul_le_self _ _) ht1))) rfl ?_
  refine W_move rfl rfl ?_
  refine W_bin rfl rfl b_neq rfl ?_
  refine W_nil ?_
  refine W_condPS (p := t / 8 ^ n * 8 ^ n ≠ t) rfl (neqN _ _) (fun c1 => ?_) (fun c1 => ?_)
  ·skip
   refine W_region ?_
   refine W_move rfl rfl ?_
   refine W_bin rfl rfl (b_add (m := ((ceilT t n : Nat) : Int)) (by have h := ceil_up ht1 c1; have e : ceilT t n = t / 8 ^ n + 1 := if_pos c1; rw [e]; generalize t / 8 ^ n = y at *; rw [u64w (by omega)]; omega)) rfl ?_
   refine W_assign rfl rfl ?_
   refine W_nil (W_sr ?_)
   refine W_move rfl rfl ?_
   refine W_move rfl rfl ?_
   refine W_bin rfl rfl (b_rem zd (m := ((ceilT t n % 64 : Nat) : Int)) (tmN _ 64)) rfl ?_
   refine W_conv rfl ty22 ty3 (i64w zO) rfl ?_
   refine W_move rfl rfl ?_
   refine W_move rfl rfl ?_
   refine W_move rfl rfl ?_
   refine W_callp (.cons rfl (.cons rfl .nil)) Tryz.call123 rfl (T := fun _ => True) trivial (tick_pure hn8) ?_
   refine W_build (l := [.int .i64 (n : Int), .int .i64 ((ceilT t n % 64 : Nat) : Int), .int .u64 (t : Int), .int .u64 ((tickT (ceilT t n) n : Nat) : Int)]) ty32 pl32 (.cons rfl rfl rfl rfl rfl (.cons rfl rfl rfl rfl rfl (.cons rfl rfl rfl rfl rfl (.cons rfl rfl rfl rfl rfl .nil)))) rfl rfl rfl ?_
   refine W_storeA (l' := [.int .i64 (n : Int), .int .i64 ((ceilT t n % 64 : Nat) : Int), .int .u64 (t : Int), .int .u64 ((tickT (ceilT t n) n : Nat) : Int)]) rfl rfl ty32 rfl rfl (b := b4) zM (by exact Nat.le_refl 4) rfl zU ?_
   refine W_assign rfl rfl ?_
   refine W_nil ?_
   refine W_ret2G (H2 := H) Tryz.results105 (.nil _) (.own rfl ty32 rfl zM rfl) (.tmp rfl) zH ?_
   exact ⟨by unfold placeT; rw [if_neg c0]; dsimp only; rw [← ht, ← hn]; rfl, rfl⟩
  ·skip
   refine W_skip (W_sr ?_)
   rw [show t / 8 ^ n = ceilT t n from (if_neg c1).symm]
   refine W_move rfl rfl ?_
   refine W_move rfl rfl ?_
   refine W_bin rfl rfl (b_rem zd (m := ((ceilT t n % 64 : Nat) : Int)) (tmN _ 64)) rfl ?_
   refine W_conv rfl ty22 ty3 (i64w zO) rfl ?_
   refine W_move rfl rfl ?_
   refine W_move rfl rfl ?_
   refine W_move rfl rfl ?_
   refine W_callp (.cons rfl (.cons rfl .nil)) Tryz.call123 rfl (T := fun _ => True) trivial (tick_pure hn8) ?_
   refine W_build (l := [.int .i64 (n : Int), .int .i64 ((ceilT t n % 64 : Nat) : Int), .int .u64 (t : Int), .int .u64 ((tickT (ceilT t n) n : Nat) : Int)]) ty32 pl32 (.cons rfl rfl rfl rfl rfl (.cons rfl rfl rfl rfl rfl (.cons rfl rfl rfl rfl rfl (.cons rfl rfl rfl rfl rfl .nil)))) rfl rfl rfl ?_
   refine W_storeA (l' := [.int .i64 (n : Int), .int .i64 ((ceilT t n % 64 : Nat) : Int), .int .u64 (t : Int), .int .u64 ((tickT (ceilT t n) n : Nat) : Int)]) rfl rfl ty32 rfl rfl (b := b4) zM (by exact Nat.le_refl 4) rfl zU ?_
   refine W_assign rfl rfl ?_
   refine W_nil ?_
   refine W_ret2G (H2 := H) Tryz.results105 (.nil _) (.own rfl ty32 rfl zM rfl) (.tmp rfl) zH ?_
   exact ⟨by unfold placeT; rw [if_neg c0]; dsimp only; rw [← ht, ← hn]; rfl, rfl⟩
theorem Time_pure {a n s : Nat} (ha : a ≤ 18446744073709551615) (hn : n < 8) (hs : s < 64) : Pure Tryz.prog (fun _ => True) 143 [.int .u64 ((a : Nat) : Int), .int .i64 (n : Int), .int .i64 (s : Int)] (.tuple #[.int .u64 ((timeT a n s : Nat) : Int), .int .i64 0]) := by
 intro w0 H hT
 refine L_enter Tryz.func143 rfl Tryz.ntmps143 rfl rfl ?_
 refine W_sr ?_
 refine W_assign rfl rfl ?_
 refine W_assign rfl rfl ?_
 refine W_nil (W_seq (W_sr ?_))
 refine W_move rfl rfl ?_
 refine W_callp (.cons rfl .nil) Tryz.call153 rfl (T := fun _ => True) trivial (is_pure hn) ?_
 refine W_not rfl rfl ?_
 refine W_move rfl rfl ?_
 refine W_gyes rfl rfl ?_
 refine W_move rfl rfl ?_
 refine W_gyes rfl rfl ?_
 refine W_bin rfl rfl b_lss rfl ?_
 rw [decide_eq_false (by omega)]
 first | refine W_pickt rfl rfl rfl ?_ | refine W_pickf rfl rfl rfl ?_
 refine W_move rfl rfl ?_
 refine W_gyes rfl rfl ?_
 refine W_move rfl rfl ?_
 refine W_gyes rfl rfl ?_
 refine W_bin rfl rfl b_geq rfl ?_
 rw [decide_eq_false (by omega)]
 first | refine W_pickt rfl rfl rfl ?_ | refine W_pickf rfl rfl rfl ?_
 refine W_nil ?_
 refine W_condF rfl rfl ?_
 refine W_skip (W_sr ?_)
 refine W_move rfl rfl ?_
 refine W_move rfl rfl ?_
 refine W_callp (.cons rfl .nil) Tryz.call122 rfl (T := fun _ => True) trivial (bits_pure hn) ?_
 refine W_bin rfl rfl (b_shr zO (m := ((a / 8 ^ n : Nat) : Int)) (shrT hn)) rfl ?_
 obtain ⟨x, hx⟩ : ∃ x, x = a / 8 ^ n := ⟨_, rfl⟩
 rw [← hx]
 have hx1 : x ≤ 18446744073709551615 := hx ▸ Nat.le_trans (Nat.div_le_self _ _) ha
 refine W_assign rfl rfl ?_
 refine W_nil (W_sr ?_)
 refine W_move rfl rfl ?_
 refine W_conv rfl ty3 ty22 (u64w zO) rfl ?_
 refine W_move rfl rfl ?_
 refine W_bin rfl rfl (b_sub (m := (((s + 18446744073709551616 - x) % 18446744073709551616 : Nat) : Int)) (subW hx1)) rfl ?_
 refine W_bin rfl rfl (b_rem zd (m := (((s + 18446744073709551616 - x) % 64 : Nat) : Int)) ((tmN _ 64).trans zO)) rfl ?_
 refine W_assign rfl rfl ?_
 refine W_nil (W_seq (W_sr ?_))
 refine W_move rfl rfl ?_
 refine W_bin rfl rfl b_eql rfl ?_
 refine W_nil ?_
 refine W_condPS (p := (s + 18446744073709551616 - x) % 64 = 0) rfl (by rw [decide_eq_true_eq]; omega) (fun c0 => ?_) (fun c0 => ?_)
 ·skip
  refine W_region ?_
  refine W_assign rfl rfl ?_
  refine W_nil (W_seq (W_sr ?_))
  have hm : moreT x s = 64 := if_pos c0
  refine W_move rfl rfl ?_
  refine W_move rfl rfl ?_
  refine W_bin rfl rfl (b_sub (m := ((18446744073709551615 - x : Nat) : Int)) (by rw [u64w (by omega)]; omega)) rfl ?_
  refine W_bin rfl rfl b_gtr rfl ?_
  refine W_nil ?_
  refine W_condPS (p := 18446744073709551615 < x + moreT x s) rfl (by rw [decide_eq_true_eq]; omega) (fun c1 => ?_) (fun c1 => ?_)
  ·skip
   refine W_sr ?_
   refine W_assign rfl rfl ?_
   refine W_assign rfl rfl ?_
   refine W_nil ?_
   refine W_ret2m (H2 := H) Tryz.results143 rfl rfl (.nil _) zH ?_
   exact ⟨by unfold timeT; rw [← hx, if_pos c1]; rfl, rfl⟩
  ·skip
   refine W_skip (W_sr ?_)
   refine W_move rfl rfl ?_
   refine W_move rfl rfl ?_
   refine W_bin rfl rfl (b_add (m := ((x + moreT x s : Nat) : Int)) (by rw [u64w (by omega)]; omega)) rfl ?_
   refine W_move rfl rfl ?_
   refine W_callp (.cons rfl (.cons rfl .nil)) Tryz.call123 rfl (T := fun _ => True) trivial (tick_pure hn) ?_
   refine W_assign rfl rfl ?_
   refine W_assign rfl rfl ?_
   refine W_nil ?_
   refine W_ret2m (H2 := H) Tryz.results143 rfl rfl (.nil _) zH ?_
   exact ⟨by unfold timeT; rw [← hx, if_neg c1], rfl⟩
 ·skip
  refine W_skip (W_seq (W_sr ?_))
  have hm : moreT x s = (s + 18446744073709551616 - x) % 64 := if_neg c0
  refine W_move rfl rfl ?_
  refine W_move rfl rfl ?_
  refine W_bin rfl rfl (b_sub (m := ((18446744073709551615 - x : Nat) : Int)) (by rw [u64w (by omega)]; omega)) rfl ?_
  refine W_bin rfl rfl b_gtr rfl ?_
  refine W_nil ?_
  refine W_condPS (p := 18446744073709551615 < x + moreT x s) rfl (by rw [decide_eq_true_eq]; omega) (fun c1 => ?_) (fun c1 => ?_)
  ·skip
   refine W_sr ?_
   refine W_assign rfl rfl ?_
   refine W_assign rfl rfl ?_
   refine W_nil ?_
   refine W_ret2m (H2 := H) Tryz.results143 rfl rfl (.nil _) zH ?_
   exact ⟨by unfold timeT; rw [← hx, if_pos c1]; rfl, rfl⟩
  ·skip
   refine W_skip (W_sr ?_)
   refine W_move rfl rfl ?_
   refine W_move rfl rfl ?_
   refine W_bin rfl rfl (b_add (m := ((x + moreT x s : Nat) : Int)) (by rw [u64w (by omega)]; omega)) rfl ?_
   refine W_move rfl rfl ?_
   refine W_callp (.cons rfl (.cons rfl .nil)) Tryz.call123 rfl (T := fun _ => True) trivial (tick_pure hn) ?_
   refine W_assign rfl rfl ?_
   refine W_assign rfl rfl ?_
   refine W_nil ?_
   refine W_ret2m (H2 := H) Tryz.results143 rfl rfl (.nil _) zH ?_
   exact ⟨by unfold timeT; rw [← hx, if_neg c1], rfl⟩
theorem and64 {a b : Nat} (ha : a < 18446744073709551616) (hb : b < 18446744073709551616) : bitsOf .and .u64 (a : Int) (b : Int) = ((a &&& b : Nat) : Int) := by
 have ea : BitVec.ofInt 64 (a : Int) = BitVec.ofNat 64 a := by simp
 have eb : BitVec.ofInt 64 (b : Int) = BitVec.ofNat 64 b := by simp
 have h : a &&& b < 18446744073709551616 := Nat.lt_of_le_of_lt Nat.and_le_left ha
 show IntKind.u64.wrap (((BitVec.ofInt 64 (a : Int) &&& BitVec.ofInt 64 (b : Int)).toNat : Nat) : Int) = _
 rw [ea, eb]
 rw [BitVec.toNat_and, BitVec.toNat_ofNat, BitVec.toNat_ofNat, Nat.mod_eq_of_lt (show a < 2 ^ 64 from ha), Nat.mod_eq_of_lt (show b < 2 ^ 64 from hb)]
 exact u64w ⟨by omega, by omega⟩
theorem or64 {a b : Nat} (ha : a < 18446744073709551616) (hb : b < 18446744073709551616) : bitsOf .or .u64 (a : Int) (b : Int) = ((a ||| b : Nat) : Int) := by
 have ea : BitVec.ofInt 64 (a : Int) = BitVec.ofNat 64 a := by simp
 have eb : BitVec.ofInt 64 (b : Int) = BitVec.ofNat 64 b := by simp
 have h : a ||| b < 18446744073709551616 := Nat.or_lt_two_pow (n := 64) ha hb
 show IntKind.u64.wrap (((BitVec.ofInt 64 (a : Int) ||| BitVec.ofInt 64 (b : Int)).toNat : Nat) : Int) = _
 rw [ea, eb]
 rw [BitVec.toNat_or, BitVec.toNat_ofNat, BitVec.toNat_ofNat, Nat.mod_eq_of_lt (show a < 2 ^ 64 from ha), Nat.mod_eq_of_lt (show b < 2 ^ 64 from hb)]
 exact u64w ⟨by omega, by omega⟩
theorem andNot64 {a b : Nat} (ha : a < 18446744073709551616) (hb : b < 18446744073709551616) : bitsOf .andNot .u64 (a : Int) (b : Int) = ((a &&& (18446744073709551615 - b) : Nat) : Int) := by
 have ea : BitVec.ofInt 64 (a : Int) = BitVec.ofNat 64 a := by simp
 have eb : BitVec.ofInt 64 (b : Int) = BitVec.ofNat 64 b := by simp
 have h : a &&& (18446744073709551615 - b) < 18446744073709551616 := Nat.lt_of_le_of_lt Nat.and_le_left ha
 show IntKind.u64.wrap (((BitVec.ofInt 64 (a : Int) &&& ~~~(BitVec.ofInt 64 (b : Int))).toNat : Nat) : Int) = _
 rw [ea, eb]
 rw [BitVec.toNat_and, BitVec.toNat_not, BitVec.toNat_ofNat, BitVec.toNat_ofNat, Nat.mod_eq_of_lt (show a < 2 ^ 64 from ha), Nat.mod_eq_of_lt (show b < 2 ^ 64 from hb)]
 show IntKind.u64.wrap ((a &&& (18446744073709551615 - b) : Nat) : Int) = _
 exact u64w ⟨by omega, by omega⟩
def bitN (i : Int) : Nat := if 0 ≤ i ∧ i < 64 then 2 ^ i.toNat else 0
def goodB (i : Int) : Bool := decide (0 ≤ i) && decide (i < 64)
theorem pow64 {i : Nat} (h : i < 64) : 2 ^ i ≤ 9223372036854775808 := by
 have : 2 ^ i ≤ 2 ^ 63 := Nat.pow_le_pow_right zO zO
 simpa using this
theorem bitN_lt (i : Int) : bitN i < 18446744073709551616 := by
 unfold bitN; split
 ·have := pow64 (i := i.toNat) zO; omega
 ·omega
theorem shl_one {i : Int} (hi : 0 ≤ i ∧ i < 64) : IntKind.u64.wrap (1 * 2 ^ (min i.toNat IntKind.u64.bits)) = ((bitN i : Nat) : Int) := by
 have h := pow64 (i := i.toNat) zO
 have e : min i.toNat IntKind.u64.bits = i.toNat := by
  have : IntKind.u64.bits = 64 := rfl
  omega
 have e2 : (2 : Int) ^ i.toNat = ((2 ^ i.toNat : Nat) : Int) := (Int.natCast_pow 2 _).symm
 unfold bitN
 rw [if_pos hi, Int.one_mul, e, e2]
 generalize 2 ^ i.toNat = k at *
 exact u64w ⟨by omega, by omega⟩
theorem good_pure (i : Int) : Pure Tryz.prog (fun _ => True) 138 [.int .i64 i] (.bool (goodB i)) := by
 intro w0 H hT
 refine L_enter Tryz.func138 rfl Tryz.ntmps138 rfl rfl ?_
 refine W_sr ?_
 refine W_assign rfl rfl ?_
 refine W_nil (W_sr ?_)
 refine W_move rfl rfl ?_
 refine W_bin rfl rfl b_geq rfl ?_
 refine W_move rfl rfl ?_
 apply W_and
 iterate 4 exact rfl
 case h1 =>
  intro hg2
  refine W_gyes rfl rfl ?_
  refine W_move rfl rfl ?_
  refine W_gyes rfl rfl ?_
  refine W_bin rfl rfl b_lss rfl ?_
  exact W_met rfl zR
 refine W_assign rfl rfl ?_
 refine W_nil ?_
 refine W_ret1m (H2 := H) Tryz.results138 rfl (.nil _) zH ?_
 exact ⟨rfl, rfl⟩
theorem bit_pure (i : Int) : Pure Tryz.prog (fun _ => True) 124 [.int .i64 i] (.int .u64 (bitN i : Nat)) := by
 intro w0 H hT
 refine L_enter Tryz.func124 rfl Tryz.ntmps124 rfl rfl ?_
 refine W_sr ?_
 refine W_assign rfl rfl ?_
 refine W_nil (W_seq (W_sr ?_))
 refine W_move rfl rfl ?_
 refine W_callp (.cons rfl .nil) Tryz.call138 rfl (T := fun _ => True) trivial (good_pure _) ?_
 refine W_not rfl rfl ?_
 refine W_nil ?_
 refine W_condS rfl (fun c0 => ?_) (fun c0 => ?_)
 ·skip
  refine W_sr ?_
  refine W_assign rfl rfl ?_
  refine W_nil ?_
  refine W_ret1m (H2 := H) Tryz.results124 rfl (.nil _) zH ?_
  exact ⟨by unfold bitN; rw [if_neg (by intro h; have : goodB i = true := (by unfold goodB; simp [h.1, h.2]); simp [this] at c0)]; rfl, rfl⟩
 ·skip
  refine W_skip (W_sr ?_)
  refine W_move rfl rfl ?_
  have hi : 0 ≤ i ∧ i < 64 := by
   have : goodB i = true := by cases h : goodB i <;> simp_all
   unfold goodB at this
   simpa using this
  refine W_conv rfl ty3 ty190 (u64w zO) rfl ?_
  refine W_bin rfl rfl (b_shl zO (shl_one hi)) rfl ?_
  refine W_assign rfl rfl ?_
  refine W_nil ?_
  refine W_ret1m (H2 := H) Tryz.results124 rfl (.nil _) zH ?_
  exact ⟨rfl, rfl⟩
def withL (m : Nat) (l : List Int) : Nat := l.foldl (fun m i => m ||| bitN i) m
def outL (m : Nat) (l : List Int) : Nat := l.foldl (fun m i => m &&& (18446744073709551615 - bitN i)) m
theorem withL_ok : ∀ (l : List Int) {m : Nat}, m < 18446744073709551616 → withL m l < 18446744073709551616
 | [], _, h => h
 | i :: l, _, h => withL_ok l (Nat.or_lt_two_pow (n := 64) h (bitN_lt i))
theorem outL_ok : ∀ (l : List Int) {m : Nat}, m < 18446744073709551616 → outL m l < 18446744073709551616
 | [], _, h => h
 | i :: l, _, h => outL_ok l (Nat.lt_of_le_of_lt Nat.and_le_left h)
theorem takeAt {α : Type} {l : List α} {i : Nat} {x : α} (h : l[i]? = some x) : l.take (i + 1) = l.take i ++ [x] := by
 rw [List.take_add_one, h]; rfl
theorem foldl_at {β : Type} {f : β → Int → β} {b : β} {l : List Int} {i : Nat} {x : Int} (h : l[i]? = some x) : (l.take (i + 1)).foldl f b = f ((l.take i).foldl f b) x := by
 rw [takeAt h, List.foldl_append]; rfl
theorem with_q {w0 : World} {H : Heap} {m : Nat} {l : List Int} {ad : Option Addr} {cap : Nat} (hm : m < 18446744073709551616) (hn : l.length ≤ 4611686018427387904) (hrow : Holds w0 H ad (l.map (Value.int .i64)))  : PureAt Tryz.prog w0 H 106 [.int .u64 ((m : Nat) : Int), .slice ad l.length cap] (.int .u64 ((withL m l : Nat) : Int)) := by
 refine L_enter Tryz.func106 rfl Tryz.ntmps106 rfl rfl ?_
 refine W_sr ?_
 refine W_assign rfl rfl ?_
 refine W_nil (W_seq (W_sr ?_))
 refine W_move rfl rfl ?_
 refine W_len rfl ty24 rfl rfl ?_
 refine W_move rfl rfl ?_
 refine W_nil (W_block ?_)
 refine W_loopC (X := Nat) [(7, _), (8, _)] (fun (i : Nat) => [(0, .int .u64 ((withL m (l.take i) : Nat) : Int)), (9, .int .i64 (i : Int))]) (fun _ => _) (fun (i : Nat) => H) (fun (i : Nat) => i ≤ l.length) (fun (i : Nat) => l.length - i) 0 (Nat.zero_le _) (sub_cons rfl (sub_cons rfl (sub_nil _))) (sub_cons rfl (sub_cons rfl (sub_nil _))) rfl zH ?_
 intro i hi
 simp only [List.cons_append, List.nil_append]
 refine W_sr ?_
 refine W_bin rfl rfl b_lss rfl ?_
 refine W_nil (W_seq ?_)
 refine W_condPS (p := (i : Int) < (l.length : Int)) rfl (by simp) (fun q0 => ?_) (fun q0 => ?_)
 ·skip
  refine W_skip (W_seq ?_)
  refine W_block (W_sr ?_)
  obtain ⟨x, hx⟩ : ∃ x, l[i]? = some x := ⟨_, List.getElem?_eq_getElem zO⟩
  obtain ⟨q0, p0, rfl, hc⟩ := hrow.at (i := i) (v := .int .i64 x) (by rw [List.getElem?_map, hx]; rfl)
  refine W_indexAddr (j := i) rfl rfl ty24 ty3 rfl zO rfl rfl ?_
  refine W_load (v := .int .i64 x) rfl ty3 rfl (by rw [Nat.mul_one]; exact hc) rfl ?_
  refine W_assign rfl rfl ?_
  refine W_nil ?_
  refine W_region ?_
  refine W_move rfl rfl ?_
  refine W_move rfl rfl ?_
  refine W_callp (.cons rfl .nil) Tryz.call124 rfl (T := fun _ => True) trivial (bit_pure _) ?_
  refine W_bin rfl rfl (b_or (m := ((withL m (l.take (i + 1)) : Nat) : Int)) (by rw [show withL m (l.take (i + 1)) = _ from foldl_at hx]; exact or64 (withL_ok _ hm) (bitN_lt x))) rfl ?_
  refine W_assign rfl rfl ?_
  refine W_nil ?_
  refine W_blk ?_
  refine W_region ?_
  refine W_bin rfl rfl (b_add (m := ((i + 1 : Nat) : Int)) (by rw [i64w (by omega)]; omega)) rfl ?_
  refine W_move rfl rfl ?_
  refine W_nil ?_
  refine W_again (i + 1) zO zO (sub_cons rfl (sub_cons rfl (sub_cons rfl (sub_cons rfl (sub_nil _))))) rfl zH
 ·skip
  refine W_exit rfl ?_
  refine W_sr ?_
  refine W_move rfl rfl ?_
  refine W_assign rfl rfl ?_
  refine W_nil ?_
  refine W_ret1m (H2 := H) Tryz.results106 rfl (.nil _) zH ?_
  obtain rfl : i = l.length := by omega
  exact ⟨by rw [List.take_length], rfl⟩
theorem out_q {w0 : World} {H : Heap} {m : Nat} {l : List Int} {ad : Option Addr} {cap : Nat} (hm : m < 18446744073709551616) (hn : l.length ≤ 4611686018427387904) (hrow : Holds w0 H ad (l.map (Value.int .i64)))  : PureAt Tryz.prog w0 H 136 [.int .u64 ((m : Nat) : Int), .slice ad l.length cap] (.int .u64 ((outL m l : Nat) : Int)) := by
 refine L_enter Tryz.func136 rfl Tryz.ntmps136 rfl rfl ?_
 refine W_sr ?_
 refine W_assign rfl rfl ?_
 refine W_nil (W_seq (W_sr ?_))
 refine W_move rfl rfl ?_
 refine W_len rfl ty24 rfl rfl ?_
 refine W_move rfl rfl ?_
 refine W_nil (W_block ?_)
 refine W_loopC (X := Nat) [(7, _), (8, _)] (fun (i : Nat) => [(0, .int .u64 ((outL m (l.take i) : Nat) : Int)), (9, .int .i64 (i : Int))]) (fun _ => _) (fun (i : Nat) => H) (fun (i : Nat) => i ≤ l.length) (fun (i : Nat) => l.length - i) 0 (Nat.zero_le _) (sub_cons rfl (sub_cons rfl (sub_nil _))) (sub_cons rfl (sub_cons rfl (sub_nil _))) rfl zH ?_
 intro i hi
 simp only [List.cons_append, List.nil_append]
 refine W_sr ?_
 refine W_bin rfl rfl b_lss rfl ?_
 refine W_nil (W_seq ?_)
 refine W_condPS (p := (i : Int) < (l.length : Int)) rfl (by simp) (fun q0 => ?_) (fun q0 => ?_)
 ·skip
  refine W_skip (W_seq ?_)
  refine W_block (W_sr ?_)
  obtain ⟨x, hx⟩ : ∃ x, l[i]? = some x := ⟨_, List.getElem?_eq_getElem zO⟩
  obtain ⟨q0, p0, rfl, hc⟩ := hrow.at (i := i) (v := .int .i64 x) (by rw [List.getElem?_map, hx]; rfl)
  refine W_indexAddr (j := i) rfl rfl ty24 ty3 rfl zO rfl rfl ?_
  refine W_load (v := .int .i64 x) rfl ty3 rfl (by rw [Nat.mul_one]; exact hc) rfl ?_
  refine W_assign rfl rfl ?_
  refine W_nil ?_
  refine W_region ?_
  refine W_move rfl rfl ?_
  refine W_move rfl rfl ?_
  refine W_callp (.cons rfl .nil) Tryz.call124 rfl (T := fun _ => True) trivial (bit_pure _) ?_
  refine W_bin rfl rfl (b_andNot (m := ((outL m (l.take (i + 1)) : Nat) : Int)) (by rw [show outL m (l.take (i + 1)) = _ from foldl_at hx]; exact andNot64 (outL_ok _ hm) (bitN_lt x))) rfl ?_
  refine W_assign rfl rfl ?_
  refine W_nil ?_
  refine W_blk ?_
  refine W_region ?_
  refine W_bin rfl rfl (b_add (m := ((i + 1 : Nat) : Int)) (by rw [i64w (by omega)]; omega)) rfl ?_
  refine W_move rfl rfl ?_
  refine W_nil ?_
  refine W_again (i + 1) zO zO (sub_cons rfl (sub_cons rfl (sub_cons rfl (sub_cons rfl (sub_nil _))))) rfl zH
 ·skip
  refine W_exit rfl ?_
  refine W_sr ?_
  refine W_move rfl rfl ?_
  refine W_assign rfl rfl ?_
  refine W_nil ?_
  refine W_ret1m (H2 := H) Tryz.results136 rfl (.nil _) zH ?_
  obtain rfl : i = l.length := by omega
  exact ⟨by rw [List.take_length], rfl⟩
open Go.Lib in
def Tab (w : World) : Prop := ∀ j, j < 64 → w.cell? ⟨0, j, none⟩ = some (.int .u8 ((deBruijn64tab.getD j 0 : Nat) : Int))
open Go.Lib in
theorem low_bit {r : Nat} (h0 : r ≠ 0) (h : r < 18446744073709551616) : ctz 64 r < 64 ∧ r.testBit (ctz 64 r) = true ∧ (∀ i, i < ctz 64 r → r.testBit i = false) ∧ ∀ i, (r &&& (r - 1)).testBit i = (r.testBit i && decide (i ≠ ctz 64 r)) := by
  obtain ⟨m, hm, hk⟩ := ctzFrom_spec 64 r (by omega) (by simpa using h)
  have hc : ctz 64 r = ctzFrom 64 r := if_neg h0
  rw [hc]
  generalize ctzFrom 64 r = k at *
  have hp : 0 < 2 ^ k := Nat.two_pow_pos k
  have e1 : r = 2 ^ k * (2 * m + 1) + 0 := by omega
  have e2 : r - 1 = 2 ^ k * (2 * m) + (2 ^ k - 1) := by
    rw [hm, Nat.mul_add, Nat.mul_one]; omega
  have b1 : ∀ i, r.testBit i = if i < k then false else (2 * m + 1).testBit (i - k) := fun i => by
    rw [e1, Nat.testBit_two_pow_mul_add _ hp]; simp
  have b2 : ∀ i, (r - 1).testBit i = if i < k then true else (2 * m).testBit (i - k) := fun i => by
    rw [e2, Nat.testBit_two_pow_mul_add _ (by omega), Nat.testBit_two_pow_sub_one]
    split <;> simp_all
  refine ⟨hk, ?_, fun i hi => ?_, fun i => ?_⟩
  · rw [b1, if_neg (by omega), Nat.sub_self, Nat.testBit_zero]; simp
  · rw [b1, if_pos hi]
  · rw [Nat.testBit_and, b1, b2]
    by_cases c1 : i < k
    · rw [if_pos c1, if_pos c1]; rfl
    · rw [if_neg c1, if_neg c1]
      by_cases c2 : i = k
      · subst c2; rw [Nat.sub_self, Nat.testBit_zero, Nat.testBit_zero]; simp
      · obtain ⟨t, ht⟩ : ∃ t, i - k = t + 1 := ⟨i - k - 1, by omega⟩
        rw [ht, Nat.testBit_succ, Nat.testBit_succ, show (2 * m + 1) / 2 = m by omega, show 2 * m / 2 = m by omega]
        simp [c2]
def nextN (m : Nat) (f : Int) : Option Nat := (List.range 64).find? (fun i => m.testBit i && decide (f ≤ (i : Int)))
theorem nextN_some {m i : Nat} {f : Int} (hi : i < 64) (hb : m.testBit i = true) (hf : f ≤ (i : Int)) (hl : ∀ j, j < i → m.testBit j = true → (j : Int) < f) : nextN m f = some i := by
  unfold nextN
  rw [List.find?_range_eq_some]
  refine ⟨by rw [hb, decide_eq_true hf]; rfl, List.mem_range.2 hi, fun j hj => ?_⟩
  cases h : m.testBit j with
  | false => rfl
  | true => have := hl j hj h; rw [decide_eq_false (by omega)]; rfl
theorem nextN_none {m : Nat} {f : Int} (hl : ∀ j, m.testBit j = true → (j : Int) < f) : nextN m f = none := by
  unfold nextN
  rw [List.find?_eq_none]
  intro j _ h
  rw [Bool.and_eq_true] at h
  have := hl j h.1
  have := of_decide_eq_true h.2
  omega
theorem nextN_is {m i : Nat} {f : Int} (h : nextN m f = some i) : i < 64 ∧ m.testBit i = true ∧ f ≤ (i : Int) ∧ ∀ j, j < i → m.testBit j = true → (j : Int) < f := by
  unfold nextN at h
  rw [List.find?_range_eq_some] at h
  obtain ⟨h1, h2, h3⟩ := h
  rw [Bool.and_eq_true] at h1
  refine ⟨List.mem_range.1 h2, h1.1, of_decide_eq_true h1.2, fun j hj hb => ?_⟩
  have := h3 j hj
  rw [hb] at this
  simp at this
  omega
def nextV (m : Nat) (f : Int) : Value := match nextN m f with
  | some i => .tuple #[.int .i64 (i : Int), .bool true]
  | none => .tuple #[.int .i64 0, .bool false]
def aroundN (m : Nat) (f : Int) : Option Nat := (nextN m f).or (nextN m 0)
def aroundV (m : Nat) (f : Int) : Value := match aroundN m f with
  | some i => .tuple #[.int .i64 (i : Int), .bool true]
  | none => .tuple #[.int .i64 0, .bool false]
theorem mulW (a b : Nat) : IntKind.u64.wrap ((a : Int) * (b : Int)) = ((a * b % 18446744073709551616 : Nat) : Int) := by
  have e : IntKind.u64.wrap ((a : Int) * (b : Int)) = ((a : Int) * (b : Int)) % 18446744073709551616 := by simp [IntKind.wrap, IntKind.signed, IntKind.bits]
  rw [e, ← Int.natCast_mul]; omega
theorem shr58 (x : Nat) : Int.fdiv (x : Int) (2 ^ (min (58 : Int).toNat IntKind.u64.bits)) = ((x / 288230376151711744 : Nat) : Int) := by
  have e : (2 : Int) ^ (min (58 : Int).toNat IntKind.u64.bits) = 288230376151711744 := by decide
  rw [e, Int.fdiv_eq_ediv_of_nonneg _ (by decide)]; omega
open Go.Lib in
theorem tz_pure {x : Nat} (hx : x < 18446744073709551616) : Pure Tryz.prog (Tab) 176 [.int .u64 ((x : Nat) : Int)] (.int .i64 ((ctz 64 x : Nat) : Int)) := by
  intro w0 H hT
  refine L_enter Tryz.func176 rfl Tryz.ntmps176 rfl rfl ?_
  refine W_sr ?_
  refine W_assign rfl rfl ?_
  refine W_nil (W_seq (W_sr ?_))
  refine W_move rfl rfl ?_
  refine W_bin rfl rfl b_eql rfl ?_
  refine W_nil ?_
  refine W_condPS (p := x = 0) rfl (by rw [decide_eq_true_eq]; exact Int.ofNat_inj) (fun c0 => ?_) (fun c0 => ?_)
  · skip
    refine W_sr ?_
    refine W_assign rfl rfl ?_
    refine W_nil ?_
    refine W_ret1m (H2 := H) Tryz.results176 rfl (.nil _) zH ?_
    exact ⟨by rw [c0]; rfl, rfl⟩
  · skip
    refine W_skip (W_sr ?_)
    refine W_move rfl rfl ?_
    refine W_move rfl rfl ?_
    have hx0 : x ≠ 0 := fun e => c0 (by rw [e])
    obtain ⟨hlow, hk⟩ := lowest_bit 64 x hx0 (by simpa using hx)
    obtain ⟨hi64, htab⟩ := deBruijn64_at _ hk
    refine W_neg rfl (m := ((18446744073709551616 - x : Nat) : Int)) (by have e : IntKind.u64.wrap (0 - (x : Int)) = (0 - (x : Int)) % 18446744073709551616 := by simp [IntKind.wrap, IntKind.signed, IntKind.bits]
                                                                         rw [e]; omega) rfl ?_
    refine W_bin rfl rfl (b_and (m := ((2 ^ ctz 64 x : Nat) : Int)) ((and64 hx zO).trans (congrArg (fun z : Nat => (z : Int)) hlow))) rfl ?_
    refine W_bin rfl rfl (b_mul (m := ((2 ^ ctz 64 x * 285870213051353865 % 18446744073709551616 : Nat) : Int)) (mulW _ _)) rfl ?_
    refine W_bin rfl rfl (b_shr zd (m := ((2 ^ ctz 64 x * 285870213051353865 % 18446744073709551616 / 288230376151711744 : Nat) : Int)) (shr58 _)) rfl ?_
    generalize 2 ^ ctz 64 x * 285870213051353865 % 18446744073709551616 / 288230376151711744 = jj at *
    refine W_indexAddrA (j := jj) rfl rfl ty235 ty5 rfl hi64 rfl rfl ?_
    refine W_load (v := .int .u8 ((ctz 64 x : Nat) : Int)) rfl ty5 rfl (Cell.old (by have h := hT jj hi64; rw [htab] at h; rw [Nat.mul_one, Nat.zero_add]; exact h)) rfl ?_
    refine W_conv rfl ty5 ty3 (i64w zO) rfl ?_
    refine W_assign rfl rfl ?_
    refine W_nil ?_
    refine W_ret1m (H2 := H) Tryz.results176 rfl (.nil _) zH ?_
    exact ⟨rfl, rfl⟩
theorem and_lt {r : Nat} (h0 : r ≠ 0) : r &&& (r - 1) < r := Nat.lt_of_le_of_lt Nat.and_le_right zO
open Go.Lib in
theorem bits_iter {w0 : World} {H : Heap} {lp b1 m : Nat} (hT : Tab w0) (J : Nat → Heap → Prop) (S : Heap → Prop) (hm : m < 18446744073709551616)
  (hround : ∀ r Hi, r ≠ 0 → r < 18446744073709551616 → J r Hi → RoundC Tryz.prog w0 lp #[.int .i64 ((ctz 64 r : Nat) : Int)] ((b1, .cells 164 1 [.int .u64 (m : Int)]) :: Hi) (fun v H' => ∃ Hi', HSub H' ((b1, .cells 164 1 [.int .u64 (m : Int)]) :: Hi') ∧ (v = .bool true ∧ J (r &&& (r - 1)) Hi' ∨ v = .bool false ∧ S Hi'))) (hJ : J m H) :
  LCalls Tryz.prog w0 175 #[.func (.yield lp) #[] #[], .pointer (some ⟨b1, 0, none⟩)] ((b1, .cells 164 1 [.int .u64 (m : Int)]) :: H) (fun _ H' => ∃ Hi', HSub H' ((b1, .cells 164 1 [.int .u64 (m : Int)]) :: Hi') ∧ (J 0 Hi' ∨ S Hi')) := by
 refine L_enter (l := [.func (.yield lp) #[] #[], .pointer (some ⟨b1, 0, none⟩)]) Tryz.func175 rfl Tryz.ntmps175 rfl rfl ?_
 refine W_sr ?_
 refine W_load rfl ty164 rfl (Cell.own zM rfl) rfl ?_
 refine W_assign rfl rfl ?_
 refine W_nil (W_block ?_)
 refine W_loopC (X := (Nat × Heap)) [(0, _)] (fun (x : (Nat × Heap)) => [(3, .int .u64 (x.1 : Int))]) (fun _ => _) (fun (x : (Nat × Heap)) => (b1, .cells 164 1 [.int .u64 (m : Int)]) :: x.2) (fun (x : (Nat × Heap)) => x.1 < 18446744073709551616 ∧ J x.1 x.2) (fun (x : (Nat × Heap)) => x.1) (m, H) ⟨hm, hJ⟩ (sub_cons rfl (sub_nil _)) (sub_cons rfl (sub_nil _)) rfl (HSub.refl _) ?_
 rintro ⟨r, Hi⟩ ⟨hr, hJi⟩
 dsimp only at hr hJi ⊢
 simp only [List.cons_append, List.nil_append]
 refine W_seq (W_sr ?_)
 refine W_move rfl rfl ?_
 refine W_bin rfl rfl b_neq rfl ?_
 refine W_nil ?_
 refine W_condPS (p := r ≠ 0) rfl (neqN r 0) (fun q0 => ?_) (fun q0 => ?_)
 ·skip
  refine W_skip (W_seq ?_)
  refine W_block (W_sr ?_)
  refine W_move rfl rfl ?_
  refine W_move rfl rfl ?_
  refine W_callp (.cons rfl .nil) Tryz.call176 rfl hT (tz_pure hr) ?_
  refine W_yield rfl (.cons rfl .nil) rfl (hround r Hi q0 hr hJi) ?_
  rintro v H' ⟨Hi', hsub, ⟨rfl, hJ'⟩ | ⟨rfl, hS'⟩⟩
  ·skip
   refine W_hsub hsub ?_
   refine W_not rfl rfl ?_
   refine W_nil ?_
   refine W_condF rfl rfl ?_
   refine W_skip ?_
   refine W_blk ?_
   refine W_region ?_
   refine W_move rfl rfl ?_
   refine W_move rfl rfl ?_
   refine W_bin rfl rfl (b_sub (m := ((r - 1 : Nat) : Int)) (by rw [u64w (by omega)]; omega)) rfl ?_
   refine W_bin rfl rfl (b_and (m := ((r &&& (r - 1) : Nat) : Int)) (and64 hr zO)) rfl ?_
   refine W_assign rfl rfl ?_
   refine W_nil ?_
   refine W_again (r &&& (r - 1), Hi') ⟨by have := and_lt q0; show r &&& (r - 1) < _; omega, hJ'⟩ (and_lt q0) (sub_cons rfl (sub_cons rfl (sub_nil _))) rfl (HSub.refl _)
  ·skip
   refine W_hsub hsub ?_
   refine W_not rfl rfl ?_
   refine W_nil ?_
   refine W_condT rfl rfl ?_
   refine W_ret0m Tryz.results175 (.nil _) (.refl _) ?_
   exact ⟨Hi', .refl _, .inr hS'⟩
 ·skip
  refine W_exit rfl ?_
  refine W_end0m Tryz.results175 (.nil _) (.refl _) ?_
  obtain rfl : r = 0 := Classical.not_not.1 q0
  exact ⟨Hi, .refl _, .inl hJi⟩
theorem all_L {w0 : World} {H : Heap} {m : Nat}  : LCalls Tryz.prog w0 173 #[.int .u64 ((m : Nat) : Int)] (H) (fun v H' => ∃ b1, v = .func (.func 175) #[] #[.pointer (some ⟨b1, 0, none⟩)] ∧ H' = (b1, .cells 164 1 [.int .u64 (m : Int)]) :: H) := by
 refine L_enter (l := [.int .u64 ((m : Nat) : Int)]) Tryz.func173 rfl Tryz.ntmps173 rfl rfl ?_
 refine W_sr ?_
 refine W_box rfl rfl rfl (fun b1 => ?_)
 refine W_assign rfl rfl ?_
 refine W_nil (W_sr ?_)
 refine W_makeFunc .nil (.cons rfl .nil) rfl ?_
 refine W_assign rfl rfl ?_
 refine W_nil ?_
 refine W_ret1m Tryz.results173 rfl (.nil _) (.refl _) ?_
 exact ⟨b1, rfl, rfl⟩
theorem nx_q {w0 : World} {H : Heap} {bf : Nat} {f i : Int} (hb : (bf, .cells 3 1 [.int .i64 f]) ∈ H)  : PureAt Tryz.prog w0 H 167 [.int .i64 i, .pointer (some ⟨bf, 0, none⟩)] (.bool (decide (f ≤ i))) := by
 refine L_enter Tryz.func167 rfl Tryz.ntmps167 rfl rfl ?_
 refine W_sr ?_
 refine W_assign rfl rfl ?_
 refine W_nil (W_sr ?_)
 refine W_move rfl rfl ?_
 refine W_load (v := .int .i64 f) rfl ty3 rfl (Cell.own hb rfl) rfl ?_
 refine W_bin rfl rfl b_geq rfl ?_
 refine W_assign rfl rfl ?_
 refine W_nil ?_
 refine W_ret1m (H2 := H) Tryz.results167 rfl (.nil _) zH ?_
 exact ⟨rfl, rfl⟩
theorem first_L {w0 : World} {H : Heap} {m bf : Nat} {f : Int} (hT : Tab w0) (hm : m < 18446744073709551616) :
  LCalls Tryz.prog w0 166 #[.int .u64 (m : Int), .func (.func 167) #[] #[.pointer (some ⟨bf, 0, none⟩)]] ((bf, .cells 3 1 [.int .i64 f]) :: H) (fun v H' => v = nextV m f ∧ H' = (bf, .cells 3 1 [.int .i64 f]) :: H) := by
 refine L_enter (l := [.int .u64 (m : Int), .func (.func 167) #[] #[.pointer (some ⟨bf, 0, none⟩)]]) Tryz.func166 rfl Tryz.ntmps166 rfl rfl ?_
 refine W_sr ?_
 refine W_box rfl rfl rfl (fun b3 => ?_)
 refine W_alloc (l := [.int .i64 0]) ty3 rfl rfl (fun b4 => ?_)
 refine W_alloc (l := [.bool false]) ty4 rfl rfl (fun b5 => ?_)
 refine W_nil (W_seq (W_sr ?_))
 refine W_move rfl rfl ?_
 refine W_call (.cons rfl .nil) Tryz.call173 rfl (all_L (m := m)) ?_
 rintro v H' ⟨b1, rfl, rfl⟩
 refine W_nil (W_block ?_)
 refine W_rangeFunc rfl Tryz.call175 ?_
 intro lp D r hst hpd hps hasg hbody hA
 have hr := loop_ready hst hpd
 show LCalls _ _ _ #[_, _] _ _
 refine ((bits_iter (b1 := b1) (m := m) (H := (lp, .obj (.loop r)) :: (D, .obj (.deferred (some []))) :: (b5, .cells 4 1 [.bool false]) :: (b4, .cells 3 1 [.int .i64 0]) :: (b3, .cells 97 1 [.func (.func 167) #[] #[.pointer (some ⟨bf, 0, none⟩)]]) :: (bf, .cells 3 1 [.int .i64 f]) :: H) hT (fun q Hi => ((∀ j, m.testBit j = true → q.testBit j = true ∨ (j : Int) < f) ∧ ∀ j, q.testBit j = true → m.testBit j = true) ∧ Hi = (lp, .obj (.loop r)) :: (D, .obj (.deferred (some []))) :: (b5, .cells 4 1 [.bool false]) :: (b4, .cells 3 1 [.int .i64 0]) :: (b3, .cells 97 1 [.func (.func 167) #[] #[.pointer (some ⟨bf, 0, none⟩)]]) :: (bf, .cells 3 1 [.int .i64 f]) :: H) (fun Hi => ∃ i : Nat, nextN m f = some i ∧ Hi = (lp, .obj (.loop (Loop.at r .done (some .ret)))) :: (D, .obj (.deferred (some []))) :: (b5, .cells 4 1 [.bool true]) :: (b4, .cells 3 1 [.int .i64 (i : Int)]) :: (b3, .cells 97 1 [.func (.func 167) #[] #[.pointer (some ⟨bf, 0, none⟩)]]) :: (bf, .cells 3 1 [.int .i64 f]) :: H) hm ?_ ⟨⟨fun j hj => .inl hj, fun j hj => hj⟩, rfl⟩).hsub zH).mono ?_
 ·intro q Hi hq0 hq hJ
  obtain ⟨⟨hj1, hj2⟩, rfl⟩ := hJ
  obtain ⟨hk, hkb, hkl, hka⟩ := low_bit hq0 hq
  obtain ⟨k, hkk⟩ : ∃ k, k = Go.Lib.ctz 64 q := ⟨_, rfl⟩
  rw [← hkk] at hk hkb hkl hka ⊢
  refine round_intro hst hpd hA hps rfl hasg rfl rfl rfl zT ?_
  refine W_region ?_
  refine W_assign rfl rfl ?_
  refine W_nil ?_
  refine W_begin hst hpd zT hbody ?_
  refine W_block (W_sr ?_)
  refine W_load (v := .func (.func 167) #[] #[.pointer (some ⟨bf, 0, none⟩)]) rfl ty97 rfl (Cell.own (b := b3) zM rfl) rfl ?_
  refine W_move rfl rfl ?_
  refine W_callqv (fa := []) (ca := [.pointer (some ⟨bf, 0, none⟩)]) rfl (.cons rfl .nil) rfl Tryz.call167 rfl (nx_q (bf := bf) (f := f) zM) ?_
  refine W_nil ?_
  refine W_condPS (p := f ≤ (k : Int)) rfl (by simp) (fun g0 => ?_) (fun g0 => ?_)
  ·skip
   refine W_sr ?_
   refine W_move rfl rfl ?_
   refine W_store (l' := [.int .i64 (k : Int)]) rfl rfl ty3 rfl rfl (b := b4) zM rfl rfl zU ?_
   refine W_store (l' := [.bool true]) rfl rfl ty4 rfl rfl (b := b5) zM rfl rfl zU ?_
   refine W_nil ?_
   refine W_retround zT ?_
   exact ⟨(lp, .obj (.loop (Loop.at r .done (some .ret)))) :: (D, .obj (.deferred (some []))) :: (b5, .cells 4 1 [.bool true]) :: (b4, .cells 3 1 [.int .i64 (k : Int)]) :: (b3, .cells 97 1 [.func (.func 167) #[] #[.pointer (some ⟨bf, 0, none⟩)]]) :: (bf, .cells 3 1 [.int .i64 f]) :: H, zH, .inr ⟨rfl, k, nextN_some hk (hj2 k hkb) g0 (fun j hj hb => (hj1 j hb).elim (fun h => by rw [hkl j hj] at h; cases h) id), rfl⟩⟩
   skip
  ·skip
   refine W_skip ?_
   refine W_blk ?_
   refine W_endround zT ?_
   rw [hr]
   refine ⟨(lp, .obj (.loop r)) :: (D, .obj (.deferred (some []))) :: (b5, .cells 4 1 [.bool false]) :: (b4, .cells 3 1 [.int .i64 0]) :: (b3, .cells 97 1 [.func (.func 167) #[] #[.pointer (some ⟨bf, 0, none⟩)]]) :: (bf, .cells 3 1 [.int .i64 f]) :: H, zH, .inl ⟨rfl, ⟨fun j hb => ?_, fun j hb => hj2 j ?_⟩, rfl⟩⟩
   ·rcases hj1 j hb with h | h
    ·by_cases e : j = k
     ·subst e; exact .inr zO
     ·exact .inl (by rw [hka, h, decide_eq_true e]; rfl)
    ·exact .inr h
   ·rw [hka, Bool.and_eq_true] at hb; exact hb.1
 ·intro _ H' hp
  obtain ⟨Hi', hs, hJS⟩ := hp
  rcases hJS with ⟨⟨hj1, hj2⟩, rfl⟩ | ⟨i, hi, rfl⟩
  case inr =>
   refine ⟨.done, some .ret, (b1, .cells 164 1 [.int .u64 (m : Int)]) :: (D, .obj (.deferred (some []))) :: (b5, .cells 4 1 [.bool true]) :: (b4, .cells 3 1 [.int .i64 (i : Int)]) :: (b3, .cells 97 1 [.func (.func 167) #[] #[.pointer (some ⟨bf, 0, none⟩)]]) :: (bf, .cells 3 1 [.int .i64 f]) :: H, hs.trans zH, by decide, ?_⟩
   show W _ _ _ _ _ _ _ _ _
   refine W_ret2G (H2 := (bf, .cells 3 1 [.int .i64 f]) :: H) Tryz.results166 (.cons zT (.nil _)) (.one rfl ty3 rfl (Cell.own (b := b4) zM rfl)) (.one rfl ty4 rfl (Cell.own (b := b5) zM rfl)) zH ?_
   exact ⟨by unfold nextV; rw [hi], rfl⟩
  refine ⟨.ready, none, (b1, .cells 164 1 [.int .u64 (m : Int)]) :: (D, .obj (.deferred (some []))) :: (b5, .cells 4 1 [.bool false]) :: (b4, .cells 3 1 [.int .i64 0]) :: (b3, .cells 97 1 [.func (.func 167) #[] #[.pointer (some ⟨bf, 0, none⟩)]]) :: (bf, .cells 3 1 [.int .i64 f]) :: H, by rw [hr]; exact hs.trans zH, by decide, ?_⟩
  show W _ _ _ _ _ _ _ _ _
  refine W_blk ?_
  refine W_sr ?_
  refine W_store (l' := [.int .i64 0]) rfl rfl ty3 rfl rfl (b := b4) zM rfl rfl zU ?_
  refine W_store (l' := [.bool false]) rfl rfl ty4 rfl rfl (b := b5) zM rfl rfl zU ?_
  refine W_nil ?_
  refine W_ret2G (H2 := (bf, .cells 3 1 [.int .i64 f]) :: H) Tryz.results166 (.cons zT (.nil _)) (.one rfl ty3 rfl (Cell.own (b := b4) zM rfl)) (.one rfl ty4 rfl (Cell.own (b := b5) zM rfl)) zH ?_
  exact ⟨by unfold nextV; rw [nextN_none (fun j hb => (hj1 j hb).resolve_left (by simp))], rfl⟩
theorem next_pure {m : Nat} {f : Int} (hm : m < 18446744073709551616) : Pure Tryz.prog (Tab) 154 [.int .u64 ((m : Nat) : Int), .int .i64 f] (nextV m f) := by
 intro w0 H hT
 refine L_enter Tryz.func154 rfl Tryz.ntmps154 rfl rfl ?_
 refine W_sr ?_
 refine W_box rfl rfl rfl (fun b3 => ?_)
 refine W_assign rfl rfl ?_
 refine W_assign rfl rfl ?_
 refine W_nil (W_sr ?_)
 refine W_move rfl rfl ?_
 refine W_makeFunc .nil (.cons rfl .nil) rfl ?_
 refine W_call (.cons rfl (.cons rfl .nil)) Tryz.call166 rfl ((first_L (m := m) (bf := b3) (f := f) (H := H) hT hm).hsub (.refl _)) ?_
 rintro v H' ⟨rfl, rfl⟩
 rcases hn : nextN m f with _ | i
 ·skip
  rw [show nextV m f = .tuple #[.int .i64 0, .bool false] from by unfold nextV; rw [hn]]
  refine W_extract rfl rfl rfl ?_
  refine W_extract rfl rfl rfl ?_
  refine W_assign rfl rfl ?_
  refine W_assign rfl rfl ?_
  refine W_nil ?_
  refine W_ret2m (H2 := H) Tryz.results154 rfl rfl (.nil _) zH ?_
  exact ⟨rfl, rfl⟩
 ·skip
  rw [show nextV m f = .tuple #[.int .i64 (i : Int), .bool true] from by unfold nextV; rw [hn]]
  refine W_extract rfl rfl rfl ?_
  refine W_extract rfl rfl rfl ?_
  refine W_assign rfl rfl ?_
  refine W_assign rfl rfl ?_
  refine W_nil ?_
  refine W_ret2m (H2 := H) Tryz.results154 rfl rfl (.nil _) zH ?_
  exact ⟨rfl, rfl⟩
theorem around_pure {m : Nat} {f : Int} (hm : m < 18446744073709551616) : Pure Tryz.prog (Tab) 142 [.int .u64 ((m : Nat) : Int), .int .i64 f] (aroundV m f) := by
 intro w0 H hT
 refine L_enter Tryz.func142 rfl Tryz.ntmps142 rfl rfl ?_
 refine W_sr ?_
 refine W_assign rfl rfl ?_
 refine W_assign rfl rfl ?_
 refine W_nil (W_seq (W_sr ?_))
 refine W_move rfl rfl ?_
 refine W_move rfl rfl ?_
 refine W_callp (.cons rfl (.cons rfl .nil)) Tryz.call154 rfl hT (next_pure (f := f) hm) ?_
 rcases hn : nextN m f with _ | i
 ·skip
  rw [show nextV m f = .tuple #[.int .i64 0, .bool false] from by unfold nextV; rw [hn]]
  refine W_move rfl rfl ?_
  refine W_extract rfl rfl rfl ?_
  refine W_extract rfl rfl rfl ?_
  refine W_assign rfl rfl ?_
  refine W_assign rfl rfl ?_
  refine W_nil (W_sr ?_)
  refine W_move rfl rfl ?_
  refine W_nil ?_
  refine W_condF rfl rfl ?_
  refine W_skip (W_sr ?_)
  refine W_move rfl rfl ?_
  refine W_callp (.cons rfl (.cons rfl .nil)) Tryz.call154 rfl hT (next_pure (f := 0) hm) ?_
  rcases h0 : nextN m 0 with _ | i
  ·skip
   rw [show nextV m 0 = .tuple #[.int .i64 0, .bool false] from by unfold nextV; rw [h0]]
   refine W_extract rfl rfl rfl ?_
   refine W_extract rfl rfl rfl ?_
   refine W_assign rfl rfl ?_
   refine W_assign rfl rfl ?_
   refine W_nil ?_
   refine W_ret2m (H2 := H) Tryz.results142 rfl rfl (.nil _) zH ?_
   exact ⟨by unfold aroundV aroundN; rw [hn, h0]; rfl, rfl⟩
  ·skip
   rw [show nextV m 0 = .tuple #[.int .i64 (i : Int), .bool true] from by unfold nextV; rw [h0]]
   refine W_extract rfl rfl rfl ?_
   refine W_extract rfl rfl rfl ?_
   refine W_assign rfl rfl ?_
   refine W_assign rfl rfl ?_
   refine W_nil ?_
   refine W_ret2m (H2 := H) Tryz.results142 rfl rfl (.nil _) zH ?_
   exact ⟨by unfold aroundV aroundN; rw [hn, h0]; rfl, rfl⟩
 ·skip
  rw [show nextV m f = .tuple #[.int .i64 (i : Int), .bool true] from by unfold nextV; rw [hn]]
  refine W_move rfl rfl ?_
  refine W_extract rfl rfl rfl ?_
  refine W_extract rfl rfl rfl ?_
  refine W_assign rfl rfl ?_
  refine W_assign rfl rfl ?_
  refine W_nil (W_sr ?_)
  refine W_move rfl rfl ?_
  refine W_nil ?_
  refine W_condT rfl rfl ?_
  refine W_sr ?_
  refine W_move rfl rfl ?_
  refine W_assign rfl rfl ?_
  refine W_assign rfl rfl ?_
  refine W_nil ?_
  refine W_ret2m (H2 := H) Tryz.results142 rfl rfl (.nil _) zH ?_
  exact ⟨by unfold aroundV aroundN; rw [hn]; rfl, rfl⟩
theorem HSub.of_perm {H H' : Heap} (h : H.Perm H') : HSub H H' := by
 induction h with
 | nil => exact .refl _
 | cons x _ ih => exact .cons (.here _) ih
 | swap x y l => exact .cons (.next (.here _)) (.refl _)
 | trans _ _ ih1 ih2 => exact .trans ih1 ih2
theorem flat_take {α : Type} : ∀ {XS : List (List α)} {k : Nat} {B : List α}, XS[k]? = some B → XS.flatten.Perm (B ++ (XS.set k []).flatten)
 | X :: XS, 0, B, h => by
  obtain rfl : X = B := by simpa using h
  simp
 | X :: XS, k + 1, B, h => by
  have ih := flat_take (XS := XS) (k := k) (B := B) (by simpa using h)
  simp only [List.flatten_cons, List.set_cons_succ]
  exact (ih.append_left X).trans (by rw [← List.append_assoc, ← List.append_assoc]; exact List.perm_append_comm.append_right _)
theorem flat_put {α : Type} {XS : List (List α)} {k : Nat} {B : List α} (h : k < XS.length) : (B ++ (XS.set k []).flatten).Perm (XS.set k B).flatten := by
 have h1 := flat_take (XS := XS.set k B) (k := k) (B := B) (by simp [h])
 rw [List.set_set] at h1
 exact h1.symm
def whRow (now : Nat) (sl : List Value) (bs : List Nat) (bm turn : Nat) : List Value := .int .u64 (now : Int) :: (sl ++ (bs.map (fun z : Nat => Value.int .u64 (z : Int)) ++ [.map (some bm), .int .i64 (turn : Int)]))
structure RowOk (sl : List Value) (bs : List Nat) : Prop where
 sl : sl.length = 512
 bs : bs.length = 8
theorem wh_len {now bm turn : Nat} {sl : List Value} {bs : List Nat} (h : RowOk sl bs) : (whRow now sl bs bm turn).length = 523 := by
 simp [whRow, h.sl, h.bs]
theorem wh_now {now bm turn : Nat} {sl : List Value} {bs : List Nat} : (whRow now sl bs bm turn)[0]? = some (.int .u64 (now : Int)) := rfl
theorem wh_sl {now bm turn k : Nat} {sl : List Value} {bs : List Nat} {v : Value} (h : RowOk sl bs) (hv : sl[k]? = some v) : (whRow now sl bs bm turn)[1 + k]? = some v := by
 have hk := (List.getElem?_eq_some_iff.1 hv).1
 unfold whRow
 rw [Nat.add_comm, List.getElem?_cons_succ, List.getElem?_append_left hk, hv]
theorem wh_bs {now bm turn k z : Nat} {sl : List Value} {bs : List Nat} (h : RowOk sl bs) (hv : bs[k]? = some z) : (whRow now sl bs bm turn)[513 + k]? = some (.int .u64 (z : Int)) := by
 have hk := (List.getElem?_eq_some_iff.1 hv).1
 unfold whRow
 rw [show 513 + k = (512 + k) + 1 by omega, List.getElem?_cons_succ, List.getElem?_append_right (by rw [h.sl]; omega), h.sl, show 512 + k - 512 = k by omega, List.getElem?_append_left (by simpa using hk), List.getElem?_map, hv]; rfl
theorem wh_map {now bm turn : Nat} {sl : List Value} {bs : List Nat} (h : RowOk sl bs) : (whRow now sl bs bm turn)[521]? = some (.map (some bm)) := by
 unfold whRow
 rw [List.getElem?_cons_succ, List.getElem?_append_right (by rw [h.sl]; omega), h.sl, List.getElem?_append_right (by rw [List.length_map, h.bs]; omega), List.length_map, h.bs]; rfl
theorem wh_turn {now bm turn : Nat} {sl : List Value} {bs : List Nat} (h : RowOk sl bs) : (whRow now sl bs bm turn)[522]? = some (.int .i64 (turn : Int)) := by
 unfold whRow
 rw [List.getElem?_cons_succ, List.getElem?_append_right (by rw [h.sl]; omega), h.sl, List.getElem?_append_right (by rw [List.length_map, h.bs]; omega), List.length_map, h.bs]; rfl
theorem wh_setNow {now n2 bm turn : Nat} {sl : List Value} {bs : List Nat} : (whRow now sl bs bm turn).set 0 (.int .u64 (n2 : Int)) = whRow n2 sl bs bm turn := rfl
theorem wh_setSl {now bm turn k : Nat} {sl : List Value} {bs : List Nat} {v : Value} (h : RowOk sl bs) (hk : k < 512) : (whRow now sl bs bm turn).set (1 + k) v = whRow now (sl.set k v) bs bm turn := by
 unfold whRow
 rw [Nat.add_comm, List.set_cons_succ, List.set_append_left _ _ (by rw [h.sl]; exact hk)]
theorem wh_setBs {now bm turn k z : Nat} {sl : List Value} {bs : List Nat} (h : RowOk sl bs) (hk : k < 8) : (whRow now sl bs bm turn).set (513 + k) (.int .u64 (z : Int)) = whRow now sl (bs.set k z) bm turn := by
 unfold whRow
 rw [show 513 + k = (512 + k) + 1 by omega, List.set_cons_succ, List.set_append_right _ _ (by rw [h.sl]; omega), h.sl, show 512 + k - 512 = k by omega, List.set_append_left _ _ (by simpa [h.bs] using hk), List.map_set]
theorem wh_setTurn {now bm turn t2 : Nat} {sl : List Value} {bs : List Nat} (h : RowOk sl bs) : (whRow now sl bs bm turn).set 522 (.int .i64 (t2 : Int)) = whRow now sl bs bm t2 := by
 unfold whRow
 rw [List.set_cons_succ, List.set_append_right _ _ (by rw [h.sl]; omega), h.sl, List.set_append_right _ _ (by rw [List.length_map, h.bs]; omega), List.length_map, h.bs]; rfl
theorem RowOk.setSl {sl : List Value} {bs : List Nat} (h : RowOk sl bs) (k : Nat) (v : Value) : RowOk (sl.set k v) bs := ⟨by rw [List.length_set, h.sl], h.bs⟩
theorem RowOk.setBs {sl : List Value} {bs : List Nat} (h : RowOk sl bs) (k z : Nat) : RowOk sl (bs.set k z) := ⟨h.sl, by rw [List.length_set, h.bs]⟩
set_option maxRecDepth 100000
def sl0 : List Value := List.replicate 512 (.slice none 0 0)
def bs0 : List Nat := List.replicate 8 0
theorem ok0 : RowOk sl0 bs0 := ⟨List.length_replicate, List.length_replicate⟩
theorem New_L {w0 : World} {H : Heap} {now : Nat}  : LCalls Tryz.prog w0 73 #[.int .u64 ((now : Nat) : Int)] (H) (fun v H' => ∃ bw bm, v = .pointer (some ⟨bw, 0, none⟩) ∧ H' = (bw, .cells 167 523 (whRow now sl0 bs0 bm 0)) :: (bm, .obj (mapO (Value.int .i64) [] 0)) :: H) := by
 refine L_enter (l := [.int .u64 ((now : Nat) : Int)]) Tryz.func73 rfl Tryz.ntmps73 rfl rfl ?_
 refine W_sr ?_
 refine W_assign rfl rfl ?_
 refine W_nil (W_sr ?_)
 refine W_move rfl rfl ?_
 refine W_makeMap (kf := (Value.int .i64)) rfl (fun b4 => ?_)
 refine W_build (l := whRow now sl0 bs0 b4 0) ty167 pl167 (.cons rfl rfl rfl rfl rfl (.cons rfl rfl rfl rfl rfl .nil)) rfl zk rfl ?_
 refine W_box (l := whRow now sl0 bs0 b4 0) rfl rfl rfl (fun b6 => ?_)
 refine W_assign rfl rfl ?_
 refine W_nil ?_
 refine W_ret1m Tryz.results73 rfl (.nil _) (.refl _) ?_
 exact ⟨b6, b4, rfl, rfl⟩
theorem aroundN_is {m s : Nat} {f : Int} (h : aroundN m f = some s) : s < 64 ∧ m.testBit s = true := by
 unfold aroundN at h
 cases h1 : nextN m f with
 | some i =>
  rw [h1] at h
  obtain rfl : i = s := Option.some.inj h
  exact ⟨(nextN_is h1).1, (nextN_is h1).2.1⟩
 | none =>
  rw [h1] at h
  exact ⟨(nextN_is h).1, (nextN_is h).2.1⟩
def fromT (now n : Nat) : Nat := (now / 8 ^ n + 1) % 64
theorem addW (a : Nat) : IntKind.u64.wrap ((a : Int) + 1) = (((a + 1) % 18446744073709551616 : Nat) : Int) := by
 have e : IntKind.u64.wrap ((a : Int) + 1) = ((a : Int) + 1) % 18446744073709551616 := by simp [IntKind.wrap, IntKind.signed, IntKind.bits]
 rw [e]; omega
theorem near_iter {w0 : World} {H : Heap} {lp b1 bw bm now turn : Nat} {sl : List Value} {bs : List Nat} (hT : Tab w0) (hok : RowOk sl bs) (hnow : now ≤ 18446744073709551615) (hbs : ∀ z ∈ bs, z < 18446744073709551616) (J : Nat → Heap → Prop)
  (hskip : ∀ n z Hi, n < 8 → bs[n]? = some z → aroundN z ((fromT now n : Nat) : Int) = none → J n Hi → J (n + 1) Hi)
  (hround : ∀ n s z Hi, n < 8 → bs[n]? = some z → aroundN z ((fromT now n : Nat) : Int) = some s → J n Hi → RoundC Tryz.prog w0 lp #[.agg ([.int .i64 (n : Int), .int .i64 (s : Int), .int .u64 0, .int .u64 0] : List Value).toArray, .int .u64 ((timeT now n s : Nat) : Int)] ((b1, .cells 133 1 [.pointer (some ⟨bw, 0, none⟩)]) :: (bw, .cells 167 523 (whRow now sl bs bm turn)) :: Hi) (fun v H' => ∃ Hi', HSub H' ((b1, .cells 133 1 [.pointer (some ⟨bw, 0, none⟩)]) :: (bw, .cells 167 523 (whRow now sl bs bm turn)) :: Hi') ∧ v = .bool true ∧ J (n + 1) Hi')) (hJ : J 0 H) :
  LCalls Tryz.prog w0 140 #[.func (.yield lp) #[] #[], .pointer (some ⟨b1, 0, none⟩)] ((b1, .cells 133 1 [.pointer (some ⟨bw, 0, none⟩)]) :: (bw, .cells 167 523 (whRow now sl bs bm turn)) :: H) (fun _ H' => ∃ Hi', HSub H' ((b1, .cells 133 1 [.pointer (some ⟨bw, 0, none⟩)]) :: (bw, .cells 167 523 (whRow now sl bs bm turn)) :: Hi') ∧ J 8 Hi') := by
 refine L_enter (l := [.func (.yield lp) #[] #[], .pointer (some ⟨b1, 0, none⟩)]) Tryz.func140 rfl Tryz.ntmps140 rfl rfl ?_
 refine W_sr ?_
 refine W_move rfl rfl ?_
 refine W_nil (W_block ?_)
 refine W_loopC (X := (Nat × Heap)) [(0, _), (1, _)] (fun (x : (Nat × Heap)) => [(10, .int .i64 (x.1 : Int))]) (fun _ => _) (fun (x : (Nat × Heap)) => (b1, .cells 133 1 [.pointer (some ⟨bw, 0, none⟩)]) :: (bw, .cells 167 523 (whRow now sl bs bm turn)) :: x.2) (fun (x : (Nat × Heap)) => x.1 ≤ 8 ∧ J x.1 x.2) (fun (x : (Nat × Heap)) => 8 - x.1) (0, H) ⟨Nat.zero_le _, hJ⟩ (sub_cons rfl (sub_cons rfl (sub_nil _))) (sub_cons rfl (sub_nil _)) rfl (HSub.refl _) ?_
 rintro ⟨n, Hi⟩ ⟨hn, hJi⟩
 dsimp only at hn hJi ⊢
 simp only [List.cons_append, List.nil_append]
 refine W_sr ?_
 refine W_bin rfl rfl b_lss rfl ?_
 refine W_nil (W_seq ?_)
 refine W_condPS (p := (n : Int) < 8) rfl (by simp) (fun q0 => ?_) (fun q0 => ?_)
 ·skip
  refine W_skip (W_seq ?_)
  refine W_block (W_sr ?_)
  refine W_move rfl rfl ?_
  refine W_assign rfl rfl ?_
  refine W_nil ?_
  refine W_quietsr zk zK ?_
  obtain ⟨z, hz⟩ : ∃ z, bs[n]? = some z := ⟨_, List.getElem?_eq_getElem (by rw [hok.bs]; omega)⟩
  have hn8 : n < 8 := by omega
  have hp8 := pow8 hn8
  have hdl : now / 8 ^ n ≤ now := Nat.div_le_self _ _
  refine WQ_x (X_load (v := .pointer (some ⟨bw, 0, none⟩)) rfl ty133 rfl (Cell.own (b := b1) zM rfl)) rfl ?_
  refine WQ_x (X_nilCheck rfl) rfl ?_
  refine WQ_x (X_fieldAddr rfl fld167_0 zd) rfl ?_
  refine WQ_x (X_load (v := .int .u64 (now : Int)) rfl ty22 rfl (Cell.own (b := bw) zM wh_now)) rfl ?_
  refine WQ_x (X_move rfl) rfl ?_
  refine WQ_callp (.cons rfl .nil) Tryz.call141 rfl (T := fun _ => True) trivial (Gran_pure hn8) ?_
  refine WQ_x (X_bin rfl rfl (b_quo (by omega) (m := ((now / 8 ^ n : Nat) : Int)) (by rw [tdN]; generalize now / 8 ^ n = y at *; exact u64w ⟨by omega, by omega⟩))) rfl ?_
  refine WQ_x (X_bin rfl rfl (b_add (m := (((now / 8 ^ n + 1) % 18446744073709551616 : Nat) : Int)) (addW _))) rfl ?_
  refine WQ_x (X_bin rfl rfl (b_rem zd (m := ((fromT now n : Nat) : Int)) ((tmN _ 64).trans (by unfold fromT; omega)))) rfl ?_
  refine WQ_x (X_conv rfl ty22 ty3 (i64w (by unfold fromT; omega))) rfl ?_
  refine WQ_x (X_assign rfl) rfl ?_
  refine WQ_nil ?_
  refine W_sr ?_
  refine W_load (v := .pointer (some ⟨bw, 0, none⟩)) rfl ty133 rfl (Cell.own (b := b1) zM rfl) rfl ?_
  refine W_move rfl rfl ?_
  refine W_nilCheck rfl rfl ?_
  refine W_fieldAddr rfl fld167_2 zd rfl ?_
  refine W_indexAddrA (j := n) rfl rfl ty165 ty164 (by first | rfl | omega) (by first | decide | omega | simp) rfl rfl ?_
  refine W_load (v := .int .u64 (z : Int)) rfl ty164 rfl (by rw [Nat.mul_one]; exact Cell.own (b := bw) zM (wh_bs hok hz)) rfl ?_
  refine W_move rfl rfl ?_
  refine W_callp (.cons rfl (.cons rfl .nil)) Tryz.call142 rfl hT (around_pure (m := z) (f := ((fromT now n : Nat) : Int)) (hbs z (List.mem_of_getElem? hz))) ?_
  rcases ha : aroundN z ((fromT now n : Nat) : Int) with _ | s
  ·skip
   rw [show aroundV z ((fromT now n : Nat) : Int) = .tuple #[.int .i64 0, .bool false] from by unfold aroundV; rw [ha]]
   refine W_move rfl rfl ?_
   refine W_extract rfl rfl rfl ?_
   refine W_extract rfl rfl rfl ?_
   refine W_assign rfl rfl ?_
   refine W_assign rfl rfl ?_
   refine W_nil (W_seq (W_sr ?_))
   refine W_move rfl rfl ?_
   refine W_not rfl rfl ?_
   refine W_nil ?_
   refine W_condT rfl rfl ?_
   refine W_exit rfl ?_
   refine W_region ?_
   refine W_bin rfl rfl (b_add (m := ((n + 1 : Nat) : Int)) (by rw [i64w (by omega)]; omega)) rfl ?_
   refine W_move rfl rfl ?_
   refine W_nil ?_
   refine W_again (n + 1, Hi) ⟨by show n + 1 ≤ 8; omega, hskip n z Hi hn8 hz ha hJi⟩ (by show 8 - (n + 1) < 8 - n; omega) (sub_cons rfl (sub_cons rfl (sub_cons rfl (sub_nil _)))) rfl (HSub.refl _)
  ·skip
   rw [show aroundV z ((fromT now n : Nat) : Int) = .tuple #[.int .i64 (s : Int), .bool true] from by unfold aroundV; rw [ha]]
   have hs64 := (aroundN_is ha).1
   refine W_move rfl rfl ?_
   refine W_extract rfl rfl rfl ?_
   refine W_extract rfl rfl rfl ?_
   refine W_assign rfl rfl ?_
   refine W_assign rfl rfl ?_
   refine W_nil (W_seq (W_sr ?_))
   refine W_move rfl rfl ?_
   refine W_not rfl rfl ?_
   refine W_nil ?_
   refine W_condF rfl rfl ?_
   refine W_skip (W_sr ?_)
   refine W_move rfl rfl ?_
   refine W_move rfl rfl ?_
   refine W_build (l := [.int .i64 (n : Int), .int .i64 (s : Int), .int .u64 0, .int .u64 0]) ty32 pl32 (.cons rfl rfl rfl rfl rfl (.cons rfl rfl rfl rfl rfl .nil)) rfl rfl rfl ?_
   refine W_alloc (l := zSpot.v) ty32 rfl rfl (fun b7 => ?_)
   refine W_storeA (l' := [.int .i64 (n : Int), .int .i64 (s : Int), .int .u64 0, .int .u64 0]) rfl rfl ty32 rfl rfl (b := b7) zM (by exact Nat.le_refl 4) rfl zU ?_
   refine W_nil (W_sr ?_)
   refine W_load (v := .pointer (some ⟨bw, 0, none⟩)) rfl ty133 rfl (Cell.own (b := b1) zM rfl) rfl ?_
   refine W_nilCheck rfl rfl ?_
   refine W_fieldAddr rfl fld167_0 zd rfl ?_
   refine W_load (v := .int .u64 (now : Int)) rfl ty22 rfl (Cell.own (b := bw) zM wh_now) rfl ?_
   refine W_move rfl rfl ?_
   refine W_move rfl rfl ?_
   refine W_callp (.cons rfl (.cons rfl (.cons rfl .nil))) Tryz.call143 rfl (T := fun _ => True) trivial (Time_pure (a := now) (n := n) (s := s) hnow hn8 hs64) ?_
   refine W_move rfl rfl ?_
   refine W_extract rfl rfl rfl ?_
   refine W_extract rfl rfl rfl ?_
   refine W_assign rfl rfl ?_
   refine W_assign rfl rfl ?_
   refine W_nil (W_sr ?_)
   refine W_move rfl rfl ?_
   refine W_loadB (vs := [.int .i64 (n : Int), .int .i64 (s : Int), .int .u64 0, .int .u64 0]) rfl ty32 rfl (b := b7) zM rfl rfl rfl ?_
   refine W_move rfl rfl ?_
   refine W_hsub (.drop (.refl _)) ?_
   refine W_yield rfl (.cons rfl (.cons rfl .nil)) rfl (hround n s z Hi zO hz ha hJi) ?_
   rintro v H' ⟨Hi', hsub, rfl, hJ'⟩
   refine W_hsub hsub ?_
   refine W_not rfl rfl ?_
   refine W_nil ?_
   refine W_condF rfl rfl ?_
   refine W_skip ?_
   refine W_blk ?_
   refine W_region ?_
   refine W_bin rfl rfl (b_add (m := ((n + 1 : Nat) : Int)) (by rw [i64w (by omega)]; omega)) rfl ?_
   refine W_move rfl rfl ?_
   refine W_nil ?_
   refine W_again (n + 1, Hi') ⟨by show n + 1 ≤ 8; omega, hJ'⟩ (by show 8 - (n + 1) < 8 - n; omega) (sub_cons rfl (sub_cons rfl (sub_cons rfl (sub_nil _)))) rfl (HSub.refl _)
 ·skip
  refine W_exit rfl ?_
  refine W_end0m Tryz.results140 (.nil _) (.refl _) ?_
  obtain rfl : n = 8 := by omega
  exact ⟨Hi, .refl _, hJi⟩
theorem near_L {w0 : World} {H : Heap} {bw : Nat}  : LCalls Tryz.prog w0 127 #[.pointer (some ⟨bw, 0, none⟩)] (H) (fun v H' => ∃ b1, v = .func (.func 140) #[] #[.pointer (some ⟨b1, 0, none⟩)] ∧ H' = (b1, .cells 133 1 [.pointer (some ⟨bw, 0, none⟩)]) :: H) := by
 refine L_enter (l := [.pointer (some ⟨bw, 0, none⟩)]) Tryz.func127 rfl Tryz.ntmps127 rfl rfl ?_
 refine W_sr ?_
 refine W_box rfl rfl rfl (fun b1 => ?_)
 refine W_assign rfl rfl ?_
 refine W_nil (W_sr ?_)
 refine W_makeFunc .nil (.cons rfl .nil) rfl ?_
 refine W_assign rfl rfl ?_
 refine W_nil ?_
 refine W_ret1m Tryz.results127 rfl (.nil _) (.refl _) ?_
 exact ⟨b1, rfl, rfl⟩
def nx (now : Nat) (bs : List Nat) : Nat → Option Nat
 | 0 => none
 | n + 1 => match bs[n]? with
  | none => nx now bs n
  | some z => match aroundN z ((fromT now n : Nat) : Int) with
   | none => nx now bs n
   | some s => match nx now bs n with
    | none => some (timeT now n s)
    | some a => some (if timeT now n s < a then timeT now n s else a)
theorem nx_skip {now n z : Nat} {bs : List Nat} (hz : bs[n]? = some z) (ha : aroundN z ((fromT now n : Nat) : Int) = none) : nx now bs (n + 1) = nx now bs n := by
 show (match bs[n]? with | none => _ | some z => _) = _
 rw [hz]; dsimp only; rw [ha]
theorem nx_first {now n z s : Nat} {bs : List Nat} (hz : bs[n]? = some z) (ha : aroundN z ((fromT now n : Nat) : Int) = some s) (hx : nx now bs n = none) : nx now bs (n + 1) = some (timeT now n s) := by
 show (match bs[n]? with | none => _ | some z => _) = _
 rw [hz]; dsimp only; rw [ha]; dsimp only; rw [hx]
theorem nx_more {now n z s a : Nat} {bs : List Nat} (hz : bs[n]? = some z) (ha : aroundN z ((fromT now n : Nat) : Int) = some s) (hx : nx now bs n = some a) : nx now bs (n + 1) = some (if timeT now n s < a then timeT now n s else a) := by
 show (match bs[n]? with | none => _ | some z => _) = _
 rw [hz]; dsimp only; rw [ha]; dsimp only; rw [hx]
theorem nx_or (x : Option Nat) (t : Nat) : x = none ∨ (∃ a, x = some a ∧ t < a) ∨ (∃ a, x = some a ∧ ¬ t < a) := by
 cases x with
 | none => exact .inl rfl
 | some a => by_cases h : t < a; exact .inr (.inl ⟨a, rfl, h⟩); exact .inr (.inr ⟨a, rfl, h⟩)
theorem Next_L {w0 : World} {H : Heap} {bw bm now turn : Nat} {sl : List Value} {bs : List Nat} (hok : RowOk sl bs) (hnow : now ≤ 18446744073709551615) (hbs : ∀ z ∈ bs, z < 18446744073709551616) (hT : Tab w0) : LCalls Tryz.prog w0 109 #[.pointer (some ⟨bw, 0, none⟩)] ((bw, .cells 167 523 (whRow now sl bs bm turn)) :: H) (fun v H' => v = .tuple #[.int .u64 (((nx now bs 8).getD 0 : Nat) : Int), .bool (nx now bs 8).isSome] ∧ H' = (bw, .cells 167 523 (whRow now sl bs bm turn)) :: H) := by
 obtain ⟨F, hF⟩ : ∃ F : Nat → Option Nat, F = nx now bs := ⟨_, rfl⟩
 have hF0 : F 0 = none := by rw [hF]; rfl
 rw [← hF]
 refine L_enter (l := [.pointer (some ⟨bw, 0, none⟩)]) Tryz.func109 rfl Tryz.ntmps109 rfl rfl ?_
 refine W_sr ?_
 refine W_assign rfl rfl ?_
 refine W_assign rfl rfl ?_
 refine W_nil (W_seq (W_sr ?_))
 refine W_move rfl rfl ?_
 refine W_x (X_ptrNil rfl rfl ty133) (fun _ h => by cases h) rfl ?_
 refine W_nil ?_
 refine W_condF rfl rfl ?_
 refine W_skip (W_sr ?_)
 refine W_alloc (l := [.int .u64 0]) ty22 rfl rfl (fun b4 => ?_)
 refine W_alloc (l := [.bool false]) ty4 rfl rfl (fun b5 => ?_)
 refine W_store (l' := [.int .u64 0]) rfl rfl ty22 rfl rfl (b := b4) zM rfl rfl zU ?_
 refine W_store (l' := [.bool false]) rfl rfl ty4 rfl rfl (b := b5) zM rfl rfl zU ?_
 refine W_nil (W_seq (W_sr ?_))
 refine W_move rfl rfl ?_
 refine W_call (.cons rfl .nil) Tryz.call127 rfl (near_L (bw := bw)) ?_
 rintro v H' ⟨b1, rfl, rfl⟩
 refine W_nil (W_block ?_)
 refine W_rangeFunc rfl Tryz.call140 ?_
 intro lp D r hst hpd hps hasg hbody hA
 have hr := loop_ready hst hpd
 show LCalls _ _ _ #[_, _] _ _
 refine ((near_iter (b1 := b1) (bw := bw) (bm := bm) (now := now) (turn := turn) (sl := sl) (bs := bs) (H := (lp, .obj (.loop r)) :: (D, .obj (.deferred (some []))) :: (b5, .cells 4 1 [.bool false]) :: (b4, .cells 22 1 [.int .u64 0]) :: H) hT hok hnow hbs (fun n Hi => Hi = (lp, .obj (.loop r)) :: (D, .obj (.deferred (some []))) :: (b5, .cells 4 1 [.bool (F n).isSome]) :: (b4, .cells 22 1 [.int .u64 (((F n).getD 0 : Nat) : Int)]) :: H) (fun n z Hi _ hz ha hJ => by show Hi = _; rw [hF, nx_skip hz ha, ← hF]; exact hJ) ?_ (by show _ = (lp, .obj (.loop r)) :: (D, .obj (.deferred (some []))) :: (b5, .cells 4 1 [.bool (F 0).isSome]) :: (b4, .cells 22 1 [.int .u64 (((F 0).getD 0 : Nat) : Int)]) :: H; rw [hF0]; rfl)).hsub zH).mono ?_
 ·intro n s z Hi hn hz ha hJ
  subst hJ
  obtain ⟨t, ht⟩ : ∃ t, t = timeT now n s := ⟨_, rfl⟩
  rw [← ht]
  refine round_intro hst hpd hA hps rfl hasg rfl rfl rfl zT ?_
  refine W_region ?_
  refine W_assign rfl rfl ?_
  refine W_nil ?_
  refine W_begin hst hpd zT hbody ?_
  refine W_block (W_sr ?_)
  rcases nx_or (F n) t with hx | ⟨a, hx, hlt⟩ | ⟨a, hx, hlt⟩
  ·skip
   rw [hx]
   refine W_load (v := .bool false) rfl ty4 rfl (Cell.own (b := b5) zM rfl) rfl ?_
   refine W_not rfl rfl ?_
   refine W_move rfl rfl ?_
   refine W_gno rfl rfl rfl ?_
   refine W_gno rfl rfl rfl ?_
   refine W_gno rfl rfl rfl ?_
   first | refine W_pickt rfl rfl rfl ?_ | refine W_pickf rfl rfl rfl ?_
   refine W_nil ?_
   refine W_condT rfl rfl ?_
   refine W_region ?_
   refine W_move rfl rfl ?_
   refine W_store (l' := [.int .u64 ((t : Nat) : Int)]) rfl rfl ty22 rfl rfl (b := b4) zM rfl rfl zU ?_
   refine W_store (l' := [.bool true]) rfl rfl ty4 rfl rfl (b := b5) zM rfl rfl zU ?_
   refine W_nil ?_
   refine W_blk ?_
   have hs1 : F (n + 1) = some t := by rw [hF, nx_first hz ha (hF ▸ hx), ← ht]
   refine W_endround zT ?_
   rw [hr]
   exact ⟨(lp, .obj (.loop r)) :: (D, .obj (.deferred (some []))) :: (b5, .cells 4 1 [.bool true]) :: (b4, .cells 22 1 [.int .u64 ((t : Nat) : Int)]) :: H, zH, rfl, by show _ = (lp, .obj (.loop r)) :: (D, .obj (.deferred (some []))) :: (b5, .cells 4 1 [.bool (F (n + 1)).isSome]) :: (b4, .cells 22 1 [.int .u64 (((F (n + 1)).getD 0 : Nat) : Int)]) :: H; rw [hs1]; rfl⟩
  ·skip
   rw [hx]
   refine W_load (v := .bool true) rfl ty4 rfl (Cell.own (b := b5) zM rfl) rfl ?_
   refine W_not rfl rfl ?_
   refine W_move rfl rfl ?_
   refine W_gyes rfl rfl ?_
   refine W_move rfl rfl ?_
   refine W_gyes rfl rfl ?_
   refine W_load (v := .int .u64 ((a : Nat) : Int)) rfl ty22 rfl (Cell.own (b := b4) zM rfl) rfl ?_
   refine W_gyes rfl rfl ?_
   refine W_bin rfl rfl b_lss rfl ?_
   rw [decide_eq_true (by omega)]
   first | refine W_pickt rfl rfl rfl ?_ | refine W_pickf rfl rfl rfl ?_
   refine W_nil ?_
   refine W_condT rfl rfl ?_
   refine W_region ?_
   refine W_move rfl rfl ?_
   refine W_store (l' := [.int .u64 ((t : Nat) : Int)]) rfl rfl ty22 rfl rfl (b := b4) zM rfl rfl zU ?_
   refine W_store (l' := [.bool true]) rfl rfl ty4 rfl rfl (b := b5) zM rfl rfl zU ?_
   refine W_nil ?_
   refine W_blk ?_
   have hs1 : F (n + 1) = some t := by rw [hF, nx_more hz ha (hF ▸ hx), ← ht, if_pos hlt]
   refine W_endround zT ?_
   rw [hr]
   exact ⟨(lp, .obj (.loop r)) :: (D, .obj (.deferred (some []))) :: (b5, .cells 4 1 [.bool true]) :: (b4, .cells 22 1 [.int .u64 ((t : Nat) : Int)]) :: H, zH, rfl, by show _ = (lp, .obj (.loop r)) :: (D, .obj (.deferred (some []))) :: (b5, .cells 4 1 [.bool (F (n + 1)).isSome]) :: (b4, .cells 22 1 [.int .u64 (((F (n + 1)).getD 0 : Nat) : Int)]) :: H; rw [hs1]; rfl⟩
  ·skip
   rw [hx]
   refine W_load (v := .bool true) rfl ty4 rfl (Cell.own (b := b5) zM rfl) rfl ?_
   refine W_not rfl rfl ?_
   refine W_move rfl rfl ?_
   refine W_gyes rfl rfl ?_
   refine W_move rfl rfl ?_
   refine W_gyes rfl rfl ?_
   refine W_load (v := .int .u64 ((a : Nat) : Int)) rfl ty22 rfl (Cell.own (b := b4) zM rfl) rfl ?_
   refine W_gyes rfl rfl ?_
   refine W_bin rfl rfl b_lss rfl ?_
   rw [decide_eq_false (by omega)]
   first | refine W_pickt rfl rfl rfl ?_ | refine W_pickf rfl rfl rfl ?_
   refine W_nil ?_
   refine W_condF rfl rfl ?_
   refine W_skip ?_
   refine W_blk ?_
   have hs1 : F (n + 1) = some a := by rw [hF, nx_more hz ha (hF ▸ hx), ← ht, if_neg hlt]
   refine W_endround zT ?_
   rw [hr]
   exact ⟨(lp, .obj (.loop r)) :: (D, .obj (.deferred (some []))) :: (b5, .cells 4 1 [.bool true]) :: (b4, .cells 22 1 [.int .u64 ((a : Nat) : Int)]) :: H, zH, rfl, by show _ = (lp, .obj (.loop r)) :: (D, .obj (.deferred (some []))) :: (b5, .cells 4 1 [.bool (F (n + 1)).isSome]) :: (b4, .cells 22 1 [.int .u64 (((F (n + 1)).getD 0 : Nat) : Int)]) :: H; rw [hs1]; rfl⟩
 ·intro _ H' hp
  obtain ⟨Hi', hs, rfl⟩ := hp
  refine ⟨.ready, none, (b1, .cells 133 1 [.pointer (some ⟨bw, 0, none⟩)]) :: (bw, .cells 167 523 (whRow now sl bs bm turn)) :: (D, .obj (.deferred (some []))) :: (b5, .cells 4 1 [.bool (F 8).isSome]) :: (b4, .cells 22 1 [.int .u64 (((F 8).getD 0 : Nat) : Int)]) :: H, by rw [hr]; exact hs.trans zH, by decide, ?_⟩
  show W _ _ _ _ _ _ _ _ _
  refine W_blk ?_
  refine W_quietsr zk zK ?_
  refine WQ_x (X_load (v := .int .u64 (((F 8).getD 0 : Nat) : Int)) rfl ty22 rfl (Cell.own (b := b4) zM rfl)) rfl ?_
  refine WQ_x (X_load (v := .bool (F 8).isSome) rfl ty4 rfl (Cell.own (b := b5) zM rfl)) rfl ?_
  refine WQ_x (X_assign rfl) rfl ?_
  refine WQ_x (X_assign rfl) rfl ?_
  refine WQ_nil ?_
  refine W_ret2m (H2 := (bw, .cells 167 523 (whRow now sl bs bm turn)) :: H) Tryz.results109 rfl rfl (.cons zT (.nil _)) zH ?_
  exact ⟨rfl, rfl⟩
theorem Now_q {w0 : World} {H : Heap} {bw bm now turn : Nat} {sl : List Value} {bs : List Nat} (hw : (bw, .cells 167 523 (whRow now sl bs bm turn)) ∈ H)  : PureAt Tryz.prog w0 H 76 [.pointer (some ⟨bw, 0, none⟩)] (.int .u64 ((now : Nat) : Int)) := by
 refine L_enter Tryz.func76 rfl Tryz.ntmps76 rfl rfl ?_
 refine W_sr ?_
 refine W_assign rfl rfl ?_
 refine W_nil (W_seq (W_sr ?_))
 refine W_move rfl rfl ?_
 refine W_x (X_ptrNil rfl rfl ty133) (fun _ h => by cases h) rfl ?_
 refine W_nil ?_
 refine W_condF rfl rfl ?_
 refine W_skip (W_sr ?_)
 refine W_move rfl rfl ?_
 refine W_nilCheck rfl rfl ?_
 refine W_fieldAddr rfl fld167_0 zd rfl ?_
 refine W_load (v := .int .u64 (now : Int)) rfl ty22 rfl (Cell.own (b := bw) hw wh_now) rfl ?_
 refine W_assign rfl rfl ?_
 refine W_nil ?_
 refine W_ret1m (H2 := H) Tryz.results76 rfl (.nil _) zH ?_
 exact ⟨rfl, rfl⟩
theorem Now_nil  : Pure Tryz.prog (fun _ => True) 76 [.pointer none] (.int .u64 0) := by
 intro w0 H hT
 refine L_enter Tryz.func76 rfl Tryz.ntmps76 rfl rfl ?_
 refine W_sr ?_
 refine W_assign rfl rfl ?_
 refine W_nil (W_seq (W_sr ?_))
 refine W_move rfl rfl ?_
 refine W_x (X_ptrNil rfl rfl ty133) (fun _ h => by cases h) rfl ?_
 refine W_nil ?_
 refine W_condT rfl rfl ?_
 refine W_sr ?_
 refine W_assign rfl rfl ?_
 refine W_nil ?_
 refine W_ret1m (H2 := H) Tryz.results76 rfl (.nil _) zH ?_
 exact ⟨rfl, rfl⟩
structure RingI (R : Nat) (l buf : List Int) (h : Nat) : Prop where
 pos : 0 < R
 room : R ≤ 256
 len : buf.length = R
 head : h < R
 most : l.length ≤ R
 at_ : ∀ (i : Nat) x, l[i]? = some x → buf[(h + i) % R]? = some x
inductive RingH (R rb : Nat) (l : List Int) : Heap → Prop
 | mk {b h : Nat} {buf : List Int} (hI : RingI R l buf h) : RingH R rb l [(rb, .cells 160 3 [.slice (some ⟨b, 0, none⟩) R R, .int .i64 ((h : Nat) : Int), .int .i64 ((l.length : Nat) : Int)]), (b, .cells 3 (R * 1) ((buf).map (Value.int .i64)))]
def atV (l : List Int) (z : Int) : Value := if 0 ≤ z then (match l[z.toNat]? with
 | some x => .tuple #[.int .i64 x, .bool true]
 | none => .tuple #[.int .i64 0, .bool false]) else .tuple #[.int .i64 0, .bool false]
theorem atV_in {l : List Int} {i : Nat} {x : Int} (h : l[i]? = some x) : atV l (i : Int) = .tuple #[.int .i64 x, .bool true] := by
 unfold atV
 rw [if_pos (by omega), show ((i : Nat) : Int).toNat = i by omega, h]
theorem atV_out {l : List Int} {z : Int} (h : z < 0 ∨ (l.length : Int) ≤ z) : atV l z = .tuple #[.int .i64 0, .bool false] := by
 unfold atV
 by_cases c : 0 ≤ z
 ·rw [if_pos c, List.getElem?_eq_none (by omega)]
 ·rw [if_neg c]
theorem tmN' (a b : Nat) : ((a : Int)).tmod (b : Int) = ((a % b : Nat) : Int) := by
 rw [Int.tmod_eq_emod_of_nonneg (Int.natCast_nonneg _)]; exact (Int.natCast_emod _ _).symm
theorem place_q {w0 : World} {H : Heap} {R rb b h n i : Nat} (hm : (rb, .cells 160 3 [.slice (some ⟨b, 0, none⟩) R R, .int .i64 ((h : Nat) : Int), .int .i64 ((n : Nat) : Int)]) ∈ H) (hp : 0 < R) (hR : R ≤ 256) (hh : h < R) (hi : i ≤ 1000000)  : PureAt Tryz.prog w0 H 111 [.pointer (some ⟨rb, 0, none⟩), .int .i64 (i : Int)] (.int .i64 (((h + i) % R : Nat) : Int)) := by
 refine L_enter Tryz.func111 rfl Tryz.ntmps111 rfl rfl ?_
 refine W_sr ?_
 refine W_assign rfl rfl ?_
 refine W_nil ?_
 refine W_quietsr zk zK ?_
 refine WQ_x (X_move rfl) rfl ?_
 refine WQ_x (X_nilCheck rfl) rfl ?_
 refine WQ_x (X_fieldAddr rfl fld160_1 zd) rfl ?_
 refine WQ_x (X_load (v := .int .i64 ((h : Nat) : Int)) rfl ty3 rfl (Cell.own (b := rb) hm rfl)) rfl ?_
 refine WQ_x (X_move rfl) rfl ?_
 refine WQ_x (X_bin rfl rfl (b_add (m := ((h + i : Nat) : Int)) (by rw [i64w (by omega)]; omega))) rfl ?_
 refine WQ_x (X_move rfl) rfl ?_
 refine WQ_x (X_nilCheck rfl) rfl ?_
 refine WQ_x (X_fieldAddr rfl fld160_0 zd) rfl ?_
 refine WQ_x (X_load (v := .slice (some ⟨b, 0, none⟩) R R) rfl ty24 rfl (Cell.own (b := rb) hm rfl)) rfl ?_
 refine WQ_x (X_len rfl ty24 rfl) rfl ?_
 refine WQ_x (X_bin rfl rfl (b_rem zO (m := (((h + i) % R : Nat) : Int)) (tmN' (h + i) R))) rfl ?_
 refine WQ_x (X_assign rfl) rfl ?_
 refine WQ_nil ?_
 refine W_ret1m (H2 := H) Tryz.results111 rfl (.nil _) zH ?_
 exact ⟨rfl, rfl⟩
theorem rLen_q {w0 : World} {H : Heap} {R rb b h n : Nat} (hm : (rb, .cells 160 3 [.slice (some ⟨b, 0, none⟩) R R, .int .i64 ((h : Nat) : Int), .int .i64 ((n : Nat) : Int)]) ∈ H)  : PureAt Tryz.prog w0 H 90 [.pointer (some ⟨rb, 0, none⟩)] (.int .i64 (n : Int)) := by
 refine L_enter Tryz.func90 rfl Tryz.ntmps90 rfl rfl ?_
 refine W_sr ?_
 refine W_assign rfl rfl ?_
 refine W_nil (W_seq (W_sr ?_))
 refine W_move rfl rfl ?_
 refine W_x (X_ptrNil rfl rfl ty127) (fun _ h => by cases h) rfl ?_
 refine W_nil ?_
 refine W_condF rfl rfl ?_
 refine W_skip (W_sr ?_)
 refine W_move rfl rfl ?_
 refine W_nilCheck rfl rfl ?_
 refine W_fieldAddr rfl fld160_2 zd rfl ?_
 refine W_load (v := .int .i64 ((n : Nat) : Int)) rfl ty3 rfl (Cell.own (b := rb) hm rfl) rfl ?_
 refine W_assign rfl rfl ?_
 refine W_nil ?_
 refine W_ret1m (H2 := H) Tryz.results90 rfl (.nil _) zH ?_
 exact ⟨rfl, rfl⟩
theorem rAt_lo {w0 : World} {H : Heap} {R rb b h : Nat} {l buf : List Int} (hI : RingI R l buf h) (hm : (rb, .cells 160 3 [.slice (some ⟨b, 0, none⟩) R R, .int .i64 ((h : Nat) : Int), .int .i64 ((l.length : Nat) : Int)]) ∈ H) (hb : (b, .cells 3 (R * 1) ((buf).map (Value.int .i64))) ∈ H) {z : Int} (hz : z < 0)  : PureAt Tryz.prog w0 H 100 [.pointer (some ⟨rb, 0, none⟩), .int .i64 z] (atV l z) := by
 refine L_enter Tryz.func100 rfl Tryz.ntmps100 rfl rfl ?_
 refine W_sr ?_
 refine W_assign rfl rfl ?_
 refine W_assign rfl rfl ?_
 refine W_nil (W_seq (W_sr ?_))
 refine W_move rfl rfl ?_
 refine W_x (X_ptrNil rfl rfl ty127) (fun _ h => by cases h) rfl ?_
 refine W_move rfl rfl ?_
 refine W_gyes rfl rfl ?_
 refine W_move rfl rfl ?_
 refine W_gyes rfl rfl ?_
 refine W_bin rfl rfl b_lss rfl ?_
 rw [decide_eq_true hz]
 first | refine W_pickt rfl rfl rfl ?_ | refine W_pickf rfl rfl rfl ?_
 refine W_move rfl rfl ?_
 refine W_gno rfl rfl rfl ?_
 refine W_gno rfl rfl rfl ?_
 refine W_gno rfl rfl rfl ?_
 refine W_gno rfl rfl rfl ?_
 refine W_gno rfl rfl rfl ?_
 refine W_gno rfl rfl rfl ?_
 first | refine W_pickt rfl rfl rfl ?_ | refine W_pickf rfl rfl rfl ?_
 refine W_nil ?_
 refine W_condT rfl rfl ?_
 refine W_sr ?_
 refine W_assign rfl rfl ?_
 refine W_nil (W_sr ?_)
 refine W_move rfl rfl ?_
 refine W_assign rfl rfl ?_
 refine W_assign rfl rfl ?_
 refine W_nil ?_
 refine W_ret2m (H2 := H) Tryz.results100 rfl rfl (.nil _) zH ?_
 exact ⟨(atV_out (.inl hz)).symm, rfl⟩
theorem rAt_hi {w0 : World} {H : Heap} {R rb b h : Nat} {l buf : List Int} (hI : RingI R l buf h) (hm : (rb, .cells 160 3 [.slice (some ⟨b, 0, none⟩) R R, .int .i64 ((h : Nat) : Int), .int .i64 ((l.length : Nat) : Int)]) ∈ H) (hb : (b, .cells 3 (R * 1) ((buf).map (Value.int .i64))) ∈ H) {z : Int} (hz : (l.length : Int) ≤ z)  : PureAt Tryz.prog w0 H 100 [.pointer (some ⟨rb, 0, none⟩), .int .i64 z] (atV l z) := by
 refine L_enter Tryz.func100 rfl Tryz.ntmps100 rfl rfl ?_
 refine W_sr ?_
 refine W_assign rfl rfl ?_
 refine W_assign rfl rfl ?_
 refine W_nil (W_seq (W_sr ?_))
 refine W_move rfl rfl ?_
 refine W_x (X_ptrNil rfl rfl ty127) (fun _ h => by cases h) rfl ?_
 refine W_move rfl rfl ?_
 refine W_gyes rfl rfl ?_
 refine W_move rfl rfl ?_
 refine W_gyes rfl rfl ?_
 refine W_bin rfl rfl b_lss rfl ?_
 rw [decide_eq_false (by omega)]
 first | refine W_pickt rfl rfl rfl ?_ | refine W_pickf rfl rfl rfl ?_
 refine W_move rfl rfl ?_
 refine W_gyes rfl rfl ?_
 refine W_move rfl rfl ?_
 refine W_gyes rfl rfl ?_
 refine W_move rfl rfl ?_
 refine W_gyes rfl rfl ?_
 refine W_nilCheck rfl rfl ?_
 refine W_gyes rfl rfl ?_
 refine W_fieldAddr rfl fld160_2 zd rfl ?_
 refine W_gyes rfl rfl ?_
 refine W_load (v := .int .i64 ((l.length : Nat) : Int)) rfl ty3 rfl (Cell.own (b := rb) hm rfl) rfl ?_
 refine W_gyes rfl rfl ?_
 refine W_bin rfl rfl b_geq rfl ?_
 rw [decide_eq_true (by omega)]
 first | refine W_pickt rfl rfl rfl ?_ | refine W_pickf rfl rfl rfl ?_
 refine W_nil ?_
 refine W_condT rfl rfl ?_
 refine W_sr ?_
 refine W_assign rfl rfl ?_
 refine W_nil (W_sr ?_)
 refine W_move rfl rfl ?_
 refine W_assign rfl rfl ?_
 refine W_assign rfl rfl ?_
 refine W_nil ?_
 refine W_ret2m (H2 := H) Tryz.results100 rfl rfl (.nil _) zH ?_
 exact ⟨(atV_out (.inr hz)).symm, rfl⟩
theorem rAt_in {w0 : World} {H : Heap} {R rb b h : Nat} {l buf : List Int} (hI : RingI R l buf h) (hm : (rb, .cells 160 3 [.slice (some ⟨b, 0, none⟩) R R, .int .i64 ((h : Nat) : Int), .int .i64 ((l.length : Nat) : Int)]) ∈ H) (hb : (b, .cells 3 (R * 1) ((buf).map (Value.int .i64))) ∈ H) {i : Nat} {x : Int} (hx : l[i]? = some x)  : PureAt Tryz.prog w0 H 100 [.pointer (some ⟨rb, 0, none⟩), .int .i64 (i : Int)] (.tuple #[.int .i64 x, .bool true]) := by
 have hil := (List.getElem?_eq_some_iff.1 hx).1
 have hmost := hI.most
 have hroom := hI.room
 have hbx := hI.at_ i x hx
 have hpl : (h + i) % R < R := Nat.mod_lt _ hI.pos
 refine L_enter Tryz.func100 rfl Tryz.ntmps100 rfl rfl ?_
 refine W_sr ?_
 refine W_assign rfl rfl ?_
 refine W_assign rfl rfl ?_
 refine W_nil (W_seq (W_sr ?_))
 refine W_move rfl rfl ?_
 refine W_x (X_ptrNil rfl rfl ty127) (fun _ h => by cases h) rfl ?_
 refine W_move rfl rfl ?_
 refine W_gyes rfl rfl ?_
 refine W_move rfl rfl ?_
 refine W_gyes rfl rfl ?_
 refine W_bin rfl rfl b_lss rfl ?_
 rw [decide_eq_false (by omega)]
 first | refine W_pickt rfl rfl rfl ?_ | refine W_pickf rfl rfl rfl ?_
 refine W_move rfl rfl ?_
 refine W_gyes rfl rfl ?_
 refine W_move rfl rfl ?_
 refine W_gyes rfl rfl ?_
 refine W_move rfl rfl ?_
 refine W_gyes rfl rfl ?_
 refine W_nilCheck rfl rfl ?_
 refine W_gyes rfl rfl ?_
 refine W_fieldAddr rfl fld160_2 zd rfl ?_
 refine W_gyes rfl rfl ?_
 refine W_load (v := .int .i64 ((l.length : Nat) : Int)) rfl ty3 rfl (Cell.own (b := rb) hm rfl) rfl ?_
 refine W_gyes rfl rfl ?_
 refine W_bin rfl rfl b_geq rfl ?_
 rw [decide_eq_false (by omega)]
 first | refine W_pickt rfl rfl rfl ?_ | refine W_pickf rfl rfl rfl ?_
 refine W_nil ?_
 refine W_condF rfl rfl ?_
 refine W_skip ?_
 refine W_quietsr zk zK ?_
 refine WQ_x (X_move rfl) rfl ?_
 refine WQ_x (X_nilCheck rfl) rfl ?_
 refine WQ_x (X_fieldAddr rfl fld160_0 zd) rfl ?_
 refine WQ_x (X_load (v := .slice (some ⟨b, 0, none⟩) R R) rfl ty24 rfl (Cell.own (b := rb) hm rfl)) rfl ?_
 refine WQ_x (X_move rfl) rfl ?_
 refine WQ_x (X_move rfl) rfl ?_
 refine WQ_callq (.cons rfl (.cons rfl .nil)) Tryz.call111 rfl (place_q (i := i) hm hI.pos hI.room hI.head zO) ?_
 refine WQ_x (X_indexAddr (j := (h + i) % R) rfl rfl ty24 ty3 (by first | rfl | omega) (by first | decide | omega | simp) rfl) rfl ?_
 refine WQ_x (X_load (v := .int .i64 x) rfl ty3 rfl (by rw [Nat.mul_one]; exact Cell.own (b := b) hb (by rw [Nat.zero_add, List.getElem?_map, hbx]; rfl))) rfl ?_
 refine WQ_x (X_assign rfl) rfl ?_
 refine WQ_x (X_assign rfl) rfl ?_
 refine WQ_nil ?_
 refine W_ret2m (H2 := H) Tryz.results100 rfl rfl (.nil _) zH ?_
 exact ⟨rfl, rfl⟩
theorem rAt_q {w0 : World} {H : Heap} {R rb b h : Nat} {l buf : List Int} (hI : RingI R l buf h) (hm : (rb, .cells 160 3 [.slice (some ⟨b, 0, none⟩) R R, .int .i64 ((h : Nat) : Int), .int .i64 ((l.length : Nat) : Int)]) ∈ H) (hb : (b, .cells 3 (R * 1) ((buf).map (Value.int .i64))) ∈ H) {z : Int} : PureAt Tryz.prog w0 H 100 [.pointer (some ⟨rb, 0, none⟩), .int .i64 z] (atV l z) := by
 by_cases h0 : z < 0
 ·exact rAt_lo hI hm hb h0
 ·by_cases h1 : (l.length : Int) ≤ z
  ·exact rAt_hi hI hm hb h1
  ·obtain ⟨i, rfl⟩ : ∃ i : Nat, z = (i : Int) := ⟨z.toNat, by omega⟩
   obtain ⟨x, hx⟩ : ∃ x, l[i]? = some x := ⟨_, List.getElem?_eq_getElem zO⟩
   rw [atV_in hx]
   exact rAt_in hI hm hb hx
theorem rAt_nil {z : Int} : Pure Tryz.prog (fun _ => True) 100 [.pointer none, .int .i64 z] (.tuple #[.int .i64 0, .bool false]) := by
 intro w0 H hT
 refine L_enter Tryz.func100 rfl Tryz.ntmps100 rfl rfl ?_
 refine W_sr ?_
 refine W_assign rfl rfl ?_
 refine W_assign rfl rfl ?_
 refine W_nil (W_seq (W_sr ?_))
 refine W_move rfl rfl ?_
 refine W_x (X_ptrNil rfl rfl ty127) (fun _ h => by cases h) rfl ?_
 refine W_move rfl rfl ?_
 refine W_gno rfl rfl rfl ?_
 refine W_gno rfl rfl rfl ?_
 first | refine W_pickt rfl rfl rfl ?_ | refine W_pickf rfl rfl rfl ?_
 refine W_move rfl rfl ?_
 refine W_gno rfl rfl rfl ?_
 refine W_gno rfl rfl rfl ?_
 refine W_gno rfl rfl rfl ?_
 refine W_gno rfl rfl rfl ?_
 refine W_gno rfl rfl rfl ?_
 refine W_gno rfl rfl rfl ?_
 first | refine W_pickt rfl rfl rfl ?_ | refine W_pickf rfl rfl rfl ?_
 refine W_nil ?_
 refine W_condT rfl rfl ?_
 refine W_sr ?_
 refine W_assign rfl rfl ?_
 refine W_nil (W_sr ?_)
 refine W_move rfl rfl ?_
 refine W_assign rfl rfl ?_
 refine W_assign rfl rfl ?_
 refine W_nil ?_
 refine W_ret2m (H2 := H) Tryz.results100 rfl rfl (.nil _) zH ?_
 exact ⟨rfl, rfl⟩
theorem RingI.start {R : Nat} (h0 : 0 < R) (h1 : R ≤ 256) : RingI R [] (List.replicate R 0) 0 :=
 ⟨h0, h1, List.length_replicate, h0, Nat.zero_le _, fun i x h => by simp at h⟩
theorem rNew_L {w0 : World} {H : Heap} {R : Nat} (h0 : 0 < R) (h1 : R ≤ 256)  : LCalls Tryz.prog w0 72 #[.int .i64 (R : Int)] (H) (fun v H' => ∃ rb HB, v = .tuple #[.pointer (some ⟨rb, 0, none⟩), .int .i64 0] ∧ RingH R rb [] HB ∧ H' = HB ++ H) := by
 refine L_enter (l := [.int .i64 (R : Int)]) Tryz.func72 rfl Tryz.ntmps72 rfl rfl ?_
 refine W_sr ?_
 refine W_assign rfl rfl ?_
 refine W_assign rfl rfl ?_
 refine W_nil (W_seq (W_sr ?_))
 refine W_move rfl rfl ?_
 refine W_bin rfl rfl b_lss rfl ?_
 refine W_move rfl rfl ?_
 apply W_or
 iterate 4 exact rfl
 case h1 =>
  intro hg2
  refine W_gyes rfl rfl ?_
  refine W_move rfl rfl ?_
  refine W_gyes rfl rfl ?_
  refine W_bin rfl rfl b_gtr rfl ?_
  exact W_met rfl zR
 refine W_nil ?_
 refine W_condF rfl (by simp; omega) ?_
 refine W_skip (W_sr ?_)
 refine W_move rfl rfl ?_
 refine W_makeSlice (ln := R) (cp := R) (l := (List.replicate R (0 : Int)).map (Value.int .i64)) rfl rfl ty24 ty3 rfl rfl (Nat.le_refl _) (by omega) (by simp only [maxLen]; omega) (by rw [Nat.mul_one]; simp [toList_madeCells_one, Value.cells]) rfl (fun b11 => ?_)
 refine W_build (l := [.slice (some ⟨b11, 0, none⟩) R R, .int .i64 0, .int .i64 0]) ty160 pl160 (.cons rfl rfl rfl rfl rfl .nil) rfl rfl rfl ?_
 refine W_box (l := [.slice (some ⟨b11, 0, none⟩) R R, .int .i64 0, .int .i64 0]) rfl rfl rfl (fun b13 => ?_)
 refine W_assign rfl rfl ?_
 refine W_assign rfl rfl ?_
 refine W_nil ?_
 refine W_ret2m (H2 := [(b13, .cells 160 3 [.slice (some ⟨b11, 0, none⟩) R R, .int .i64 0, .int .i64 0]), (b11, .cells 3 (R * 1) ((List.replicate R (0 : Int)).map (Value.int .i64)))] ++ H) Tryz.results72 rfl rfl (.nil _) zH ?_
 exact ⟨b13, _, rfl, .mk (RingI.start h0 h1), rfl⟩
end Go.Proofs.YtcmfldfeakmdoaaGreatDoor

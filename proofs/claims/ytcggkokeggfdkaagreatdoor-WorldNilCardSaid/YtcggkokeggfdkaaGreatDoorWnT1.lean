/-
  Own work: contracts of functions that the statement reaches, and plain facts on what they compute; each theorem says its conditions.
-/
import Derived.Test.YtcggkokeggfdkaaGreatDoorProg
import Derived.Test.YtcggkokeggfdkaaGreatDoorWnS1
import Derived.Test.YtcggkokeggfdkaaGreatDoorWnS2
import Derived.Test.YtcggkokeggfdkaaGreatDoorWnS4
import Derived.WalkSmall
import Derived.Test.YtcggkokeggfdkaaGreatDoorShelf
import Derived.Test.YtcggkokeggfdkaaGreatDoorCards
import Derived.LaidByTextLater
import Derived.SevenTiedAt
import Derived.Lib.LaidTab
import Derived.Lib.LaidIn
import Derived.Lib.TrailingZeros
import Derived.Stop.LaidErr
import Derived.IntWalk
import Derived.ChangeKeysEq
import Derived.Test.YtcggkokeggfdkaaGreatDoorWnA
set_option linter.all false
set_option linter.unusedSimpArgs false
set_option linter.unusedVariables false
set_option maxHeartbeats 16000000
namespace Go.Proofs.YtcggkokeggfdkaaGreatDoor
open Go Go.Sl
set_option maxRecDepth 100000
theorem ty3 : Ty Tryz.prog 3 (Go.TypeDesc.int Go.IntKind.i64) 1 (Go.Value.int Go.IntKind.i64 0) 8 := ⟨by kernel_rfl, Tryz.t3, by kernel_rfl, rfl, rfl, rfl⟩
theorem ty5 : Ty Tryz.prog 5 (Go.TypeDesc.int Go.IntKind.u8) 1 (Go.Value.int Go.IntKind.u8 0) 1 := ⟨by kernel_rfl, Tryz.t5, by kernel_rfl, rfl, rfl, rfl⟩
theorem ty23 : Ty Tryz.prog 23 (Go.TypeDesc.pointer 113) 1 (Go.Value.pointer Option.none) 8 := ⟨by kernel_rfl, Tryz.t23, by kernel_rfl, rfl, rfl, rfl⟩
theorem ty28 : Ty Tryz.prog 28 (Go.TypeDesc.slice 5) 1 (Go.Value.slice Option.none 0 0) 24 := ⟨by kernel_rfl, Tryz.t28, by kernel_rfl, rfl, rfl, rfl⟩
theorem ty29 : Ty Tryz.prog 29 (Go.TypeDesc.int Go.IntKind.i64) 1 (Go.Value.int Go.IntKind.i64 0) 8 := ⟨by kernel_rfl, Tryz.t29, by kernel_rfl, rfl, rfl, rfl⟩
theorem ty33 : Ty Tryz.prog 33 (Go.TypeDesc.int Go.IntKind.u64) 1 (Go.Value.int Go.IntKind.u64 0) 8 := ⟨by kernel_rfl, Tryz.t33, by kernel_rfl, rfl, rfl, rfl⟩
theorem ty35 : Ty Tryz.prog 35 Tryz.t34.desc 7 (Go.Value.agg #[(Go.Value.int Go.IntKind.i64 0), (Go.Value.int Go.IntKind.i64 0), (Go.Value.int Go.IntKind.i64 0), (Go.Value.int Go.IntKind.i64 0), (Go.Value.int Go.IntKind.u64 0), (Go.Value.int Go.IntKind.u64 0), (Go.Value.slice Option.none 0 0)]) 72 := ⟨by kernel_rfl, Tryz.t35, by kernel_rfl, rfl, rfl, rfl⟩
theorem ty47 : Ty Tryz.prog 47 Tryz.t34.desc 7 (Go.Value.agg #[(Go.Value.int Go.IntKind.i64 0), (Go.Value.int Go.IntKind.i64 0), (Go.Value.int Go.IntKind.i64 0), (Go.Value.int Go.IntKind.i64 0), (Go.Value.int Go.IntKind.u64 0), (Go.Value.int Go.IntKind.u64 0), (Go.Value.slice Option.none 0 0)]) 72 := ⟨by kernel_rfl, Tryz.t47, by kernel_rfl, rfl, rfl, rfl⟩
theorem ty53 : Ty Tryz.prog 53 (Go.TypeDesc.int Go.IntKind.u64) 1 (Go.Value.int Go.IntKind.u64 0) 8 := ⟨by kernel_rfl, Tryz.t53, by kernel_rfl, rfl, rfl, rfl⟩
theorem ty55 : Ty Tryz.prog 55 (Go.TypeDesc.slice 3) 1 (Go.Value.slice Option.none 0 0) 24 := ⟨by kernel_rfl, Tryz.t55, by kernel_rfl, rfl, rfl, rfl⟩
theorem ty64 : Ty Tryz.prog 64 (Go.TypeDesc.pointer 197) 1 (Go.Value.pointer Option.none) 8 := ⟨by kernel_rfl, Tryz.t64, by kernel_rfl, rfl, rfl, rfl⟩
theorem ty67 : Ty Tryz.prog 67 (Go.TypeDesc.pointer 135) 1 (Go.Value.pointer Option.none) 8 := ⟨by kernel_rfl, Tryz.t67, by kernel_rfl, rfl, rfl, rfl⟩
theorem ty73 : Ty Tryz.prog 73 (Go.TypeDesc.slice 76) 1 (Go.Value.slice Option.none 0 0) 24 := ⟨by kernel_rfl, Tryz.t73, by kernel_rfl, rfl, rfl, rfl⟩
theorem ty76 : Ty Tryz.prog 76 Tryz.t75.desc 4 (Go.Value.agg #[(Go.Value.int Go.IntKind.i64 0), (Go.Value.int Go.IntKind.i64 0), (Go.Value.int Go.IntKind.u64 0), (Go.Value.int Go.IntKind.i64 0)]) 32 := ⟨by kernel_rfl, Tryz.t76, by kernel_rfl, rfl, rfl, rfl⟩
theorem ty78 : Ty Tryz.prog 78 (Go.TypeDesc.slice 9) 1 (Go.Value.slice Option.none 0 0) 24 := ⟨by kernel_rfl, Tryz.t78, by kernel_rfl, rfl, rfl, rfl⟩
theorem ty80 : Ty Tryz.prog 80 (Go.TypeDesc.slice 144) 1 (Go.Value.slice Option.none 0 0) 24 := ⟨by kernel_rfl, Tryz.t80, by kernel_rfl, rfl, rfl, rfl⟩
theorem ty88 : Ty Tryz.prog 88 (Go.TypeDesc.int Go.IntKind.u64) 1 (Go.Value.int Go.IntKind.u64 0) 8 := ⟨by kernel_rfl, Tryz.t88, by kernel_rfl, rfl, rfl, rfl⟩
theorem ty100 : Ty Tryz.prog 100 (Go.TypeDesc.pointer 211) 1 (Go.Value.pointer Option.none) 8 := ⟨by kernel_rfl, Tryz.t100, by kernel_rfl, rfl, rfl, rfl⟩
theorem ty109 : Ty Tryz.prog 109 (Go.TypeDesc.pointer 128) 1 (Go.Value.pointer Option.none) 8 := ⟨by kernel_rfl, Tryz.t109, by kernel_rfl, rfl, rfl, rfl⟩
theorem ty110 : Ty Tryz.prog 110 (Go.TypeDesc.array 32 109) 32 (Go.Value.agg #[(Go.Value.pointer Option.none), (Go.Value.pointer Option.none), (Go.Value.pointer Option.none), (Go.Value.pointer Option.none), (Go.Value.pointer Option.none), (Go.Value.pointer Option.none), (Go.Value.pointer Option.none), (Go.Value.pointer Option.none), (Go.Value.pointer Option.none), (Go.Value.pointer Option.none), (Go.Value.pointer Option.none), (Go.Value.pointer Option.none), (Go.Value.pointer Option.none), (Go.Value.pointer Option.none), (Go.Value.pointer Option.none), (Go.Value.pointer Option.none), (Go.Value.pointer Option.none), (Go.Value.pointer Option.none), (Go.Value.pointer Option.none), (Go.Value.pointer Option.none), (Go.Value.pointer Option.none), (Go.Value.pointer Option.none), (Go.Value.pointer Option.none), (Go.Value.pointer Option.none), (Go.Value.pointer Option.none), (Go.Value.pointer Option.none), (Go.Value.pointer Option.none), (Go.Value.pointer Option.none), (Go.Value.pointer Option.none), (Go.Value.pointer Option.none), (Go.Value.pointer Option.none), (Go.Value.pointer Option.none)]) 256 := ⟨by kernel_rfl, Tryz.t110, by kernel_rfl, rfl, rfl, rfl⟩
theorem ty113 : Ty Tryz.prog 113 Tryz.t112.desc 57 (Go.Value.agg #[(Go.Value.pointer Option.none), (Go.Value.pointer Option.none), (Go.Value.pointer Option.none), (Go.Value.pointer Option.none), (Go.Value.pointer Option.none), (Go.Value.pointer Option.none), (Go.Value.pointer Option.none), (Go.Value.pointer Option.none), (Go.Value.pointer Option.none), (Go.Value.pointer Option.none), (Go.Value.pointer Option.none), (Go.Value.pointer Option.none), (Go.Value.pointer Option.none), (Go.Value.pointer Option.none), (Go.Value.pointer Option.none), (Go.Value.pointer Option.none), (Go.Value.pointer Option.none), (Go.Value.pointer Option.none), (Go.Value.pointer Option.none), (Go.Value.map Option.none), (Go.Value.pointer Option.none), (Go.Value.slice Option.none 0 0), (Go.Value.int Go.IntKind.i64 0), (Go.Value.pointer Option.none), (Go.Value.pointer Option.none), (Go.Value.pointer Option.none), (Go.Value.pointer Option.none), (Go.Value.pointer Option.none), (Go.Value.pointer Option.none), (Go.Value.pointer Option.none), (Go.Value.pointer Option.none), (Go.Value.pointer Option.none), (Go.Value.pointer Option.none), (Go.Value.pointer Option.none), (Go.Value.pointer Option.none), (Go.Value.pointer Option.none), (Go.Value.pointer Option.none), (Go.Value.pointer Option.none), (Go.Value.pointer Option.none), (Go.Value.pointer Option.none), (Go.Value.pointer Option.none), (Go.Value.pointer Option.none), (Go.Value.pointer Option.none), (Go.Value.pointer Option.none), (Go.Value.pointer Option.none), (Go.Value.pointer Option.none), (Go.Value.pointer Option.none), (Go.Value.pointer Option.none), (Go.Value.pointer Option.none), (Go.Value.pointer Option.none), (Go.Value.pointer Option.none), (Go.Value.pointer Option.none), (Go.Value.pointer Option.none), (Go.Value.pointer Option.none), (Go.Value.pointer Option.none), (Go.Value.slice Option.none 0 0), (Go.Value.int Go.IntKind.i64 0)]) 488 := ⟨by kernel_rfl, Tryz.t113, by kernel_rfl, rfl, rfl, rfl⟩
theorem ty124 : Ty Tryz.prog 124 Tryz.t124.desc 1 Go.Value.nilFunc 8 := ⟨by kernel_rfl, Tryz.t124, by kernel_rfl, rfl, rfl, rfl⟩
theorem ty129 : Ty Tryz.prog 129 (Go.TypeDesc.pointer 232) 1 (Go.Value.pointer Option.none) 8 := ⟨by kernel_rfl, Tryz.t129, by kernel_rfl, rfl, rfl, rfl⟩
theorem ty131 : Ty Tryz.prog 131 (Go.TypeDesc.pointer 291) 1 (Go.Value.pointer Option.none) 8 := ⟨by kernel_rfl, Tryz.t131, by kernel_rfl, rfl, rfl, rfl⟩
theorem ty135 : Ty Tryz.prog 135 Tryz.t134.desc 1 (Go.Value.agg #[(Go.Value.pointer Option.none)]) 8 := ⟨by kernel_rfl, Tryz.t135, by kernel_rfl, rfl, rfl, rfl⟩
theorem ty142 : Ty Tryz.prog 142 (Go.TypeDesc.slice 28) 1 (Go.Value.slice Option.none 0 0) 24 := ⟨by kernel_rfl, Tryz.t142, by kernel_rfl, rfl, rfl, rfl⟩
theorem ty175 : Ty Tryz.prog 175 (Go.TypeDesc.pointer 276) 1 (Go.Value.pointer Option.none) 8 := ⟨by kernel_rfl, Tryz.t175, by kernel_rfl, rfl, rfl, rfl⟩
theorem ty190 : Ty Tryz.prog 190 (Go.TypeDesc.map 3 235) 1 (Go.Value.map Option.none) 8 := ⟨by kernel_rfl, Tryz.t190, by kernel_rfl, rfl, rfl, rfl⟩
theorem ty195 : Ty Tryz.prog 195 (Go.TypeDesc.pointer 301) 1 (Go.Value.pointer Option.none) 8 := ⟨by kernel_rfl, Tryz.t195, by kernel_rfl, rfl, rfl, rfl⟩
theorem ty197 : Ty Tryz.prog 197 Tryz.t196.desc 15 (Go.Value.agg #[(Go.Value.int Go.IntKind.i64 0), (Go.Value.pointer Option.none), (Go.Value.bool false), (Go.Value.pointer Option.none), (Go.Value.bool false), (Go.Value.pointer Option.none), (Go.Value.bool false), (Go.Value.pointer Option.none), (Go.Value.bool false), (Go.Value.pointer Option.none), (Go.Value.pointer Option.none), (Go.Value.pointer Option.none), (Go.Value.pointer Option.none), (Go.Value.pointer Option.none), (Go.Value.map Option.none)]) 120 := ⟨by kernel_rfl, Tryz.t197, by kernel_rfl, rfl, rfl, rfl⟩
theorem ty206 : Ty Tryz.prog 206 Tryz.t205.desc 17 (Go.Value.agg #[(Go.Value.slice Option.none 0 0), (Go.Value.int Go.IntKind.i64 0), (Go.Value.int Go.IntKind.i64 0), (Go.Value.int Go.IntKind.i64 0), (Go.Value.int Go.IntKind.i64 0), (Go.Value.int Go.IntKind.i64 0), (Go.Value.int Go.IntKind.i64 0), (Go.Value.int Go.IntKind.i64 0), (Go.Value.int Go.IntKind.i64 0), (Go.Value.int Go.IntKind.i64 0), (Go.Value.int Go.IntKind.i64 0), (Go.Value.int Go.IntKind.i64 0), (Go.Value.int Go.IntKind.i64 0), (Go.Value.int Go.IntKind.i64 0), (Go.Value.int Go.IntKind.i64 0), (Go.Value.int Go.IntKind.i64 0), (Go.Value.int Go.IntKind.i64 0)]) 152 := ⟨by kernel_rfl, Tryz.t206, by kernel_rfl, rfl, rfl, rfl⟩
theorem ty207 : Ty Tryz.prog 207 (Go.TypeDesc.slice 53) 1 (Go.Value.slice Option.none 0 0) 24 := ⟨by kernel_rfl, Tryz.t207, by kernel_rfl, rfl, rfl, rfl⟩
theorem ty209 : Ty Tryz.prog 209 Tryz.t208.desc 17 (Go.Value.agg #[(Go.Value.slice Option.none 0 0), (Go.Value.int Go.IntKind.i64 0), (Go.Value.int Go.IntKind.i64 0), (Go.Value.int Go.IntKind.i64 0), (Go.Value.int Go.IntKind.i64 0), (Go.Value.int Go.IntKind.i64 0), (Go.Value.int Go.IntKind.i64 0), (Go.Value.int Go.IntKind.i64 0), (Go.Value.int Go.IntKind.i64 0), (Go.Value.int Go.IntKind.i64 0), (Go.Value.int Go.IntKind.i64 0), (Go.Value.int Go.IntKind.i64 0), (Go.Value.int Go.IntKind.i64 0), (Go.Value.int Go.IntKind.i64 0), (Go.Value.int Go.IntKind.i64 0), (Go.Value.int Go.IntKind.i64 0), (Go.Value.int Go.IntKind.i64 0)]) 152 := ⟨by kernel_rfl, Tryz.t209, by kernel_rfl, rfl, rfl, rfl⟩
theorem ty211 : Ty Tryz.prog 211 Tryz.t210.desc 1 (Go.Value.agg #[(Go.Value.int Go.IntKind.u64 0)]) 8 := ⟨by kernel_rfl, Tryz.t211, by kernel_rfl, rfl, rfl, rfl⟩
theorem ty215 : Ty Tryz.prog 215 (Go.TypeDesc.pointer 386) 1 (Go.Value.pointer Option.none) 8 := ⟨by kernel_rfl, Tryz.t215, by kernel_rfl, rfl, rfl, rfl⟩
theorem ty232 : Ty Tryz.prog 232 Tryz.t231.desc 1026 ((Tryz.t232.zero).getD undef) 6160 := ⟨by kernel_rfl, Tryz.t232, by kernel_rfl, rfl, rfl, rfl⟩
theorem ty276 : Ty Tryz.prog 276 Tryz.t275.desc 6 (Go.Value.agg #[(Go.Value.pointer Option.none), (Go.Value.pointer Option.none), (Go.Value.pointer Option.none), (Go.Value.int Go.IntKind.i64 0), (Go.Value.int Go.IntKind.i64 0), (Go.Value.int Go.IntKind.i64 0)]) 48 := ⟨by kernel_rfl, Tryz.t276, by kernel_rfl, rfl, rfl, rfl⟩
theorem ty291 : Ty Tryz.prog 291 Tryz.t290.desc 546 ((Tryz.t291.zero).getD undef) 4368 := ⟨by kernel_rfl, Tryz.t291, by kernel_rfl, rfl, rfl, rfl⟩
theorem ty298 : Ty Tryz.prog 298 Tryz.t297.desc 130 ((Tryz.t298.zero).getD undef) 1040 := ⟨by kernel_rfl, Tryz.t298, by kernel_rfl, rfl, rfl, rfl⟩
theorem ty301 : Ty Tryz.prog 301 Tryz.t300.desc 2 (Go.Value.agg #[(Go.Value.int Go.IntKind.i64 0), (Go.Value.map Option.none)]) 16 := ⟨by kernel_rfl, Tryz.t301, by kernel_rfl, rfl, rfl, rfl⟩
theorem ty303 : Ty Tryz.prog 303 (Go.TypeDesc.pointer 400) 1 (Go.Value.pointer Option.none) 8 := ⟨by kernel_rfl, Tryz.t303, by kernel_rfl, rfl, rfl, rfl⟩
theorem ty309 : Ty Tryz.prog 309 (Go.TypeDesc.pointer 409) 1 (Go.Value.pointer Option.none) 8 := ⟨by kernel_rfl, Tryz.t309, by kernel_rfl, rfl, rfl, rfl⟩
theorem ty362 : Ty Tryz.prog 362 (Go.TypeDesc.slice 365) 1 (Go.Value.slice Option.none 0 0) 24 := ⟨by kernel_rfl, Tryz.t362, by kernel_rfl, rfl, rfl, rfl⟩
theorem ty365 : Ty Tryz.prog 365 Tryz.t364.desc 2 (Go.Value.agg #[(Go.Value.int Go.IntKind.i64 0), (Go.Value.int Go.IntKind.i64 0)]) 16 := ⟨by kernel_rfl, Tryz.t365, by kernel_rfl, rfl, rfl, rfl⟩
theorem ty383 : Ty Tryz.prog 383 (Go.TypeDesc.slice 303) 1 (Go.Value.slice Option.none 0 0) 24 := ⟨by kernel_rfl, Tryz.t383, by kernel_rfl, rfl, rfl, rfl⟩
theorem ty384 : Ty Tryz.prog 384 (Go.TypeDesc.array 256 3) 256 ((Tryz.t384.zero).getD undef) 2048 := ⟨by kernel_rfl, Tryz.t384, by kernel_rfl, rfl, rfl, rfl⟩
theorem ty386 : Ty Tryz.prog 386 Tryz.t385.desc 289 ((Tryz.t386.zero).getD undef) 2328 := ⟨by kernel_rfl, Tryz.t386, by kernel_rfl, rfl, rfl, rfl⟩
theorem ty389 : Ty Tryz.prog 389 (Go.TypeDesc.slice 309) 1 (Go.Value.slice Option.none 0 0) 24 := ⟨by kernel_rfl, Tryz.t389, by kernel_rfl, rfl, rfl, rfl⟩
theorem ty391 : Ty Tryz.prog 391 Tryz.t390.desc 1 (Go.Value.agg #[(Go.Value.slice Option.none 0 0)]) 24 := ⟨by kernel_rfl, Tryz.t391, by kernel_rfl, rfl, rfl, rfl⟩
theorem ty393 : Ty Tryz.prog 393 (Go.TypeDesc.slice 396) 1 (Go.Value.slice Option.none 0 0) 24 := ⟨by kernel_rfl, Tryz.t393, by kernel_rfl, rfl, rfl, rfl⟩
theorem ty395 : Ty Tryz.prog 395 Tryz.t394.desc 2 (Go.Value.agg #[(Go.Value.slice Option.none 0 0), (Go.Value.int Go.IntKind.i64 0)]) 32 := ⟨by kernel_rfl, Tryz.t395, by kernel_rfl, rfl, rfl, rfl⟩
theorem ty396 : Ty Tryz.prog 396 (Go.TypeDesc.pointer 477) 1 (Go.Value.pointer Option.none) 8 := ⟨by kernel_rfl, Tryz.t396, by kernel_rfl, rfl, rfl, rfl⟩
theorem ty400 : Ty Tryz.prog 400 Tryz.t399.desc 3 (Go.Value.agg #[(Go.Value.slice Option.none 0 0), (Go.Value.int Go.IntKind.i64 0), (Go.Value.int Go.IntKind.i64 0)]) 40 := ⟨by kernel_rfl, Tryz.t400, by kernel_rfl, rfl, rfl, rfl⟩
theorem ty409 : Ty Tryz.prog 409 Tryz.t408.desc 523 ((Tryz.t409.zero).getD undef) 12376 := ⟨by kernel_rfl, Tryz.t409, by kernel_rfl, rfl, rfl, rfl⟩
theorem ty477 : Ty Tryz.prog 477 Tryz.t476.desc 3 (Go.Value.agg #[(Go.Value.slice Option.none 0 0), (Go.Value.int Go.IntKind.i64 0), (Go.Value.int Go.IntKind.i64 0)]) 40 := ⟨by kernel_rfl, Tryz.t477, by kernel_rfl, rfl, rfl, rfl⟩
theorem fld35_0 : Fld Tryz.prog 35 0 0 1 false := ⟨_, _, (by kernel_rfl : Tryz.prog.underlying 35 = some Tryz.t34.desc), rfl, rfl, _, _, _, ty3, rfl⟩
theorem fld47_0 : Fld Tryz.prog 47 0 0 1 false := ⟨_, _, (by kernel_rfl : Tryz.prog.underlying 47 = some Tryz.t34.desc), rfl, rfl, _, _, _, ty3, rfl⟩
theorem fld47_6 : Fld Tryz.prog 47 6 6 1 false := ⟨_, _, (by kernel_rfl : Tryz.prog.underlying 47 = some Tryz.t34.desc), rfl, rfl, _, _, _, ty28, rfl⟩
theorem fld113_0 : Fld Tryz.prog 113 0 0 1 false := ⟨_, _, (by kernel_rfl : Tryz.prog.underlying 113 = some Tryz.t112.desc), rfl, rfl, _, _, _, ty100, rfl⟩
theorem fld113_1 : Fld Tryz.prog 113 1 1 1 false := ⟨_, _, (by kernel_rfl : Tryz.prog.underlying 113 = some Tryz.t112.desc), rfl, rfl, _, _, _, ty64, rfl⟩
theorem fld113_7 : Fld Tryz.prog 113 7 23 32 true := ⟨_, _, (by kernel_rfl : Tryz.prog.underlying 113 = some Tryz.t112.desc), rfl, rfl, _, _, _, ty110, rfl⟩
theorem fld113_9 : Fld Tryz.prog 113 9 56 1 false := ⟨_, _, (by kernel_rfl : Tryz.prog.underlying 113 = some Tryz.t112.desc), rfl, rfl, _, _, _, ty3, rfl⟩
theorem fld135_0 : Fld Tryz.prog 135 0 0 1 false := ⟨_, _, (by kernel_rfl : Tryz.prog.underlying 135 = some Tryz.t134.desc), rfl, rfl, _, _, _, ty23, rfl⟩
theorem fld197_2 : Fld Tryz.prog 197 2 9 1 false := ⟨_, _, (by kernel_rfl : Tryz.prog.underlying 197 = some Tryz.t196.desc), rfl, rfl, _, _, _, ty129, rfl⟩
theorem fld197_3 : Fld Tryz.prog 197 3 10 1 false := ⟨_, _, (by kernel_rfl : Tryz.prog.underlying 197 = some Tryz.t196.desc), rfl, rfl, _, _, _, ty131, rfl⟩
theorem fld197_4 : Fld Tryz.prog 197 4 11 1 false := ⟨_, _, (by kernel_rfl : Tryz.prog.underlying 197 = some Tryz.t196.desc), rfl, rfl, _, _, _, ty175, rfl⟩
theorem fld197_5 : Fld Tryz.prog 197 5 12 1 false := ⟨_, _, (by kernel_rfl : Tryz.prog.underlying 197 = some Tryz.t196.desc), rfl, rfl, _, _, _, ty175, rfl⟩
theorem fld197_6 : Fld Tryz.prog 197 6 13 1 false := ⟨_, _, (by kernel_rfl : Tryz.prog.underlying 197 = some Tryz.t196.desc), rfl, rfl, _, _, _, ty195, rfl⟩
theorem fld197_7 : Fld Tryz.prog 197 7 14 1 false := ⟨_, _, (by kernel_rfl : Tryz.prog.underlying 197 = some Tryz.t196.desc), rfl, rfl, _, _, _, ty190, rfl⟩
theorem fld211_0 : Fld Tryz.prog 211 0 0 1 false := ⟨_, _, (by kernel_rfl : Tryz.prog.underlying 211 = some Tryz.t210.desc), rfl, rfl, _, _, _, ty33, rfl⟩
theorem fld232_0 : Fld Tryz.prog 232 0 0 1 false := ⟨_, _, (by kernel_rfl : Tryz.prog.underlying 232 = some Tryz.t231.desc), rfl, rfl, _, _, _, ty215, rfl⟩
theorem fld291_0 : Fld Tryz.prog 291 0 0 1 false := ⟨_, _, (by kernel_rfl : Tryz.prog.underlying 291 = some Tryz.t290.desc), rfl, rfl, _, _, _, ty215, rfl⟩
theorem fld386_0 : Fld Tryz.prog 386 0 0 1 false := ⟨_, _, (by kernel_rfl : Tryz.prog.underlying 386 = some Tryz.t385.desc), rfl, rfl, _, _, _, ty383, rfl⟩
theorem fld386_1 : Fld Tryz.prog 386 1 1 256 true := ⟨_, _, (by kernel_rfl : Tryz.prog.underlying 386 = some Tryz.t385.desc), rfl, rfl, _, _, _, ty384, rfl⟩
theorem fld391_0 : Fld Tryz.prog 391 0 0 1 false := ⟨_, _, (by kernel_rfl : Tryz.prog.underlying 391 = some Tryz.t390.desc), rfl, rfl, _, _, _, ty389, rfl⟩
theorem fld395_0 : Fld Tryz.prog 395 0 0 1 false := ⟨_, _, (by kernel_rfl : Tryz.prog.underlying 395 = some Tryz.t394.desc), rfl, rfl, _, _, _, ty393, rfl⟩
theorem fld400_0 : Fld Tryz.prog 400 0 0 1 false := ⟨_, _, (by kernel_rfl : Tryz.prog.underlying 400 = some Tryz.t399.desc), rfl, rfl, _, _, _, ty55, rfl⟩
theorem fld400_1 : Fld Tryz.prog 400 1 1 1 false := ⟨_, _, (by kernel_rfl : Tryz.prog.underlying 400 = some Tryz.t399.desc), rfl, rfl, _, _, _, ty3, rfl⟩
theorem fld400_2 : Fld Tryz.prog 400 2 2 1 false := ⟨_, _, (by kernel_rfl : Tryz.prog.underlying 400 = some Tryz.t399.desc), rfl, rfl, _, _, _, ty3, rfl⟩
theorem pl76 : StructPl Tryz.prog 76 [(0, 1), (1, 1), (2, 1), (3, 1)] := ⟨_, (by kernel_rfl : Tryz.prog.underlying 76 = some Tryz.t75.desc), fun _ => by kernel_rfl⟩
theorem pl113 : StructPl Tryz.prog 113 [(0, 1), (1, 1), (2, 16), (18, 1), (19, 1), (20, 1), (21, 2), (23, 32), (55, 1), (56, 1)] := ⟨_, (by kernel_rfl : Tryz.prog.underlying 113 = some Tryz.t112.desc), fun _ => by kernel_rfl⟩
theorem pl135 : StructPl Tryz.prog 135 [(0, 1)] := ⟨_, (by kernel_rfl : Tryz.prog.underlying 135 = some Tryz.t134.desc), fun _ => by kernel_rfl⟩
theorem pl197 : StructPl Tryz.prog 197 [(0, 1), (1, 8), (9, 1), (10, 1), (11, 1), (12, 1), (13, 1), (14, 1)] := ⟨_, (by kernel_rfl : Tryz.prog.underlying 197 = some Tryz.t196.desc), fun _ => by kernel_rfl⟩
theorem pl206 : StructPl Tryz.prog 206 [(0, 1), (1, 16)] := ⟨_, (by kernel_rfl : Tryz.prog.underlying 206 = some Tryz.t205.desc), fun _ => by kernel_rfl⟩
theorem pl209 : StructPl Tryz.prog 209 [(0, 1), (1, 16)] := ⟨_, (by kernel_rfl : Tryz.prog.underlying 209 = some Tryz.t208.desc), fun _ => by kernel_rfl⟩
theorem pl211 : StructPl Tryz.prog 211 [(0, 1)] := ⟨_, (by kernel_rfl : Tryz.prog.underlying 211 = some Tryz.t210.desc), fun _ => by kernel_rfl⟩
theorem pl232 : StructPl Tryz.prog 232 [(0, 1), (1, 1), (2, 1024)] := ⟨_, (by kernel_rfl : Tryz.prog.underlying 232 = some Tryz.t231.desc), fun _ => by kernel_rfl⟩
theorem pl276 : StructPl Tryz.prog 276 [(0, 1), (1, 1), (2, 1), (3, 1), (4, 1), (5, 1)] := ⟨_, (by kernel_rfl : Tryz.prog.underlying 276 = some Tryz.t275.desc), fun _ => by kernel_rfl⟩
theorem pl291 : StructPl Tryz.prog 291 [(0, 1), (1, 1), (2, 512), (514, 32)] := ⟨_, (by kernel_rfl : Tryz.prog.underlying 291 = some Tryz.t290.desc), fun _ => by kernel_rfl⟩
theorem pl298 : StructPl Tryz.prog 298 [(0, 128), (128, 1), (129, 1)] := ⟨_, (by kernel_rfl : Tryz.prog.underlying 298 = some Tryz.t297.desc), fun _ => by kernel_rfl⟩
theorem pl301 : StructPl Tryz.prog 301 [(0, 1), (1, 1)] := ⟨_, (by kernel_rfl : Tryz.prog.underlying 301 = some Tryz.t300.desc), fun _ => by kernel_rfl⟩
theorem pl386 : StructPl Tryz.prog 386 [(0, 1), (1, 256), (257, 32)] := ⟨_, (by kernel_rfl : Tryz.prog.underlying 386 = some Tryz.t385.desc), fun _ => by kernel_rfl⟩
theorem pl391 : StructPl Tryz.prog 391 [(0, 1)] := ⟨_, (by kernel_rfl : Tryz.prog.underlying 391 = some Tryz.t390.desc), fun _ => by kernel_rfl⟩
theorem pl395 : StructPl Tryz.prog 395 [(0, 1), (1, 1)] := ⟨_, (by kernel_rfl : Tryz.prog.underlying 395 = some Tryz.t394.desc), fun _ => by kernel_rfl⟩
theorem pl400 : StructPl Tryz.prog 400 [(0, 1), (1, 1), (2, 1)] := ⟨_, (by kernel_rfl : Tryz.prog.underlying 400 = some Tryz.t399.desc), fun _ => by kernel_rfl⟩
theorem pl409 : StructPl Tryz.prog 409 [(0, 1), (1, 512), (513, 8), (521, 1), (522, 1)] := ⟨_, (by kernel_rfl : Tryz.prog.underlying 409 = some Tryz.t408.desc), fun _ => by kernel_rfl⟩
theorem pl477 : StructPl Tryz.prog 477 [(0, 1), (1, 1), (2, 1)] := ⟨_, (by kernel_rfl : Tryz.prog.underlying 477 = some Tryz.t476.desc), fun _ => by kernel_rfl⟩
open Go.Sl.Ev
set_option maxRecDepth 100000
theorem mixed : Tryz.prog.follows .mixedOrders = true := by kernel_rfl
theorem names : namesOk Tryz.prog := by
 have h : Tryz.prog.funcs.toList.all (fun fn => !(fn.name == "runtime.NumGoroutine")) = true := by decide +kernel
 intro f fn hf
 have := List.all_eq_true.1 h fn (List.mem_of_getElem? (by simpa using hf))
 simpa using this
theorem to_nil_ev {s0 s1 s2 s3 s4 s5 : Int} {ad : Option Addr} {n cap : Nat} : evG Tryz.prog (fun _ _ _ => none) 1000 13 [.ag [.vl (.int .i64 s0), .vl (.int .i64 s1), .vl (.int .i64 s2), .vl (.int .i64 s3), .vl (.int .u64 s4), .vl (.int .u64 s5), .vl (.slice ad n cap)]] = some (.agg (List.toArray [.int .i64 s0, .int .i64 s1, .int .i64 s2, .int .i64 s3, .int .u64 s4, .int .u64 s5, .slice ad n cap])) := by kernel_rfl
theorem to_nil {s0 s1 s2 s3 s4 s5 : Int} {ad : Option Addr} {n cap : Nat} : Pure Tryz.prog (fun _ => True) 13 [.agg (List.toArray [.int .i64 s0, .int .i64 s1, .int .i64 s2, .int .i64 s3, .int .u64 s4, .int .u64 s5, .slice ad n cap])] (.agg (List.toArray [.int .i64 s0, .int .i64 s1, .int .i64 s2, .int .i64 s3, .int .u64 s4, .int .u64 s5, .slice ad n cap])) := evG_pure mixed names (fun _ w _ _ => exts_none _ w) (show AV.Rs [] [.ag [.vl (.int .i64 s0), .vl (.int .i64 s1), .vl (.int .i64 s2), .vl (.int .i64 s3), .vl (.int .u64 s4), .vl (.int .u64 s5), .vl (.slice ad n cap)]] [.agg (List.toArray [.int .i64 s0, .int .i64 s1, .int .i64 s2, .int .i64 s3, .int .u64 s4, .int .u64 s5, .slice ad n cap])] from ⟨⟨_, rfl, rfl, rfl, rfl, rfl, rfl, rfl, rfl, trivial⟩, trivial⟩) to_nil_ev
theorem kDo_nil_ev {s0 s1 s2 s3 s4 s5 : Int} {ad : Option Addr} {n cap : Nat} : evG Tryz.prog (fun _ _ _ => none) 1000 11 [.vl (.pointer none), .ag [.vl (.int .i64 s0), .vl (.int .i64 s1), .vl (.int .i64 s2), .vl (.int .i64 s3), .vl (.int .u64 s4), .vl (.int .u64 s5), .vl (.slice ad n cap)]] = some (.tuple #[.int .u64 0, .int .i64 6]) := by kernel_rfl
theorem kDo_nil {s0 s1 s2 s3 s4 s5 : Int} {ad : Option Addr} {n cap : Nat} : Pure Tryz.prog (fun _ => True) 11 [.pointer none, .agg (List.toArray [.int .i64 s0, .int .i64 s1, .int .i64 s2, .int .i64 s3, .int .u64 s4, .int .u64 s5, .slice ad n cap])] (.tuple #[.int .u64 0, .int .i64 6]) := evG_pure mixed names (fun _ w _ _ => exts_none _ w) (show AV.Rs [] [.vl (.pointer none), .ag [.vl (.int .i64 s0), .vl (.int .i64 s1), .vl (.int .i64 s2), .vl (.int .i64 s3), .vl (.int .u64 s4), .vl (.int .u64 s5), .vl (.slice ad n cap)]] [.pointer none, .agg (List.toArray [.int .i64 s0, .int .i64 s1, .int .i64 s2, .int .i64 s3, .int .u64 s4, .int .u64 s5, .slice ad n cap])] from ⟨rfl, ⟨_, rfl, rfl, rfl, rfl, rfl, rfl, rfl, rfl, trivial⟩, trivial⟩) kDo_nil_ev
open Go.Sl.Ev Go.RowKit
def TabS (w : World) : Prop := Lib.TabIs Tryz.prog w "strings.asciiSpace" .u8 Lib.asciiSpaceTab
theorem tabS_of {w0 w : World} (hb : Below w0.heap.size w0 w) (hT : TabS w0) : TabS w :=
 have hlt : 0 < w0.heap.size := World.block_lt_of_cell? _ _ (hT.cell (g := 0) (by kernel_rfl) 0 (by rw [Lib.asciiSpaceTab_length]; omega))
 var?_below (g := 0) hb zk hlt hT
theorem extsF {w0 : World} (hT : TabS w0) : Exts Tryz.prog w0 (xFields 145 9) :=
 exts_fields ⟨_, _, Tryz.func145, rfl⟩ fun s w hb hs ha => Tryz.strings_Fields s w hs ha (tabS_of hb hT)
end Go.Proofs.YtcggkokeggfdkaaGreatDoor
namespace Go.Proofs.YtcggkokeggfdkaaGreatDoor
open Go Go.Sl Go.ChangeShapes Go.WideShapes Go.ChangeAt Go.RowKit
set_option maxRecDepth 100000
theorem own : ownKnob Tryz.prog.godebug = none := by kernel_rfl
theorem full : ∀ t e, t < Tryz.prog.types.size → Tryz.prog.underlying t = some (.slice e) → 0 < Tryz.prog.cellsOf e := slices_full_of Tryz.prog zk
theorem u4 : Tryz.prog.underlying 4 = some .bool := by kernel_rfl
theorem u3 : Tryz.prog.underlying 3 = some (.int .i64) := by kernel_rfl
theorem k3 : Tryz.prog.cellsOf 3 = 1 := by kernel_rfl
theorem u33 : Tryz.prog.underlying 33 = some (.int .u64) := by kernel_rfl
theorem k33 : Tryz.prog.cellsOf 33 = 1 := by kernel_rfl
theorem u28 : Tryz.prog.underlying 28 = some (.slice 5) := by kernel_rfl
theorem k28 : Tryz.prog.cellsOf 28 = 1 := by kernel_rfl
theorem u5 : Tryz.prog.underlying 5 = some (.int .u8) := by kernel_rfl
theorem k5 : Tryz.prog.cellsOf 5 = 1 := by kernel_rfl
theorem u327 : Tryz.prog.underlying 327 = some (.array 256 5) := by kernel_rfl
theorem joined_parts {P : Program} {f : FuncId} {fn : Func} {s : ChangeSpec} {c : OpenClaim}
 (h1 : c.wf (OpenSpec.ofChange s) = true) (h2 : laidOutB P = true) (h3 : mapsRowed P = true) (h4 : fn.params.all (P.readableRec ·) = true) (h5 : namedTie P c.named s.vars = true) (h6 : (c.stops == []) = true) (h7 : (P.stops == []) = true) (h8 : (c.knobs == []) = true) (h9 : (P.stopKnobs == []) = true)
 (h10 : (c.inPlace == P.inPlace f) = true) (h11 : (c.unfollowed == P.unfollowed f) = true) (h12 : (c.recurses == P.recurses f) = true) (h13 : (c.named == P.varsNamed f) = true)
 (h14 : (c.maps == (fn.params.toList ++ s.plain.varTypes P).any (P.mapsRec ·)) = true) (h15 : (c.ifaces == (fn.params.toList ++ s.plain.varTypes P).any (P.ifacesRec ·)) = true) (h16 : (c.mapsOut == P.mapsAmong fn.resultTypes.toList) = true)
 (h17 : (c.loops == (fn.params.toList ++ s.plain.varTypes P).any (P.loopsFrom ·)) = true) (h18 : (c.wideKeys == (fn.params.toList ++ s.plain.varTypes P ++ fn.resultTypes.toList).any (P.wideKeysFrom ·)) = true)
 (h19 : s.vars.all (P.varReadable ·) = true) (h20 : fn.resultTypes.all (fun t => P.readableRec t && decide (t < P.types.size)) = true) (h21 : (c.ifacesOut == fn.resultTypes.toList.any (P.ifacesRec ·)) = true) (h22 : (c.loopsOut == fn.resultTypes.toList.any (P.loopsFrom ·)) = true) (h23 : (c.plainKeys == P.plainKeys) = true) (h24 : c.shortTexts.isNone = true) (h25 : P.stopsHeard = true) (h26 : P.mayEnter = true) (h27 : (c.lifted == P.liftsFinal) = true) (h28 : (P.make == some c.make) = true)
 (h29 : (c.kinds == (if c.domain.isEmpty then [] else fn.params.toList.map fun t => match P.underlying t with | some (.int k) => some k | _ => none)) = true) (h30 : (c.pinned == c.pinnedBy) = true)
 (h31 : (c.veiled == (fn.params.toList ++ s.plain.varTypes P ++ fn.resultTypes.toList).any (P.veiledRec ·)) = true) (h32 : c.veiledFits P fn.params.toList (fn.params.toList ++ s.plain.varTypes P ++ fn.resultTypes.toList) = true) : joinedFacts P f fn s c = true := by
 unfold joinedFacts
 simp only [Bool.and_eq_true]
 and_intros <;> assumption
theorem any_chunks {α : Type} {l : List α} {p : α → Bool} {m k : Nat} (hm : 0 < m) (hl : l.length ≤ m * k) (h : ∀ j, j < k → ((l.drop (m * j)).take m).any p = false) : l.any p = false := by
 rw [List.any_eq_false]
 intro x hx
 obtain ⟨i, hi, rfl⟩ := List.getElem_of_mem hx
 have hj : i / m < k := Nat.div_lt_of_lt_mul zO
 refine List.any_eq_false.1 (h _ hj) _ (List.mem_of_getElem? (i := i % m) ?_)
 rw [List.getElem?_take, if_pos (Nat.mod_lt _ hm), List.getElem?_drop, Nat.div_add_mod, List.getElem?_eq_getElem hi]
theorem goes_none {P : Program} {c : OpenClaim} (h : P.funcs.toList.any Func.goes = false) (hs : c.start = .entering) : false = c.goesBy P := by
 rw [List.any_eq_false] at h
 have hg : ∀ f, P.goes f = false := fun f => by
  unfold Program.goes
  have h1 : ((P.closure f).any fun g => (P.funcs[g]?).any Func.goes) = false := by
   rw [List.any_eq_false]
   intro g _ hh
   cases e : P.funcs[g]? with
   | none => rw [e] at hh; cases hh
   | some fn =>
    rw [e] at hh
    exact h fn (by obtain ⟨hb, rfl⟩ := Array.getElem?_eq_some_iff.1 e; exact Array.getElem_mem_toList hb) hh
  have h2 : P.funcs.any Func.goes = false := by
   rw [← Array.any_toList, List.any_eq_false]; exact h
  rw [h1, h2, Bool.and_false]; rfl
 unfold OpenClaim.goesBy Program.goesAt Program.goesFrom
 rw [hs]
 cases P.funcNamed c.func with
 | none => rfl
 | some f => show false = (P.goes f || false); rw [hg]; rfl
theorem all_chunks {α : Type} {l : List α} {p : α → Bool} {m k : Nat} (hm : 0 < m) (hl : l.length ≤ m * k) (h : ∀ j, j < k → ((l.drop (m * j)).take m).all p = true) : l.all p = true := by
 rw [List.all_eq_true]
 intro x hx
 obtain ⟨i, hi, rfl⟩ := List.getElem_of_mem hx
 have hj : i / m < k := Nat.div_lt_of_lt_mul zO
 refine List.all_eq_true.1 (h _ hj) _ (List.mem_of_getElem? (i := i % m) ?_)
 rw [List.getElem?_take, if_pos (Nat.mod_lt _ hm), List.getElem?_drop, Nat.div_add_mod, List.getElem?_eq_getElem hi]
theorem p_tsize : (List.range Tryz.prog.types.size).length ≤ 60 * 12 := by rw [List.length_range]; decide +kernel
theorem p_l0 : (((List.range Tryz.prog.types.size).drop (60 * 0)).take 60).all (rowFine Tryz.prog) = true := by kernel_rfl
theorem p_l1 : (((List.range Tryz.prog.types.size).drop (60 * 1)).take 60).all (rowFine Tryz.prog) = true := by kernel_rfl
theorem p_l2 : (((List.range Tryz.prog.types.size).drop (60 * 2)).take 60).all (rowFine Tryz.prog) = true := by kernel_rfl
theorem p_l3 : (((List.range Tryz.prog.types.size).drop (60 * 3)).take 60).all (rowFine Tryz.prog) = true := by kernel_rfl
theorem p_l4 : (((List.range Tryz.prog.types.size).drop (60 * 4)).take 60).all (rowFine Tryz.prog) = true := by kernel_rfl
theorem p_l5 : (((List.range Tryz.prog.types.size).drop (60 * 5)).take 60).all (rowFine Tryz.prog) = true := by kernel_rfl
theorem p_l6 : (((List.range Tryz.prog.types.size).drop (60 * 6)).take 60).all (rowFine Tryz.prog) = true := by kernel_rfl
theorem p_l7 : (((List.range Tryz.prog.types.size).drop (60 * 7)).take 60).all (rowFine Tryz.prog) = true := by kernel_rfl
theorem p_l8 : (((List.range Tryz.prog.types.size).drop (60 * 8)).take 60).all (rowFine Tryz.prog) = true := by kernel_rfl
theorem p_l9 : (((List.range Tryz.prog.types.size).drop (60 * 9)).take 60).all (rowFine Tryz.prog) = true := by kernel_rfl
theorem p_l10 : (((List.range Tryz.prog.types.size).drop (60 * 10)).take 60).all (rowFine Tryz.prog) = true := by kernel_rfl
theorem p_l11 : (((List.range Tryz.prog.types.size).drop (60 * 11)).take 60).all (rowFine Tryz.prog) = true := by kernel_rfl
theorem p_lg : Tryz.prog.globals.all (fun g => decide (g.type < Tryz.prog.types.size)) = true := by kernel_rfl
theorem p_lf : Tryz.prog.funcs.all (fun f => f.params.all fun t => decide (t < Tryz.prog.types.size)) = true := by kernel_rfl
theorem p_laid : laidOutB Tryz.prog = true := by
 have h : (List.range Tryz.prog.types.size).all (rowFine Tryz.prog) = true := all_chunks zd p_tsize fun j hj => by
  match j, hj with
  | 0, _ => exact p_l0
  | 1, _ => exact p_l1
  | 2, _ => exact p_l2
  | 3, _ => exact p_l3
  | 4, _ => exact p_l4
  | 5, _ => exact p_l5
  | 6, _ => exact p_l6
  | 7, _ => exact p_l7
  | 8, _ => exact p_l8
  | 9, _ => exact p_l9
  | 10, _ => exact p_l10
  | 11, _ => exact p_l11
  | n + 12, h => exact absurd h zO
 unfold laidOutB
 rw [h, p_lg, p_lf]; rfl
theorem p_rowed : mapsRowed Tryz.prog = true := by kernel_rfl
theorem kids : Kids Tryz.prog (· < Tryz.prog.types.size) := kids_rows p_laid p_rowed
theorem p_stops : (Tryz.prog.stops == []) = true := by kernel_rfl
theorem p_knobs : (Tryz.prog.stopKnobs == []) = true := by kernel_rfl
theorem p_heard : Tryz.prog.stopsHeard = true := by kernel_rfl
theorem p_enter : Tryz.prog.mayEnter = true := by kernel_rfl
theorem p_size : Tryz.prog.funcs.toList.length ≤ 60 * 11 := by decide +kernel
theorem p_g0 : ((Tryz.prog.funcs.toList.drop (60 * 0)).take 60).any Func.goes = false := by kernel_rfl
theorem p_g1 : ((Tryz.prog.funcs.toList.drop (60 * 1)).take 60).any Func.goes = false := by kernel_rfl
theorem p_g2 : ((Tryz.prog.funcs.toList.drop (60 * 2)).take 60).any Func.goes = false := by kernel_rfl
theorem p_g3 : ((Tryz.prog.funcs.toList.drop (60 * 3)).take 60).any Func.goes = false := by kernel_rfl
theorem p_g4 : ((Tryz.prog.funcs.toList.drop (60 * 4)).take 60).any Func.goes = false := by kernel_rfl
theorem p_g5 : ((Tryz.prog.funcs.toList.drop (60 * 5)).take 60).any Func.goes = false := by kernel_rfl
theorem p_g6 : ((Tryz.prog.funcs.toList.drop (60 * 6)).take 60).any Func.goes = false := by kernel_rfl
theorem p_g7 : ((Tryz.prog.funcs.toList.drop (60 * 7)).take 60).any Func.goes = false := by kernel_rfl
theorem p_g8 : ((Tryz.prog.funcs.toList.drop (60 * 8)).take 60).any Func.goes = false := by kernel_rfl
theorem p_g9 : ((Tryz.prog.funcs.toList.drop (60 * 9)).take 60).any Func.goes = false := by kernel_rfl
theorem p_g10 : ((Tryz.prog.funcs.toList.drop (60 * 10)).take 60).any Func.goes = false := by kernel_rfl
theorem p_goes : Tryz.prog.funcs.toList.any Func.goes = false := any_chunks zd p_size fun j hj => by
 match j, hj with
 | 0, _ => exact p_g0
 | 1, _ => exact p_g1
 | 2, _ => exact p_g2
 | 3, _ => exact p_g3
 | 4, _ => exact p_g4
 | 5, _ => exact p_g5
 | 6, _ => exact p_g6
 | 7, _ => exact p_g7
 | 8, _ => exact p_g8
 | 9, _ => exact p_g9
 | 10, _ => exact p_g10
 | n + 11, h => exact absurd h zO
end Go.Proofs.YtcggkokeggfdkaaGreatDoor
namespace Go.Proofs.YtcggkokeggfdkaaGreatDoor
open Go
set_option maxRecDepth 100000
theorem t_id : varsId Tryz.prog = 626 := by kernel_rfl
theorem t_nou : Tryz.pinned.checked.prog.headLifts.contains "ownunsafe" = false := by kernel_rfl
theorem t_w : Tryz.prog.worded (varsWordLater true) = true := by kernel_rfl
theorem t_w2 : Tryz.prog.worded (varsWordLater !true) = false := by kernel_rfl
theorem t_root : Tryz.prog.worded rootWordLater = true := by kernel_rfl
theorem t_g : (Tryz.prog.funcNamed "gosem.cut.vars").isSome = true := by kernel_rfl
theorem t_d : ∀ os tape, varsDone Tryz.prog 400 626 os tape = true := fun _ _ => by kernel_rfl
abbrev laidL2 : List (String × DataW Unit) := [("math/bits.deBruijn64tab", Rows.laid_math_bits_deBruijn64tab), ("strings.asciiSpace", Rows.laid_strings_asciiSpace), ("unicode.White_Space", Rows.laid_unicode_White_Space), ("internal/strconv.uint64pow10", Rows.laid_internal_strconv_uint64pow10), ("math/bits.deBruijn32tab", Rows.laid_math_bits_deBruijn32tab)]
theorem t_k2 : laidL2.map (fun x => Tryz.prog.kindOfLater x.1) = ([.data, .data, .listed, .data, .data] : List LaidKind).map some := by kernel_rfl
theorem t_n2 : varsNamedLaterB Tryz.prog 626 laidL2 = true := by kernel_rfl
theorem t_h2 : ∀ os tape, (DataW.laidRun Tryz.prog (varsWorld Tryz.prog 400 626 os tape).memory 8 (laidL2.map (·.1))).map (·.1) = some laidL2 := fun _ _ => by kernel_rfl
theorem t_i2 : ∀ os tape, (DataW.laidRun Tryz.prog (varsWorld Tryz.prog 400 626 os tape).memory 8 (laidL2.map (·.1))).map (fun x => decide x.2.Nodup && laidRowsB Tryz.prog (varsWorld Tryz.prog 400 626 os tape).memory x.2) = some true := fun _ _ => by kernel_rfl
theorem t_t2 : Tryz.prog.laidByTextLater laidL2 [.data, .data, .listed, .data, .data] true := by
 refine Program.laidByTextLater_by_run 400 8 t_w t_w2 t_root t_k2 t_g ?_ ?_ ?_ ?_ (by kernel_rfl) <;> rw [t_id]
 ·exact t_n2
 ·exact t_d
 ·exact t_h2
 ·exact t_i2
theorem worldNil_row_tie : Rows.worldNilRow.laidByTextAt .later Tryz.pinned [.data, .data, .listed, .data, .data] true :=
 OpenClaim.laidByTextAt_later rfl rfl t_t2 t_nou
end Go.Proofs.YtcggkokeggfdkaaGreatDoor
namespace Go.Proofs.YtcggkokeggfdkaaGreatDoor
open Go Go.Sl Go.ChangeShapes Go.WideShapes Go.ChangeAt Go.RowKit
set_option maxRecDepth 100000
theorem gAscii : Tryz.prog.globalNamed "strings.asciiSpace" = some 0 := by kernel_rfl
theorem tAscii : (Tryz.prog.globals[0]?).map (·.type) = some 327 := by kernel_rfl
section
variable {H : Type} {enc : TypeId × Value → H} {w : World} {base : Nat} {held : Bool}
theorem open_st0 {fuel : Nat} {cs : List Value} {x : DataW H × List MemPlace} (h : DataW.trod enc Tryz.prog w base (fun _ => true) held fuel 47 cs = some x) : ∃ (s0 s1 s2 s3 s4 s5 : Int) (ad : Option Addr) (n cap : Nat), cs = [.int .i64 s0, .int .i64 s1, .int .i64 s2, .int .i64 s3, .int .u64 s4, .int .u64 s5, .slice ad n cap] ∧ n ≤ cap := by
 obtain ⟨xs, n, _, _, hl, hlen, hf⟩ := DataW.trod_struct (ty47.und) h
 rw [show Tryz.prog.cellsOf 47 = 7 by kernel_rfl] at hl
 match cs, hl with
 | [a0, a1, a2, a3, a4, a5, a6], _ =>
  have at_ : ∀ (i : Nat) (f : Field) (t : TypeId) (v : Value), (#[⟨"Kind", 3, 0, false, "", "", 0⟩, ⟨"A", 3, 1, false, "", "", 8⟩, ⟨"B", 3, 2, false, "", "", 16⟩, ⟨"C", 3, 3, false, "", "", 24⟩, ⟨"X", 33, 4, false, "", "", 32⟩, ⟨"Y", 33, 5, false, "", "", 40⟩, ⟨"Raw", 28, 6, false, "", "", 48⟩] : Array Field)[i]? = some f → f.type = t → Tryz.prog.cellsOf t = 1 → (([a0, a1, a2, a3, a4, a5, a6] : List Value).drop f.offset).take 1 = [v] → i < 7 → ∃ y, DataW.trod enc Tryz.prog w base (fun _ => true) held n t [v] = some y := fun i f t v hif ht hc hv hi => by
   have h1 := hf i f hif
   rw [ht, hc, hv] at h1
   have hx : xs[i]? = some (xs[i]'(by rw [hlen]; exact hi)) := List.getElem?_eq_getElem _
   rw [hx] at h1
   exact ⟨_, h1⟩
  have int : ∀ v, (∃ y, DataW.trod enc Tryz.prog w base (fun _ => true) held n 3 [v] = some y) → ∃ m, v = .int .i64 m := fun v ⟨y, hy⟩ => by
   obtain ⟨m, e, _, hw⟩ := DataW.trod_int u3 hy
   cases e
   exact ⟨m, rfl⟩
  have word : ∀ v, (∃ y, DataW.trod enc Tryz.prog w base (fun _ => true) held n 33 [v] = some y) → ∃ m, v = .int .u64 m := fun v ⟨y, hy⟩ => by
   obtain ⟨m, e, _, hw⟩ := DataW.trod_int u33 hy
   cases e
   exact ⟨m, rfl⟩
  obtain ⟨m0, rfl⟩ := int a0 (at_ 0 _ 3 a0 rfl rfl k3 rfl zd)
  obtain ⟨m1, rfl⟩ := int a1 (at_ 1 _ 3 a1 rfl rfl k3 rfl zd)
  obtain ⟨m2, rfl⟩ := int a2 (at_ 2 _ 3 a2 rfl rfl k3 rfl zd)
  obtain ⟨m3, rfl⟩ := int a3 (at_ 3 _ 3 a3 rfl rfl k3 rfl zd)
  obtain ⟨m4, rfl⟩ := word a4 (at_ 4 _ 33 a4 rfl rfl k33 rfl zd)
  obtain ⟨m5, rfl⟩ := word a5 (at_ 5 _ 33 a5 rfl rfl k33 rfl zd)
  obtain ⟨y6, hy6⟩ := at_ 6 _ 28 a6 rfl rfl k28 rfl zd
  rcases open_ints u28 u5 k5 hy6 with ⟨hcs, _⟩ | ⟨a', len', cap', zs, hcs, _, hle, hmax, hlen', _, hcell, hwf⟩
  ·cases hcs
   exact ⟨m0, m1, m2, m3, m4, m5, none, 0, 0, rfl, Nat.le_refl _⟩
  ·cases hcs
   exact ⟨m0, m1, m2, m3, m4, m5, some a', len', cap', rfl, hle⟩
theorem open_stv0 {r : Reach} {b0 : Nat} {v : Value} {d : DataW H} {ps : List MemPlace} (hval : Value.okWide Tryz.prog w r b0 47 v) (hd : DataW.Trod enc Tryz.prog w base (fun _ => true) held 47 v d ps) :
  ∃ (s0 s1 s2 s3 s4 s5 : Int) (ad : Option Addr) (n cap : Nat), v = .agg (List.toArray [.int .i64 s0, .int .i64 s1, .int .i64 s2, .int .i64 s3, .int .u64 s4, .int .u64 s5, .slice ad n cap]) ∧ n ≤ cap := by
 obtain ⟨cs, rfl, _⟩ := okWide_struct ty47.und hval
 obtain ⟨n, hn⟩ := hd
 obtain ⟨s0, s1, s2, s3, s4, s5, ad, n', cap, e, h⟩ := open_st0 hn
 exact ⟨s0, s1, s2, s3, s4, s5, ad, n', cap, congrArg Value.agg (Array.ext' e), h⟩
end
end Go.Proofs.YtcggkokeggfdkaaGreatDoor
namespace Go.Proofs.YtcggkokeggfdkaaGreatDoor
open Go Go.Sl Go.ChangeShapes Go.WideShapes Go.ChangeAt Go.RowKit
set_option maxRecDepth 100000
theorem tab_laid2 {W : World} (h : laidMetH Tryz.prog laidL2 W) : TabS W :=
 Lib.tabIs_of_head (rest := [("unicode.White_Space", Rows.laid_unicode_White_Space), ("internal/strconv.uint64pow10", Rows.laid_internal_strconv_uint64pow10), ("math/bits.deBruijn32tab", Rows.laid_math_bits_deBruijn32tab)]) gAscii tAscii u327 u5 zk zk (laidMet.tail (show laidMet Tryz.prog laidL2 W from h))
noncomputable def laidWorld2 (os : Os) : World :=
 let N := (World.settled Tryz.prog os).heap.size
 let w0 := World.holding Tryz.prog os ⟨#[.cells #[.int .u16 9, .int .u16 13, .int .u16 1, .int .u16 32, .int .u16 133, .int .u16 101, .int .u16 160, .int .u16 5760, .int .u16 5600, .int .u16 8192, .int .u16 8202, .int .u16 1, .int .u16 8232, .int .u16 8233, .int .u16 1, .int .u16 8239, .int .u16 8287, .int .u16 48, .int .u16 12288, .int .u16 12288, .int .u16 1] 498, .cells #[.slice (some ⟨N, 0, none⟩) 7 7, .slice none 0 0, .int .i64 2] 496], #[], []⟩
 let put (h : Array Obj) (g : Nat) (cs : Array Value) : Array Obj := h.modify g fun
  | .cells _ t frozen => .cells cs t frozen
  | o => o
 let h0 := put (put w0.heap 0 (Lib.asciiSpaceTab.map fun z => Value.int .u8 z).toArray) 2 (Lib.deBruijn64tab.map fun z : Nat => Value.int .u8 (z : Int)).toArray
 { w0 with heap := put (put (put h0 3 #[.int .u64 1, .int .u64 10, .int .u64 100, .int .u64 1000, .int .u64 10000, .int .u64 100000, .int .u64 1000000, .int .u64 10000000, .int .u64 100000000, .int .u64 1000000000, .int .u64 10000000000, .int .u64 100000000000, .int .u64 1000000000000, .int .u64 10000000000000, .int .u64 100000000000000, .int .u64 1000000000000000, .int .u64 10000000000000000, .int .u64 100000000000000000, .int .u64 1000000000000000000, .int .u64 10000000000000000000]) 5 #[.int .u8 0, .int .u8 1, .int .u8 28, .int .u8 2, .int .u8 29, .int .u8 14, .int .u8 24, .int .u8 3, .int .u8 30, .int .u8 22, .int .u8 20, .int .u8 15, .int .u8 25, .int .u8 17, .int .u8 4, .int .u8 8, .int .u8 31, .int .u8 27, .int .u8 13, .int .u8 23, .int .u8 21, .int .u8 19, .int .u8 16, .int .u8 7, .int .u8 26, .int .u8 12, .int .u8 18, .int .u8 6, .int .u8 11, .int .u8 5, .int .u8 10, .int .u8 9]) 1 #[.pointer (some ⟨N + 1, 0, none⟩)] }
theorem laid_met2 (os : Os) (args : Array Value) : laidMet Tryz.prog laidL2 ((laidWorld2 os).forCall (fun _ _ => 0) ⟨#[], args, []⟩).memory :=
 laidMet_of_run' 8 zk zk
theorem i64w {m : Int} (h : -9223372036854775808 ≤ m ∧ m ≤ 9223372036854775807) : IntKind.i64.wrap m = m := IntWalk.i64_in m h
theorem u64w {m : Int} (h : 0 ≤ m ∧ m ≤ 18446744073709551615) : IntKind.u64.wrap m = m := by
 have e : IntKind.u64.wrap m = m % 18446744073709551616 := by simp [IntKind.wrap, IntKind.signed, IntKind.bits]
 rw [e]; omega
def tickT (x n : Nat) : Nat := if 18446744073709551615 / 8 ^ n < x then 18446744073709551615 else x * 8 ^ n
structure Spot where
 lv : Nat
 slot : Nat
 at_ : Nat
 due : Nat
deriving DecidableEq
def Spot.v (s : Spot) : List Value := [.int .i64 (s.lv : Int), .int .i64 (s.slot : Int), .int .u64 (s.at_ : Int), .int .u64 (s.due : Int)]
def ptV (p : Option Nat) : Value := .pointer (p.map fun b => ⟨b, 0, none⟩)
structure Kr where
 clk : Nat
 lf : Nat
 P : List (Option Nat)
 gd : Nat
 wm : Value
 mem : Nat
 lv : Value
 lost : Int
 C : List (Option Nat)
 tv : Value
 n : Nat
def knC (r : Kr) : List Value := .pointer (some ⟨r.clk, 0, none⟩) :: .pointer (some ⟨r.lf, 0, none⟩) :: (r.P.map ptV ++ (.pointer (some ⟨r.gd, 0, none⟩) :: r.wm :: .pointer (some ⟨r.mem, 0, none⟩) :: r.lv :: .int .i64 r.lost :: (r.C.map ptV ++ [r.tv, .int .i64 (r.n : Int)])))
structure Kr.Ok (r : Kr) : Prop where
 p : r.P.length = 16
 c : r.C.length = 32
theorem kn_len {r : Kr} (h : r.Ok) : (knC r).length = 57 := by
 unfold knC
 simp only [List.length_cons, List.length_append, List.length_map, h.p, h.c, List.length_nil]
theorem kn_from {r : Kr} (h : r.Ok) (j : Nat) : (knC r)[18 + j]? = (.pointer (some ⟨r.gd, 0, none⟩) :: r.wm :: .pointer (some ⟨r.mem, 0, none⟩) :: r.lv :: .int .i64 r.lost :: (r.C.map ptV ++ [r.tv, .int .i64 (r.n : Int)]))[j]? := by
 unfold knC
 rw [show 18 + j = (16 + j) + 1 + 1 by omega, List.getElem?_cons_succ, List.getElem?_cons_succ, List.getElem?_append_right (by rw [List.length_map, h.p]; omega), List.length_map, h.p, Nat.add_sub_cancel_left]
theorem kn_tail {r : Kr} (h : r.Ok) (j : Nat) : (knC r)[23 + j]? = (r.C.map ptV ++ [r.tv, .int .i64 (r.n : Int)])[j]? := by
 rw [show 23 + j = 18 + (j + 5) by omega, kn_from h]; rfl
theorem kn_end {r : Kr} (h : r.Ok) (j : Nat) : (knC r)[55 + j]? = [r.tv, .int .i64 (r.n : Int)][j]? := by
 rw [show 55 + j = 23 + (32 + j) by omega, kn_tail h, List.getElem?_append_right (by rw [List.length_map, h.c]; omega), List.length_map, h.c, Nat.add_sub_cancel_left]
structure Ev where
 tick : Int
 kind : Int
 a : Int
 b : Int
 n : Int
deriving DecidableEq
instance : Inhabited Ev := ⟨⟨0, 0, 0, 0, 0⟩⟩
def g1 (b : Nat) : Nat := ((b >>> 1) &&& 85) + (b &&& 85)
def g2 (b : Nat) : Nat := ((b >>> 2) &&& 51) + (b &&& 51)
def g3 (b : Nat) : Nat := (b / 16 + b) % 16
theorem rows_len {α : Type} {f : α → List Value} {s : Nat} (hf : ∀ x, (f x).length = s) (l : List α) : (l.flatMap f).length = l.length * s := by
 induction l with
 | nil => simp
 | cons y l ih => rw [List.flatMap_cons, List.length_append, hf, ih, List.length_cons, Nat.succ_mul]; omega
structure W4 where
 a : Int
 b : Int
 c : Int
 d : Int
deriving DecidableEq
def W4.get (w : W4) : Nat → Int
 | 0 => w.a
 | 1 => w.b
 | 2 => w.c
 | _ => w.d
def W4.put (w : W4) (i : Nat) (x : Int) : W4 := match i with
 | 0 => { w with a := x }
 | 1 => { w with b := x }
 | 2 => { w with c := x }
 | _ => { w with d := x }
def W4.vals (w : W4) : List Value := [.int .u64 w.a, .int .u64 w.b, .int .u64 w.c, .int .u64 w.d]
def zW : W4 := ⟨0, 0, 0, 0⟩
def W4.of (l : List Int) : W4 := ⟨l.getD 0 0, l.getD 1 0, l.getD 2 0, l.getD 3 0⟩
structure Hd where
 slot : Int
 gen : Int
deriving DecidableEq
def hdC (h : Hd) : List Value := [.int .i64 h.slot, .int .i64 h.gen]
def zHd : Hd := ⟨0, 0⟩
structure Cel where
 key : Int
 w : W4
deriving DecidableEq
def zCel : Cel := ⟨0, zW⟩
structure Slt where
 own : Hd
 st : Nat
 cel : Cel
deriving DecidableEq
def sltC (s : Slt) : List Value := [.int .i64 s.own.slot, .int .i64 s.own.gen, .int .u64 s.cel.key, .int .u64 s.cel.w.a, .int .u64 s.cel.w.b, .int .u64 s.cel.w.c, .int .u64 s.cel.w.d]
def relS (s : Slt) : Slt := if s.own.gen = 255 then ⟨s.own, 2, zCel⟩ else ⟨⟨s.own.slot, s.own.gen + 1⟩, 0, zCel⟩
def errA (L : List Slt) (h : Hd) : Int := if h.slot < 0 ∨ (L.length : Int) ≤ h.slot then 2 else match L[h.slot.toNat]? with
 | some s => if s.st = 1 ∧ s.own = h then 0 else 7
 | none => 2
def celA (L : List Slt) (h : Hd) : Cel := match L[h.slot.toNat]? with
 | some s => if errA L h = 0 then s.cel else zCel
 | none => zCel
def setAX (L : List Slt) (h : Hd) (f : Slt → Slt) : List Slt := match L[h.slot.toNat]? with
 | some s => if errA L h = 0 then L.set h.slot.toNat (f s) else L
 | none => L
def firstF (L : List Slt) : Option Nat := L.findIdx? (fun s => decide (s.st = 0))
def cntA (n : Nat) (L : List Slt) : Nat := L.countP (fun s => decide (s.st = n))
def TellsA (n : Nat) (L : List Slt) (m : Nat) : Prop := m < 18446744073709551616 ∧ ∀ i, m.testBit i = (match L[i]? with
 | some s => decide (s.st = n)
 | none => false)
structure AreOk (L : List Slt) : Prop where
 len : 1 ≤ L.length ∧ L.length ≤ 64
 own : ∀ i s, L[i]? = some s → s.own.slot = ((i : Nat) : Int) ∧ 1 ≤ s.own.gen ∧ s.own.gen ≤ 255
theorem bkt_ex : ∃ f : Int → Nat, ∀ k, f k = ((k * 11400714819323198485 % 18446744073709551616) / 4294967296 % 8).toNat := ⟨_, fun _ => rfl⟩
noncomputable def bkt : Int → Nat := Classical.choose bkt_ex
def entC (p : Int × Hd) : List Value := [.int .u64 p.1, .int .i64 p.2.slot, .int .i64 p.2.gen]
noncomputable def inB (C : List (Int × Hd)) (b : Nat) : List (Int × Hd) := C.filter (fun p => decide (bkt p.1 = b))
def fndC (C : List (Int × Hd)) (k : Int) : Option Hd := (C.find? (fun p => decide (p.1 = k))).map (·.2)
def delC (C : List (Int × Hd)) (k : Int) : List (Int × Hd) := C.filter (fun p => decide (p.1 ≠ k))
noncomputable def keysC (C : List (Int × Hd)) : List Int := (List.range 8).flatMap (fun b => (inB C b).map (·.1))
abbrev keyL (C : List (Int × Hd)) : List Int := C.map (·.1)
theorem or64 {a b : Nat} (ha : a < 18446744073709551616) (hb : b < 18446744073709551616) : bitsOf .or .u64 (a : Int) (b : Int) = ((a ||| b : Nat) : Int) := by
 have ea : BitVec.ofInt 64 (a : Int) = BitVec.ofNat 64 a := by simp
 have eb : BitVec.ofInt 64 (b : Int) = BitVec.ofNat 64 b := by simp
 have h : a ||| b < 18446744073709551616 := Nat.or_lt_two_pow (n := 64) ha hb
 show IntKind.u64.wrap (((BitVec.ofInt 64 (a : Int) ||| BitVec.ofInt 64 (b : Int)).toNat : Nat) : Int) = _
 rw [ea, eb]
 rw [BitVec.toNat_or, BitVec.toNat_ofNat, BitVec.toNat_ofNat, Nat.mod_eq_of_lt (show a < 2 ^ 64 from ha), Nat.mod_eq_of_lt (show b < 2 ^ 64 from hb)]
 exact u64w ⟨by omega, by omega⟩
def bitN (i : Int) : Nat := if 0 ≤ i ∧ i < 64 then 2 ^ i.toNat else 0
def goodB (i : Int) : Bool := decide (0 ≤ i) && decide (i < 64)
theorem pow64 {i : Nat} (h : i < 64) : 2 ^ i ≤ 9223372036854775808 := by
 have : 2 ^ i ≤ 2 ^ 63 := Nat.pow_le_pow_right zO zO
 simpa using this
theorem bitN_lt (i : Int) : bitN i < 18446744073709551616 := by
 unfold bitN; split
 ·have := pow64 (i := i.toNat) zO; omega
 ·omega
theorem shl_one {i : Int} (hi : 0 ≤ i ∧ i < 64) : IntKind.u64.wrap (1 * 2 ^ (min i.toNat IntKind.u64.bits)) = ((bitN i : Nat) : Int) := by
 have h := pow64 (i := i.toNat) zO
 have e : min i.toNat IntKind.u64.bits = i.toNat := by
  have : IntKind.u64.bits = 64 := rfl
  omega
 have e2 : (2 : Int) ^ i.toNat = ((2 ^ i.toNat : Nat) : Int) := (Int.natCast_pow 2 _).symm
 unfold bitN
 rw [if_pos hi, Int.one_mul, e, e2]
 generalize 2 ^ i.toNat = k at *
 exact u64w ⟨by omega, by omega⟩
theorem good_pure (i : Int) : Pure Tryz.prog (fun _ => True) 147 [.int .i64 i] (.bool (goodB i)) := by
 intro w0 H hT
 refine L_enter Tryz.func147 rfl Tryz.ntmps147 rfl rfl ?_
 refine W_sr ?_
 refine W_assign rfl rfl ?_
 refine W_nil (W_sr ?_)
 refine W_move rfl rfl ?_
 refine W_bin rfl rfl b_geq rfl ?_
 refine W_move rfl rfl ?_
 apply W_and
 iterate 4 exact rfl
 case h1 =>
  intro hg2
  refine W_gyes rfl rfl ?_
  refine W_move rfl rfl ?_
  refine W_gyes rfl rfl ?_
  refine W_bin rfl rfl b_lss rfl ?_
  exact W_met rfl zR
 refine W_assign rfl rfl ?_
 refine W_nil ?_
 refine W_ret1m (H2 := H) Tryz.results147 rfl (.nil _) zH ?_
 exact ⟨rfl, rfl⟩
theorem bit_pure (i : Int) : Pure Tryz.prog (fun _ => True) 85 [.int .i64 i] (.int .u64 (bitN i : Nat)) := by
 intro w0 H hT
 refine L_enter Tryz.func85 rfl Tryz.ntmps85 rfl rfl ?_
 refine W_sr ?_
 refine W_assign rfl rfl ?_
 refine W_nil (W_seq (W_sr ?_))
 refine W_move rfl rfl ?_
 refine W_callp (.cons rfl .nil) Tryz.call147 rfl (T := fun _ => True) trivial (good_pure _) ?_
 refine W_not rfl rfl ?_
 refine W_nil ?_
 refine W_condS rfl (fun c0 => ?_) (fun c0 => ?_)
 ·skip
  refine W_sr ?_
  refine W_assign rfl rfl ?_
  refine W_nil ?_
  refine W_ret1m (H2 := H) Tryz.results85 rfl (.nil _) zH ?_
  exact ⟨by unfold bitN; rw [if_neg (by intro h; have : goodB i = true := (by unfold goodB; simp [h.1, h.2]); simp [this] at c0)]; rfl, rfl⟩
 ·skip
  refine W_skip (W_sr ?_)
  refine W_move rfl rfl ?_
  have hi : 0 ≤ i ∧ i < 64 := by
   have : goodB i = true := by cases h : goodB i <;> simp_all
   unfold goodB at this
   simpa using this
  refine W_conv rfl ty3 ty88 (u64w zO) rfl ?_
  refine W_bin rfl rfl (b_shl zO (shl_one hi)) rfl ?_
  refine W_assign rfl rfl ?_
  refine W_nil ?_
  refine W_ret1m (H2 := H) Tryz.results85 rfl (.nil _) zH ?_
  exact ⟨rfl, rfl⟩
def withL (m : Nat) (l : List Int) : Nat := l.foldl (fun m i => m ||| bitN i) m
theorem withL_ok : ∀ (l : List Int) {m : Nat}, m < 18446744073709551616 → withL m l < 18446744073709551616
 | [], _, h => h
 | i :: l, _, h => withL_ok l (Nat.or_lt_two_pow (n := 64) h (bitN_lt i))
theorem takeAt {α : Type} {l : List α} {i : Nat} {x : α} (h : l[i]? = some x) : l.take (i + 1) = l.take i ++ [x] := by
 rw [List.take_add_one, h]; rfl
theorem foldl_at {β : Type} {f : β → Int → β} {b : β} {l : List Int} {i : Nat} {x : Int} (h : l[i]? = some x) : (l.take (i + 1)).foldl f b = f ((l.take i).foldl f b) x := by
 rw [takeAt h, List.foldl_append]; rfl
theorem with_q {w0 : World} {H : Heap} {m : Nat} {l : List Int} {ad : Option Addr} {cap : Nat} (hm : m < 18446744073709551616) (hn : l.length ≤ 4611686018427387904) (hrow : Holds w0 H ad (l.map (Value.int .i64)))  : PureAt Tryz.prog w0 H 88 [.int .u64 ((m : Nat) : Int), .slice ad l.length cap] (.int .u64 ((withL m l : Nat) : Int)) := by
 refine L_enter Tryz.func88 rfl Tryz.ntmps88 rfl rfl ?_
 refine W_sr ?_
 refine W_assign rfl rfl ?_
 refine W_nil (W_seq (W_sr ?_))
 refine W_move rfl rfl ?_
 refine W_len rfl ty55 rfl rfl ?_
 refine W_move rfl rfl ?_
 refine W_nil (W_block ?_)
 refine W_loopC (X := Nat) [(7, _), (8, _)] (fun (i : Nat) => [(0, .int .u64 ((withL m (l.take i) : Nat) : Int)), (9, .int .i64 (i : Int))]) (fun _ => _) (fun (i : Nat) => H) (fun (i : Nat) => i ≤ l.length) (fun (i : Nat) => l.length - i) 0 (Nat.zero_le _) (sub_cons rfl (sub_cons rfl (sub_nil _))) (sub_cons rfl (sub_cons rfl (sub_nil _))) rfl zH ?_
 intro i hi
 simp only [List.cons_append, List.nil_append]
 refine W_sr ?_
 refine W_bin rfl rfl b_lss rfl ?_
 refine W_nil (W_seq ?_)
 refine W_condPS (p := (i : Int) < (l.length : Int)) rfl (by simp) (fun q0 => ?_) (fun q0 => ?_)
 ·skip
  refine W_skip (W_seq ?_)
  refine W_block (W_sr ?_)
  obtain ⟨x, hx⟩ : ∃ x, l[i]? = some x := ⟨_, List.getElem?_eq_getElem zO⟩
  obtain ⟨q0, p0, rfl, hc⟩ := hrow.at (i := i) (v := .int .i64 x) (by rw [List.getElem?_map, hx]; rfl)
  refine W_indexAddr (j := i) rfl rfl ty55 ty3 rfl zO rfl rfl ?_
  refine W_load (v := .int .i64 x) rfl ty3 rfl (by rw [Nat.mul_one]; exact hc) rfl ?_
  refine W_assign rfl rfl ?_
  refine W_nil ?_
  refine W_region ?_
  refine W_move rfl rfl ?_
  refine W_move rfl rfl ?_
  refine W_callp (.cons rfl .nil) Tryz.call85 rfl (T := fun _ => True) trivial (bit_pure _) ?_
  refine W_bin rfl rfl (b_or (m := ((withL m (l.take (i + 1)) : Nat) : Int)) (by rw [show withL m (l.take (i + 1)) = _ from foldl_at hx]; exact or64 (withL_ok _ hm) (bitN_lt x))) rfl ?_
  refine W_assign rfl rfl ?_
  refine W_nil ?_
  refine W_blk ?_
  refine W_region ?_
  refine W_bin rfl rfl (b_add (m := ((i + 1 : Nat) : Int)) (by rw [i64w (by omega)]; omega)) rfl ?_
  refine W_move rfl rfl ?_
  refine W_nil ?_
  refine W_again (i + 1) zO zO (sub_cons rfl (sub_cons rfl (sub_cons rfl (sub_cons rfl (sub_nil _))))) rfl zH
 ·skip
  refine W_exit rfl ?_
  refine W_sr ?_
  refine W_move rfl rfl ?_
  refine W_assign rfl rfl ?_
  refine W_nil ?_
  refine W_ret1m (H2 := H) Tryz.results88 rfl (.nil _) zH ?_
  obtain rfl : i = l.length := by omega
  exact ⟨by rw [List.take_length], rfl⟩
def mkV (m : Nat) : Value := .int .u64 ((m : Nat) : Int)
structure Gd where
 M : List Nat
 ms : List Int
def gdC (ab n : Nat) (ms : List Int) : List Value := .slice (some ⟨ab, 0, none⟩) n n :: ms.map (Value.int .i64)
structure GdOk (n : Nat) (G : Gd) : Prop where
 n64 : 1 ≤ n ∧ n ≤ 64
 len : G.M.length = n
 ms : G.ms.length = 16
 m64 : ∀ m ∈ G.M, m < 18446744073709551616
 mz : ∀ z ∈ G.ms, 0 ≤ z ∧ z ≤ 255
inductive GdH (gb n : Nat) (G : Gd) : Heap → Prop
 | mk {ab : Nat} (hok : GdOk n G) : GdH gb n G [(gb, .cells 209 17 (gdC ab n G.ms)), (ab, .cells 53 (n * 1) ((G.M).map mkV))]
theorem gdNew_L {w0 : World} {H : Heap} {n : Nat} (hn : 1 ≤ n ∧ n ≤ 64)  : LCalls Tryz.prog w0 51 #[.int .i64 (n : Int)] (H) (fun v H' => ∃ gb HG, v = .tuple #[.pointer (some ⟨gb, 0, none⟩), .int .i64 0] ∧ GdH gb n ⟨List.replicate n 0, List.replicate 16 0⟩ HG ∧ H' = HG ++ H) := by
 refine L_enter (l := [.int .i64 (n : Int)]) Tryz.func51 rfl Tryz.ntmps51 rfl rfl ?_
 refine W_sr ?_
 refine W_assign rfl rfl ?_
 refine W_assign rfl rfl ?_
 refine W_nil (W_seq (W_sr ?_))
 refine W_move rfl rfl ?_
 refine W_bin rfl rfl b_lss rfl ?_
 rw [decide_eq_false (by omega)]
 refine W_move rfl rfl ?_
 refine W_gyes rfl rfl ?_
 refine W_move rfl rfl ?_
 refine W_gyes rfl rfl ?_
 refine W_bin rfl rfl b_gtr rfl ?_
 rw [decide_eq_false (by omega)]
 first | refine W_pickt rfl rfl rfl ?_ | refine W_pickf rfl rfl rfl ?_
 refine W_nil ?_
 refine W_condF rfl rfl ?_
 refine W_skip (W_sr ?_)
 refine W_move rfl rfl ?_
 refine W_makeSlice (ln := n) (cp := n) (l := (List.replicate n 0).map mkV) rfl rfl ty207 ty53 rfl rfl (Nat.le_refl _) (by omega) (by simp only [maxLen]; omega) (by rw [Nat.mul_one]; simp [toList_madeCells_one, Value.cells, mkV]) rfl (fun ab => ?_)
 refine W_build (l := gdC ab n (List.replicate 16 0)) ty209 pl209 (.cons rfl rfl rfl rfl rfl .nil) rfl rfl rfl ?_
 refine W_box (l := gdC ab n (List.replicate 16 0)) rfl rfl rfl (fun gb => ?_)
 refine W_assign rfl rfl ?_
 refine W_assign rfl rfl ?_
 refine W_nil ?_
 refine W_ret2m (H2 := (gb, .cells 209 17 (gdC ab n (List.replicate 16 0))) :: (ab, .cells 53 (n * 1) ((List.replicate n 0).map mkV)) :: H) Tryz.results51 rfl rfl (.nil _) zH ?_
 exact ⟨gb, _, rfl, .mk (G := ⟨List.replicate n 0, List.replicate 16 0⟩) ⟨hn, List.length_replicate, List.length_replicate, fun m hm => by rw [(List.mem_replicate.1 hm).2]; decide, fun z hz => by rw [(List.mem_replicate.1 hz).2]; decide⟩, rfl⟩
theorem cAt_L {w0 : World} {H : Heap} {now : Nat}  : LCalls Tryz.prog w0 52 #[.int .u64 ((now : Nat) : Int)] (H) (fun v H' => ∃ cb, v = .pointer (some ⟨cb, 0, none⟩) ∧ H' = (cb, .cells 211 1 [.int .u64 ((now : Nat) : Int)]) :: H) := by
 refine L_enter (l := [.int .u64 ((now : Nat) : Int)]) Tryz.func52 rfl Tryz.ntmps52 rfl rfl ?_
 refine W_sr ?_
 refine W_assign rfl rfl ?_
 refine W_nil (W_sr ?_)
 refine W_move rfl rfl ?_
 refine W_build (l := [.int .u64 ((now : Nat) : Int)]) ty211 pl211 (.cons rfl rfl rfl rfl rfl .nil) rfl rfl rfl ?_
 refine W_box (l := [.int .u64 ((now : Nat) : Int)]) rfl rfl rfl (fun cb => ?_)
 refine W_assign rfl rfl ?_
 refine W_nil ?_
 refine W_ret1m (H2 := (cb, .cells 211 1 [.int .u64 ((now : Nat) : Int)]) :: H) Tryz.results52 rfl (.nil _) zH ?_
 exact ⟨cb, rfl, rfl⟩
theorem cNow_q {w0 : World} {H : Heap} {cb now : Nat} (hm : (cb, .cells 211 1 [.int .u64 ((now : Nat) : Int)]) ∈ H)  : PureAt Tryz.prog w0 H 53 [.pointer (some ⟨cb, 0, none⟩)] (.int .u64 ((now : Nat) : Int)) := by
 refine L_enter Tryz.func53 rfl Tryz.ntmps53 rfl rfl ?_
 refine W_sr ?_
 refine W_assign rfl rfl ?_
 refine W_nil (W_seq (W_sr ?_))
 refine W_move rfl rfl ?_
 refine W_x (X_ptrNil rfl rfl ty100) (fun _ h => by cases h) rfl ?_
 refine W_nil ?_
 refine W_condF rfl rfl ?_
 refine W_skip (W_sr ?_)
 refine W_move rfl rfl ?_
 refine W_nilCheck rfl rfl ?_
 refine W_fieldAddr rfl fld211_0 zd rfl ?_
 refine W_load (v := .int .u64 ((now : Nat) : Int)) rfl ty33 rfl (Cell.own (b := cb) hm rfl) rfl ?_
 refine W_assign rfl rfl ?_
 refine W_nil ?_
 refine W_ret1m (H2 := H) Tryz.results53 rfl (.nil _) zH ?_
 exact ⟨rfl, rfl⟩
structure Mm where
 bs : List Int
 pg : List Int
def mmC (bb k : Nat) (pg : List Int) : List Value := .slice (some ⟨bb, 0, none⟩) k k :: pg.map (Value.int .i64)
inductive MmH (mb p : Nat) (M : Mm) : Heap → Prop
 | mk {bb : Nat} (hp : 1 ≤ p ∧ p ≤ 16) (hb : M.bs.length = 16 * p) (hg : M.pg.length = 16) (h8 : ∀ z ∈ M.bs, 0 ≤ z ∧ z ≤ 255) : MmH mb p M [(mb, .cells 206 17 (mmC bb (16 * p) M.pg)), (bb, .cells 5 (16 * p * 1) (M.bs.map (Value.int .u8)))]
theorem mmNew_L {w0 : World} {H : Heap} {p : Nat} (hp : 1 ≤ p ∧ p ≤ 16)  : LCalls Tryz.prog w0 50 #[.int .i64 (p : Int)] (H) (fun v H' => ∃ mb HM, v = .tuple #[.pointer (some ⟨mb, 0, none⟩), .int .i64 0] ∧ MmH mb p ⟨List.replicate (16 * p) 0, List.replicate 16 0⟩ HM ∧ H' = HM ++ H) := by
 refine L_enter (l := [.int .i64 (p : Int)]) Tryz.func50 rfl Tryz.ntmps50 rfl rfl ?_
 refine W_sr ?_
 refine W_assign rfl rfl ?_
 refine W_assign rfl rfl ?_
 refine W_nil (W_seq (W_sr ?_))
 refine W_move rfl rfl ?_
 refine W_bin rfl rfl b_lss rfl ?_
 rw [decide_eq_false (by omega)]
 refine W_move rfl rfl ?_
 refine W_gyes rfl rfl ?_
 refine W_move rfl rfl ?_
 refine W_gyes rfl rfl ?_
 refine W_bin rfl rfl b_gtr rfl ?_
 rw [decide_eq_false (by omega)]
 first | refine W_pickt rfl rfl rfl ?_ | refine W_pickf rfl rfl rfl ?_
 refine W_nil ?_
 refine W_condF rfl rfl ?_
 refine W_skip (W_sr ?_)
 refine W_move rfl rfl ?_
 refine W_bin rfl rfl (b_mul (m := ((16 * p : Nat) : Int)) (by rw [i64w (by omega)]; omega)) rfl ?_
 refine W_makeSlice (ln := 16 * p) (cp := 16 * p) (l := (List.replicate (16 * p) (0 : Int)).map (Value.int .u8)) rfl rfl ty28 ty5 rfl rfl (Nat.le_refl _) (by omega) (by simp only [maxLen]; omega) (by rw [Nat.mul_one]; simp [toList_madeCells_one, Value.cells]) rfl (fun bb => ?_)
 refine W_build (l := mmC bb (16 * p) (List.replicate 16 0)) ty206 pl206 (.cons rfl rfl rfl rfl rfl .nil) rfl rfl rfl ?_
 refine W_box (l := mmC bb (16 * p) (List.replicate 16 0)) rfl rfl rfl (fun mb => ?_)
 refine W_assign rfl rfl ?_
 refine W_assign rfl rfl ?_
 refine W_nil ?_
 refine W_ret2m (H2 := (mb, .cells 206 17 (mmC bb (16 * p) (List.replicate 16 0))) :: (bb, .cells 5 (16 * p * 1) ((List.replicate (16 * p) (0 : Int)).map (Value.int .u8))) :: H) Tryz.results50 rfl rfl (.nil _) zH ?_
 exact ⟨mb, _, rfl, .mk (M := ⟨List.replicate (16 * p) 0, List.replicate 16 0⟩) hp List.length_replicate List.length_replicate (fun z hz => by rw [(List.mem_replicate.1 hz).2]; decide), rfl⟩
theorem kn_all {r : Kr} (h : r.Ok) : ((knC r).drop 23).take 32 = r.C.map ptV := by
 have e : (knC r).drop 23 = r.C.map ptV ++ [r.tv, .int .i64 (r.n : Int)] := by
  unfold knC
  rw [show 23 = (16 + 5) + 1 + 1 from rfl, List.drop_succ_cons, List.drop_succ_cons, List.drop_append, List.drop_eq_nil_of_le (by rw [List.length_map, h.p]; omega), List.length_map, h.p]; rfl
 rw [e, List.take_append_of_le_length (by rw [List.length_map, h.c]; omega), List.take_of_length_le (by rw [List.length_map, h.c]; omega)]
theorem ksuch_L {w0 : World} {H : Heap} {b f : Value} (hb : b.cells.toList = [b]) (hf : f.cells.toList = [f]) : LCalls Tryz.prog w0 115 #[b, f] (H) (fun v H' => ∃ d2 d3, v = .func (.func 181) #[] #[.pointer (some ⟨d2, 0, none⟩), .pointer (some ⟨d3, 0, none⟩)] ∧ H' = (d3, .cells 124 1 [f]) :: (d2, .cells 23 1 [b]) :: H) := by
 refine L_enter (l := [b, f]) Tryz.func115 rfl Tryz.ntmps115 rfl rfl ?_
 refine W_sr ?_
 refine W_box (l := [b]) rfl hb rfl (fun d2 => ?_)
 refine W_box (l := [f]) rfl hf rfl (fun d3 => ?_)
 refine W_assign rfl rfl ?_
 refine W_nil (W_sr ?_)
 refine W_makeFunc .nil (.cons rfl (.cons rfl .nil)) rfl ?_
 refine W_assign rfl rfl ?_
 refine W_nil ?_
 refine W_ret1m Tryz.results115 rfl (.nil _) (.refl _) ?_
 exact ⟨d2, d3, rfl, rfl⟩
theorem ksuch_iter {w0 : World} {H : Heap} {lp d2 d3 kb fi : Nat} {ca : List Value} {r : Kr} (J : Nat → Heap → Prop) (sel : Nat → Bool) (hfi : ∀ (args : Array Value) (w : World), (callFunc fi args).run Tryz.prog w = .ok (.enter fi args) w) (hr : r.Ok) (hkm : (kb, .cells 113 57 (knC r)) ∈ H)
  (hcl : ∀ k Hr b HZ, r.C[k]? = some (some b) → J k Hr → (∀ p ∈ Hr, p ∈ HZ) → PureAt Tryz.prog w0 HZ fi ([.pointer (some ⟨b, 0, none⟩)] ++ ca) (.bool (sel k)))
  (hnone : ∀ (k : Nat) Hr, r.C[k]? = some none → J k Hr → J (k + 1) Hr)
  (hskip : ∀ (k : Nat) Hr b, r.C[k]? = some (some b) → J k Hr → sel k = false → J (k + 1) Hr)
  (hround : ∀ (k : Nat) Hr b, r.C[k]? = some (some b) → J k Hr → sel k = true → RoundC Tryz.prog w0 lp #[.int .i64 (k : Int), .pointer (some ⟨b, 0, none⟩)] ((d2, .cells 23 1 [.pointer (some ⟨kb, 0, none⟩)]) :: (d3, .cells 124 1 [(Value.func (.func fi) #[] ca.toArray)]) :: Hr) (fun v H' => ∃ Hr', HSub H' ((d2, .cells 23 1 [.pointer (some ⟨kb, 0, none⟩)]) :: (d3, .cells 124 1 [(Value.func (.func fi) #[] ca.toArray)]) :: Hr') ∧ v = .bool true ∧ J (k + 1) Hr'))
  (hJ0 : J 0 H) : LCalls Tryz.prog w0 181 #[.func (.yield lp) #[] #[], .pointer (some ⟨d2, 0, none⟩), .pointer (some ⟨d3, 0, none⟩)] ((d2, .cells 23 1 [.pointer (some ⟨kb, 0, none⟩)]) :: (d3, .cells 124 1 [(Value.func (.func fi) #[] ca.toArray)]) :: H) (fun _ H' => ∃ Hr, HSub H' ((d2, .cells 23 1 [.pointer (some ⟨kb, 0, none⟩)]) :: (d3, .cells 124 1 [(Value.func (.func fi) #[] ca.toArray)]) :: Hr) ∧ J 32 Hr) := by
 refine L_enter (l := [.func (.yield lp) #[] #[], .pointer (some ⟨d2, 0, none⟩), .pointer (some ⟨d3, 0, none⟩)]) Tryz.func181 rfl Tryz.ntmps181 rfl rfl ?_
 refine W_seq (W_sr ?_)
 refine W_load (v := .pointer (some ⟨kb, 0, none⟩)) rfl ty23 rfl (Cell.own (b := d2) zM rfl) rfl ?_
 refine W_x (X_ptrNil rfl rfl ty23) (fun _ h => by cases h) rfl ?_
 refine W_nil ?_
 refine W_condF rfl rfl ?_
 refine W_skip (W_sr ?_)
 refine W_load (v := .pointer (some ⟨kb, 0, none⟩)) rfl ty23 rfl (Cell.own (b := d2) zM rfl) rfl ?_
 refine W_nilCheck rfl rfl ?_
 refine W_fieldAddr rfl fld113_7 zd rfl ?_
 refine W_loadB (vs := r.C.map ptV) rfl ty110 rfl (b := kb) (List.mem_cons_of_mem _ (List.mem_cons_of_mem _ hkm)) (by rw [Nat.ble_eq, kn_len hr]; decide) (kn_all hr) rfl ?_
 refine W_move rfl rfl ?_
 refine W_nil (W_block ?_)
 refine W_loopC (X := (Nat × Heap)) [(0, _), (2, _), (11, _)] (fun (x : (Nat × Heap)) => [(12, .int .i64 (x.1 : Int))]) (fun _ => _) (fun (x : (Nat × Heap)) => (d2, .cells 23 1 [.pointer (some ⟨kb, 0, none⟩)]) :: (d3, .cells 124 1 [(Value.func (.func fi) #[] ca.toArray)]) :: x.2) (fun (x : (Nat × Heap)) => x.1 ≤ 32 ∧ J x.1 x.2) (fun (x : (Nat × Heap)) => 32 - x.1) (0, H) ⟨Nat.zero_le _, hJ0⟩ (sub_cons rfl (sub_cons rfl (sub_cons rfl (sub_nil _)))) (sub_cons rfl (sub_nil _)) rfl (.refl _) ?_
 rintro ⟨k, Hr⟩ ⟨hk, hJk⟩
 dsimp only at hk hJk ⊢
 simp only [List.cons_append, List.nil_append]
 refine W_sr ?_
 refine W_bin rfl rfl b_lss rfl ?_
 refine W_nil (W_seq ?_)
 refine W_condPS (p := k < 32) rfl (by rw [decide_eq_true_eq]; omega) (fun q0 => ?_) (fun q0 => ?_)
 ·skip
  refine W_skip (W_seq ?_)
  refine W_block (W_sr ?_)
  obtain ⟨p, hp⟩ : ∃ p, r.C[k]? = some p := ⟨_, List.getElem?_eq_getElem (by rw [hr.c]; omega)⟩
  rcases p with _ | b
  ·skip
   refine W_move rfl rfl ?_
   refine W_indexA (v := ptV none) (j := k) rfl rfl ty110 ty109 rfl rfl (by omega) (by rw [Nat.mul_one, List.getElem?_toArray, List.getElem?_map, hp]; rfl) rfl ?_
   refine W_assign rfl rfl ?_
   refine W_assign rfl rfl ?_
   refine W_nil (W_sr ?_)
   refine W_move rfl rfl ?_
   refine W_x (X_ptrNotNil (ad := none) rfl rfl ty109) (fun _ h => by cases h) rfl ?_
   refine W_move rfl rfl ?_
   refine W_gno rfl rfl rfl ?_
   refine W_gno rfl rfl rfl ?_
   refine W_gno rfl rfl rfl ?_
   first | refine W_pickt rfl rfl rfl ?_ | refine W_pickf rfl rfl rfl ?_
   refine W_move rfl rfl ?_
   refine W_gno rfl rfl rfl ?_
   refine W_gno rfl rfl rfl ?_
   refine W_gno rfl rfl rfl ?_
   refine W_gno rfl rfl rfl ?_
   refine W_gno rfl rfl rfl ?_
   first | refine W_pickt rfl rfl rfl ?_ | refine W_pickf rfl rfl rfl ?_
   refine W_nil ?_
   refine W_condF rfl rfl ?_
   refine W_skip ?_
   refine W_blk ?_
   refine W_region ?_
   refine W_bin rfl rfl (b_add (m := ((k + 1 : Nat) : Int)) ((i64w zO).trans zO)) rfl ?_
   refine W_move rfl rfl ?_
   refine W_nil ?_
   refine W_again (k + 1, Hr) ⟨by show k + 1 ≤ 32; omega, hnone k Hr hp hJk⟩ (by show 32 - (k + 1) < 32 - k; omega) (sub_cons rfl (sub_cons rfl (sub_cons rfl (sub_cons rfl (sub_nil _))))) rfl (.refl _)
  ·skip
   refine W_move rfl rfl ?_
   refine W_indexA (v := ptV (some b)) (j := k) rfl rfl ty110 ty109 rfl rfl (by omega) (by rw [Nat.mul_one, List.getElem?_toArray, List.getElem?_map, hp]; rfl) rfl ?_
   refine W_assign rfl rfl ?_
   refine W_assign rfl rfl ?_
   refine W_nil (W_sr ?_)
   refine W_move rfl rfl ?_
   refine W_x (X_ptrNotNil (ad := some ⟨b, 0, none⟩) rfl rfl ty109) (fun _ h => by cases h) rfl ?_
   refine W_move rfl rfl ?_
   refine W_gyes rfl rfl ?_
   refine W_load (v := (Value.func (.func fi) #[] ca.toArray)) rfl ty124 rfl (Cell.own (b := d3) zM rfl) rfl ?_
   refine W_gyes rfl rfl ?_
   refine W_move rfl rfl ?_
   refine W_gyes rfl rfl ?_
   refine W_callqv (fa := []) (ca := ca) rfl (.cons rfl .nil) rfl hfi rfl (hcl k Hr b _ hp hJk (fun p hp => List.mem_cons_of_mem _ (List.mem_cons_of_mem _ hp))) ?_
   rcases hs : sel k with _ | _
   ·skip
    first | refine W_pickt rfl rfl rfl ?_ | refine W_pickf rfl rfl rfl ?_
    refine W_move rfl rfl ?_
    refine W_gno rfl rfl rfl ?_
    refine W_gno rfl rfl rfl ?_
    refine W_gno rfl rfl rfl ?_
    refine W_gno rfl rfl rfl ?_
    refine W_gno rfl rfl rfl ?_
    first | refine W_pickt rfl rfl rfl ?_ | refine W_pickf rfl rfl rfl ?_
    refine W_nil ?_
    refine W_condF rfl rfl ?_
    refine W_skip ?_
    refine W_blk ?_
    refine W_region ?_
    refine W_bin rfl rfl (b_add (m := ((k + 1 : Nat) : Int)) ((i64w zO).trans zO)) rfl ?_
    refine W_move rfl rfl ?_
    refine W_nil ?_
    refine W_again (k + 1, Hr) ⟨by show k + 1 ≤ 32; omega, hskip k Hr b hp hJk hs⟩ (by show 32 - (k + 1) < 32 - k; omega) (sub_cons rfl (sub_cons rfl (sub_cons rfl (sub_cons rfl (sub_nil _))))) rfl (.refl _)
   ·skip
    first | refine W_pickt rfl rfl rfl ?_ | refine W_pickf rfl rfl rfl ?_
    refine W_move rfl rfl ?_
    refine W_gyes rfl rfl ?_
    refine W_move rfl rfl ?_
    refine W_gyes rfl rfl ?_
    refine W_move rfl rfl ?_
    refine W_gyes rfl rfl ?_
    refine W_move rfl rfl ?_
    refine W_gyes rfl rfl ?_
    refine W_yield rfl (.cons rfl (.cons rfl .nil)) rfl (hround k Hr b hp hJk hs) ?_
    rintro v H' ⟨Hr', hsub, rfl, hJ'⟩
    refine W_hsub hsub ?_
    refine W_gyes rfl rfl ?_
    refine W_not rfl rfl ?_
    first | refine W_pickt rfl rfl rfl ?_ | refine W_pickf rfl rfl rfl ?_
    refine W_nil ?_
    refine W_condF rfl rfl ?_
    refine W_skip ?_
    refine W_blk ?_
    refine W_region ?_
    refine W_bin rfl rfl (b_add (m := ((k + 1 : Nat) : Int)) ((i64w zO).trans zO)) rfl ?_
    refine W_move rfl rfl ?_
    refine W_nil ?_
    refine W_again (k + 1, Hr') ⟨by show k + 1 ≤ 32; omega, hJ'⟩ (by show 32 - (k + 1) < 32 - k; omega) (sub_cons rfl (sub_cons rfl (sub_cons rfl (sub_cons rfl (sub_nil _))))) rfl (.refl _)
 ·skip
  refine W_exit rfl ?_
  refine W_end0m (H2 := (d2, .cells 23 1 [.pointer (some ⟨kb, 0, none⟩)]) :: (d3, .cells 124 1 [(Value.func (.func fi) #[] ca.toArray)]) :: Hr) Tryz.results181 (.nil _) zH ?_
  obtain rfl : k = 32 := by omega
  exact ⟨Hr, .refl _, hJk⟩
def selL (C : List (Option Nat)) (sel : Nat → Bool) (n : Nat) : List Int := ((List.range n).filter (fun i => (C.getD i none).isSome && sel i)).map (fun i : Nat => (i : Int))
theorem selL_in {C : List (Option Nat)} {sel : Nat → Bool} {k b : Nat} (h : C[k]? = some (some b)) (hs : sel k = true) : selL C sel (k + 1) = selL C sel k ++ [(k : Int)] := by
 have e : ((C.getD k none).isSome && sel k) = true := by rw [List.getD_eq_getElem?_getD, h, hs]; rfl
 unfold selL
 rw [List.range_succ, List.filter_append, List.map_append, show [k].filter (fun i => (C.getD i none).isSome && sel i) = [k] from List.filter_eq_self.2 (fun i hi => by rw [List.mem_singleton.1 hi]; exact e)]
 rfl
theorem selL_out {C : List (Option Nat)} {sel : Nat → Bool} {k : Nat} (h : C[k]? = some none ∨ sel k = false) : selL C sel (k + 1) = selL C sel k := by
 have e : ((C.getD k none).isSome && sel k) = false := by
  rcases h with h | h
  ·rw [List.getD_eq_getElem?_getD, h]; rfl
  ·rw [h, Bool.and_false]
 unfold selL
 rw [List.range_succ, List.filter_append, List.map_append, show [k].filter (fun i => (C.getD i none).isSome && sel i) = [] from List.filter_eq_nil_iff.2 (fun i hi => by rw [List.mem_singleton.1 hi, e]; decide)]
 exact List.append_nil _
theorem selL_len (C : List (Option Nat)) (sel : Nat → Bool) (n : Nat) : (selL C sel n).length ≤ n := by
 unfold selL
 rw [List.length_map]
 have := List.length_filter_le (fun i => (C.getD i none).isSome && sel i) (List.range n)
 rw [List.length_range] at this; exact this
theorem klist_L {w0 : World} {H : Heap} {kb fi : Nat} {ca : List Value} {r : Kr} (sel : Nat → Bool) (hfi : ∀ (args : Array Value) (w : World), (callFunc fi args).run Tryz.prog w = .ok (.enter fi args) w) (hr : r.Ok) (hkm : (kb, .cells 113 57 (knC r)) ∈ H) (hcl : ∀ (k b : Nat) (HZ : Heap), r.C[k]? = some (some b) → (∀ p ∈ H, p ∈ HZ) → PureAt Tryz.prog w0 HZ fi ([.pointer (some ⟨b, 0, none⟩)] ++ ca) (.bool (sel k)))  : LCalls Tryz.prog w0 55 #[.pointer (some ⟨kb, 0, none⟩), (Value.func (.func fi) #[] ca.toArray)] (H) (fun v H' => ∃ XB, OwnS 3 1 v (selL r.C sel 32).length ((selL r.C sel 32).map (Value.int .i64)) XB ∧ H' = XB ++ H) := by
 refine L_enter (l := [.pointer (some ⟨kb, 0, none⟩), (Value.func (.func fi) #[] ca.toArray)]) Tryz.func55 rfl Tryz.ntmps55 rfl rfl ?_
 refine W_sr ?_
 refine W_assign rfl rfl ?_
 refine W_nil (W_sr ?_)
 refine W_alloc (l := [.slice none 0 0]) ty55 rfl rfl (fun bo => ?_)
 refine W_nil (W_seq (W_sr ?_))
 refine W_move rfl rfl ?_
 refine W_move rfl rfl ?_
 refine W_call (.cons rfl (.cons rfl .nil)) Tryz.call115 rfl (ksuch_L (b := .pointer (some ⟨kb, 0, none⟩)) (f := (Value.func (.func fi) #[] ca.toArray)) rfl rfl) ?_
 rintro v H' ⟨d2, d3, rfl, rfl⟩
 refine W_nil (W_block ?_)
 refine W_rangeFunc rfl Tryz.call181 ?_
 intro lp D r0 hst hpd hps hasg hbody hA
 have hr0 := loop_ready hst hpd
 show LCalls _ _ _ #[_, _, _] _ _
 refine ((ksuch_iter (d2 := d2) (d3 := d3) (kb := kb) (fi := fi) (ca := ca) (r := r) (H := (lp, .obj (.loop r0)) :: (D, .obj (.deferred (some []))) :: (bo, .cells 55 1 [.slice none 0 0]) :: ([] ++ H)) (fun k Hr => ∃ v XB', OwnS 3 1 v (selL r.C sel k).length ((selL r.C sel k).map (Value.int .i64)) XB' ∧ Hr = (lp, .obj (.loop r0)) :: (D, .obj (.deferred (some []))) :: (bo, .cells 55 1 [v]) :: (XB' ++ H)) sel hfi hr (List.mem_cons_of_mem _ (List.mem_cons_of_mem _ (List.mem_cons_of_mem _ hkm))) (fun k Hr b HZ hb hJ hz => by obtain ⟨v, XB', _, rfl⟩ := hJ; exact hcl k b HZ hb (fun p hp => hz p (List.mem_cons_of_mem _ (List.mem_cons_of_mem _ (List.mem_cons_of_mem _ (List.mem_append_right _ hp)))))) (fun k Hr hb hJ => by obtain ⟨v, XB', hX, rfl⟩ := hJ; exact ⟨v, XB', by rw [selL_out (.inl hb)]; exact hX, rfl⟩) (fun k Hr b hb hJ hs => by obtain ⟨v, XB', hX, rfl⟩ := hJ; exact ⟨v, XB', by rw [selL_out (.inr hs)]; exact hX, rfl⟩) ?_ ⟨_, [], .nil, rfl⟩).hsub zH).mono ?_
 ·intro k Hr b hb hJ hs
  obtain ⟨xv, XB', hX, rfl⟩ := hJ
  have hkl := (List.getElem?_eq_some_iff.1 hb).1
  rw [hr.c] at hkl
  have htl := selL_len r.C sel k
  obtain ⟨axv, cxv, hxv, _, _⟩ := hX.shape
  refine round_intro hst hpd hA hps rfl hasg rfl rfl rfl zT ?_
  refine W_region ?_
  refine W_assign rfl rfl ?_
  refine W_nil ?_
  refine W_begin hst hpd zT hbody ?_
  refine W_block ?_
  refine W_region ?_
  refine W_load (v := xv) rfl ty55 rfl (Cell.own (b := bo) zM rfl) rfl ?_
  refine W_move rfl rfl ?_
  refine W_buildSlice (l := [.int .i64 (k : Int)]) ty55 ty3 (.cons rfl rfl rfl rfl rfl .nil) rfl rfl rfl rfl rfl rfl rfl (fun b14 => ?_)
  refine W_append (news := [.int .i64 (k : Int)]) (m := 1) (HB := XB') (H0 := (d2, .cells 23 1 [.pointer (some ⟨kb, 0, none⟩)]) :: (d3, .cells 124 1 [(Value.func (.func fi) #[] ca.toArray)]) :: (lp, .obj (.loop (Loop.at r0 .busy none))) :: (D, .obj (.deferred (some []))) :: (bo, .cells 55 1 [xv]) :: H) rfl rfl ty55 ty3 rfl (by decide) hX rfl (Holds.own (b := b14) List.mem_cons_self) rfl (by simp only [maxLen]; omega) (by omega) zH rfl (fun v' HB' hO' => ?_)
  refine W_store (l' := [v']) rfl rfl ty55 (by obtain ⟨a0, c0', e0, _⟩ := hO'.shape; rw [e0]; rfl) rfl (b := bo) zM rfl rfl zU ?_
  refine W_nil ?_
  refine W_blk ?_
  refine W_endround zT ?_
  rw [hr0]
  refine ⟨(lp, .obj (.loop r0)) :: (D, .obj (.deferred (some []))) :: (bo, .cells 55 1 [v']) :: (HB' ++ H), zH, rfl, v', HB', ?_, rfl⟩
  rw [selL_in hb hs, List.length_append, List.map_append]
  exact hO'
 ·intro _ H' hp
  obtain ⟨Hr, hs, xv, XB', hX, rfl⟩ := hp
  refine ⟨.ready, none, (d2, .cells 23 1 [.pointer (some ⟨kb, 0, none⟩)]) :: (d3, .cells 124 1 [(Value.func (.func fi) #[] ca.toArray)]) :: (D, .obj (.deferred (some []))) :: (bo, .cells 55 1 [xv]) :: (XB' ++ H), by rw [hr0]; exact hs.trans zH, by decide, ?_⟩
  show W _ _ _ _ _ _ _ _ _
  refine W_blk ?_
  refine W_sr ?_
  refine W_load (v := xv) rfl ty55 rfl (Cell.own (b := bo) zM rfl) rfl ?_
  refine W_assign rfl rfl ?_
  refine W_nil ?_
  refine W_ret1m (H2 := XB' ++ H) Tryz.results55 rfl (.cons zT (.nil _)) zH ?_
  exact ⟨XB', hX, rfl⟩
def rdC (p : Int × Int) : List Value := [.int .i64 p.1, .int .i64 p.2]
structure Sct where
 D : List (Int × Int)
 m : Nat
 st : Int
def scC (S : Sct) : List Value := S.D.flatMap rdC ++ [.int .u64 ((S.m : Nat) : Int), .int .i64 S.st]
structure SctOk (S : Sct) : Prop where
 len : S.D.length = 64
 rng : ∀ p ∈ S.D, 0 ≤ p.1 ∧ p.1 ≤ 8 ∧ 0 ≤ p.2 ∧ p.2 ≤ S.st
 m64 : S.m < 18446744073709551616
 bit : ∀ i, S.m.testBit i = (match S.D[i]? with
  | some p => decide (0 < p.1)
  | none => false)
structure Cnt where
 n : Int
 top : Int
 stuck : Bool
def cnC (c : Cnt) : List Value := [.int .i64 c.n, .int .i64 c.top, .bool c.stuck]
structure Rfe where
 key : Int
 cb : Nat
 clk : Nat
 c : Cnt
def Rfe.ent (e : Rfe) : Int × Value × Nat := (e.key, .pointer (some ⟨e.cb, 0, none⟩), e.clk)
def Rfe.blk (e : Rfe) : Nat × Blk := (e.cb, .cells 536 3 (cnC e.c))
inductive RefH (rb : Nat) (top : Int) (R : List (Int × Cnt)) : Heap → Prop
 | mk {mb cl : Nat} {E : List Rfe} (hok : MapOk (E.map Rfe.ent) cl) (hR : E.map (fun e => (e.key, e.c)) = R) : RefH rb top R ((rb, .cells 301 2 [.int .i64 top, .map (some mb)]) :: (mb, .obj (mapO (Value.int .i64) (E.map Rfe.ent) cl)) :: E.map Rfe.blk)
theorem refNew_L {w0 : World} {H : Heap} {top : Int} (ht : 1 ≤ top ∧ top ≤ 65535)  : LCalls Tryz.prog w0 114 #[.int .i64 top] (H) (fun v H' => ∃ rb HR, RefH rb top [] HR ∧ v = .tuple #[.pointer (some ⟨rb, 0, none⟩), .int .i64 0] ∧ H' = HR ++ H) := by
 refine L_enter (l := [.int .i64 top]) Tryz.func114 rfl Tryz.ntmps114 rfl rfl ?_
 refine W_sr ?_
 refine W_assign rfl rfl ?_
 refine W_assign rfl rfl ?_
 refine W_nil (W_seq (W_sr ?_))
 refine W_move rfl rfl ?_
 refine W_bin rfl rfl b_lss rfl ?_
 first | rw [decide_eq_true (by omega)] | rw [decide_eq_false (by omega)]
 refine W_move rfl rfl ?_
 refine W_gyes rfl rfl ?_
 refine W_move rfl rfl ?_
 refine W_gyes rfl rfl ?_
 refine W_bin rfl rfl b_gtr rfl ?_
 first | rw [decide_eq_true (by omega)] | rw [decide_eq_false (by omega)]
 first | refine W_pickt rfl rfl rfl ?_ | refine W_pickf rfl rfl rfl ?_
 refine W_nil ?_
 refine W_condF rfl rfl ?_
 refine W_skip (W_sr ?_)
 refine W_move rfl rfl ?_
 refine W_makeMap (kf := (Value.int .i64)) rfl (fun b11 => ?_)
 refine W_build (l := [.int .i64 top, .map (some b11)]) ty301 pl301 (.cons rfl rfl rfl rfl rfl (.cons rfl rfl rfl rfl rfl .nil)) rfl rfl rfl ?_
 refine W_box (l := [.int .i64 top, .map (some b11)]) rfl rfl rfl (fun b13 => ?_)
 refine W_assign rfl rfl ?_
 refine W_assign rfl rfl ?_
 refine W_nil ?_
 refine W_ret2m Tryz.results114 rfl rfl (.nil _) (.refl _) ?_
 exact ⟨b13, _, .mk (E := []) (MapOk.nil 0) rfl, rfl, rfl⟩
theorem SctOk.start : SctOk ⟨List.replicate 64 (0, 0), 0, 0⟩ where
 len := List.length_replicate
 rng := fun p hp => by obtain rfl := (List.mem_replicate.1 hp).2; decide
 m64 := by decide
 bit := fun i => by
  rw [Nat.zero_testBit]
  by_cases h : i < 64
  ·rw [List.getElem?_replicate, if_pos h]; rfl
  ·rw [List.getElem?_replicate, if_neg h]
structure RingA {α : Type} (R : Nat) (l buf : List α) (h : Nat) : Prop where
 pos : 0 < R
 room : R ≤ 256
 len : buf.length = R
 head : h < R
 most : l.length ≤ R
 at_ : ∀ (i : Nat) x, l[i]? = some x → buf[(h + i) % R]? = some x
inductive RngC (R rb : Nat) (l : List (Int × Int)) : Heap → Prop
 | mk {b h : Nat} {buf : List (Int × Int)} (hI : RingA R l buf h) : RngC R rb l [(rb, .cells 477 3 [.slice (some ⟨b, 0, none⟩) R R, .int .i64 ((h : Nat) : Int), .int .i64 ((l.length : Nat) : Int)]), (b, .cells 365 (R * 2) ((buf).flatMap rdC))]
theorem RingA.start {α : Type} {z : α} {R : Nat} (h0 : 0 < R) (h1 : R ≤ 256) : RingA R [] (List.replicate R z) 0 :=
 ⟨h0, h1, List.length_replicate, h0, Nat.zero_le _, fun i x h => by simp at h⟩
theorem cNewR_L {w0 : World} {H : Heap}   : LCalls Tryz.prog w0 250 #[.int .i64 64] (H) (fun v H' => ∃ rb HB, v = .tuple #[.pointer (some ⟨rb, 0, none⟩), .int .i64 0] ∧ RngC 64 rb [] HB ∧ H' = HB ++ H) := by
 refine L_enter (l := [.int .i64 64]) Tryz.func250 rfl Tryz.ntmps250 rfl rfl ?_
 refine W_sr ?_
 refine W_assign rfl rfl ?_
 refine W_assign rfl rfl ?_
 refine W_nil (W_seq (W_sr ?_))
 refine W_move rfl rfl ?_
 refine W_bin rfl rfl b_lss rfl ?_
 first | rw [decide_eq_true (by omega)] | rw [decide_eq_false (by omega)]
 refine W_move rfl rfl ?_
 refine W_gyes rfl rfl ?_
 refine W_move rfl rfl ?_
 refine W_gyes rfl rfl ?_
 refine W_bin rfl rfl b_gtr rfl ?_
 first | rw [decide_eq_true (by omega)] | rw [decide_eq_false (by omega)]
 first | refine W_pickt rfl rfl rfl ?_ | refine W_pickf rfl rfl rfl ?_
 refine W_nil ?_
 refine W_condF rfl rfl ?_
 refine W_skip (W_sr ?_)
 refine W_move rfl rfl ?_
 refine W_makeSlice (ln := 64) (cp := 64) (l := (List.replicate 64 ((0, 0) : Int × Int)).flatMap rdC) rfl rfl ty362 ty365 rfl rfl (Nat.le_refl _) (by omega) (by simp only [maxLen]; omega) (by kernel_rfl) rfl (fun b11 => ?_)
 refine W_build (l := [.slice (some ⟨b11, 0, none⟩) 64 64, .int .i64 0, .int .i64 0]) ty477 pl477 (.cons rfl rfl rfl rfl rfl .nil) rfl rfl rfl ?_
 refine W_box (l := [.slice (some ⟨b11, 0, none⟩) 64 64, .int .i64 0, .int .i64 0]) rfl rfl rfl (fun b13 => ?_)
 refine W_assign rfl rfl ?_
 refine W_assign rfl rfl ?_
 refine W_nil ?_
 refine W_ret2m (H2 := [(b13, .cells 477 3 [.slice (some ⟨b11, 0, none⟩) 64 64, .int .i64 0, .int .i64 0]), (b11, .cells 365 (64 * 2) ((List.replicate 64 ((0, 0) : Int × Int)).flatMap rdC))] ++ H) Tryz.results250 rfl rfl (.nil _) zH ?_
 exact ⟨b13, _, rfl, .mk (RingA.start (z := (0, 0)) zd zd), rfl⟩
abbrev cbP (rb : Nat) : Value := .pointer (some ⟨rb, 0, none⟩)
structure LsOk (n : Nat) (rbs : List Nat) (XS : List Heap) (Q : List (List (Int × Int))) : Prop where
 l1 : rbs.length = n
 l2 : XS.length = n
 l3 : Q.length = n
 r : ∀ (k : Nat) rb X q, rbs[k]? = some rb → XS[k]? = some X → Q[k]? = some q → RngC 64 rb q X
inductive ListsH (lb n : Nat) (Q : List (List (Int × Int))) (last : Int) : Heap → Prop
 | mk {v : Value} {XQ : Heap} {XS : List Heap} {rbs : List Nat} (hv : OwnS 396 1 v n (rbs.map cbP) XQ) (hl : LsOk n rbs XS Q) : ListsH lb n Q last ((lb, .cells 395 2 [v, .int .i64 last]) :: (XQ ++ XS.flatten))
theorem LsOk.snoc {n : Nat} {rbs : List Nat} {XS : List Heap} {Q : List (List (Int × Int))} (h : LsOk n rbs XS Q) {rb : Nat} {X : Heap} {q : List (Int × Int)} (hX : RngC 64 rb q X) : LsOk (n + 1) (rbs ++ [rb]) (XS ++ [X]) (Q ++ [q]) := by
 obtain ⟨h1, h2, h3, h4⟩ := h
 refine ⟨by simp [h1], by simp [h2], by simp [h3], fun j rb2 Y p e1 e2 e3 => ?_⟩
 by_cases c : j < n
 ·rw [List.getElem?_append_left (by omega)] at e1 e2 e3
  exact h4 j rb2 Y p e1 e2 e3
 ·have hj := (List.getElem?_eq_some_iff.1 e1).1
  rw [List.length_append, List.length_singleton] at hj
  obtain rfl : j = n := by omega
  rw [List.getElem?_append_right (by omega), h1, Nat.sub_self] at e1
  rw [List.getElem?_append_right (by omega), h2, Nat.sub_self] at e2
  rw [List.getElem?_append_right (by omega), h3, Nat.sub_self] at e3
  cases e1; cases e2; cases e3; exact hX
theorem lNew_L {w0 : World} {H : Heap} {n : Nat} (hn : 1 ≤ n ∧ n ≤ 64)  : LCalls Tryz.prog w0 180 #[.int .i64 (n : Int)] (H) (fun v H' => ∃ lb HB, v = .tuple #[.pointer (some ⟨lb, 0, none⟩), .int .i64 0] ∧ ListsH lb n (List.replicate n []) 0 HB ∧ H' = HB ++ H) := by
 refine L_enter (l := [.int .i64 (n : Int)]) Tryz.func180 rfl Tryz.ntmps180 rfl rfl ?_
 refine W_sr ?_
 refine W_assign rfl rfl ?_
 refine W_assign rfl rfl ?_
 refine W_nil (W_seq (W_sr ?_))
 refine W_move rfl rfl ?_
 refine W_bin rfl rfl b_lss rfl ?_
 rw [decide_eq_false (by omega)]
 refine W_move rfl rfl ?_
 refine W_gyes rfl rfl ?_
 refine W_move rfl rfl ?_
 refine W_gyes rfl rfl ?_
 refine W_bin rfl rfl b_gtr rfl ?_
 rw [decide_eq_false (by omega)]
 first | refine W_pickt rfl rfl rfl ?_ | refine W_pickf rfl rfl rfl ?_
 refine W_nil ?_
 refine W_condF rfl rfl ?_
 refine W_skip (W_sr ?_)
 refine W_build (l := [.slice none 0 0, .int .i64 0]) ty395 pl395 .nil rfl rfl rfl ?_
 refine W_box (l := [.slice none 0 0, .int .i64 0]) rfl rfl rfl (fun b14 => ?_)
 refine W_assign rfl rfl ?_
 refine W_nil (W_seq (W_sr ?_))
 refine W_move rfl rfl ?_
 refine W_move rfl rfl ?_
 refine W_nil (W_block ?_)
 refine W_loopC (X := (Nat × Value × Heap × List Heap × List Nat)) [(4, _), (15, _)] (fun (x : (Nat × Value × Heap × List Heap × List Nat)) => [(16, .int .i64 (x.1 : Int))]) (fun _ => _) (fun (x : (Nat × Value × Heap × List Heap × List Nat)) => (b14, .cells 395 2 [x.2.1, .int .i64 0]) :: (x.2.2.1 ++ (x.2.2.2.1.flatten ++ H))) (fun (x : (Nat × Value × Heap × List Heap × List Nat)) => x.1 ≤ n ∧ OwnS 396 1 x.2.1 x.1 (x.2.2.2.2.map cbP) x.2.2.1 ∧ LsOk x.1 x.2.2.2.2 x.2.2.2.1 (List.replicate x.1 [])) (fun (x : (Nat × Value × Heap × List Heap × List Nat)) => n - x.1) (0, .slice none 0 0, [], [], []) ⟨Nat.zero_le _, .nil, ⟨rfl, rfl, rfl, fun k r Y q h => (by cases h)⟩⟩ (sub_cons rfl (sub_cons rfl (sub_nil _))) (sub_cons rfl (sub_nil _)) rfl (.refl _) ?_
 rintro ⟨i, v, XQ, XS, rbs⟩ ⟨hi, hv, hl⟩
 dsimp only at hi hv hl ⊢
 simp only [List.cons_append, List.nil_append]
 refine W_sr ?_
 refine W_bin rfl rfl b_lss rfl ?_
 refine W_nil (W_seq ?_)
 refine W_condPS (p := (i : Int) < (n : Int)) rfl (by simp) (fun q0 => ?_) (fun q0 => ?_)
 ·skip
  refine W_skip (W_seq ?_)
  refine W_block (W_sr ?_)
  refine W_call (.cons rfl .nil) Tryz.call250 rfl cNewR_L ?_
  rintro w2 H' ⟨rb, HX, rfl, hX, rfl⟩
  refine W_move rfl rfl ?_
  refine W_extract rfl rfl rfl ?_
  refine W_extract rfl rfl rfl ?_
  refine W_assign rfl rfl ?_
  refine W_assign rfl rfl ?_
  refine W_nil (W_seq (W_sr ?_))
  refine W_move rfl rfl ?_
  refine W_bin rfl rfl b_neq rfl ?_
  refine W_nil ?_
  refine W_condF rfl rfl ?_
  refine W_skip ?_
  refine W_region ?_
  refine W_move rfl rfl ?_
  refine W_move rfl rfl ?_
  refine W_nilCheck rfl rfl ?_
  refine W_fieldAddr rfl fld395_0 zd rfl ?_
  refine W_load (v := v) rfl ty393 rfl (Cell.own (b := b14) zM rfl) rfl ?_
  refine W_move rfl rfl ?_
  refine W_buildSlice (l := [cbP rb]) ty393 ty396 (.cons rfl rfl rfl rfl rfl .nil) rfl rfl rfl rfl rfl rfl rfl (fun b31 => ?_)
  refine W_append (news := [cbP rb]) (m := 1) (HB := XQ) (H0 := (b31, .cells 396 1 [cbP rb]) :: (HX ++ ((b14, .cells 395 2 [v, .int .i64 0]) :: (XS.flatten ++ H)))) rfl rfl ty393 ty396 rfl (by decide) hv rfl (Holds.own (b := b31) zM) rfl (by simp only [maxLen]; omega) (by omega) zH rfl (fun v' X' hv' => ?_)
  refine W_nilCheck rfl rfl ?_
  refine W_fieldAddr rfl fld395_0 zd rfl ?_
  have hv1 : v'.oneCell' = true := by obtain ⟨_, _, rfl, _⟩ := hv'.shape; rfl
  refine W_store (l' := [v', .int .i64 0]) rfl rfl ty393 hv1 rfl (b := b14) zM rfl rfl zU ?_
  refine W_nil ?_
  refine W_blk ?_
  refine W_region ?_
  refine W_bin rfl rfl (b_add (m := ((i + 1 : Nat) : Int)) ((i64w zO).trans zO)) rfl ?_
  refine W_move rfl rfl ?_
  refine W_nil ?_
  refine W_again (i + 1, v', X', XS ++ [HX], rbs ++ [rb]) ⟨by show i + 1 ≤ n; omega, by show OwnS 396 1 v' (i + 1) ((rbs ++ [rb]).map cbP) X'; rw [List.map_append]; exact hv', by show LsOk (i + 1) _ _ (List.replicate (i + 1) []); rw [List.replicate_succ']; exact hl.snoc hX⟩ (by show n - (i + 1) < n - i; omega) (sub_cons rfl (sub_cons rfl (sub_cons rfl (sub_nil _)))) rfl (by show HSub _ ((b14, .cells 395 2 [v', .int .i64 0]) :: (X' ++ ((XS ++ [HX]).flatten ++ H))); rw [List.flatten_append, List.flatten_singleton, List.append_assoc]; first | exact hsubI | (repeat (first | with_reducible exact HSub.refl _ | refine HSub.cons zT ?_ | refine HSub.app zS ?_ | exact HSub.nil _ | exact HSub.refl _ | refine HSub.drop ?_ | refine HSub.dropS ?_)))
 ·skip
  refine W_exit rfl ?_
  refine W_sr ?_
  refine W_move rfl rfl ?_
  refine W_assign rfl rfl ?_
  refine W_assign rfl rfl ?_
  refine W_nil ?_
  refine W_ret2m (H2 := (b14, .cells 395 2 [v, .int .i64 0]) :: (XQ ++ (XS.flatten ++ H))) Tryz.results180 rfl rfl (.nil _) zH ?_
  obtain rfl : i = n := by omega
  exact ⟨b14, (b14, .cells 395 2 [v, .int .i64 0]) :: (XQ ++ XS.flatten), rfl, .mk (rbs := rbs) hv hl, by show _ = _ :: ((XQ ++ XS.flatten) ++ H); rw [List.append_assoc]⟩
def whRow (now : Nat) (sl : List Value) (bs : List Nat) (bm turn : Nat) : List Value := .int .u64 (now : Int) :: (sl ++ (bs.map (fun z : Nat => Value.int .u64 (z : Int)) ++ [.map (some bm), .int .i64 (turn : Int)]))
structure RowOk (sl : List Value) (bs : List Nat) : Prop where
 sl : sl.length = 512
 bs : bs.length = 8
set_option maxRecDepth 100000
def sl0 : List Value := List.replicate 512 (.slice none 0 0)
def bs0 : List Nat := List.replicate 8 0
theorem ok0 : RowOk sl0 bs0 := ⟨List.length_replicate, List.length_replicate⟩
theorem New_L {w0 : World} {H : Heap} {now : Nat}  : LCalls Tryz.prog w0 249 #[.int .u64 ((now : Nat) : Int)] (H) (fun v H' => ∃ bw bm, v = .pointer (some ⟨bw, 0, none⟩) ∧ H' = (bw, .cells 409 523 (whRow now sl0 bs0 bm 0)) :: (bm, .obj (mapO (Value.int .i64) [] 0)) :: H) := by
 refine L_enter (l := [.int .u64 ((now : Nat) : Int)]) Tryz.func249 rfl Tryz.ntmps249 rfl rfl ?_
 refine W_sr ?_
 refine W_assign rfl rfl ?_
 refine W_nil (W_sr ?_)
 refine W_move rfl rfl ?_
 refine W_makeMap (kf := (Value.int .i64)) rfl (fun b4 => ?_)
 refine W_build (l := whRow now sl0 bs0 b4 0) ty409 pl409 (.cons rfl rfl rfl rfl rfl (.cons rfl rfl rfl rfl rfl .nil)) rfl zk rfl ?_
 refine W_box (l := whRow now sl0 bs0 b4 0) rfl rfl rfl (fun b6 => ?_)
 refine W_assign rfl rfl ?_
 refine W_nil ?_
 refine W_ret1m Tryz.results249 rfl (.nil _) (.refl _) ?_
 exact ⟨b6, b4, rfl, rfl⟩
structure RingI (R : Nat) (l buf : List Int) (h : Nat) : Prop where
 pos : 0 < R
 room : R ≤ 256
 len : buf.length = R
 head : h < R
 most : l.length ≤ R
 at_ : ∀ (i : Nat) x, l[i]? = some x → buf[(h + i) % R]? = some x
inductive RingH (R rb : Nat) (l : List Int) : Heap → Prop
 | mk {b h : Nat} {buf : List Int} (hI : RingI R l buf h) : RingH R rb l [(rb, .cells 400 3 [.slice (some ⟨b, 0, none⟩) R R, .int .i64 ((h : Nat) : Int), .int .i64 ((l.length : Nat) : Int)]), (b, .cells 3 (R * 1) ((buf).map (Value.int .i64)))]
def atV (l : List Int) (z : Int) : Value := if 0 ≤ z then (match l[z.toNat]? with
 | some x => .tuple #[.int .i64 x, .bool true]
 | none => .tuple #[.int .i64 0, .bool false]) else .tuple #[.int .i64 0, .bool false]
theorem atV_in {l : List Int} {i : Nat} {x : Int} (h : l[i]? = some x) : atV l (i : Int) = .tuple #[.int .i64 x, .bool true] := by
 unfold atV
 rw [if_pos (by omega), show ((i : Nat) : Int).toNat = i by omega, h]
theorem atV_out {l : List Int} {z : Int} (h : z < 0 ∨ (l.length : Int) ≤ z) : atV l z = .tuple #[.int .i64 0, .bool false] := by
 unfold atV
 by_cases c : 0 ≤ z
 ·rw [if_pos c, List.getElem?_eq_none (by omega)]
 ·rw [if_neg c]
theorem tmN' (a b : Nat) : ((a : Int)).tmod (b : Int) = ((a % b : Nat) : Int) := by
 rw [Int.tmod_eq_emod_of_nonneg (Int.natCast_nonneg _)]; exact (Int.natCast_emod _ _).symm
theorem place_q {w0 : World} {H : Heap} {R rb b h n i : Nat} (hm : (rb, .cells 400 3 [.slice (some ⟨b, 0, none⟩) R R, .int .i64 ((h : Nat) : Int), .int .i64 ((n : Nat) : Int)]) ∈ H) (hp : 0 < R) (hR : R ≤ 256) (hh : h < R) (hi : i ≤ 1000000)  : PureAt Tryz.prog w0 H 251 [.pointer (some ⟨rb, 0, none⟩), .int .i64 (i : Int)] (.int .i64 (((h + i) % R : Nat) : Int)) := by
 refine L_enter Tryz.func251 rfl Tryz.ntmps251 rfl rfl ?_
 refine W_sr ?_
 refine W_assign rfl rfl ?_
 refine W_nil ?_
 refine W_quietsr zk zK ?_
 refine WQ_x (X_move rfl) rfl ?_
 refine WQ_x (X_nilCheck rfl) rfl ?_
 refine WQ_x (X_fieldAddr rfl fld400_1 zd) rfl ?_
 refine WQ_x (X_load (v := .int .i64 ((h : Nat) : Int)) rfl ty3 rfl (Cell.own (b := rb) hm rfl)) rfl ?_
 refine WQ_x (X_move rfl) rfl ?_
 refine WQ_x (X_bin rfl rfl (b_add (m := ((h + i : Nat) : Int)) (by rw [i64w (by omega)]; omega))) rfl ?_
 refine WQ_x (X_move rfl) rfl ?_
 refine WQ_x (X_nilCheck rfl) rfl ?_
 refine WQ_x (X_fieldAddr rfl fld400_0 zd) rfl ?_
 refine WQ_x (X_load (v := .slice (some ⟨b, 0, none⟩) R R) rfl ty55 rfl (Cell.own (b := rb) hm rfl)) rfl ?_
 refine WQ_x (X_len rfl ty55 rfl) rfl ?_
 refine WQ_x (X_bin rfl rfl (b_rem zO (m := (((h + i) % R : Nat) : Int)) (tmN' (h + i) R))) rfl ?_
 refine WQ_x (X_assign rfl) rfl ?_
 refine WQ_nil ?_
 refine W_ret1m (H2 := H) Tryz.results251 rfl (.nil _) zH ?_
 exact ⟨rfl, rfl⟩
theorem rLen_q {w0 : World} {H : Heap} {R rb b h n : Nat} (hm : (rb, .cells 400 3 [.slice (some ⟨b, 0, none⟩) R R, .int .i64 ((h : Nat) : Int), .int .i64 ((n : Nat) : Int)]) ∈ H)  : PureAt Tryz.prog w0 H 362 [.pointer (some ⟨rb, 0, none⟩)] (.int .i64 (n : Int)) := by
 refine L_enter Tryz.func362 rfl Tryz.ntmps362 rfl rfl ?_
 refine W_sr ?_
 refine W_assign rfl rfl ?_
 refine W_nil (W_seq (W_sr ?_))
 refine W_move rfl rfl ?_
 refine W_x (X_ptrNil rfl rfl ty303) (fun _ h => by cases h) rfl ?_
 refine W_nil ?_
 refine W_condF rfl rfl ?_
 refine W_skip (W_sr ?_)
 refine W_move rfl rfl ?_
 refine W_nilCheck rfl rfl ?_
 refine W_fieldAddr rfl fld400_2 zd rfl ?_
 refine W_load (v := .int .i64 ((n : Nat) : Int)) rfl ty3 rfl (Cell.own (b := rb) hm rfl) rfl ?_
 refine W_assign rfl rfl ?_
 refine W_nil ?_
 refine W_ret1m (H2 := H) Tryz.results362 rfl (.nil _) zH ?_
 exact ⟨rfl, rfl⟩
theorem rAt_lo {w0 : World} {H : Heap} {R rb b h : Nat} {l buf : List Int} (hI : RingI R l buf h) (hm : (rb, .cells 400 3 [.slice (some ⟨b, 0, none⟩) R R, .int .i64 ((h : Nat) : Int), .int .i64 ((l.length : Nat) : Int)]) ∈ H) (hb : (b, .cells 3 (R * 1) ((buf).map (Value.int .i64))) ∈ H) {z : Int} (hz : z < 0)  : PureAt Tryz.prog w0 H 183 [.pointer (some ⟨rb, 0, none⟩), .int .i64 z] (atV l z) := by
 refine L_enter Tryz.func183 rfl Tryz.ntmps183 rfl rfl ?_
 refine W_sr ?_
 refine W_assign rfl rfl ?_
 refine W_assign rfl rfl ?_
 refine W_nil (W_seq (W_sr ?_))
 refine W_move rfl rfl ?_
 refine W_x (X_ptrNil rfl rfl ty303) (fun _ h => by cases h) rfl ?_
 refine W_move rfl rfl ?_
 refine W_gyes rfl rfl ?_
 refine W_move rfl rfl ?_
 refine W_gyes rfl rfl ?_
 refine W_bin rfl rfl b_lss rfl ?_
 rw [decide_eq_true hz]
 first | refine W_pickt rfl rfl rfl ?_ | refine W_pickf rfl rfl rfl ?_
 refine W_move rfl rfl ?_
 refine W_gno rfl rfl rfl ?_
 refine W_gno rfl rfl rfl ?_
 refine W_gno rfl rfl rfl ?_
 refine W_gno rfl rfl rfl ?_
 refine W_gno rfl rfl rfl ?_
 refine W_gno rfl rfl rfl ?_
 first | refine W_pickt rfl rfl rfl ?_ | refine W_pickf rfl rfl rfl ?_
 refine W_nil ?_
 refine W_condT rfl rfl ?_
 refine W_sr ?_
 refine W_assign rfl rfl ?_
 refine W_nil (W_sr ?_)
 refine W_move rfl rfl ?_
 refine W_assign rfl rfl ?_
 refine W_assign rfl rfl ?_
 refine W_nil ?_
 refine W_ret2m (H2 := H) Tryz.results183 rfl rfl (.nil _) zH ?_
 exact ⟨(atV_out (.inl hz)).symm, rfl⟩
theorem rAt_hi {w0 : World} {H : Heap} {R rb b h : Nat} {l buf : List Int} (hI : RingI R l buf h) (hm : (rb, .cells 400 3 [.slice (some ⟨b, 0, none⟩) R R, .int .i64 ((h : Nat) : Int), .int .i64 ((l.length : Nat) : Int)]) ∈ H) (hb : (b, .cells 3 (R * 1) ((buf).map (Value.int .i64))) ∈ H) {z : Int} (hz : (l.length : Int) ≤ z)  : PureAt Tryz.prog w0 H 183 [.pointer (some ⟨rb, 0, none⟩), .int .i64 z] (atV l z) := by
 refine L_enter Tryz.func183 rfl Tryz.ntmps183 rfl rfl ?_
 refine W_sr ?_
 refine W_assign rfl rfl ?_
 refine W_assign rfl rfl ?_
 refine W_nil (W_seq (W_sr ?_))
 refine W_move rfl rfl ?_
 refine W_x (X_ptrNil rfl rfl ty303) (fun _ h => by cases h) rfl ?_
 refine W_move rfl rfl ?_
 refine W_gyes rfl rfl ?_
 refine W_move rfl rfl ?_
 refine W_gyes rfl rfl ?_
 refine W_bin rfl rfl b_lss rfl ?_
 rw [decide_eq_false (by omega)]
 first | refine W_pickt rfl rfl rfl ?_ | refine W_pickf rfl rfl rfl ?_
 refine W_move rfl rfl ?_
 refine W_gyes rfl rfl ?_
 refine W_move rfl rfl ?_
 refine W_gyes rfl rfl ?_
 refine W_move rfl rfl ?_
 refine W_gyes rfl rfl ?_
 refine W_nilCheck rfl rfl ?_
 refine W_gyes rfl rfl ?_
 refine W_fieldAddr rfl fld400_2 zd rfl ?_
 refine W_gyes rfl rfl ?_
 refine W_load (v := .int .i64 ((l.length : Nat) : Int)) rfl ty3 rfl (Cell.own (b := rb) hm rfl) rfl ?_
 refine W_gyes rfl rfl ?_
 refine W_bin rfl rfl b_geq rfl ?_
 rw [decide_eq_true (by omega)]
 first | refine W_pickt rfl rfl rfl ?_ | refine W_pickf rfl rfl rfl ?_
 refine W_nil ?_
 refine W_condT rfl rfl ?_
 refine W_sr ?_
 refine W_assign rfl rfl ?_
 refine W_nil (W_sr ?_)
 refine W_move rfl rfl ?_
 refine W_assign rfl rfl ?_
 refine W_assign rfl rfl ?_
 refine W_nil ?_
 refine W_ret2m (H2 := H) Tryz.results183 rfl rfl (.nil _) zH ?_
 exact ⟨(atV_out (.inr hz)).symm, rfl⟩
theorem rAt_in {w0 : World} {H : Heap} {R rb b h : Nat} {l buf : List Int} (hI : RingI R l buf h) (hm : (rb, .cells 400 3 [.slice (some ⟨b, 0, none⟩) R R, .int .i64 ((h : Nat) : Int), .int .i64 ((l.length : Nat) : Int)]) ∈ H) (hb : (b, .cells 3 (R * 1) ((buf).map (Value.int .i64))) ∈ H) {i : Nat} {x : Int} (hx : l[i]? = some x)  : PureAt Tryz.prog w0 H 183 [.pointer (some ⟨rb, 0, none⟩), .int .i64 (i : Int)] (.tuple #[.int .i64 x, .bool true]) := by
 have hil := (List.getElem?_eq_some_iff.1 hx).1
 have hmost := hI.most
 have hroom := hI.room
 have hbx := hI.at_ i x hx
 have hpl : (h + i) % R < R := Nat.mod_lt _ hI.pos
 refine L_enter Tryz.func183 rfl Tryz.ntmps183 rfl rfl ?_
 refine W_sr ?_
 refine W_assign rfl rfl ?_
 refine W_assign rfl rfl ?_
 refine W_nil (W_seq (W_sr ?_))
 refine W_move rfl rfl ?_
 refine W_x (X_ptrNil rfl rfl ty303) (fun _ h => by cases h) rfl ?_
 refine W_move rfl rfl ?_
 refine W_gyes rfl rfl ?_
 refine W_move rfl rfl ?_
 refine W_gyes rfl rfl ?_
 refine W_bin rfl rfl b_lss rfl ?_
 rw [decide_eq_false (by omega)]
 first | refine W_pickt rfl rfl rfl ?_ | refine W_pickf rfl rfl rfl ?_
 refine W_move rfl rfl ?_
 refine W_gyes rfl rfl ?_
 refine W_move rfl rfl ?_
 refine W_gyes rfl rfl ?_
 refine W_move rfl rfl ?_
 refine W_gyes rfl rfl ?_
 refine W_nilCheck rfl rfl ?_
 refine W_gyes rfl rfl ?_
 refine W_fieldAddr rfl fld400_2 zd rfl ?_
 refine W_gyes rfl rfl ?_
 refine W_load (v := .int .i64 ((l.length : Nat) : Int)) rfl ty3 rfl (Cell.own (b := rb) hm rfl) rfl ?_
 refine W_gyes rfl rfl ?_
 refine W_bin rfl rfl b_geq rfl ?_
 rw [decide_eq_false (by omega)]
 first | refine W_pickt rfl rfl rfl ?_ | refine W_pickf rfl rfl rfl ?_
 refine W_nil ?_
 refine W_condF rfl rfl ?_
 refine W_skip ?_
 refine W_quietsr zk zK ?_
 refine WQ_x (X_move rfl) rfl ?_
 refine WQ_x (X_nilCheck rfl) rfl ?_
 refine WQ_x (X_fieldAddr rfl fld400_0 zd) rfl ?_
 refine WQ_x (X_load (v := .slice (some ⟨b, 0, none⟩) R R) rfl ty55 rfl (Cell.own (b := rb) hm rfl)) rfl ?_
 refine WQ_x (X_move rfl) rfl ?_
 refine WQ_x (X_move rfl) rfl ?_
 refine WQ_callq (.cons rfl (.cons rfl .nil)) Tryz.call251 rfl (place_q (i := i) hm hI.pos hI.room hI.head zO) ?_
 refine WQ_x (X_indexAddr (j := (h + i) % R) rfl rfl ty55 ty3 (by first | rfl | omega) (by first | decide | omega | simp) rfl) rfl ?_
 refine WQ_x (X_load (v := .int .i64 x) rfl ty3 rfl (by rw [Nat.mul_one]; exact Cell.own (b := b) hb (by rw [Nat.zero_add, List.getElem?_map, hbx]; rfl))) rfl ?_
 refine WQ_x (X_assign rfl) rfl ?_
 refine WQ_x (X_assign rfl) rfl ?_
 refine WQ_nil ?_
 refine W_ret2m (H2 := H) Tryz.results183 rfl rfl (.nil _) zH ?_
 exact ⟨rfl, rfl⟩
theorem rAt_q {w0 : World} {H : Heap} {R rb b h : Nat} {l buf : List Int} (hI : RingI R l buf h) (hm : (rb, .cells 400 3 [.slice (some ⟨b, 0, none⟩) R R, .int .i64 ((h : Nat) : Int), .int .i64 ((l.length : Nat) : Int)]) ∈ H) (hb : (b, .cells 3 (R * 1) ((buf).map (Value.int .i64))) ∈ H) {z : Int} : PureAt Tryz.prog w0 H 183 [.pointer (some ⟨rb, 0, none⟩), .int .i64 z] (atV l z) := by
 by_cases h0 : z < 0
 ·exact rAt_lo hI hm hb h0
 ·by_cases h1 : (l.length : Int) ≤ z
  ·exact rAt_hi hI hm hb h1
  ·obtain ⟨i, rfl⟩ : ∃ i : Nat, z = (i : Int) := ⟨z.toNat, by omega⟩
   obtain ⟨x, hx⟩ : ∃ x, l[i]? = some x := ⟨_, List.getElem?_eq_getElem zO⟩
   rw [atV_in hx]
   exact rAt_in hI hm hb hx
theorem rAt_nil {z : Int} : Pure Tryz.prog (fun _ => True) 183 [.pointer none, .int .i64 z] (.tuple #[.int .i64 0, .bool false]) := by
 intro w0 H hT
 refine L_enter Tryz.func183 rfl Tryz.ntmps183 rfl rfl ?_
 refine W_sr ?_
 refine W_assign rfl rfl ?_
 refine W_assign rfl rfl ?_
 refine W_nil (W_seq (W_sr ?_))
 refine W_move rfl rfl ?_
 refine W_x (X_ptrNil rfl rfl ty303) (fun _ h => by cases h) rfl ?_
 refine W_move rfl rfl ?_
 refine W_gno rfl rfl rfl ?_
 refine W_gno rfl rfl rfl ?_
 first | refine W_pickt rfl rfl rfl ?_ | refine W_pickf rfl rfl rfl ?_
 refine W_move rfl rfl ?_
 refine W_gno rfl rfl rfl ?_
 refine W_gno rfl rfl rfl ?_
 refine W_gno rfl rfl rfl ?_
 refine W_gno rfl rfl rfl ?_
 refine W_gno rfl rfl rfl ?_
 refine W_gno rfl rfl rfl ?_
 first | refine W_pickt rfl rfl rfl ?_ | refine W_pickf rfl rfl rfl ?_
 refine W_nil ?_
 refine W_condT rfl rfl ?_
 refine W_sr ?_
 refine W_assign rfl rfl ?_
 refine W_nil (W_sr ?_)
 refine W_move rfl rfl ?_
 refine W_assign rfl rfl ?_
 refine W_assign rfl rfl ?_
 refine W_nil ?_
 refine W_ret2m (H2 := H) Tryz.results183 rfl rfl (.nil _) zH ?_
 exact ⟨rfl, rfl⟩
theorem RingI.start {R : Nat} (h0 : 0 < R) (h1 : R ≤ 256) : RingI R [] (List.replicate R 0) 0 :=
 ⟨h0, h1, List.length_replicate, h0, Nat.zero_le _, fun i x h => by simp at h⟩
theorem rNew_L {w0 : World} {H : Heap} {R : Nat} (h0 : 0 < R) (h1 : R ≤ 256)  : LCalls Tryz.prog w0 248 #[.int .i64 (R : Int)] (H) (fun v H' => ∃ rb HB, v = .tuple #[.pointer (some ⟨rb, 0, none⟩), .int .i64 0] ∧ RingH R rb [] HB ∧ H' = HB ++ H) := by
 refine L_enter (l := [.int .i64 (R : Int)]) Tryz.func248 rfl Tryz.ntmps248 rfl rfl ?_
 refine W_sr ?_
 refine W_assign rfl rfl ?_
 refine W_assign rfl rfl ?_
 refine W_nil (W_seq (W_sr ?_))
 refine W_move rfl rfl ?_
 refine W_bin rfl rfl b_lss rfl ?_
 refine W_move rfl rfl ?_
 apply W_or
 iterate 4 exact rfl
 case h1 =>
  intro hg2
  refine W_gyes rfl rfl ?_
  refine W_move rfl rfl ?_
  refine W_gyes rfl rfl ?_
  refine W_bin rfl rfl b_gtr rfl ?_
  exact W_met rfl zR
 refine W_nil ?_
 refine W_condF rfl (by simp; omega) ?_
 refine W_skip (W_sr ?_)
 refine W_move rfl rfl ?_
 refine W_makeSlice (ln := R) (cp := R) (l := (List.replicate R (0 : Int)).map (Value.int .i64)) rfl rfl ty55 ty3 rfl rfl (Nat.le_refl _) (by omega) (by simp only [maxLen]; omega) (by rw [Nat.mul_one]; simp [toList_madeCells_one, Value.cells]) rfl (fun b11 => ?_)
 refine W_build (l := [.slice (some ⟨b11, 0, none⟩) R R, .int .i64 0, .int .i64 0]) ty400 pl400 (.cons rfl rfl rfl rfl rfl .nil) rfl rfl rfl ?_
 refine W_box (l := [.slice (some ⟨b11, 0, none⟩) R R, .int .i64 0, .int .i64 0]) rfl rfl rfl (fun b13 => ?_)
 refine W_assign rfl rfl ?_
 refine W_assign rfl rfl ?_
 refine W_nil ?_
 refine W_ret2m (H2 := [(b13, .cells 400 3 [.slice (some ⟨b11, 0, none⟩) R R, .int .i64 0, .int .i64 0]), (b11, .cells 3 (R * 1) ((List.replicate R (0 : Int)).map (Value.int .i64)))] ++ H) Tryz.results248 rfl rfl (.nil _) zH ?_
 exact ⟨b13, _, rfl, .mk (RingI.start h0 h1), rfl⟩
structure Tm where
 id : Int
 s : Spot
 turn : Nat
def Tm.key (t : Tm) : Nat := t.s.lv * 64 + t.s.slot
def idsAt (L : List Tm) (k : Nat) : List Int := (L.filter (fun t => decide (t.key = k))).map (·.id)
structure WhIs (now : Nat) (L : List Tm) (sl : List Value) (XS : List Heap) (bs : List Nat) (l : Ents Int) (c turn : Nat) : Prop where
 row : RowOk sl bs
 xs : XS.length = 512
 own : ∀ k, k < 512 → ∃ v X, sl[k]? = some v ∧ XS[k]? = some X ∧ OwnS 3 1 v (idsAt L k).length ((idsAt L k).map (Value.int .i64)) X
 busy : ∀ n, n < 8 → ∃ z, bs[n]? = some z ∧ z < 18446744073709551616 ∧ ∀ s, s < 64 → (z.testBit s = true ↔ idsAt L (n * 64 + s) ≠ [])
 map : MapOk l c
 keys : (l.map (·.1)).Perm (L.map (·.id))
 val : ∀ p ∈ l, ∃ t ∈ L, t.id = p.1 ∧ p.2.1 = .agg (t.s.v ++ [Value.int .i64 ((t.turn : Nat) : Int)]).toArray
 nodup : (L.map (·.id)).Nodup
 turns : L.Pairwise (fun a b => a.turn < b.turn)
 last : ∀ t ∈ L, t.turn ≤ turn
 range : ∀ t ∈ L, 0 ≤ t.id ∧ t.id < 256
 spot : ∀ t ∈ L, t.s.lv < 8 ∧ t.s.slot < 64
 time : ∀ t ∈ L, ∃ num, t.s.slot = num % 64 ∧ t.s.due = tickT num t.s.lv ∧ now / 8 ^ t.s.lv < num ∧ num ≤ now / 8 ^ t.s.lv + 64 ∧ num * 8 ^ t.s.lv < 18446744073709551615 + 8 ^ t.s.lv
theorem WhIs.new {now : Nat} : WhIs now [] sl0 (List.replicate 512 []) bs0 [] 0 0 where
 row := ok0
 xs := List.length_replicate
 own k hk := ⟨_, _, by unfold sl0; rw [List.getElem?_replicate, if_pos hk], by rw [List.getElem?_replicate, if_pos hk], OwnS.nil⟩
 busy n hn := ⟨0, by unfold bs0; rw [List.getElem?_replicate, if_pos hn], by decide, fun s _ => by simp [idsAt]⟩
 map := MapOk.nil 0
 keys := .nil
 val := fun _ h => by cases h
 nodup := List.nodup_nil
 turns := .nil
 last := fun _ h => by cases h
 range := fun _ h => by cases h
 spot := fun _ h => by cases h
 time := fun _ h => by cases h
inductive WheelH (bw now : Nat) (L : List Tm) (turn : Nat) : Heap → Prop
 | mk {bm c : Nat} {sl : List Value} {XS : List Heap} {bs : List Nat} {l : Ents Int} (h : WhIs now L sl XS bs l c turn) : WheelH bw now L turn ((bw, .cells 409 523 (whRow now sl bs bm turn)) :: (bm, .obj (mapO (Value.int .i64) l c)) :: XS.flatten)
def quOf (Q : List (Int × Int)) (k : Int) : List Int := (Q.filter (fun p => decide (p.2 = k))).map (·.1)
structure QOk (n : Nat) (Q : List (Int × Int)) : Prop where
 ids : (Q.map (·.1)).Nodup
 rng : ∀ p ∈ Q, (0 ≤ p.1 ∧ p.1 < 256) ∧ 0 ≤ p.2 ∧ p.2 < (n : Int)
structure RunsIs (rn of_ : List Int) (Rs : List (Int × Int)) : Prop where
 len1 : rn.length = 256
 len2 : of_.length = 32
 b1 : ∀ x ∈ rn, 0 ≤ x ∧ x ≤ 32
 b2 : ∀ x ∈ of_, 0 ≤ x ∧ x ≤ 256
 r1 : ∀ (i c : Nat), (rn[i]? = some ((c : Int) + 1) ↔ ((i : Int), (c : Int)) ∈ Rs)
 r2 : ∀ (i c : Nat), (of_[c]? = some ((i : Int) + 1) ↔ ((i : Int), (c : Int)) ∈ Rs)
 rng : ∀ p ∈ Rs, (0 ≤ p.1 ∧ p.1 < 256) ∧ 0 ≤ p.2 ∧ p.2 < 32
 nd : Rs.Nodup
def peRow (v : Value) (rn of_ : List Int) : List Value := v :: (rn.map (Value.int .i64) ++ of_.map (Value.int .i64))
abbrev rbP (rb : Nat) : Value := .pointer (some ⟨rb, 0, none⟩)
inductive PendH (pb n : Nat) (Q Rs : List (Int × Int)) : Heap → Prop
 | mk {v : Value} {XQ : Heap} {XS : List Heap} {rbs : List Nat} {rn of_ : List Int} (hv : OwnS 303 1 v n (rbs.map rbP) XQ) (hl : XS.length = n) (hr : ∀ (k : Nat) rb X, rbs[k]? = some rb → XS[k]? = some X → RingH 256 rb (quOf Q (k : Int)) X) (hrun : RunsIs rn of_ Rs) (hq : QOk n Q) : PendH pb n Q Rs ((pb, .cells 386 289 (peRow v rn of_)) :: (XQ ++ XS.flatten))
theorem RunsIs.idn {rn of_ : List Int} {Rs : List (Int × Int)} (h : RunsIs rn of_ Rs) {p q : Int × Int} (hp : p ∈ Rs) (hq : q ∈ Rs) (e : p.1 = q.1 ∨ p.2 = q.2) : p = q := by
 obtain ⟨i, a⟩ := p
 obtain ⟨j, b⟩ := q
 have h1 := h.rng _ hp
 have h2 := h.rng _ hq
 dsimp only at h1 h2 e
 obtain ⟨i, rfl⟩ : ∃ m : Nat, i = (m : Int) := ⟨i.toNat, by omega⟩
 obtain ⟨j, rfl⟩ : ∃ m : Nat, j = (m : Int) := ⟨j.toNat, by omega⟩
 obtain ⟨a, rfl⟩ : ∃ m : Nat, a = (m : Int) := ⟨a.toNat, by omega⟩
 obtain ⟨b, rfl⟩ : ∃ m : Nat, b = (m : Int) := ⟨b.toNat, by omega⟩
 rcases e with e | e
 ·have h3 := (h.r1 i a).2 hp
  rw [show i = j by omega, (h.r1 j b).2 hq] at h3
  have := Option.some.inj h3
  rw [e, show a = b by omega]
 ·have h3 := (h.r2 i a).2 hp
  rw [show a = b by omega, (h.r2 j b).2 hq] at h3
  have := Option.some.inj h3
  rw [e, show i = j by omega]
theorem peRow_len {v : Value} {rn of_ : List Int} (h1 : rn.length = 256) (h2 : of_.length = 32) : (peRow v rn of_).length = 289 := by
 unfold peRow; simp [h1, h2]
theorem peRow_rn {v : Value} {rn of_ : List Int} {i : Nat} {x : Int} (h : rn[i]? = some x) : (peRow v rn of_)[1 + i]? = some (.int .i64 x) := by
 unfold peRow
 rw [Nat.add_comm, List.getElem?_cons_succ, List.getElem?_append_left (by rw [List.length_map]; exact (List.getElem?_eq_some_iff.1 h).1), List.getElem?_map, h]; rfl
def quV (rbs : List Nat) (cpu : Int) : Value := if 0 ≤ cpu then (match rbs[cpu.toNat]? with
 | some rb => rbP rb
 | none => .pointer none) else .pointer none
theorem quV_at {rbs : List Nat} {k rb : Nat} (h : rbs[k]? = some rb) : quV rbs (k : Int) = rbP rb := by
 unfold quV
 rw [if_pos (by omega), show ((k : Nat) : Int).toNat = k by omega, h]
theorem quV_no {rbs : List Nat} {cpu : Int} (h : cpu < 0 ∨ (rbs.length : Int) ≤ cpu) : quV rbs cpu = .pointer none := by
 unfold quV
 by_cases c : 0 ≤ cpu
 ·rw [if_pos c, List.getElem?_eq_none (by omega)]
 ·rw [if_neg c]
def inR (Rs : List (Int × Int)) (id : Int) : Option Int := (Rs.find? (fun p => decide (p.1 = id))).map (·.2)
def optV (o : Option Int) : Value := match o with
 | some x => .tuple #[.int .i64 x, .bool true]
 | none => .tuple #[.int .i64 0, .bool false]
theorem inR_some {rn of_ : List Int} {Rs : List (Int × Int)} (h : RunsIs rn of_ Rs) {id c : Int} : inR Rs id = some c ↔ (id, c) ∈ Rs := by
 unfold inR
 constructor
 ·intro e
  obtain ⟨p, hp, rfl⟩ := Option.map_eq_some_iff.1 e
  have h1 : p.1 = id := by simpa using List.find?_some hp
  rw [← h1]; exact List.mem_of_find?_eq_some hp
 ·intro hm
  cases hf : Rs.find? (fun p => decide (p.1 = id)) with
  | none => exact absurd (List.find?_eq_none.1 hf _ hm) (by simp)
  | some p =>
   have h1 : p.1 = id := by simpa using List.find?_some hf
   have h2 := h.idn (List.mem_of_find?_eq_some hf) hm (.inl h1)
   rw [h2]; rfl
theorem queue_no {w0 : World} {H : Heap} {pb n cap : Nat} {ad : Option Addr} {rbs : List Nat} {rn of_ : List Int} (hm : (pb, .cells 386 289 (peRow (.slice ad n cap) rn of_)) ∈ H) (hrow : Holds w0 H ad (rbs.map rbP)) (hl : rbs.length = n) (hn : n ≤ 64) {cpu : Int} (hc : cpu < 0 ∨ (n : Int) ≤ cpu)  : PureAt Tryz.prog w0 H 182 [.pointer (some ⟨pb, 0, none⟩), .int .i64 cpu] (quV rbs cpu) := by
 refine L_enter Tryz.func182 rfl Tryz.ntmps182 rfl rfl ?_
 refine W_sr ?_
 refine W_assign rfl rfl ?_
 refine W_nil (W_seq (W_sr ?_))
 refine W_move rfl rfl ?_
 refine W_x (X_ptrNil rfl rfl ty215) (fun _ h => by cases h) rfl ?_
 refine W_move rfl rfl ?_
 apply W_or
 iterate 4 exact rfl
 case h1 =>
  intro hg2
  refine W_gyes rfl rfl ?_
  refine W_move rfl rfl ?_
  refine W_gyes rfl rfl ?_
  refine W_bin rfl rfl b_lss rfl ?_
  exact W_met rfl zR
 refine W_move rfl rfl ?_
 apply W_or
 iterate 4 exact rfl
 case h1 =>
  intro hg6
  refine W_gyes rfl rfl ?_
  refine W_move rfl rfl ?_
  refine W_gyes rfl rfl ?_
  refine W_move rfl rfl ?_
  refine W_gyes rfl rfl ?_
  refine W_nilCheck rfl rfl ?_
  refine W_gyes rfl rfl ?_
  refine W_fieldAddr rfl fld386_0 zd rfl ?_
  refine W_gyes rfl rfl ?_
  refine W_load (v := .slice ad n cap) rfl ty383 rfl (Cell.own (b := pb) hm rfl) rfl ?_
  refine W_gyes rfl rfl ?_
  refine W_len rfl ty383 rfl rfl ?_
  refine W_gyes rfl rfl ?_
  refine W_bin rfl rfl b_geq rfl ?_
  exact W_met rfl zR
 refine W_nil ?_
 refine W_condT rfl (by simp; omega) ?_
 refine W_sr ?_
 refine W_assign rfl rfl ?_
 refine W_nil ?_
 refine W_ret1m (H2 := H) Tryz.results182 rfl (.nil _) zH ?_
 exact ⟨(quV_no zO).symm, rfl⟩
theorem queue_at {w0 : World} {H : Heap} {pb n cap : Nat} {ad : Option Addr} {rbs : List Nat} {rn of_ : List Int} (hm : (pb, .cells 386 289 (peRow (.slice ad n cap) rn of_)) ∈ H) (hrow : Holds w0 H ad (rbs.map rbP)) (hl : rbs.length = n) (hn : n ≤ 64) {k rb : Nat} (hk : rbs[k]? = some rb)  : PureAt Tryz.prog w0 H 182 [.pointer (some ⟨pb, 0, none⟩), .int .i64 (k : Int)] (rbP rb) := by
 have hkl := (List.getElem?_eq_some_iff.1 hk).1
 obtain ⟨q0, p0, rfl, hc⟩ := hrow.at (i := k) (v := rbP rb) (by rw [List.getElem?_map, hk]; rfl)
 refine L_enter Tryz.func182 rfl Tryz.ntmps182 rfl rfl ?_
 refine W_sr ?_
 refine W_assign rfl rfl ?_
 refine W_nil (W_seq (W_sr ?_))
 refine W_move rfl rfl ?_
 refine W_x (X_ptrNil rfl rfl ty215) (fun _ h => by cases h) rfl ?_
 refine W_move rfl rfl ?_
 apply W_or
 iterate 4 exact rfl
 case h1 =>
  intro hg2
  refine W_gyes rfl rfl ?_
  refine W_move rfl rfl ?_
  refine W_gyes rfl rfl ?_
  refine W_bin rfl rfl b_lss rfl ?_
  exact W_met rfl zR
 refine W_move rfl rfl ?_
 apply W_or
 iterate 4 exact rfl
 case h1 =>
  intro hg6
  refine W_gyes rfl rfl ?_
  refine W_move rfl rfl ?_
  refine W_gyes rfl rfl ?_
  refine W_move rfl rfl ?_
  refine W_gyes rfl rfl ?_
  refine W_nilCheck rfl rfl ?_
  refine W_gyes rfl rfl ?_
  refine W_fieldAddr rfl fld386_0 zd rfl ?_
  refine W_gyes rfl rfl ?_
  refine W_load (v := .slice (some ⟨q0, p0, none⟩) n cap) rfl ty383 rfl (Cell.own (b := pb) hm rfl) rfl ?_
  refine W_gyes rfl rfl ?_
  refine W_len rfl ty383 rfl rfl ?_
  refine W_gyes rfl rfl ?_
  refine W_bin rfl rfl b_geq rfl ?_
  exact W_met rfl zR
 refine W_nil ?_
 refine W_condF rfl (by simp; omega) ?_
 refine W_skip (W_sr ?_)
 refine W_move rfl rfl ?_
 refine W_nilCheck rfl rfl ?_
 refine W_fieldAddr rfl fld386_0 zd rfl ?_
 refine W_load (v := .slice (some ⟨q0, p0, none⟩) n cap) rfl ty383 rfl (Cell.own (b := pb) hm rfl) rfl ?_
 refine W_move rfl rfl ?_
 refine W_indexAddr (j := k) rfl rfl ty383 ty303 (by first | rfl | omega) (by first | decide | omega | simp) rfl rfl ?_
 refine W_load (v := rbP rb) rfl ty303 rfl (by rw [Nat.mul_one]; exact hc) rfl ?_
 refine W_assign rfl rfl ?_
 refine W_nil ?_
 refine W_ret1m (H2 := H) Tryz.results182 rfl (.nil _) zH ?_
 exact ⟨rfl, rfl⟩
theorem queue_q {w0 : World} {H : Heap} {pb n cap : Nat} {ad : Option Addr} {rbs : List Nat} {rn of_ : List Int} (hm : (pb, .cells 386 289 (peRow (.slice ad n cap) rn of_)) ∈ H) (hrow : Holds w0 H ad (rbs.map rbP)) (hl : rbs.length = n) (hn : n ≤ 64) {cpu : Int} : PureAt Tryz.prog w0 H 182 [.pointer (some ⟨pb, 0, none⟩), .int .i64 cpu] (quV rbs cpu) := by
 by_cases h : cpu < 0 ∨ (n : Int) ≤ cpu
 ·exact queue_no hm hrow hl hn h
 ·obtain ⟨k, rfl⟩ : ∃ k : Nat, cpu = (k : Int) := ⟨cpu.toNat, by omega⟩
  obtain ⟨rb, hk⟩ : ∃ rb, rbs[k]? = some rb := ⟨_, List.getElem?_eq_getElem zO⟩
  rw [quV_at hk]
  exact queue_at hm hrow hl hn hk
theorem thing_pure {id : Int} : Pure Tryz.prog (fun _ => True) 252 [.int .i64 id] (.bool (decide (0 ≤ id) && decide (id < 256))) := by
 intro w0 H hT
 refine L_enter Tryz.func252 rfl Tryz.ntmps252 rfl rfl ?_
 refine W_sr ?_
 refine W_assign rfl rfl ?_
 refine W_nil (W_sr ?_)
 refine W_move rfl rfl ?_
 refine W_bin rfl rfl b_geq rfl ?_
 refine W_move rfl rfl ?_
 apply W_and
 iterate 4 exact rfl
 case h1 =>
  intro hg2
  refine W_gyes rfl rfl ?_
  refine W_move rfl rfl ?_
  refine W_gyes rfl rfl ?_
  refine W_bin rfl rfl b_lss rfl ?_
  exact W_met rfl zR
 refine W_assign rfl rfl ?_
 refine W_nil ?_
 refine W_ret1m (H2 := H) Tryz.results252 rfl (.nil _) zH ?_
 exact ⟨rfl, rfl⟩
theorem inR_none {rn of_ : List Int} {Rs : List (Int × Int)} (h : RunsIs rn of_ Rs) {id : Int} (hi : ¬ (0 ≤ id ∧ id < 256)) : inR Rs id = none := by
 cases e : inR Rs id with
 | none => rfl
 | some c => exact absurd (h.rng _ ((inR_some h).1 e)).1 hi
theorem inR_at {rn of_ : List Int} {Rs : List (Int × Int)} (h : RunsIs rn of_ Rs) {i : Nat} {x : Int} (hx : rn[i]? = some x) : inR Rs (i : Int) = if x = 0 then none else some (x - 1) := by
 have hb := h.b1 x (List.mem_of_getElem? hx)
 by_cases c : x = 0
 ·rw [if_pos c]
  cases e : inR Rs (i : Int) with
  | none => rfl
  | some k =>
   have h1 := (inR_some h).1 e
   have h2 := h.rng _ h1
   obtain ⟨k, rfl⟩ : ∃ m : Nat, k = (m : Int) := ⟨k.toNat, by have := h2.2.1; dsimp only at this; omega⟩
   have h3 := (h.r1 i k).2 h1
   rw [hx] at h3
   have := Option.some.inj h3
   omega
 ·rw [if_neg c, inR_some h]
  obtain ⟨k, hk⟩ : ∃ m : Nat, x - 1 = (m : Int) := ⟨(x - 1).toNat, by omega⟩
  rw [hk]
  exact (h.r1 i k).1 (by rw [hx]; congr 1; omega)
theorem Runs_no {w0 : World} {H : Heap} {pb : Nat} {v : Value} {rn of_ : List Int} {Rs : List (Int × Int)} (hm : (pb, .cells 386 289 (peRow v rn of_)) ∈ H) (hR : RunsIs rn of_ Rs) {id : Int} (hi : ¬ (0 ≤ id ∧ id < 256))  : PureAt Tryz.prog w0 H 184 [.pointer (some ⟨pb, 0, none⟩), .int .i64 id] (optV (inR Rs id)) := by
 refine L_enter Tryz.func184 rfl Tryz.ntmps184 rfl rfl ?_
 refine W_sr ?_
 refine W_assign rfl rfl ?_
 refine W_assign rfl rfl ?_
 refine W_nil (W_seq (W_sr ?_))
 refine W_move rfl rfl ?_
 refine W_x (X_ptrNil rfl rfl ty215) (fun _ h => by cases h) rfl ?_
 refine W_move rfl rfl ?_
 refine W_gyes rfl rfl ?_
 refine W_move rfl rfl ?_
 refine W_gyes rfl rfl ?_
 refine W_callp (.cons rfl .nil) Tryz.call252 rfl (T := fun _ => True) trivial (thing_pure (id := id)) ?_
 rw [show (decide (0 ≤ id) && decide (id < 256)) = false by simp; omega]
 refine W_gyes rfl rfl ?_
 refine W_not rfl rfl ?_
 first | refine W_pickt rfl rfl rfl ?_ | refine W_pickf rfl rfl rfl ?_
 refine W_move rfl rfl ?_
 refine W_gno rfl rfl rfl ?_
 refine W_gno rfl rfl rfl ?_
 refine W_gno rfl rfl rfl ?_
 refine W_gno rfl rfl rfl ?_
 refine W_gno rfl rfl rfl ?_
 refine W_gno rfl rfl rfl ?_
 refine W_gno rfl rfl rfl ?_
 first | refine W_pickt rfl rfl rfl ?_ | refine W_pickf rfl rfl rfl ?_
 refine W_nil ?_
 refine W_condT rfl rfl ?_
 refine W_sr ?_
 refine W_assign rfl rfl ?_
 refine W_assign rfl rfl ?_
 refine W_nil ?_
 refine W_ret2m (H2 := H) Tryz.results184 rfl rfl (.nil _) zH ?_
 rw [inR_none hR hi]
 exact ⟨rfl, rfl⟩
theorem Runs_in {w0 : World} {H : Heap} {pb : Nat} {v : Value} {rn of_ : List Int} {Rs : List (Int × Int)} (hm : (pb, .cells 386 289 (peRow v rn of_)) ∈ H) (hR : RunsIs rn of_ Rs) {i : Nat} (hi : i < 256)  : PureAt Tryz.prog w0 H 184 [.pointer (some ⟨pb, 0, none⟩), .int .i64 (i : Int)] (optV (inR Rs (i : Int))) := by
 obtain ⟨x, hx⟩ : ∃ x, rn[i]? = some x := ⟨_, List.getElem?_eq_getElem (by rw [hR.len1]; exact hi)⟩
 have hb := hR.b1 x (List.mem_of_getElem? hx)
 refine L_enter Tryz.func184 rfl Tryz.ntmps184 rfl rfl ?_
 refine W_sr ?_
 refine W_assign rfl rfl ?_
 refine W_assign rfl rfl ?_
 refine W_nil (W_seq (W_sr ?_))
 refine W_move rfl rfl ?_
 refine W_x (X_ptrNil rfl rfl ty215) (fun _ h => by cases h) rfl ?_
 refine W_move rfl rfl ?_
 refine W_gyes rfl rfl ?_
 refine W_move rfl rfl ?_
 refine W_gyes rfl rfl ?_
 refine W_callp (.cons rfl .nil) Tryz.call252 rfl (T := fun _ => True) trivial (thing_pure (id := (i : Int))) ?_
 rw [show (decide (0 ≤ (i : Int)) && decide ((i : Int) < 256)) = true by simp; omega]
 refine W_gyes rfl rfl ?_
 refine W_not rfl rfl ?_
 first | refine W_pickt rfl rfl rfl ?_ | refine W_pickf rfl rfl rfl ?_
 refine W_move rfl rfl ?_
 refine W_gyes rfl rfl ?_
 refine W_move rfl rfl ?_
 refine W_gyes rfl rfl ?_
 refine W_move rfl rfl ?_
 refine W_gyes rfl rfl ?_
 refine W_nilCheck rfl rfl ?_
 refine W_gyes rfl rfl ?_
 refine W_fieldAddr rfl fld386_1 zd rfl ?_
 refine W_gyes rfl rfl ?_
 refine W_indexAddrA (j := i) rfl rfl ty384 ty3 (by first | rfl | omega) (by first | decide | omega | simp) rfl rfl ?_
 refine W_gyes rfl rfl ?_
 refine W_load (v := .int .i64 x) rfl ty3 rfl (Cell.own (b := pb) hm (by simpa using peRow_rn hx)) rfl ?_
 refine W_gyes rfl rfl ?_
 refine W_bin rfl rfl b_eql rfl ?_
 first | refine W_pickt rfl rfl rfl ?_ | refine W_pickf rfl rfl rfl ?_
 refine W_nil ?_
 refine W_condPS (p := x = 0) rfl (by simp) (fun q0 => ?_) (fun q0 => ?_)
 ·skip
  refine W_sr ?_
  refine W_assign rfl rfl ?_
  refine W_assign rfl rfl ?_
  refine W_nil ?_
  refine W_ret2m (H2 := H) Tryz.results184 rfl rfl (.nil _) zH ?_
  rw [inR_at hR hx, if_pos q0]
  exact ⟨rfl, rfl⟩
 ·skip
  refine W_skip (W_sr ?_)
  refine W_move rfl rfl ?_
  refine W_move rfl rfl ?_
  refine W_nilCheck rfl rfl ?_
  refine W_fieldAddr rfl fld386_1 zd rfl ?_
  refine W_indexAddrA (j := i) rfl rfl ty384 ty3 (by first | rfl | omega) (by first | decide | omega | simp) rfl rfl ?_
  refine W_load (v := .int .i64 x) rfl ty3 rfl (Cell.own (b := pb) hm (by simpa using peRow_rn hx)) rfl ?_
  refine W_bin rfl rfl (b_sub (m := x - 1) (by rw [i64w (by omega)])) rfl ?_
  refine W_assign rfl rfl ?_
  refine W_assign rfl rfl ?_
  refine W_nil ?_
  refine W_ret2m (H2 := H) Tryz.results184 rfl rfl (.nil _) zH ?_
  rw [inR_at hR hx, if_neg q0]
  exact ⟨rfl, rfl⟩
theorem Runs_q {w0 : World} {H : Heap} {pb : Nat} {v : Value} {rn of_ : List Int} {Rs : List (Int × Int)} (hm : (pb, .cells 386 289 (peRow v rn of_)) ∈ H) (hR : RunsIs rn of_ Rs) {id : Int} : PureAt Tryz.prog w0 H 184 [.pointer (some ⟨pb, 0, none⟩), .int .i64 id] (optV (inR Rs id)) := by
 by_cases h : 0 ≤ id ∧ id < 256
 ·obtain ⟨i, rfl⟩ : ∃ k : Nat, id = (k : Int) := ⟨id.toNat, by omega⟩
  exact Runs_in hm hR zO
 ·exact Runs_no hm hR h
theorem PendH.ok {pb n : Nat} {Q Rs : List (Int × Int)} {HB : Heap} (h : PendH pb n Q Rs HB) : QOk n Q := by cases h; assumption
theorem PendH.noq {pb n : Nat} {Q Rs : List (Int × Int)} {HB : Heap} (h : PendH pb n Q Rs HB) (hn : n ≤ 64) {cpu : Int} (hc : cpu < 0 ∨ (n : Int) ≤ cpu) {w0 : World} {H : Heap} (hm : ∀ p ∈ HB, p ∈ H) : PureAt Tryz.prog w0 H 182 [.pointer (some ⟨pb, 0, none⟩), .int .i64 cpu] (.pointer none) := by
 cases h with
 | @mk v XQ XS rbs rn of_ hv hl hr hrun hq =>
  have hvl := hv.length
  rw [List.length_map, Nat.mul_one] at hvl
  obtain ⟨ad, cap, rfl, _, _, hrow⟩ := Holds.of_own (w0 := w0) (H := H) hv (fun p hp => hm p (List.mem_cons_of_mem _ (List.mem_append_left _ hp)))
  rw [← quV_no (rbs := rbs) (cpu := cpu) (by omega)]
  exact queue_q (n := n) (hm _ List.mem_cons_self) hrow zO hn
theorem PendH.runs {pb n : Nat} {Q Rs : List (Int × Int)} {HB : Heap} (h : PendH pb n Q Rs HB) : ∃ v XX rn of_, HB = (pb, .cells 386 289 (peRow v rn of_)) :: XX ∧ RunsIs rn of_ Rs ∧ ∀ rn' of' Rs', RunsIs rn' of' Rs' → PendH pb n Q Rs' ((pb, .cells 386 289 (peRow v rn' of')) :: XX) := by
 cases h with
 | @mk v XQ XS rbs rn of_ hv hl hr hrun hq => exact ⟨v, _, rn, of_, rfl, hrun, fun rn' of' Rs' h => .mk hv hl hr h hq⟩
theorem PendH.Runs_q {pb n : Nat} {Q Rs : List (Int × Int)} {HB : Heap} (h : PendH pb n Q Rs HB) {w0 : World} {H : Heap} (hm : ∀ p ∈ HB, p ∈ H) {id : Int} : PureAt Tryz.prog w0 H 184 [.pointer (some ⟨pb, 0, none⟩), .int .i64 id] (optV (inR Rs id)) := by
 obtain ⟨v, XX, rn, of_, rfl, hR, _⟩ := h.runs
 exact Go.Proofs.YtcggkokeggfdkaaGreatDoor.Runs_q (hm _ List.mem_cons_self) hR
theorem mem_quOf {Q : List (Int × Int)} {id k : Int} : id ∈ quOf Q k ↔ (id, k) ∈ Q := by
 unfold quOf
 rw [List.mem_map]
 constructor
 ·rintro ⟨p, hp, rfl⟩
  obtain ⟨h1, h2⟩ := List.mem_filter.1 hp
  rw [← of_decide_eq_true h2]; exact h1
 ·exact fun h => ⟨_, List.mem_filter.2 ⟨h, decide_eq_true rfl⟩, rfl⟩
end Go.Proofs.YtcggkokeggfdkaaGreatDoor

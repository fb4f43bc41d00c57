/-
  Own work: contracts of functions that the statement reaches, and plain facts on what they compute; each theorem says its conditions.
-/
import Derived.Test.YtcmfldfeakmdoaaDoorRows
import Derived.Test.YtcmfldfeakmdoaaDoorVbS1
import Derived.Test.YtcmfldfeakmdoaaDoorVbS2
import Derived.WalkSmall
import Derived.Test.YtcmfldfeakmdoaaDoorShelf
import Derived.IntWalk
import Derived.Test.YtcmfldfeakmdoaaDoorVbA
set_option linter.all false
set_option linter.unusedSimpArgs false
set_option linter.unusedVariables false
namespace Go.Proofs.YtcmfldfeakmdoaaDoor
open Go Go.Sl
set_option maxRecDepth 100000
theorem ty0 : Ty Tryd.prog 0 Tryd.t0.desc 1 (Go.Value.tuple #[]) 0 := ⟨by kernel_rfl, Tryd.t0, by kernel_rfl, rfl, rfl, rfl⟩
theorem ty2 : Ty Tryd.prog 2 (Go.TypeDesc.int Go.IntKind.i64) 1 (Go.Value.int Go.IntKind.i64 0) 8 := ⟨by kernel_rfl, Tryd.t2, by kernel_rfl, rfl, rfl, rfl⟩
theorem ty3 : Ty Tryd.prog 3 (Go.TypeDesc.int Go.IntKind.i64) 1 (Go.Value.int Go.IntKind.i64 0) 8 := ⟨by kernel_rfl, Tryd.t3, by kernel_rfl, rfl, rfl, rfl⟩
theorem ty4 : Ty Tryd.prog 4 Go.TypeDesc.bool 1 (Go.Value.bool false) 1 := ⟨by kernel_rfl, Tryd.t4, by kernel_rfl, rfl, rfl, rfl⟩
theorem ty5 : Ty Tryd.prog 5 (Go.TypeDesc.int Go.IntKind.u8) 1 (Go.Value.int Go.IntKind.u8 0) 1 := ⟨by kernel_rfl, Tryd.t5, by kernel_rfl, rfl, rfl, rfl⟩
theorem ty9 : Ty Tryd.prog 9 Go.TypeDesc.string 1 (Go.Value.string (ByteArray.mk #[])) 16 := ⟨by kernel_rfl, Tryd.t9, by kernel_rfl, rfl, rfl, rfl⟩
theorem ty24 : Ty Tryd.prog 24 (Go.TypeDesc.slice 59) 1 (Go.Value.slice Option.none 0 0) 24 := ⟨by kernel_rfl, Tryd.t24, by kernel_rfl, rfl, rfl, rfl⟩
theorem ty27 : Ty Tryd.prog 27 Tryd.t26.desc 2 (Go.Value.agg #[(Go.Value.slice Option.none 0 0), (Go.Value.bool false)]) 32 := ⟨by kernel_rfl, Tryd.t27, by kernel_rfl, rfl, rfl, rfl⟩
theorem ty28 : Ty Tryd.prog 28 (Go.TypeDesc.int Go.IntKind.u64) 1 (Go.Value.int Go.IntKind.u64 0) 8 := ⟨by kernel_rfl, Tryd.t28, by kernel_rfl, rfl, rfl, rfl⟩
theorem ty29 : Ty Tryd.prog 29 (Go.TypeDesc.pointer 86) 1 (Go.Value.pointer Option.none) 8 := ⟨by kernel_rfl, Tryd.t29, by kernel_rfl, rfl, rfl, rfl⟩
theorem ty30 : Ty Tryd.prog 30 (Go.TypeDesc.int Go.IntKind.i64) 1 (Go.Value.int Go.IntKind.i64 0) 8 := ⟨by kernel_rfl, Tryd.t30, by kernel_rfl, rfl, rfl, rfl⟩
theorem ty33 : Ty Tryd.prog 33 (Go.TypeDesc.slice 41) 1 (Go.Value.slice Option.none 0 0) 24 := ⟨by kernel_rfl, Tryd.t33, by kernel_rfl, rfl, rfl, rfl⟩
theorem ty41 : Ty Tryd.prog 41 Tryd.t40.desc 5 (Go.Value.agg #[(Go.Value.bool false), (Go.Value.int Go.IntKind.i64 0), (Go.Value.int Go.IntKind.i64 0), (Go.Value.int Go.IntKind.i64 0), (Go.Value.int Go.IntKind.u64 0)]) 40 := ⟨by kernel_rfl, Tryd.t41, by kernel_rfl, rfl, rfl, rfl⟩
theorem ty42 : Ty Tryd.prog 42 (Go.TypeDesc.array 5 41) 25 (Go.Value.agg #[(Go.Value.bool false), (Go.Value.int Go.IntKind.i64 0), (Go.Value.int Go.IntKind.i64 0), (Go.Value.int Go.IntKind.i64 0), (Go.Value.int Go.IntKind.u64 0), (Go.Value.bool false), (Go.Value.int Go.IntKind.i64 0), (Go.Value.int Go.IntKind.i64 0), (Go.Value.int Go.IntKind.i64 0), (Go.Value.int Go.IntKind.u64 0), (Go.Value.bool false), (Go.Value.int Go.IntKind.i64 0), (Go.Value.int Go.IntKind.i64 0), (Go.Value.int Go.IntKind.i64 0), (Go.Value.int Go.IntKind.u64 0), (Go.Value.bool false), (Go.Value.int Go.IntKind.i64 0), (Go.Value.int Go.IntKind.i64 0), (Go.Value.int Go.IntKind.i64 0), (Go.Value.int Go.IntKind.u64 0), (Go.Value.bool false), (Go.Value.int Go.IntKind.i64 0), (Go.Value.int Go.IntKind.i64 0), (Go.Value.int Go.IntKind.i64 0), (Go.Value.int Go.IntKind.u64 0)]) 200 := ⟨by kernel_rfl, Tryd.t42, by kernel_rfl, rfl, rfl, rfl⟩
theorem ty44 : Ty Tryd.prog 44 Tryd.t43.desc 34 (Go.Value.agg #[(Go.Value.int Go.IntKind.i64 0), (Go.Value.int Go.IntKind.i64 0), (Go.Value.int Go.IntKind.i64 0), (Go.Value.bool false), (Go.Value.int Go.IntKind.i64 0), (Go.Value.int Go.IntKind.i64 0), (Go.Value.int Go.IntKind.i64 0), (Go.Value.int Go.IntKind.u64 0), (Go.Value.bool false), (Go.Value.int Go.IntKind.i64 0), (Go.Value.int Go.IntKind.i64 0), (Go.Value.int Go.IntKind.i64 0), (Go.Value.int Go.IntKind.u64 0), (Go.Value.bool false), (Go.Value.int Go.IntKind.i64 0), (Go.Value.int Go.IntKind.i64 0), (Go.Value.int Go.IntKind.i64 0), (Go.Value.int Go.IntKind.u64 0), (Go.Value.bool false), (Go.Value.int Go.IntKind.i64 0), (Go.Value.int Go.IntKind.i64 0), (Go.Value.int Go.IntKind.i64 0), (Go.Value.int Go.IntKind.u64 0), (Go.Value.bool false), (Go.Value.int Go.IntKind.i64 0), (Go.Value.int Go.IntKind.i64 0), (Go.Value.int Go.IntKind.i64 0), (Go.Value.int Go.IntKind.u64 0), (Go.Value.bool false), (Go.Value.int Go.IntKind.i64 0), (Go.Value.int Go.IntKind.i64 0), (Go.Value.int Go.IntKind.i64 0), (Go.Value.int Go.IntKind.u64 0), (Go.Value.int Go.IntKind.u64 0)]) 272 := ⟨by kernel_rfl, Tryd.t44, by kernel_rfl, rfl, rfl, rfl⟩
theorem ty52 : Ty Tryd.prog 52 Tryd.t51.desc 5 (Go.Value.agg #[(Go.Value.bool false), (Go.Value.int Go.IntKind.i64 0), (Go.Value.int Go.IntKind.i64 0), (Go.Value.int Go.IntKind.i64 0), (Go.Value.int Go.IntKind.u64 0)]) 40 := ⟨by kernel_rfl, Tryd.t52, by kernel_rfl, rfl, rfl, rfl⟩
theorem ty57 : Ty Tryd.prog 57 (Go.TypeDesc.slice 5) 1 (Go.Value.slice Option.none 0 0) 24 := ⟨by kernel_rfl, Tryd.t57, by kernel_rfl, rfl, rfl, rfl⟩
theorem ty59 : Ty Tryd.prog 59 Tryd.t58.desc 5 (Go.Value.agg #[(Go.Value.int Go.IntKind.i64 0), (Go.Value.int Go.IntKind.i64 0), (Go.Value.int Go.IntKind.i64 0), (Go.Value.int Go.IntKind.i64 0), (Go.Value.int Go.IntKind.i64 0)]) 40 := ⟨by kernel_rfl, Tryd.t59, by kernel_rfl, rfl, rfl, rfl⟩
theorem ty60 : Ty Tryd.prog 60 (Go.TypeDesc.array 18 52) 90 ((Tryd.t60.zero).getD undef) 720 := ⟨by kernel_rfl, Tryd.t60, by kernel_rfl, rfl, rfl, rfl⟩
theorem ty62 : Ty Tryd.prog 62 Tryd.t61.desc 90 ((Tryd.t62.zero).getD undef) 720 := ⟨by kernel_rfl, Tryd.t62, by kernel_rfl, rfl, rfl, rfl⟩
theorem ty67 : Ty Tryd.prog 67 Tryd.t66.desc 131 ((Tryd.t67.zero).getD undef) 1056 := ⟨by kernel_rfl, Tryd.t67, by kernel_rfl, rfl, rfl, rfl⟩
theorem ty81 : Ty Tryd.prog 81 (Go.TypeDesc.pointer 101) 1 (Go.Value.pointer Option.none) 8 := ⟨by kernel_rfl, Tryd.t81, by kernel_rfl, rfl, rfl, rfl⟩
theorem ty86 : Ty Tryd.prog 86 Tryd.t85.desc 42 (Go.Value.agg #[(Go.Value.pointer Option.none), (Go.Value.slice Option.none 0 0), (Go.Value.int Go.IntKind.i64 0), (Go.Value.int Go.IntKind.i64 0), (Go.Value.bool false), (Go.Value.bool false), (Go.Value.int Go.IntKind.i64 0), (Go.Value.int Go.IntKind.i64 0), (Go.Value.int Go.IntKind.i64 0), (Go.Value.bool false), (Go.Value.int Go.IntKind.i64 0), (Go.Value.int Go.IntKind.i64 0), (Go.Value.int Go.IntKind.i64 0), (Go.Value.int Go.IntKind.u64 0), (Go.Value.bool false), (Go.Value.int Go.IntKind.i64 0), (Go.Value.int Go.IntKind.i64 0), (Go.Value.int Go.IntKind.i64 0), (Go.Value.int Go.IntKind.u64 0), (Go.Value.bool false), (Go.Value.int Go.IntKind.i64 0), (Go.Value.int Go.IntKind.i64 0), (Go.Value.int Go.IntKind.i64 0), (Go.Value.int Go.IntKind.u64 0), (Go.Value.bool false), (Go.Value.int Go.IntKind.i64 0), (Go.Value.int Go.IntKind.i64 0), (Go.Value.int Go.IntKind.i64 0), (Go.Value.int Go.IntKind.u64 0), (Go.Value.bool false), (Go.Value.int Go.IntKind.i64 0), (Go.Value.int Go.IntKind.i64 0), (Go.Value.int Go.IntKind.i64 0), (Go.Value.int Go.IntKind.u64 0), (Go.Value.bool false), (Go.Value.int Go.IntKind.i64 0), (Go.Value.int Go.IntKind.i64 0), (Go.Value.int Go.IntKind.i64 0), (Go.Value.int Go.IntKind.u64 0), (Go.Value.int Go.IntKind.u64 0), (Go.Value.int Go.IntKind.i64 0), (Go.Value.int Go.IntKind.u64 0)]) 344 := ⟨by kernel_rfl, Tryd.t86, by kernel_rfl, rfl, rfl, rfl⟩
theorem ty87 : Ty Tryd.prog 87 (Go.TypeDesc.int Go.IntKind.u64) 1 (Go.Value.int Go.IntKind.u64 0) 8 := ⟨by kernel_rfl, Tryd.t87, by kernel_rfl, rfl, rfl, rfl⟩
theorem ty89 : Ty Tryd.prog 89 Tryd.t89.desc 1 Go.Value.nilFunc 8 := ⟨by kernel_rfl, Tryd.t89, by kernel_rfl, rfl, rfl, rfl⟩
theorem ty92 : Ty Tryd.prog 92 (Go.TypeDesc.slice 89) 1 (Go.Value.slice Option.none 0 0) 24 := ⟨by kernel_rfl, Tryd.t92, by kernel_rfl, rfl, rfl, rfl⟩
theorem ty98 : Ty Tryd.prog 98 (Go.TypeDesc.array 10 41) 50 (Go.Value.agg #[(Go.Value.bool false), (Go.Value.int Go.IntKind.i64 0), (Go.Value.int Go.IntKind.i64 0), (Go.Value.int Go.IntKind.i64 0), (Go.Value.int Go.IntKind.u64 0), (Go.Value.bool false), (Go.Value.int Go.IntKind.i64 0), (Go.Value.int Go.IntKind.i64 0), (Go.Value.int Go.IntKind.i64 0), (Go.Value.int Go.IntKind.u64 0), (Go.Value.bool false), (Go.Value.int Go.IntKind.i64 0), (Go.Value.int Go.IntKind.i64 0), (Go.Value.int Go.IntKind.i64 0), (Go.Value.int Go.IntKind.u64 0), (Go.Value.bool false), (Go.Value.int Go.IntKind.i64 0), (Go.Value.int Go.IntKind.i64 0), (Go.Value.int Go.IntKind.i64 0), (Go.Value.int Go.IntKind.u64 0), (Go.Value.bool false), (Go.Value.int Go.IntKind.i64 0), (Go.Value.int Go.IntKind.i64 0), (Go.Value.int Go.IntKind.i64 0), (Go.Value.int Go.IntKind.u64 0), (Go.Value.bool false), (Go.Value.int Go.IntKind.i64 0), (Go.Value.int Go.IntKind.i64 0), (Go.Value.int Go.IntKind.i64 0), (Go.Value.int Go.IntKind.u64 0), (Go.Value.bool false), (Go.Value.int Go.IntKind.i64 0), (Go.Value.int Go.IntKind.i64 0), (Go.Value.int Go.IntKind.i64 0), (Go.Value.int Go.IntKind.u64 0), (Go.Value.bool false), (Go.Value.int Go.IntKind.i64 0), (Go.Value.int Go.IntKind.i64 0), (Go.Value.int Go.IntKind.i64 0), (Go.Value.int Go.IntKind.u64 0), (Go.Value.bool false), (Go.Value.int Go.IntKind.i64 0), (Go.Value.int Go.IntKind.i64 0), (Go.Value.int Go.IntKind.i64 0), (Go.Value.int Go.IntKind.u64 0), (Go.Value.bool false), (Go.Value.int Go.IntKind.i64 0), (Go.Value.int Go.IntKind.i64 0), (Go.Value.int Go.IntKind.i64 0), (Go.Value.int Go.IntKind.u64 0)]) 400 := ⟨by kernel_rfl, Tryd.t98, by kernel_rfl, rfl, rfl, rfl⟩
theorem ty99 : Ty Tryd.prog 99 (Go.TypeDesc.array 8 41) 40 (Go.Value.agg #[(Go.Value.bool false), (Go.Value.int Go.IntKind.i64 0), (Go.Value.int Go.IntKind.i64 0), (Go.Value.int Go.IntKind.i64 0), (Go.Value.int Go.IntKind.u64 0), (Go.Value.bool false), (Go.Value.int Go.IntKind.i64 0), (Go.Value.int Go.IntKind.i64 0), (Go.Value.int Go.IntKind.i64 0), (Go.Value.int Go.IntKind.u64 0), (Go.Value.bool false), (Go.Value.int Go.IntKind.i64 0), (Go.Value.int Go.IntKind.i64 0), (Go.Value.int Go.IntKind.i64 0), (Go.Value.int Go.IntKind.u64 0), (Go.Value.bool false), (Go.Value.int Go.IntKind.i64 0), (Go.Value.int Go.IntKind.i64 0), (Go.Value.int Go.IntKind.i64 0), (Go.Value.int Go.IntKind.u64 0), (Go.Value.bool false), (Go.Value.int Go.IntKind.i64 0), (Go.Value.int Go.IntKind.i64 0), (Go.Value.int Go.IntKind.i64 0), (Go.Value.int Go.IntKind.u64 0), (Go.Value.bool false), (Go.Value.int Go.IntKind.i64 0), (Go.Value.int Go.IntKind.i64 0), (Go.Value.int Go.IntKind.i64 0), (Go.Value.int Go.IntKind.u64 0), (Go.Value.bool false), (Go.Value.int Go.IntKind.i64 0), (Go.Value.int Go.IntKind.i64 0), (Go.Value.int Go.IntKind.i64 0), (Go.Value.int Go.IntKind.u64 0), (Go.Value.bool false), (Go.Value.int Go.IntKind.i64 0), (Go.Value.int Go.IntKind.i64 0), (Go.Value.int Go.IntKind.i64 0), (Go.Value.int Go.IntKind.u64 0)]) 320 := ⟨by kernel_rfl, Tryd.t99, by kernel_rfl, rfl, rfl, rfl⟩
theorem ty101 : Ty Tryd.prog 101 Tryd.t100.desc 90 ((Tryd.t101.zero).getD undef) 720 := ⟨by kernel_rfl, Tryd.t101, by kernel_rfl, rfl, rfl, rfl⟩
theorem ty104 : Ty Tryd.prog 104 Tryd.t103.desc 4 (Go.Value.agg #[(Go.Value.bool false), (Go.Value.bool false), (Go.Value.bool false), (Go.Value.bool false)]) 4 := ⟨by kernel_rfl, Tryd.t104, by kernel_rfl, rfl, rfl, rfl⟩
theorem ty113 : Ty Tryd.prog 113 (Go.TypeDesc.slice 3) 1 (Go.Value.slice Option.none 0 0) 24 := ⟨by kernel_rfl, Tryd.t113, by kernel_rfl, rfl, rfl, rfl⟩
theorem ty123 : Ty Tryd.prog 123 (Go.TypeDesc.slice 9) 1 (Go.Value.slice Option.none 0 0) 24 := ⟨by kernel_rfl, Tryd.t123, by kernel_rfl, rfl, rfl, rfl⟩
theorem ty126 : Ty Tryd.prog 126 (Go.TypeDesc.int Go.IntKind.u64) 1 (Go.Value.int Go.IntKind.u64 0) 8 := ⟨by kernel_rfl, Tryd.t126, by kernel_rfl, rfl, rfl, rfl⟩
theorem fld27_0 : Fld Tryd.prog 27 0 0 1 false := ⟨_, _, (by kernel_rfl : Tryd.prog.underlying 27 = some Tryd.t26.desc), rfl, rfl, _, _, _, ty24, rfl⟩
theorem fld27_1 : Fld Tryd.prog 27 1 1 1 false := ⟨_, _, (by kernel_rfl : Tryd.prog.underlying 27 = some Tryd.t26.desc), rfl, rfl, _, _, _, ty4, rfl⟩
theorem fld41_0 : Fld Tryd.prog 41 0 0 1 false := ⟨_, _, (by kernel_rfl : Tryd.prog.underlying 41 = some Tryd.t40.desc), rfl, rfl, _, _, _, ty4, rfl⟩
theorem fld41_3 : Fld Tryd.prog 41 3 4 1 false := ⟨_, _, (by kernel_rfl : Tryd.prog.underlying 41 = some Tryd.t40.desc), rfl, rfl, _, _, _, ty28, rfl⟩
theorem fld44_0 : Fld Tryd.prog 44 0 0 1 false := ⟨_, _, (by kernel_rfl : Tryd.prog.underlying 44 = some Tryd.t43.desc), rfl, rfl, _, _, _, ty3, rfl⟩
theorem fld44_1 : Fld Tryd.prog 44 1 1 1 false := ⟨_, _, (by kernel_rfl : Tryd.prog.underlying 44 = some Tryd.t43.desc), rfl, rfl, _, _, _, ty3, rfl⟩
theorem fld52_0 : Fld Tryd.prog 52 0 0 1 false := ⟨_, _, (by kernel_rfl : Tryd.prog.underlying 52 = some Tryd.t51.desc), rfl, rfl, _, _, _, ty4, rfl⟩
theorem fld52_4 : Fld Tryd.prog 52 4 4 1 false := ⟨_, _, (by kernel_rfl : Tryd.prog.underlying 52 = some Tryd.t51.desc), rfl, rfl, _, _, _, ty28, rfl⟩
theorem fld59_0 : Fld Tryd.prog 59 0 0 1 false := ⟨_, _, (by kernel_rfl : Tryd.prog.underlying 59 = some Tryd.t58.desc), rfl, rfl, _, _, _, ty3, rfl⟩
theorem fld59_1 : Fld Tryd.prog 59 1 1 1 false := ⟨_, _, (by kernel_rfl : Tryd.prog.underlying 59 = some Tryd.t58.desc), rfl, rfl, _, _, _, ty3, rfl⟩
theorem fld59_2 : Fld Tryd.prog 59 2 2 1 false := ⟨_, _, (by kernel_rfl : Tryd.prog.underlying 59 = some Tryd.t58.desc), rfl, rfl, _, _, _, ty3, rfl⟩
theorem fld59_3 : Fld Tryd.prog 59 3 3 1 false := ⟨_, _, (by kernel_rfl : Tryd.prog.underlying 59 = some Tryd.t58.desc), rfl, rfl, _, _, _, ty3, rfl⟩
theorem fld59_4 : Fld Tryd.prog 59 4 4 1 false := ⟨_, _, (by kernel_rfl : Tryd.prog.underlying 59 = some Tryd.t58.desc), rfl, rfl, _, _, _, ty3, rfl⟩
theorem fld62_0 : Fld Tryd.prog 62 0 0 90 true := ⟨_, _, (by kernel_rfl : Tryd.prog.underlying 62 = some Tryd.t61.desc), rfl, rfl, _, _, _, ty60, rfl⟩
theorem fld67_0 : Fld Tryd.prog 67 0 0 90 true := ⟨_, _, (by kernel_rfl : Tryd.prog.underlying 67 = some Tryd.t66.desc), rfl, rfl, _, _, _, ty62, rfl⟩
theorem fld86_0 : Fld Tryd.prog 86 0 0 1 false := ⟨_, _, (by kernel_rfl : Tryd.prog.underlying 86 = some Tryd.t85.desc), rfl, rfl, _, _, _, ty81, rfl⟩
theorem fld86_1 : Fld Tryd.prog 86 1 1 1 false := ⟨_, _, (by kernel_rfl : Tryd.prog.underlying 86 = some Tryd.t85.desc), rfl, rfl, _, _, _, ty24, rfl⟩
theorem fld86_2 : Fld Tryd.prog 86 2 2 1 false := ⟨_, _, (by kernel_rfl : Tryd.prog.underlying 86 = some Tryd.t85.desc), rfl, rfl, _, _, _, ty3, rfl⟩
theorem fld86_3 : Fld Tryd.prog 86 3 3 1 false := ⟨_, _, (by kernel_rfl : Tryd.prog.underlying 86 = some Tryd.t85.desc), rfl, rfl, _, _, _, ty3, rfl⟩
theorem fld86_4 : Fld Tryd.prog 86 4 4 1 false := ⟨_, _, (by kernel_rfl : Tryd.prog.underlying 86 = some Tryd.t85.desc), rfl, rfl, _, _, _, ty4, rfl⟩
theorem fld86_5 : Fld Tryd.prog 86 5 5 1 false := ⟨_, _, (by kernel_rfl : Tryd.prog.underlying 86 = some Tryd.t85.desc), rfl, rfl, _, _, _, ty4, rfl⟩
theorem fld86_6 : Fld Tryd.prog 86 6 6 34 true := ⟨_, _, (by kernel_rfl : Tryd.prog.underlying 86 = some Tryd.t85.desc), rfl, rfl, _, _, _, ty44, rfl⟩
theorem fld86_7 : Fld Tryd.prog 86 7 40 1 false := ⟨_, _, (by kernel_rfl : Tryd.prog.underlying 86 = some Tryd.t85.desc), rfl, rfl, _, _, _, ty30, rfl⟩
theorem fld86_8 : Fld Tryd.prog 86 8 41 1 false := ⟨_, _, (by kernel_rfl : Tryd.prog.underlying 86 = some Tryd.t85.desc), rfl, rfl, _, _, _, ty28, rfl⟩
theorem fld101_0 : Fld Tryd.prog 101 0 0 50 true := ⟨_, _, (by kernel_rfl : Tryd.prog.underlying 101 = some Tryd.t100.desc), rfl, rfl, _, _, _, ty98, rfl⟩
theorem fld101_1 : Fld Tryd.prog 101 1 50 40 true := ⟨_, _, (by kernel_rfl : Tryd.prog.underlying 101 = some Tryd.t100.desc), rfl, rfl, _, _, _, ty99, rfl⟩
theorem fld104_0 : Fld Tryd.prog 104 0 0 1 false := ⟨_, _, (by kernel_rfl : Tryd.prog.underlying 104 = some Tryd.t103.desc), rfl, rfl, _, _, _, ty4, rfl⟩
theorem fld104_1 : Fld Tryd.prog 104 1 1 1 false := ⟨_, _, (by kernel_rfl : Tryd.prog.underlying 104 = some Tryd.t103.desc), rfl, rfl, _, _, _, ty4, rfl⟩
theorem fld104_2 : Fld Tryd.prog 104 2 2 1 false := ⟨_, _, (by kernel_rfl : Tryd.prog.underlying 104 = some Tryd.t103.desc), rfl, rfl, _, _, _, ty4, rfl⟩
theorem fld104_3 : Fld Tryd.prog 104 3 3 1 false := ⟨_, _, (by kernel_rfl : Tryd.prog.underlying 104 = some Tryd.t103.desc), rfl, rfl, _, _, _, ty4, rfl⟩
theorem pl27 : StructPl Tryd.prog 27 [(0, 1), (1, 1)] := ⟨_, (by kernel_rfl : Tryd.prog.underlying 27 = some Tryd.t26.desc), fun _ => by kernel_rfl⟩
theorem pl41 : StructPl Tryd.prog 41 [(0, 1), (1, 1), (2, 2), (4, 1)] := ⟨_, (by kernel_rfl : Tryd.prog.underlying 41 = some Tryd.t40.desc), fun _ => by kernel_rfl⟩
theorem pl44 : StructPl Tryd.prog 44 [(0, 1), (1, 1), (2, 1), (3, 25), (28, 5), (33, 1)] := ⟨_, (by kernel_rfl : Tryd.prog.underlying 44 = some Tryd.t43.desc), fun _ => by kernel_rfl⟩
theorem pl52 : StructPl Tryd.prog 52 [(0, 1), (1, 1), (2, 1), (3, 1), (4, 1)] := ⟨_, (by kernel_rfl : Tryd.prog.underlying 52 = some Tryd.t51.desc), fun _ => by kernel_rfl⟩
theorem pl59 : StructPl Tryd.prog 59 [(0, 1), (1, 1), (2, 1), (3, 1), (4, 1)] := ⟨_, (by kernel_rfl : Tryd.prog.underlying 59 = some Tryd.t58.desc), fun _ => by kernel_rfl⟩
theorem pl86 : StructPl Tryd.prog 86 [(0, 1), (1, 1), (2, 1), (3, 1), (4, 1), (5, 1), (6, 34), (40, 1), (41, 1)] := ⟨_, (by kernel_rfl : Tryd.prog.underlying 86 = some Tryd.t85.desc), fun _ => by kernel_rfl⟩
theorem pl101 : StructPl Tryd.prog 101 [(0, 50), (50, 40)] := ⟨_, (by kernel_rfl : Tryd.prog.underlying 101 = some Tryd.t100.desc), fun _ => by kernel_rfl⟩
theorem pl104 : StructPl Tryd.prog 104 [(0, 1), (1, 1), (2, 1), (3, 1)] := ⟨_, (by kernel_rfl : Tryd.prog.underlying 104 = some Tryd.t103.desc), fun _ => by kernel_rfl⟩
end Go.Proofs.YtcmfldfeakmdoaaDoor
namespace Go.Proofs.YtcmfldfeakmdoaaDoor
open Go Go.Sl
attribute [local irreducible] W
structure Va where
  ref : Bool
  m : Int
  slot : Int
  gen : Int
  n : Int
deriving DecidableEq
def zeroV : Va := ⟨false, 0, 0, 0, 0⟩
def vaC (v : Va) : List Value := [.bool v.ref, .int .i64 v.m, .int .i64 v.slot, .int .i64 v.gen, .int .u64 v.n]
abbrev vaRow (l : List Va) : List Value := l.flatMap vaC
theorem va_len (v : Va) : (vaC v).length = 5 := rfl
theorem vaRow_len (l : List Va) : (vaRow l).length = l.length * 5 := flat_length va_len l
theorem va_at {l : List Va} {i : Nat} {x : Va} (h : l[i]? = some x) : ((vaRow l).drop (i * 5)).take 5 = vaC x := by
  refine List.ext_getElem? fun j => ?_
  by_cases hj : j < 5
  · rw [List.getElem?_take_of_lt hj, List.getElem?_drop]
    have hv : (vaC x)[j]? = some ((vaC x)[j]'(by rw [va_len]; exact hj)) := List.getElem?_eq_getElem _
    rw [flat_at va_len h j _ hv, hv]
  · rw [List.getElem?_eq_none (by rw [List.length_take]; omega), List.getElem?_eq_none (by rw [va_len]; omega)]
theorem va_set : ∀ {l : List Va} {i : Nat} (x : Va), i < l.length → spliceL (vaRow l) (i * 5) (vaC x) = vaRow (l.set i x)
  | [], _, _, h => by simp at h
  | y :: l, 0, x, _ => by simp [spliceL, vaRow, vaC]
  | y :: l, i + 1, x, h => by
    have ih := va_set (l := l) (i := i) x (by simpa using h)
    unfold spliceL at ih ⊢
    have e1 : vaRow (y :: l) = vaC y ++ vaRow l := rfl
    have e2 : vaRow ((y :: l).set (i + 1) x) = vaC y ++ vaRow (l.set i x) := rfl
    rw [e1, e2, ← ih, show (i + 1) * 5 = 5 + i * 5 by omega, List.take_append, List.drop_append]
    simp only [va_len]
    rw [List.take_of_length_le (by rw [va_len]; omega), show 5 + i * 5 - 5 = i * 5 by omega, List.drop_of_length_le (by rw [va_len]; omega), show 5 + i * 5 + 5 - 5 = i * 5 + 5 by omega]
    simp
set_option maxHeartbeats 1000000 in
theorem all_pure (bf : Nat) (s : Bool) : Pure Tryd.prog (fun _ => True) 75 [.pointer (some ⟨bf, 0, none⟩), .bool s] (.tuple #[.slice (some ⟨bf, if s then 50 else 0, none⟩) (if s then 8 else 10) (if s then 8 else 10), .int .i64 0]) := by
  intro w0 H hT
  refine L_enter Tryd.func75 rfl Tryd.ntmps75 rfl rfl ?_
  refine W_sr ?_
  refine W_assign rfl rfl ?_
  refine W_assign rfl rfl ?_
  refine W_nil ?_
  refine W_seq ?_
  refine W_block ?_
  refine W_sr ?_
  refine W_move rfl rfl ?_
  refine W_x (X_ptrNil rfl rfl ty81) (fun _ h => by cases h) rfl ?_
  refine W_assign rfl rfl ?_
  refine W_nil ?_
  refine W_condF rfl rfl ?_
  refine W_sr ?_
  refine W_move rfl rfl ?_
  refine W_assign rfl rfl ?_
  refine W_nil ?_
  refine W_condS rfl (fun c0 => ?_) (fun c0 => ?_)
  · skip
    refine W_sr ?_
    refine W_move rfl rfl ?_
    refine W_nilCheck rfl rfl ?_
    refine W_fieldAddr rfl fld101_1 (by decide) rfl ?_
    refine W_x (X_sliceArr rfl ty99 ty41 rfl rfl (by decide) (by decide) (by decide)) (fun _ h => by cases h) rfl ?_
    refine W_assign rfl rfl ?_
    refine W_assign rfl rfl ?_
    refine W_nil ?_
    refine W_ret2m Tryd.results75 rfl rfl (.nil _) (.refl _) ?_
    subst_vars
    exact ⟨by simp [*], rfl⟩
  · skip
    refine W_skip ?_
    refine W_blk ?_
    refine W_sr ?_
    refine W_move rfl rfl ?_
    refine W_nilCheck rfl rfl ?_
    refine W_fieldAddr rfl fld101_0 (by decide) rfl ?_
    refine W_x (X_sliceArr rfl ty98 ty41 rfl rfl (by decide) (by decide) (by decide)) (fun _ h => by cases h) rfl ?_
    refine W_assign rfl rfl ?_
    refine W_assign rfl rfl ?_
    refine W_nil ?_
    refine W_ret2m Tryd.results75 rfl rfl (.nil _) (.refl _) ?_
    subst_vars
    exact ⟨by simp [*], rfl⟩
set_option maxHeartbeats 1000000 in
theorem get1_L {w0 : World} {H : Heap} {bf bo i : Nat} {V : List Va} {x y : Va} (hx : V[i]? = some x) (hV : V.length = 18)  : LCalls Tryd.prog w0 78 #[.pointer (some ⟨bf, i * 5, none⟩), .pointer (some ⟨bo, 0, none⟩)] ((bo, .cells 41 5 (vaC y)) :: (bf, .cells 101 90 (vaRow V)) :: H) (fun _ H' => H' = (bo, .cells 41 5 (vaC x)) :: (bf, .cells 101 90 (vaRow V)) :: H) := by
  refine L_enter (l := [.pointer (some ⟨bf, i * 5, none⟩), .pointer (some ⟨bo, 0, none⟩)]) Tryd.func78 rfl Tryd.ntmps78 rfl rfl ?_
  refine W_region ?_
  refine W_move rfl rfl ?_
  refine W_nilCheck rfl rfl ?_
  have hi := (List.getElem?_eq_some_iff.1 hx).1
  refine W_loadB (vs := vaC x) rfl ty41 rfl zM (by rw [vaRow_len, Nat.ble_eq]; omega) (va_at hx) rfl ?_
  refine W_storeA rfl rfl ty41 rfl rfl zM (Nat.le_of_ble_eq_true rfl) zF zU ?_
  refine W_nil ?_
  refine W_end0m Tryd.results78 (.nil _) (.refl _) ?_
  rfl
set_option maxHeartbeats 1000000 in
theorem set1_L {w0 : World} {H : Heap} {bf bx i : Nat} {V : List Va} {x : Va} (hi : i < V.length) (hV : V.length = 18)  : LCalls Tryd.prog w0 77 #[.pointer (some ⟨bf, i * 5, none⟩), .pointer (some ⟨bx, 0, none⟩)] ((bx, .cells 41 5 (vaC x)) :: (bf, .cells 101 90 (vaRow V)) :: H) (fun _ H' => H' = (bx, .cells 41 5 (vaC x)) :: (bf, .cells 101 90 (vaRow (V.set i x))) :: H) := by
  refine L_enter (l := [.pointer (some ⟨bf, i * 5, none⟩), .pointer (some ⟨bx, 0, none⟩)]) Tryd.func77 rfl Tryd.ntmps77 rfl rfl ?_
  refine W_region ?_
  refine W_move rfl rfl ?_
  refine W_loadB (vs := vaC x) rfl ty41 rfl zM rfl rfl rfl ?_
  refine W_nilCheck rfl rfl ?_
  refine W_storeA rfl rfl ty41 rfl rfl (b := bf) zM (by rw [vaRow_len]; omega) (va_set x hi) zU ?_
  refine W_nil ?_
  refine W_end0m Tryd.results77 (.nil _) (.refl _) ?_
  rfl
set_option maxHeartbeats 1000000 in
theorem in_get {w0 : World} {H : Heap} {bf bo base len cap : Nat} {V : List Va} {y : Va} {at_ : Int} {f : Nat → Va} (hx : ∀ j, j < len → V[base + j]? = some (f j)) (hV : V.length = 18)  : LCalls Tryd.prog w0 76 #[.slice (some ⟨bf, base * 5, none⟩) len cap, .int .i64 at_, .func (.func 78) #[] #[.pointer (some ⟨bo, 0, none⟩)]] ((bo, .cells 41 5 (vaC y)) :: (bf, .cells 101 90 (vaRow V)) :: H) (fun v H' => (at_ < 0 ∨ (len : Int) ≤ at_) ∧ v = .int .i64 2 ∧ H' = (bo, .cells 41 5 (vaC y)) :: (bf, .cells 101 90 (vaRow V)) :: H ∨ (∃ j : Nat, at_ = j ∧ j < len ∧ v = .int .i64 0 ∧ H' = (bo, .cells 41 5 (vaC (f j))) :: (bf, .cells 101 90 (vaRow V)) :: H)) := by
  refine L_enter (l := [.slice (some ⟨bf, base * 5, none⟩) len cap, .int .i64 at_, .func (.func 78) #[] #[.pointer (some ⟨bo, 0, none⟩)]]) Tryd.func76 rfl Tryd.ntmps76 rfl rfl ?_
  refine W_sr ?_
  refine W_assign rfl rfl ?_
  refine W_nil ?_
  refine W_seq ?_
  refine W_sr ?_
  refine W_move rfl rfl ?_
  refine W_bin rfl rfl b_lss rfl ?_
  refine W_move rfl rfl ?_
  apply W_or
  iterate 4 exact rfl
  case h1 =>
    intro hg2
    refine W_gyes rfl rfl ?_
    refine W_move rfl rfl ?_
    refine W_gyes rfl rfl ?_
    refine W_move rfl rfl ?_
    refine W_gyes rfl rfl ?_
    refine W_len rfl ty33 rfl rfl ?_
    refine W_gyes rfl rfl ?_
    refine W_bin rfl rfl b_geq rfl ?_
    exact W_met rfl zR
  refine W_nil ?_
  refine W_condPS (p := at_ < 0 ∨ (len : Int) ≤ at_) rfl (by simp) (fun c0 => ?_) (fun c0 => ?_)
  · skip
    refine W_sr ?_
    refine W_assign rfl rfl ?_
    refine W_nil ?_
    refine W_ret1m Tryd.results76 rfl (.nil _) (.refl _) ?_
    exact .inl ⟨c0, rfl, rfl⟩
  · skip
    refine W_skip ?_
    refine W_sr ?_
    obtain ⟨j, hj⟩ : ∃ j : Nat, at_ = (j : Int) := ⟨at_.toNat, by omega⟩
    subst hj
    refine W_move rfl rfl ?_
    refine W_move rfl rfl ?_
    refine W_move rfl rfl ?_
    refine W_indexAddr (j := j) (at_ := (base + j) * 5) rfl rfl ty33 ty41 rfl (by omega) (by rw [Nat.add_mul]) rfl ?_
    refine W_callv rfl (.cons rfl .nil) Tryd.call78 rfl (get1_L (bf := bf) (bo := bo) (y := y) (hx j (by omega)) hV) ?_
    rintro v H' rfl
    refine W_nil ?_
    refine W_sr ?_
    refine W_assign rfl rfl ?_
    refine W_nil ?_
    refine W_ret1m Tryd.results76 rfl (.nil _) (.refl _) ?_
    exact .inr ⟨j, rfl, by omega, rfl, rfl⟩
set_option maxHeartbeats 1000000 in
theorem in_set {w0 : World} {H : Heap} {bf bx base len cap : Nat} {V : List Va} {x : Va} {at_ : Int} (hb : base + len ≤ V.length) (hV : V.length = 18)  : LCalls Tryd.prog w0 76 #[.slice (some ⟨bf, base * 5, none⟩) len cap, .int .i64 at_, .func (.func 77) #[] #[.pointer (some ⟨bx, 0, none⟩)]] ((bx, .cells 41 5 (vaC x)) :: (bf, .cells 101 90 (vaRow V)) :: H) (fun v H' => (at_ < 0 ∨ (len : Int) ≤ at_) ∧ v = .int .i64 2 ∧ H' = (bx, .cells 41 5 (vaC x)) :: (bf, .cells 101 90 (vaRow V)) :: H ∨ (∃ j : Nat, at_ = j ∧ j < len ∧ v = .int .i64 0 ∧ H' = (bx, .cells 41 5 (vaC x)) :: (bf, .cells 101 90 (vaRow (V.set (base + j) x))) :: H)) := by
  refine L_enter (l := [.slice (some ⟨bf, base * 5, none⟩) len cap, .int .i64 at_, .func (.func 77) #[] #[.pointer (some ⟨bx, 0, none⟩)]]) Tryd.func76 rfl Tryd.ntmps76 rfl rfl ?_
  refine W_sr ?_
  refine W_assign rfl rfl ?_
  refine W_nil ?_
  refine W_seq ?_
  refine W_sr ?_
  refine W_move rfl rfl ?_
  refine W_bin rfl rfl b_lss rfl ?_
  refine W_move rfl rfl ?_
  apply W_or
  iterate 4 exact rfl
  case h1 =>
    intro hg2
    refine W_gyes rfl rfl ?_
    refine W_move rfl rfl ?_
    refine W_gyes rfl rfl ?_
    refine W_move rfl rfl ?_
    refine W_gyes rfl rfl ?_
    refine W_len rfl ty33 rfl rfl ?_
    refine W_gyes rfl rfl ?_
    refine W_bin rfl rfl b_geq rfl ?_
    exact W_met rfl zR
  refine W_nil ?_
  refine W_condPS (p := at_ < 0 ∨ (len : Int) ≤ at_) rfl (by simp) (fun c0 => ?_) (fun c0 => ?_)
  · skip
    refine W_sr ?_
    refine W_assign rfl rfl ?_
    refine W_nil ?_
    refine W_ret1m Tryd.results76 rfl (.nil _) (.refl _) ?_
    exact .inl ⟨c0, rfl, rfl⟩
  · skip
    refine W_skip ?_
    refine W_sr ?_
    obtain ⟨j, hj⟩ : ∃ j : Nat, at_ = (j : Int) := ⟨at_.toNat, by omega⟩
    subst hj
    refine W_move rfl rfl ?_
    refine W_move rfl rfl ?_
    refine W_move rfl rfl ?_
    refine W_indexAddr (j := j) (at_ := (base + j) * 5) rfl rfl ty33 ty41 rfl (by omega) (by rw [Nat.add_mul]) rfl ?_
    refine W_callv rfl (.cons rfl .nil) Tryd.call77 rfl (set1_L (bf := bf) (bx := bx) (x := x) (i := base + j) (by omega) hV) ?_
    rintro v H' rfl
    refine W_nil ?_
    refine W_sr ?_
    refine W_assign rfl rfl ?_
    refine W_nil ?_
    refine W_ret1m Tryd.results76 rfl (.nil _) (.refl _) ?_
    exact .inr ⟨j, rfl, by omega, rfl, rfl⟩
end Go.Proofs.YtcmfldfeakmdoaaDoor
namespace Go.Proofs.YtcmfldfeakmdoaaDoor
open Go Go.Sl
attribute [local irreducible] W
def baseS (s : Bool) : Nat := if s then 10 else 0
def lenS (s : Bool) : Nat := if s then 8 else 10
def rdV (V : List Va) (s : Bool) (at_ : Int) : Va × Int := if at_ < 0 ∨ (lenS s : Int) ≤ at_ then (zeroV, 2) else (V.getD (baseS s + at_.toNat) zeroV, 0)
def wrV (V : List Va) (s : Bool) (at_ : Int) (x : Va) : List Va × Int := if at_ < 0 ∨ (lenS s : Int) ≤ at_ then (V, 2) else (V.set (baseS s + at_.toNat) x, 0)
theorem wrV_len {V : List Va} {s : Bool} {at_ : Int} {x : Va} : (wrV V s at_ x).1.length = V.length := by
  unfold wrV; split <;> simp
theorem base_len (s : Bool) : baseS s + lenS s ≤ 18 := by cases s <;> decide
theorem all_p (bf : Nat) (s : Bool) : Pure Tryd.prog (fun _ => True) 75 [.pointer (some ⟨bf, 0, none⟩), .bool s] (.tuple #[.slice (some ⟨bf, baseS s * 5, none⟩) (lenS s) (lenS s), .int .i64 0]) := by
  have h := all_pure bf s
  cases s <;> exact h
theorem in_get2 {w0 : World} {H : Heap} {bf bo : Nat} {V : List Va} {s : Bool} {at_ : Int} (hV : V.length = 18) : LCalls Tryd.prog w0 76 #[.slice (some ⟨bf, baseS s * 5, none⟩) (lenS s) (lenS s), .int .i64 at_, .func (.func 78) #[] #[.pointer (some ⟨bo, 0, none⟩)]] ((bo, .cells 41 5 (vaC zeroV)) :: (bf, .cells 101 90 (vaRow V)) :: H) (fun v H' => v = .int .i64 (rdV V s at_).2 ∧ H' = (bo, .cells 41 5 (vaC (rdV V s at_).1)) :: (bf, .cells 101 90 (vaRow V)) :: H) := by
  have h := in_get (w0 := w0) (H := H) (bf := bf) (bo := bo) (base := baseS s) (len := lenS s) (cap := lenS s) (V := V) (y := zeroV) (at_ := at_) (f := fun j => V.getD (baseS s + j) zeroV) (fun j hj => by
    have := base_len s
    rw [List.getD_eq_getElem?_getD, List.getElem?_eq_getElem (by omega)]; rfl) hV
  refine h.mono fun v H' hr => ?_
  rcases hr with ⟨hc, rfl, rfl⟩ | ⟨j, rfl, hj, rfl, rfl⟩
  · unfold rdV; rw [if_pos hc]; exact ⟨rfl, rfl⟩
  · unfold rdV; rw [if_neg (by omega), Int.toNat_natCast]; exact ⟨rfl, rfl⟩
theorem in_set2 {w0 : World} {H : Heap} {bf bx : Nat} {V : List Va} {s : Bool} {at_ : Int} {x : Va} (hV : V.length = 18) : LCalls Tryd.prog w0 76 #[.slice (some ⟨bf, baseS s * 5, none⟩) (lenS s) (lenS s), .int .i64 at_, .func (.func 77) #[] #[.pointer (some ⟨bx, 0, none⟩)]] ((bx, .cells 41 5 (vaC x)) :: (bf, .cells 101 90 (vaRow V)) :: H) (fun v H' => v = .int .i64 (wrV V s at_ x).2 ∧ H' = (bx, .cells 41 5 (vaC x)) :: (bf, .cells 101 90 (vaRow (wrV V s at_ x).1)) :: H) := by
  have h := in_set (w0 := w0) (H := H) (bf := bf) (bx := bx) (base := baseS s) (len := lenS s) (cap := lenS s) (V := V) (x := x) (at_ := at_) (by have := base_len s; omega) hV
  refine h.mono fun v H' hr => ?_
  rcases hr with ⟨hc, rfl, rfl⟩ | ⟨j, rfl, hj, rfl, rfl⟩
  · unfold wrV; rw [if_pos hc]; exact ⟨rfl, rfl⟩
  · unfold wrV; rw [if_neg (by omega), Int.toNat_natCast]; exact ⟨rfl, rfl⟩
set_option maxHeartbeats 1000000 in
theorem get_L {w0 : World} {H : Heap} {bf : Nat} {V : List Va} {s : Bool} {at_ : Int} (hV : V.length = 18)  : LCalls Tryd.prog w0 65 #[.pointer (some ⟨bf, 0, none⟩), .bool s, .int .i64 at_] ((bf, .cells 101 90 (vaRow V)) :: H) (fun v H' => v = .tuple #[.agg (vaC (rdV V s at_).1).toArray, .int .i64 (rdV V s at_).2] ∧ H' = (bf, .cells 101 90 (vaRow V)) :: H) := by
  refine L_enter (l := [.pointer (some ⟨bf, 0, none⟩), .bool s, .int .i64 at_]) Tryd.func65 rfl Tryd.ntmps65 rfl rfl ?_
  refine W_sr ?_
  refine W_alloc ty41 rfl rfl (fun b6 => ?_)
  refine W_assign rfl rfl ?_
  refine W_nil ?_
  refine W_sr ?_
  refine W_move rfl rfl ?_
  refine W_move rfl rfl ?_
  refine W_callp (.cons rfl (.cons rfl .nil)) Tryd.call75 rfl (T := fun _ => True) trivial (all_p bf s) ?_
  refine W_move rfl rfl ?_
  refine W_extract rfl rfl rfl ?_
  refine W_extract rfl rfl rfl ?_
  refine W_assign rfl rfl ?_
  refine W_assign rfl rfl ?_
  refine W_nil ?_
  refine W_seq ?_
  refine W_sr ?_
  refine W_move rfl rfl ?_
  refine W_bin rfl rfl b_neq rfl ?_
  refine W_nil ?_
  refine W_condF rfl rfl ?_
  refine W_skip ?_
  refine W_sr ?_
  refine W_alloc ty41 rfl rfl (fun b10 => ?_)
  refine W_nil ?_
  refine W_sr ?_
  refine W_move rfl rfl ?_
  refine W_move rfl rfl ?_
  refine W_makeFunc .nil (.cons rfl .nil) rfl ?_
  refine W_call (.cons rfl (.cons rfl (.cons rfl .nil))) Tryd.call76 rfl ((in_get2 (H := (b6, .cells 41 5 (vaC zeroV)) :: H) (s := s) (at_ := at_) (bo := b10) (bf := bf) hV).hsub zH) ?_
  rintro v H' ⟨rfl, rfl⟩
  refine W_assign rfl rfl ?_
  refine W_nil ?_
  refine W_sr ?_
  refine W_loadB (vs := vaC (rdV V s at_).1) rfl ty41 rfl zM rfl rfl rfl ?_
  refine W_move rfl rfl ?_
  refine W_storeA rfl rfl ty41 rfl rfl (b := b6) zM (by decide) rfl zU ?_
  refine W_assign rfl rfl ?_
  refine W_nil ?_
  refine W_ret2G (H2 := (bf, .cells 101 90 (vaRow V)) :: H) Tryd.results65 (.nil _) (.own rfl ty41 rfl zM rfl) (.tmp rfl) zH ?_
  exact ⟨rfl, rfl⟩
set_option maxHeartbeats 1000000 in
theorem set_L {w0 : World} {H : Heap} {bf : Nat} {V : List Va} {s : Bool} {at_ : Int} {x : Va} (hV : V.length = 18)  : LCalls Tryd.prog w0 63 #[.pointer (some ⟨bf, 0, none⟩), .bool s, .int .i64 at_, .agg (vaC x).toArray] ((bf, .cells 101 90 (vaRow V)) :: H) (fun v H' => v = .int .i64 (wrV V s at_ x).2 ∧ H' = (bf, .cells 101 90 (vaRow (wrV V s at_ x).1)) :: H) := by
  refine L_enter (l := [.pointer (some ⟨bf, 0, none⟩), .bool s, .int .i64 at_, .agg (vaC x).toArray]) Tryd.func63 rfl Tryd.ntmps63 rfl rfl ?_
  refine W_sr ?_
  refine W_box rfl rfl rfl (fun b7 => ?_)
  refine W_assign rfl rfl ?_
  refine W_nil ?_
  refine W_sr ?_
  refine W_move rfl rfl ?_
  refine W_move rfl rfl ?_
  refine W_callp (.cons rfl (.cons rfl .nil)) Tryd.call75 rfl (T := fun _ => True) trivial (all_p bf s) ?_
  refine W_move rfl rfl ?_
  refine W_extract rfl rfl rfl ?_
  refine W_extract rfl rfl rfl ?_
  refine W_assign rfl rfl ?_
  refine W_assign rfl rfl ?_
  refine W_nil ?_
  refine W_seq ?_
  refine W_sr ?_
  refine W_move rfl rfl ?_
  refine W_bin rfl rfl b_neq rfl ?_
  refine W_nil ?_
  refine W_condF rfl rfl ?_
  refine W_skip ?_
  refine W_sr ?_
  refine W_move rfl rfl ?_
  refine W_move rfl rfl ?_
  refine W_makeFunc .nil (.cons rfl .nil) rfl ?_
  refine W_call (.cons rfl (.cons rfl (.cons rfl .nil))) Tryd.call76 rfl ((in_set2 (s := s) (at_ := at_) (bx := b7) (bf := bf) (x := x) hV).hsub zH) ?_
  rintro v H' ⟨rfl, rfl⟩
  refine W_assign rfl rfl ?_
  refine W_nil ?_
  refine W_ret1m (H2 := (bf, .cells 101 90 (vaRow (wrV V s at_ x).1)) :: H) Tryd.results63 rfl (.nil _) zH ?_
  exact ⟨rfl, rfl⟩
end Go.Proofs.YtcmfldfeakmdoaaDoor
namespace Go.Proofs.YtcmfldfeakmdoaaDoor
open Go Go.Sl
attribute [local irreducible] W
set_option maxHeartbeats 1000000 in
theorem Reg_L {w0 : World} {H : Heap} {bf : Nat} {V : List Va} {at_ : Int} (hV : V.length = 18)  : LCalls Tryd.prog w0 46 #[.pointer (some ⟨bf, 0, none⟩), .int .i64 at_] ((bf, .cells 101 90 (vaRow V)) :: H) (fun v H' => v = .tuple #[.agg (vaC (rdV V false at_).1).toArray, .int .i64 (rdV V false at_).2] ∧ H' = (bf, .cells 101 90 (vaRow V)) :: H) := by
  refine L_enter (l := [.pointer (some ⟨bf, 0, none⟩), .int .i64 at_]) Tryd.func46 rfl Tryd.ntmps46 rfl rfl ?_
  refine W_sr ?_
  refine W_alloc ty41 rfl rfl (fun b4 => ?_)
  refine W_assign rfl rfl ?_
  refine W_nil ?_
  refine W_sr ?_
  refine W_move rfl rfl ?_
  refine W_move rfl rfl ?_
  refine W_call (.cons rfl (.cons rfl (.cons rfl .nil))) Tryd.call65 rfl ((get_L (H := (b4, .cells 41 5 (vaC zeroV)) :: H) (V := V) (s := false) (at_ := at_) hV).hsub zH) ?_
  rintro v H' ⟨rfl, rfl⟩
  refine W_extract rfl rfl rfl ?_
  refine W_extract rfl rfl rfl ?_
  refine W_storeA rfl rfl ty41 rfl rfl (b := b4) zM (by decide) rfl zU ?_
  refine W_assign rfl rfl ?_
  refine W_nil ?_
  refine W_ret2G (H2 := (bf, .cells 101 90 (vaRow V)) :: H) Tryd.results46 (.nil _) (.own rfl ty41 rfl zM rfl) (.tmp rfl) zH ?_
  exact ⟨rfl, rfl⟩
set_option maxHeartbeats 1000000 in
theorem Word_L {w0 : World} {H : Heap} {bf : Nat} {V : List Va} {at_ : Int} (hV : V.length = 18)  : LCalls Tryd.prog w0 73 #[.pointer (some ⟨bf, 0, none⟩), .int .i64 at_] ((bf, .cells 101 90 (vaRow V)) :: H) (fun v H' => v = .tuple #[.agg (vaC (rdV V true at_).1).toArray, .int .i64 (rdV V true at_).2] ∧ H' = (bf, .cells 101 90 (vaRow V)) :: H) := by
  refine L_enter (l := [.pointer (some ⟨bf, 0, none⟩), .int .i64 at_]) Tryd.func73 rfl Tryd.ntmps73 rfl rfl ?_
  refine W_sr ?_
  refine W_alloc ty41 rfl rfl (fun b4 => ?_)
  refine W_assign rfl rfl ?_
  refine W_nil ?_
  refine W_sr ?_
  refine W_move rfl rfl ?_
  refine W_move rfl rfl ?_
  refine W_call (.cons rfl (.cons rfl (.cons rfl .nil))) Tryd.call65 rfl ((get_L (H := (b4, .cells 41 5 (vaC zeroV)) :: H) (V := V) (s := true) (at_ := at_) hV).hsub zH) ?_
  rintro v H' ⟨rfl, rfl⟩
  refine W_extract rfl rfl rfl ?_
  refine W_extract rfl rfl rfl ?_
  refine W_storeA rfl rfl ty41 rfl rfl (b := b4) zM (by decide) rfl zU ?_
  refine W_assign rfl rfl ?_
  refine W_nil ?_
  refine W_ret2G (H2 := (bf, .cells 101 90 (vaRow V)) :: H) Tryd.results73 (.nil _) (.own rfl ty41 rfl zM rfl) (.tmp rfl) zH ?_
  exact ⟨rfl, rfl⟩
set_option maxHeartbeats 1000000 in
theorem SetReg_L {w0 : World} {H : Heap} {bf : Nat} {V : List Va} {at_ : Int} {x : Va} (hV : V.length = 18)  : LCalls Tryd.prog w0 39 #[.pointer (some ⟨bf, 0, none⟩), .int .i64 at_, .agg (vaC x).toArray] ((bf, .cells 101 90 (vaRow V)) :: H) (fun v H' => v = .int .i64 (wrV V false at_ x).2 ∧ H' = (bf, .cells 101 90 (vaRow (wrV V false at_ x).1)) :: H) := by
  refine L_enter (l := [.pointer (some ⟨bf, 0, none⟩), .int .i64 at_, .agg (vaC x).toArray]) Tryd.func39 rfl Tryd.ntmps39 rfl rfl ?_
  refine W_sr ?_
  refine W_box rfl rfl rfl (fun b5 => ?_)
  refine W_assign rfl rfl ?_
  refine W_nil ?_
  refine W_sr ?_
  refine W_move rfl rfl ?_
  refine W_move rfl rfl ?_
  refine W_loadB (vs := vaC x) rfl ty41 rfl zM rfl rfl rfl ?_
  refine W_call (.cons rfl (.cons rfl (.cons rfl (.cons rfl .nil)))) Tryd.call63 rfl ((set_L (H := (b5, .cells 41 5 (vaC x)) :: H) (s := false) (at_ := at_) (x := x) hV).hsub zH) ?_
  rintro v H' ⟨rfl, rfl⟩
  refine W_assign rfl rfl ?_
  refine W_nil ?_
  refine W_ret1m (H2 := (bf, .cells 101 90 (vaRow (wrV V false at_ x).1)) :: H) Tryd.results39 rfl (.nil _) zH ?_
  exact ⟨rfl, rfl⟩
set_option maxHeartbeats 1000000 in
theorem SetWord_L {w0 : World} {H : Heap} {bf : Nat} {V : List Va} {at_ : Int} {x : Va} (hV : V.length = 18)  : LCalls Tryd.prog w0 74 #[.pointer (some ⟨bf, 0, none⟩), .int .i64 at_, .agg (vaC x).toArray] ((bf, .cells 101 90 (vaRow V)) :: H) (fun v H' => v = .int .i64 (wrV V true at_ x).2 ∧ H' = (bf, .cells 101 90 (vaRow (wrV V true at_ x).1)) :: H) := by
  refine L_enter (l := [.pointer (some ⟨bf, 0, none⟩), .int .i64 at_, .agg (vaC x).toArray]) Tryd.func74 rfl Tryd.ntmps74 rfl rfl ?_
  refine W_sr ?_
  refine W_box rfl rfl rfl (fun b5 => ?_)
  refine W_assign rfl rfl ?_
  refine W_nil ?_
  refine W_sr ?_
  refine W_move rfl rfl ?_
  refine W_move rfl rfl ?_
  refine W_loadB (vs := vaC x) rfl ty41 rfl zM rfl rfl rfl ?_
  refine W_call (.cons rfl (.cons rfl (.cons rfl (.cons rfl .nil)))) Tryd.call63 rfl ((set_L (H := (b5, .cells 41 5 (vaC x)) :: H) (s := true) (at_ := at_) (x := x) hV).hsub zH) ?_
  rintro v H' ⟨rfl, rfl⟩
  refine W_assign rfl rfl ?_
  refine W_nil ?_
  refine W_ret1m (H2 := (bf, .cells 101 90 (vaRow (wrV V true at_ x).1)) :: H) Tryd.results74 rfl (.nil _) zH ?_
  exact ⟨rfl, rfl⟩
set_option maxHeartbeats 1000000 in
theorem Num_pure (n : Int) : Pure Tryd.prog (fun _ => True) 21 [.int .u64 n] (.agg (vaC ⟨false, 0, 0, 0, n⟩).toArray) := by
  intro w0 H hT
  refine L_enter Tryd.func21 rfl Tryd.ntmps21 rfl rfl ?_
  refine W_sr ?_
  refine W_alloc ty41 rfl rfl (fun b2 => ?_)
  refine W_nil ?_
  refine W_sr ?_
  refine W_move rfl rfl ?_
  refine W_build ty41 pl41 (.cons rfl rfl rfl rfl rfl .nil) rfl zF rfl ?_
  refine W_storeA rfl rfl ty41 rfl rfl zM (Nat.le_of_ble_eq_true rfl) zF zU ?_
  refine W_nil ?_
  refine W_ret1cO (H2 := H) Tryd.results21 rfl (.nil _) ty41 rfl zM rfl zH ?_
  exact ⟨rfl, rfl⟩
end Go.Proofs.YtcmfldfeakmdoaaDoor
namespace Go.Proofs.YtcmfldfeakmdoaaDoor
open Go Go.Sl
attribute [local irreducible] W
def Tab (w : World) : Prop := Lib.TabIs Tryd.prog w "strings.asciiSpace" .u8 Lib.asciiSpaceTab
theorem ascii_of {l : List UInt8} (h : l.all (fun b => decide (b.toNat < 128)) = true) : ∀ (j : Nat) (b : UInt8), l[j]? = some b → b.toNat < 128 := fun j b hb => by
  have := List.all_eq_true.1 h b (List.mem_of_getElem? hb)
  simpa using this
theorem tab_of {w0 w : World} {H : Heap} (hT : Tab w0) (hs : Sat w0 H w) : Tab w :=
  have hlt : 0 < w0.heap.size := World.block_lt_of_cell? _ _ (hT.cell (g := 0) (by kernel_rfl) 0 (by rw [Lib.asciiSpaceTab_length]; omega))
  var?_below (g := 0) hs.below (by kernel_rfl) hlt hT
def sumsA : List ByteArray := [⟨#[97, 100, 100]⟩, ⟨#[115, 117, 98]⟩, ⟨#[109, 117, 108]⟩, ⟨#[100, 105, 118]⟩, ⟨#[109, 111, 100]⟩, ⟨#[97, 110, 100]⟩, ⟨#[111, 114]⟩, ⟨#[120, 111, 114]⟩, ⟨#[108, 115, 104]⟩, ⟨#[114, 115, 104]⟩, ⟨#[97, 114, 115, 104]⟩, ⟨#[109, 111, 118]⟩, ⟨#[110, 101, 103]⟩]
def sumsC : ByteArray := ⟨#[97, 100, 100, 32, 115, 117, 98, 32, 109, 117, 108, 32, 100, 105, 118, 32, 109, 111, 100, 32, 97, 110, 100, 32, 111, 114, 32, 120, 111, 114, 32, 108, 115, 104, 32, 114, 115, 104, 32, 97, 114, 115, 104, 32, 109, 111, 118, 32, 110, 101, 103]⟩
theorem fields_sums {w0 : World} {H : Heap} (hT : Tab w0) : LCalls Tryd.prog w0 67 #[.string sumsC] H (fun v H' => ∃ b, v = .slice (some ⟨b, 0, none⟩) 13 13 ∧ H' = (b, .cells 9 13 (sumsA.map Value.string)) :: H) := by
  have hf : Lib.fields sumsC.data.toList = [[97, 100, 100], [115, 117, 98], [109, 117, 108], [100, 105, 118], [109, 111, 100], [97, 110, 100], [111, 114], [120, 111, 114], [108, 115, 104], [114, 115, 104], [97, 114, 115, 104], [109, 111, 118], [110, 101, 103]] := by decide
  have h : ∀ w, Tab w → Calls Tryd.prog 67 #[.string sumsC] w fun en w' => en = .returned (.slice (some ⟨w.heap.size, 0, none⟩) 13 13) ∧ w' = w.alloc (.cells (sumsA.map Value.string).toArray 9) := fun w ht => by
    have := Tryd.strings_Fields sumsC w (by decide) (ascii_of (by decide)) ht
    rw [hf] at this
    exact this
  refine (L_of_alloc (g := fun a => .slice (some a) 13 13) h (fun w hs => tab_of hT hs)).mono ?_
  rintro v H' ⟨b, rfl, rfl⟩
  exact ⟨b, rfl, rfl⟩
def jumpsA : List ByteArray := [⟨#[106, 97]⟩, ⟨#[106, 101, 113]⟩, ⟨#[106, 110, 101]⟩, ⟨#[106, 103, 116]⟩, ⟨#[106, 103, 101]⟩, ⟨#[106, 108, 116]⟩, ⟨#[106, 108, 101]⟩, ⟨#[106, 115, 101, 116]⟩, ⟨#[106, 115, 103, 116]⟩, ⟨#[106, 115, 108, 116]⟩]
def jumpsC : ByteArray := ⟨#[106, 97, 32, 106, 101, 113, 32, 106, 110, 101, 32, 106, 103, 116, 32, 106, 103, 101, 32, 106, 108, 116, 32, 106, 108, 101, 32, 106, 115, 101, 116, 32, 106, 115, 103, 116, 32, 106, 115, 108, 116]⟩
theorem fields_jumps {w0 : World} {H : Heap} (hT : Tab w0) : LCalls Tryd.prog w0 67 #[.string jumpsC] H (fun v H' => ∃ b, v = .slice (some ⟨b, 0, none⟩) 10 10 ∧ H' = (b, .cells 9 10 (jumpsA.map Value.string)) :: H) := by
  have hf : Lib.fields jumpsC.data.toList = [[106, 97], [106, 101, 113], [106, 110, 101], [106, 103, 116], [106, 103, 101], [106, 108, 116], [106, 108, 101], [106, 115, 101, 116], [106, 115, 103, 116], [106, 115, 108, 116]] := by decide
  have h : ∀ w, Tab w → Calls Tryd.prog 67 #[.string jumpsC] w fun en w' => en = .returned (.slice (some ⟨w.heap.size, 0, none⟩) 10 10) ∧ w' = w.alloc (.cells (jumpsA.map Value.string).toArray 9) := fun w ht => by
    have := Tryd.strings_Fields jumpsC w (by decide) (ascii_of (by decide)) ht
    rw [hf] at this
    exact this
  refine (L_of_alloc (g := fun a => .slice (some a) 10 10) h (fun w hs => tab_of hT hs)).mono ?_
  rintro v H' ⟨b, rfl, rfl⟩
  exact ⟨b, rfl, rfl⟩
def placesA : List ByteArray := [⟨#[108, 100, 115, 116]⟩, ⟨#[115, 116, 115, 116]⟩, ⟨#[108, 100, 118]⟩, ⟨#[115, 116, 118]⟩]
def placesC : ByteArray := ⟨#[108, 100, 115, 116, 32, 115, 116, 115, 116, 32, 108, 100, 118, 32, 115, 116, 118]⟩
theorem fields_places {w0 : World} {H : Heap} (hT : Tab w0) : LCalls Tryd.prog w0 67 #[.string placesC] H (fun v H' => ∃ b, v = .slice (some ⟨b, 0, none⟩) 4 4 ∧ H' = (b, .cells 9 4 (placesA.map Value.string)) :: H) := by
  have hf : Lib.fields placesC.data.toList = [[108, 100, 115, 116], [115, 116, 115, 116], [108, 100, 118], [115, 116, 118]] := by decide
  have h : ∀ w, Tab w → Calls Tryd.prog 67 #[.string placesC] w fun en w' => en = .returned (.slice (some ⟨w.heap.size, 0, none⟩) 4 4) ∧ w' = w.alloc (.cells (placesA.map Value.string).toArray 9) := fun w ht => by
    have := Tryd.strings_Fields placesC w (by decide) (ascii_of (by decide)) ht
    rw [hf] at this
    exact this
  refine (L_of_alloc (g := fun a => .slice (some a) 4 4) h (fun w hs => tab_of hT hs)).mono ?_
  rintro v H' ⟨b, rfl, rfl⟩
  exact ⟨b, rfl, rfl⟩
def flowsA : List ByteArray := [⟨#[99, 97, 108, 108]⟩, ⟨#[101, 120, 105, 116]⟩]
def flowsC : ByteArray := ⟨#[99, 97, 108, 108, 32, 101, 120, 105, 116]⟩
theorem fields_flows {w0 : World} {H : Heap} (hT : Tab w0) : LCalls Tryd.prog w0 67 #[.string flowsC] H (fun v H' => ∃ b, v = .slice (some ⟨b, 0, none⟩) 2 2 ∧ H' = (b, .cells 9 2 (flowsA.map Value.string)) :: H) := by
  have hf : Lib.fields flowsC.data.toList = [[99, 97, 108, 108], [101, 120, 105, 116]] := by decide
  have h : ∀ w, Tab w → Calls Tryd.prog 67 #[.string flowsC] w fun en w' => en = .returned (.slice (some ⟨w.heap.size, 0, none⟩) 2 2) ∧ w' = w.alloc (.cells (flowsA.map Value.string).toArray 9) := fun w ht => by
    have := Tryd.strings_Fields flowsC w (by decide) (ascii_of (by decide)) ht
    rw [hf] at this
    exact this
  refine (L_of_alloc (g := fun a => .slice (some a) 2 2) h (fun w hs => tab_of hT hs)).mono ?_
  rintro v H' ⟨b, rfl, rfl⟩
  exact ⟨b, rfl, rfl⟩
end Go.Proofs.YtcmfldfeakmdoaaDoor
namespace Go.Proofs.YtcmfldfeakmdoaaDoor
open Go Go.Sl
attribute [local irreducible] W
def cls (op : Int) : Int := if 0 ≤ op ∧ op ≤ 12 ∨ 16 ≤ op ∧ op ≤ 27 then 1 else if 32 ≤ op ∧ op ≤ 41 ∨ 49 ≤ op ∧ op ≤ 57 then 2 else if 64 ≤ op ∧ op ≤ 67 then 3 else if op = 72 ∨ op = 73 then 4 else 0
theorem cls1 {op : Int} : cls op = 1 ↔ 0 ≤ op ∧ op ≤ 12 ∨ 16 ≤ op ∧ op ≤ 27 := by unfold cls; omega
theorem cls2 {op : Int} : cls op = 2 ↔ 32 ≤ op ∧ op ≤ 41 ∨ 49 ≤ op ∧ op ≤ 57 := by unfold cls; omega
theorem cls3 {op : Int} : cls op = 3 ↔ 64 ≤ op ∧ op ≤ 67 := by unfold cls; omega
theorem cls4 {op : Int} : cls op = 4 ↔ op = 72 ∨ op = 73 := by unfold cls; omega
theorem cls_cases (op : Int) : cls op = 0 ∨ cls op = 1 ∨ cls op = 2 ∨ cls op = 3 ∨ cls op = 4 := by unfold cls; omega
def isaName (op : Int) : ByteArray :=
  if cls op = 0 then ⟨#[]⟩ else if cls op = 2 then jumpsA.getD ((op - 32) % 16).toNat ⟨#[]⟩ else if cls op = 3 then placesA.getD ((op - 64) % 16).toNat ⟨#[]⟩
  else if cls op = 4 then flowsA.getD ((op - 72) % 16).toNat ⟨#[]⟩ else sumsA.getD ((op - 0) % 16).toNat ⟨#[]⟩
theorem i64w {m : Int} (h : -9223372036854775808 ≤ m ∧ m ≤ 9223372036854775807) : IntKind.i64.wrap m = m := IntWalk.i64_in m h
theorem getD_str {l : List ByteArray} {j : Nat} (h : j < l.length) : (l.map Value.string)[j]? = some (.string (l.getD j ⟨#[]⟩)) := by
  simp [List.getD, h]
set_option maxHeartbeats 1000000 in
theorem class_pure (op : Int) : Pure Tryd.prog (Tab) 49 [.int .i64 op] (.int .i64 (cls op)) := by
  intro w0 H hT
  refine L_enter Tryd.func49 rfl Tryd.ntmps49 rfl rfl ?_
  refine W_sr ?_
  refine W_assign rfl rfl ?_
  refine W_nil ?_
  refine W_seq ?_
  refine W_block ?_
  refine W_seq ?_
  refine W_sr ?_
  refine W_move rfl rfl ?_
  refine W_bin rfl rfl b_geq rfl ?_
  refine W_move rfl rfl ?_
  apply W_and
  iterate 4 exact rfl
  case h1 =>
    intro hg2
    refine W_gyes rfl rfl ?_
    refine W_move rfl rfl ?_
    refine W_gyes rfl rfl ?_
    refine W_bin rfl rfl b_leq rfl ?_
    exact W_met rfl zR
  refine W_assign rfl rfl ?_
  refine W_nil ?_
  refine W_condS rfl (fun c0 => ?_) (fun c0 => ?_)
  · simp only [cond_true, cond_false, Bool.and_eq_true, Bool.or_eq_true, Bool.and_eq_false_iff, Bool.or_eq_false_iff, decide_eq_true_eq, decide_eq_false_iff_not, Bool.not_eq_true', Bool.not_eq_false', ne_eq, Decidable.not_not] at c0
    refine W_skip ?_
    refine W_condT rfl rfl ?_
    refine W_sr ?_
    refine W_assign rfl rfl ?_
    refine W_nil ?_
    refine W_ret1m Tryd.results49 rfl (.nil _) (.refl _) ?_
    exact ⟨by unfold cls; repeat (first | rw [if_pos (by omega)] | rw [if_neg (by omega)]), rfl⟩
  · simp only [cond_true, cond_false, Bool.and_eq_true, Bool.or_eq_true, Bool.and_eq_false_iff, Bool.or_eq_false_iff, decide_eq_true_eq, decide_eq_false_iff_not, Bool.not_eq_true', Bool.not_eq_false', ne_eq, Decidable.not_not] at c0
    refine W_region ?_
    refine W_move rfl rfl ?_
    refine W_bin rfl rfl b_geq rfl ?_
    refine W_move rfl rfl ?_
    apply W_and
    iterate 4 exact rfl
    case h1 =>
      intro hg2
      refine W_gyes rfl rfl ?_
      refine W_move rfl rfl ?_
      refine W_gyes rfl rfl ?_
      refine W_bin rfl rfl b_leq rfl ?_
      exact W_met rfl zR
    refine W_assign rfl rfl ?_
    refine W_nil ?_
    refine W_condS rfl (fun c1 => ?_) (fun c1 => ?_)
    · simp only [cond_true, cond_false, Bool.and_eq_true, Bool.or_eq_true, Bool.and_eq_false_iff, Bool.or_eq_false_iff, decide_eq_true_eq, decide_eq_false_iff_not, Bool.not_eq_true', Bool.not_eq_false', ne_eq, Decidable.not_not] at c1
      refine W_sr ?_
      refine W_assign rfl rfl ?_
      refine W_nil ?_
      refine W_ret1m Tryd.results49 rfl (.nil _) (.refl _) ?_
      exact ⟨by unfold cls; repeat (first | rw [if_pos (by omega)] | rw [if_neg (by omega)]), rfl⟩
    · simp only [cond_true, cond_false, Bool.and_eq_true, Bool.or_eq_true, Bool.and_eq_false_iff, Bool.or_eq_false_iff, decide_eq_true_eq, decide_eq_false_iff_not, Bool.not_eq_true', Bool.not_eq_false', ne_eq, Decidable.not_not] at c1
      refine W_seq ?_
      refine W_sr ?_
      refine W_move rfl rfl ?_
      refine W_bin rfl rfl b_geq rfl ?_
      refine W_move rfl rfl ?_
      apply W_and
      iterate 4 exact rfl
      case h1 =>
        intro hg2
        refine W_gyes rfl rfl ?_
        refine W_move rfl rfl ?_
        refine W_gyes rfl rfl ?_
        refine W_bin rfl rfl b_leq rfl ?_
        exact W_met rfl zR
      refine W_assign rfl rfl ?_
      refine W_nil ?_
      refine W_condS rfl (fun c2 => ?_) (fun c2 => ?_)
      · simp only [cond_true, cond_false, Bool.and_eq_true, Bool.or_eq_true, Bool.and_eq_false_iff, Bool.or_eq_false_iff, decide_eq_true_eq, decide_eq_false_iff_not, Bool.not_eq_true', Bool.not_eq_false', ne_eq, Decidable.not_not] at c2
        refine W_skip ?_
        refine W_condT rfl rfl ?_
        refine W_sr ?_
        refine W_assign rfl rfl ?_
        refine W_nil ?_
        refine W_ret1m Tryd.results49 rfl (.nil _) (.refl _) ?_
        exact ⟨by unfold cls; repeat (first | rw [if_pos (by omega)] | rw [if_neg (by omega)]), rfl⟩
      · simp only [cond_true, cond_false, Bool.and_eq_true, Bool.or_eq_true, Bool.and_eq_false_iff, Bool.or_eq_false_iff, decide_eq_true_eq, decide_eq_false_iff_not, Bool.not_eq_true', Bool.not_eq_false', ne_eq, Decidable.not_not] at c2
        refine W_region ?_
        refine W_move rfl rfl ?_
        refine W_bin rfl rfl b_geq rfl ?_
        refine W_move rfl rfl ?_
        apply W_and
        iterate 4 exact rfl
        case h1 =>
          intro hg2
          refine W_gyes rfl rfl ?_
          refine W_move rfl rfl ?_
          refine W_gyes rfl rfl ?_
          refine W_bin rfl rfl b_leq rfl ?_
          exact W_met rfl zR
        refine W_assign rfl rfl ?_
        refine W_nil ?_
        refine W_condS rfl (fun c3 => ?_) (fun c3 => ?_)
        · simp only [cond_true, cond_false, Bool.and_eq_true, Bool.or_eq_true, Bool.and_eq_false_iff, Bool.or_eq_false_iff, decide_eq_true_eq, decide_eq_false_iff_not, Bool.not_eq_true', Bool.not_eq_false', ne_eq, Decidable.not_not] at c3
          refine W_sr ?_
          refine W_assign rfl rfl ?_
          refine W_nil ?_
          refine W_ret1m Tryd.results49 rfl (.nil _) (.refl _) ?_
          exact ⟨by unfold cls; repeat (first | rw [if_pos (by omega)] | rw [if_neg (by omega)]), rfl⟩
        · simp only [cond_true, cond_false, Bool.and_eq_true, Bool.or_eq_true, Bool.and_eq_false_iff, Bool.or_eq_false_iff, decide_eq_true_eq, decide_eq_false_iff_not, Bool.not_eq_true', Bool.not_eq_false', ne_eq, Decidable.not_not] at c3
          refine W_sr ?_
          refine W_move rfl rfl ?_
          refine W_bin rfl rfl b_geq rfl ?_
          refine W_move rfl rfl ?_
          apply W_and
          iterate 4 exact rfl
          case h1 =>
            intro hg2
            refine W_gyes rfl rfl ?_
            refine W_move rfl rfl ?_
            refine W_gyes rfl rfl ?_
            refine W_bin rfl rfl b_leq rfl ?_
            exact W_met rfl zR
          refine W_assign rfl rfl ?_
          refine W_nil ?_
          refine W_condS rfl (fun c4 => ?_) (fun c4 => ?_)
          · simp only [cond_true, cond_false, Bool.and_eq_true, Bool.or_eq_true, Bool.and_eq_false_iff, Bool.or_eq_false_iff, decide_eq_true_eq, decide_eq_false_iff_not, Bool.not_eq_true', Bool.not_eq_false', ne_eq, Decidable.not_not] at c4
            refine W_sr ?_
            refine W_assign rfl rfl ?_
            refine W_nil ?_
            refine W_ret1m Tryd.results49 rfl (.nil _) (.refl _) ?_
            exact ⟨by unfold cls; repeat (first | rw [if_pos (by omega)] | rw [if_neg (by omega)]), rfl⟩
          · simp only [cond_true, cond_false, Bool.and_eq_true, Bool.or_eq_true, Bool.and_eq_false_iff, Bool.or_eq_false_iff, decide_eq_true_eq, decide_eq_false_iff_not, Bool.not_eq_true', Bool.not_eq_false', ne_eq, Decidable.not_not] at c4
            refine W_sr ?_
            refine W_move rfl rfl ?_
            refine W_bin rfl rfl b_eql rfl ?_
            refine W_move rfl rfl ?_
            apply W_or
            iterate 4 exact rfl
            case h1 =>
              intro hg2
              refine W_gyes rfl rfl ?_
              refine W_move rfl rfl ?_
              refine W_gyes rfl rfl ?_
              refine W_bin rfl rfl b_eql rfl ?_
              exact W_met rfl zR
            refine W_assign rfl rfl ?_
            refine W_nil ?_
            refine W_condS rfl (fun c5 => ?_) (fun c5 => ?_)
            · simp only [cond_true, cond_false, Bool.and_eq_true, Bool.or_eq_true, Bool.and_eq_false_iff, Bool.or_eq_false_iff, decide_eq_true_eq, decide_eq_false_iff_not, Bool.not_eq_true', Bool.not_eq_false', ne_eq, Decidable.not_not] at c5
              refine W_sr ?_
              refine W_assign rfl rfl ?_
              refine W_nil ?_
              refine W_ret1m Tryd.results49 rfl (.nil _) (.refl _) ?_
              exact ⟨by unfold cls; repeat (first | rw [if_pos (by omega)] | rw [if_neg (by omega)]), rfl⟩
            · simp only [cond_true, cond_false, Bool.and_eq_true, Bool.or_eq_true, Bool.and_eq_false_iff, Bool.or_eq_false_iff, decide_eq_true_eq, decide_eq_false_iff_not, Bool.not_eq_true', Bool.not_eq_false', ne_eq, Decidable.not_not] at c5
              refine W_skip ?_
              refine W_blk ?_
              refine W_sr ?_
              refine W_assign rfl rfl ?_
              refine W_nil ?_
              refine W_ret1m Tryd.results49 rfl (.nil _) (.refl _) ?_
              exact ⟨by unfold cls; repeat (first | rw [if_pos (by omega)] | rw [if_neg (by omega)]), rfl⟩
set_option maxHeartbeats 1000000 in
theorem name_pure (op : Int) (hlo : -9223372036854775808 ≤ op) (hhi : op ≤ 9223372036854775807) : Pure Tryd.prog Tab 93 [.int .i64 op] (.string (isaName op)) := by
  intro w0 H hT
  refine L_enter Tryd.func93 rfl Tryd.ntmps93 rfl rfl ?_
  refine W_sr ?_
  refine W_assign rfl rfl ?_
  refine W_nil ?_
  refine W_sr ?_
  refine W_assign rfl rfl ?_
  refine W_assign rfl rfl ?_
  refine W_nil ?_
  refine W_seq ?_
  refine W_sr ?_
  refine W_move rfl rfl ?_
  refine W_callp (.cons rfl .nil) Tryd.call49 rfl hT (class_pure _) ?_
  refine W_nil ?_
  refine W_block ?_
  refine W_sr ?_
  refine W_bin rfl rfl b_eql rfl ?_
  refine W_assign rfl rfl ?_
  refine W_nil ?_
  refine W_condS rfl (fun c0 => ?_) (fun c0 => ?_)
  · simp only [cond_true, cond_false, Bool.and_eq_true, Bool.or_eq_true, Bool.and_eq_false_iff, Bool.or_eq_false_iff, decide_eq_true_eq, decide_eq_false_iff_not, Bool.not_eq_true', Bool.not_eq_false', ne_eq, Decidable.not_not] at c0
    refine W_sr ?_
    refine W_assign rfl rfl ?_
    refine W_nil ?_
    refine W_ret1m (H2 := H) Tryd.results93 rfl (.nil _) zH ?_
    refine ⟨?_, rfl⟩
    unfold isaName
    first | rw [if_pos (by assumption)] | (rw [if_neg (by omega)]; repeat (first | rw [if_pos (by assumption)] | rw [if_neg (by omega)]))
  · simp only [cond_true, cond_false, Bool.and_eq_true, Bool.or_eq_true, Bool.and_eq_false_iff, Bool.or_eq_false_iff, decide_eq_true_eq, decide_eq_false_iff_not, Bool.not_eq_true', Bool.not_eq_false', ne_eq, Decidable.not_not] at c0
    refine W_sr ?_
    refine W_bin rfl rfl b_eql rfl ?_
    refine W_assign rfl rfl ?_
    refine W_nil ?_
    refine W_condS rfl (fun c1 => ?_) (fun c1 => ?_)
    · simp only [cond_true, cond_false, Bool.and_eq_true, Bool.or_eq_true, Bool.and_eq_false_iff, Bool.or_eq_false_iff, decide_eq_true_eq, decide_eq_false_iff_not, Bool.not_eq_true', Bool.not_eq_false', ne_eq, Decidable.not_not] at c1
      refine W_region ?_
      refine W_assign rfl rfl ?_
      refine W_assign rfl rfl ?_
      refine W_nil ?_
      refine W_blk ?_
      refine W_sr ?_
      have hb := (cls2 (op := op)).1 (by first | exact c1 | (have := cls_cases op; omega))
      refine W_move rfl rfl ?_
      refine W_call (.cons rfl .nil) Tryd.call67 rfl (fields_jumps hT) ?_
      rintro v H1 ⟨b, rfl, rfl⟩
      refine W_move rfl rfl ?_
      refine W_move rfl rfl ?_
      refine W_bin rfl rfl (b_sub (i64w (by omega))) rfl ?_
      refine W_bin rfl rfl (b_rem (by decide) (Int.tmod_eq_emod_of_nonneg (by omega))) rfl ?_
      refine W_indexAddrZ rfl rfl ty123 ty9 (by omega) (by omega) rfl rfl ?_
      refine W_load rfl ty9 rfl (Cell.own zM (by rw [Nat.zero_add, Nat.mul_one]; exact getD_str (by show _ < 10; omega))) rfl ?_
      refine W_assign rfl rfl ?_
      refine W_nil ?_
      refine W_ret1m (H2 := H) Tryd.results93 rfl (.nil _) zH ?_
      refine ⟨?_, rfl⟩
      unfold isaName
      first | rw [if_pos (by assumption)] | (rw [if_neg (by omega)]; repeat (first | rw [if_pos (by assumption)] | rw [if_neg (by omega)]))
    · simp only [cond_true, cond_false, Bool.and_eq_true, Bool.or_eq_true, Bool.and_eq_false_iff, Bool.or_eq_false_iff, decide_eq_true_eq, decide_eq_false_iff_not, Bool.not_eq_true', Bool.not_eq_false', ne_eq, Decidable.not_not] at c1
      refine W_sr ?_
      refine W_bin rfl rfl b_eql rfl ?_
      refine W_assign rfl rfl ?_
      refine W_nil ?_
      refine W_condS rfl (fun c2 => ?_) (fun c2 => ?_)
      · simp only [cond_true, cond_false, Bool.and_eq_true, Bool.or_eq_true, Bool.and_eq_false_iff, Bool.or_eq_false_iff, decide_eq_true_eq, decide_eq_false_iff_not, Bool.not_eq_true', Bool.not_eq_false', ne_eq, Decidable.not_not] at c2
        refine W_region ?_
        refine W_assign rfl rfl ?_
        refine W_assign rfl rfl ?_
        refine W_nil ?_
        refine W_blk ?_
        refine W_sr ?_
        have hb := (cls3 (op := op)).1 (by first | exact c2 | (have := cls_cases op; omega))
        refine W_move rfl rfl ?_
        refine W_call (.cons rfl .nil) Tryd.call67 rfl (fields_places hT) ?_
        rintro v H1 ⟨b, rfl, rfl⟩
        refine W_move rfl rfl ?_
        refine W_move rfl rfl ?_
        refine W_bin rfl rfl (b_sub (i64w (by omega))) rfl ?_
        refine W_bin rfl rfl (b_rem (by decide) (Int.tmod_eq_emod_of_nonneg (by omega))) rfl ?_
        refine W_indexAddrZ rfl rfl ty123 ty9 (by omega) (by omega) rfl rfl ?_
        refine W_load rfl ty9 rfl (Cell.own zM (by rw [Nat.zero_add, Nat.mul_one]; exact getD_str (by show _ < 4; omega))) rfl ?_
        refine W_assign rfl rfl ?_
        refine W_nil ?_
        refine W_ret1m (H2 := H) Tryd.results93 rfl (.nil _) zH ?_
        refine ⟨?_, rfl⟩
        unfold isaName
        first | rw [if_pos (by assumption)] | (rw [if_neg (by omega)]; repeat (first | rw [if_pos (by assumption)] | rw [if_neg (by omega)]))
      · simp only [cond_true, cond_false, Bool.and_eq_true, Bool.or_eq_true, Bool.and_eq_false_iff, Bool.or_eq_false_iff, decide_eq_true_eq, decide_eq_false_iff_not, Bool.not_eq_true', Bool.not_eq_false', ne_eq, Decidable.not_not] at c2
        refine W_sr ?_
        refine W_bin rfl rfl b_eql rfl ?_
        refine W_assign rfl rfl ?_
        refine W_nil ?_
        refine W_condS rfl (fun c3 => ?_) (fun c3 => ?_)
        · simp only [cond_true, cond_false, Bool.and_eq_true, Bool.or_eq_true, Bool.and_eq_false_iff, Bool.or_eq_false_iff, decide_eq_true_eq, decide_eq_false_iff_not, Bool.not_eq_true', Bool.not_eq_false', ne_eq, Decidable.not_not] at c3
          refine W_region ?_
          refine W_assign rfl rfl ?_
          refine W_assign rfl rfl ?_
          refine W_nil ?_
          refine W_blk ?_
          refine W_sr ?_
          have hb := (cls4 (op := op)).1 (by first | exact c3 | (have := cls_cases op; omega))
          refine W_move rfl rfl ?_
          refine W_call (.cons rfl .nil) Tryd.call67 rfl (fields_flows hT) ?_
          rintro v H1 ⟨b, rfl, rfl⟩
          refine W_move rfl rfl ?_
          refine W_move rfl rfl ?_
          refine W_bin rfl rfl (b_sub (i64w (by omega))) rfl ?_
          refine W_bin rfl rfl (b_rem (by decide) (Int.tmod_eq_emod_of_nonneg (by omega))) rfl ?_
          refine W_indexAddrZ rfl rfl ty123 ty9 (by omega) (by omega) rfl rfl ?_
          refine W_load rfl ty9 rfl (Cell.own zM (by rw [Nat.zero_add, Nat.mul_one]; exact getD_str (by show _ < 2; omega))) rfl ?_
          refine W_assign rfl rfl ?_
          refine W_nil ?_
          refine W_ret1m (H2 := H) Tryd.results93 rfl (.nil _) zH ?_
          refine ⟨?_, rfl⟩
          unfold isaName
          first | rw [if_pos (by assumption)] | (rw [if_neg (by omega)]; repeat (first | rw [if_pos (by assumption)] | rw [if_neg (by omega)]))
        · simp only [cond_true, cond_false, Bool.and_eq_true, Bool.or_eq_true, Bool.and_eq_false_iff, Bool.or_eq_false_iff, decide_eq_true_eq, decide_eq_false_iff_not, Bool.not_eq_true', Bool.not_eq_false', ne_eq, Decidable.not_not] at c3
          refine W_skip ?_
          refine W_blk ?_
          refine W_sr ?_
          have hb := (cls1 (op := op)).1 (by first | exact c3 | (have := cls_cases op; omega))
          refine W_move rfl rfl ?_
          refine W_call (.cons rfl .nil) Tryd.call67 rfl (fields_sums hT) ?_
          rintro v H1 ⟨b, rfl, rfl⟩
          refine W_move rfl rfl ?_
          refine W_move rfl rfl ?_
          refine W_bin rfl rfl (b_sub (i64w (by omega))) rfl ?_
          refine W_bin rfl rfl (b_rem (by decide) (Int.tmod_eq_emod_of_nonneg (by omega))) rfl ?_
          refine W_indexAddrZ rfl rfl ty123 ty9 (by omega) (by omega) rfl rfl ?_
          refine W_load rfl ty9 rfl (Cell.own zM (by rw [Nat.zero_add, Nat.mul_one]; exact getD_str (by show _ < 13; omega))) rfl ?_
          refine W_assign rfl rfl ?_
          refine W_nil ?_
          refine W_ret1m (H2 := H) Tryd.results93 rfl (.nil _) zH ?_
          refine ⟨?_, rfl⟩
          unfold isaName
          first | rw [if_pos (by assumption)] | (rw [if_neg (by omega)]; repeat (first | rw [if_pos (by assumption)] | rw [if_neg (by omega)]))
end Go.Proofs.YtcmfldfeakmdoaaDoor
namespace Go.Proofs.YtcmfldfeakmdoaaDoor
open Go Go.Sl
attribute [local irreducible] W
theorem name_ne {op : Int} (h : (!((isaName op).toList == (⟨#[]⟩ : ByteArray).toList)) = true) : 0 ≤ op ∧ op ≤ 73 := by
  by_cases h0 : cls op = 0
  · unfold isaName at h
    rw [if_pos h0] at h
    simp at h
  · have := cls_cases op
    have h1 := cls1 (op := op); have h2 := cls2 (op := op); have h3 := cls3 (op := op); have h4 := cls4 (op := op)
    omega
def plainOf (op : Int) : Int := if (!((isaName op).toList == (⟨#[]⟩ : ByteArray).toList) && ((isaName op).toList == (isaName (op - 16)).toList)) = true then op - 16 else op
set_option maxHeartbeats 1000000 in
theorem plain_pure (op : Int) (hlo : -9223372036854775808 ≤ op) (hhi : op ≤ 9223372036854775807) : Pure Tryd.prog (Tab) 87 [.int .i64 op] (.int .i64 (plainOf op)) := by
  intro w0 H hT
  refine L_enter Tryd.func87 rfl Tryd.ntmps87 rfl rfl ?_
  refine W_sr ?_
  refine W_assign rfl rfl ?_
  refine W_nil ?_
  refine W_seq ?_
  refine W_sr ?_
  refine W_move rfl rfl ?_
  refine W_callp (.cons rfl .nil) Tryd.call93 rfl hT (name_pure _ (by omega) (by omega)) ?_
  refine W_sne_s rfl rfl rfl ?_
  refine W_move rfl rfl ?_
  apply W_and
  iterate 4 exact rfl
  case h1 =>
    intro hg3
    have hb := name_ne hg3
    refine W_gyes rfl rfl ?_
    refine W_move rfl rfl ?_
    refine W_gyes rfl rfl ?_
    refine W_callp (.cons rfl .nil) Tryd.call93 rfl hT (name_pure _ (by omega) (by omega)) ?_
    refine W_gyes rfl rfl ?_
    refine W_move rfl rfl ?_
    refine W_gyes rfl rfl ?_
    refine W_bin rfl rfl (b_sub (i64w (by omega))) rfl ?_
    refine W_gyes rfl rfl ?_
    refine W_callp (.cons rfl .nil) Tryd.call93 rfl hT (name_pure _ (by omega) (by omega)) ?_
    refine W_gyes rfl rfl ?_
    refine W_seq_s rfl rfl rfl ?_
    exact W_met rfl zR
  refine W_nil ?_
  refine W_condS rfl (fun c0 => ?_) (fun c0 => ?_)
  · have e0 := c0
    refine W_sr ?_
    refine W_move rfl rfl ?_
    have hb := name_ne (Bool.and_eq_true_iff.1 e0).1
    refine W_bin rfl rfl (b_sub (i64w (by omega))) rfl ?_
    refine W_assign rfl rfl ?_
    refine W_nil ?_
    refine W_ret1m Tryd.results87 rfl (.nil _) (.refl _) ?_
    exact ⟨by unfold plainOf; rw [if_pos e0], rfl⟩
  · have e0 := c0
    refine W_skip ?_
    refine W_sr ?_
    refine W_move rfl rfl ?_
    refine W_assign rfl rfl ?_
    refine W_nil ?_
    refine W_ret1m Tryd.results87 rfl (.nil _) (.refl _) ?_
    exact ⟨by unfold plainOf; rw [if_neg (by rw [e0]; simp)], rfl⟩
set_option maxHeartbeats 1000000 in
theorem by_pure (op : Int) : Pure Tryd.prog (Tab) 66 [.int .i64 op] (.bool (decide (cls op = 1 ∧ 16 ≤ op ∨ cls op = 2 ∧ 48 ≤ op))) := by
  intro w0 H hT
  refine L_enter Tryd.func66 rfl Tryd.ntmps66 rfl rfl ?_
  refine W_sr ?_
  refine W_assign rfl rfl ?_
  refine W_nil ?_
  refine W_sr ?_
  refine W_move rfl rfl ?_
  refine W_callp (.cons rfl .nil) Tryd.call49 rfl hT (class_pure _) ?_
  refine W_bin rfl rfl b_eql rfl ?_
  refine W_move rfl rfl ?_
  apply W_and
  iterate 4 exact rfl
  case h1 =>
    intro hg3
    refine W_gyes rfl rfl ?_
    refine W_move rfl rfl ?_
    refine W_gyes rfl rfl ?_
    refine W_bin rfl rfl b_geq rfl ?_
    exact W_met rfl zR
  refine W_move rfl rfl ?_
  apply W_or
  iterate 4 exact rfl
  case h1 =>
    intro hg7
    refine W_gyes rfl rfl ?_
    refine W_move rfl rfl ?_
    refine W_gyes rfl rfl ?_
    refine W_callp (.cons rfl .nil) Tryd.call49 rfl hT (class_pure _) ?_
    refine W_gyes rfl rfl ?_
    refine W_bin rfl rfl b_eql rfl ?_
    refine W_gyes rfl rfl ?_
    refine W_move rfl rfl ?_
    apply W_and
    iterate 4 exact rfl
    case h1 =>
      intro hg11
      refine W_gyes rfl rfl ?_
      refine W_move rfl rfl ?_
      refine W_gyes rfl rfl ?_
      refine W_bin rfl rfl b_geq rfl ?_
      exact W_met rfl zR
    exact W_met rfl zR
  refine W_assign rfl rfl ?_
  refine W_nil ?_
  refine W_ret1m Tryd.results66 rfl (.nil _) (.refl _) ?_
  exact ⟨by simp, rfl⟩
def U (a : Int) : Value := .int .u64 a
def Fun2 (f : FuncId) (ca : Array Value) (H : Heap) (r : Int) : Prop := ∀ w0, LCalls Tryd.prog w0 f (#[] ++ #[] ++ ca) H (fun v H' => v = U r ∧ H' = H)
theorem quot_fun {b4 b5 : Nat} {H : Heap} {a b : Int} (hb : b ≠ 0) : Fun2 89 #[.pointer (some ⟨b4, 0, none⟩), .pointer (some ⟨b5, 0, none⟩)] ((b5, .cells 28 1 [U b]) :: (b4, .cells 28 1 [U a]) :: H) (IntKind.u64.wrap (a.tdiv b)) := by
  intro w0
  refine L_enter (l := [.pointer (some ⟨b4, 0, none⟩), .pointer (some ⟨b5, 0, none⟩)]) Tryd.func89 rfl Tryd.ntmps89 rfl rfl ?_
  refine W_sr ?_
  refine W_assign rfl rfl ?_
  refine W_nil ?_
  refine W_sr ?_
  refine W_load rfl ty28 rfl (Cell.own zM rfl) rfl ?_
  refine W_load rfl ty28 rfl (Cell.own zM rfl) rfl ?_
  refine W_bin rfl rfl (b_quo hb rfl) rfl ?_
  refine W_assign rfl rfl ?_
  refine W_nil ?_
  refine W_ret1m Tryd.results89 rfl (.nil _) (.refl _) ?_
  exact ⟨rfl, rfl⟩
theorem rems_fun {b4 b5 : Nat} {H : Heap} {a b : Int} (hb : b ≠ 0) : Fun2 90 #[.pointer (some ⟨b4, 0, none⟩), .pointer (some ⟨b5, 0, none⟩)] ((b5, .cells 28 1 [U b]) :: (b4, .cells 28 1 [U a]) :: H) (a.tmod b) := by
  intro w0
  refine L_enter (l := [.pointer (some ⟨b4, 0, none⟩), .pointer (some ⟨b5, 0, none⟩)]) Tryd.func90 rfl Tryd.ntmps90 rfl rfl ?_
  refine W_sr ?_
  refine W_assign rfl rfl ?_
  refine W_nil ?_
  refine W_sr ?_
  refine W_load rfl ty28 rfl (Cell.own zM rfl) rfl ?_
  refine W_load rfl ty28 rfl (Cell.own zM rfl) rfl ?_
  refine W_bin rfl rfl (b_rem hb rfl) rfl ?_
  refine W_assign rfl rfl ?_
  refine W_nil ?_
  refine W_ret1m Tryd.results90 rfl (.nil _) (.refl _) ?_
  exact ⟨rfl, rfl⟩
theorem guarded_L {w0 : World} {H : Heap} {f : FuncId} {ca : Array Value} {b o r : Int} (hf : ∀ (args : Array Value) (w : World), (callFunc f args).run Tryd.prog w = .ok (.enter f args) w) (hF : b ≠ 0 → Fun2 f ca H r) :
    LCalls Tryd.prog w0 88 #[U b, U o, .func (.func f) #[] ca] H (fun v H' => v = U (if b = 0 then o else r) ∧ H' = H) := by
  refine L_enter (l := [U b, U o, .func (.func f) #[] ca]) Tryd.func88 rfl Tryd.ntmps88 rfl rfl ?_
  refine W_sr ?_
  refine W_assign rfl rfl ?_
  refine W_nil ?_
  refine W_seq ?_
  refine W_sr ?_
  refine W_move rfl rfl ?_
  refine W_bin rfl rfl b_eql rfl ?_
  refine W_nil ?_
  refine W_condPS (p := b = 0) rfl (by simp) (fun c0 => ?_) (fun c0 => ?_)
  · skip
    refine W_sr ?_
    refine W_move rfl rfl ?_
    refine W_assign rfl rfl ?_
    refine W_nil ?_
    refine W_ret1m Tryd.results88 rfl (.nil _) (.refl _) ?_
    exact ⟨by rw [if_pos c0], rfl⟩
  · skip
    refine W_skip ?_
    refine W_sr ?_
    refine W_move rfl rfl ?_
    refine W_callv rfl .nil hf rfl (hF c0 w0) ?_
    rintro v H1 ⟨rfl, rfl⟩
    refine W_assign rfl rfl ?_
    refine W_nil ?_
    refine W_ret1m Tryd.results88 rfl (.nil _) (.refl _) ?_
    exact ⟨by rw [if_neg c0], rfl⟩
end Go.Proofs.YtcmfldfeakmdoaaDoor
namespace Go.Proofs.YtcmfldfeakmdoaaDoor
open Go Go.Sl
attribute [local irreducible] W
def doS (p a b : Int) : Int :=
  if p = 0 then IntKind.u64.wrap (a + b) else if p = 1 then IntKind.u64.wrap (a - b) else if p = 2 then IntKind.u64.wrap (a * b)
  else if p = 3 then (if b = 0 then 0 else IntKind.u64.wrap (a.tdiv b)) else if p = 4 then (if b = 0 then a else a.tmod b)
  else if p = 5 then bitsOf .and .u64 a b else if p = 6 then bitsOf .or .u64 a b else if p = 7 then bitsOf .xor .u64 a b
  else if p = 8 then IntKind.u64.wrap (a * 2 ^ (min (b.tmod 64).toNat 64)) else if p = 9 then a.fdiv (2 ^ (min (b.tmod 64).toNat 64))
  else if p = 10 then IntKind.u64.wrap ((IntKind.i64.wrap a).fdiv (2 ^ (min (b.tmod 64).toNat 64))) else if p = 11 then b else IntKind.u64.wrap (0 - a)
def doR (op a b : Int) : Value := if cls op = 1 then .tuple #[U (doS (plainOf op) a b), .int .i64 0] else .tuple #[U 0, .int .i64 11]
def jumpS (p a b : Int) : Bool :=
  if p = 33 then decide (a = b) else if p = 34 then decide (a ≠ b) else if p = 35 then decide (b < a) else if p = 36 then decide (b ≤ a) else if p = 37 then decide (a < b)
  else if p = 38 then decide (a ≤ b) else if p = 39 then decide (bitsOf .and .u64 a b ≠ 0) else if p = 40 then decide (IntKind.i64.wrap b < IntKind.i64.wrap a)
  else if p = 41 then decide (IntKind.i64.wrap a < IntKind.i64.wrap b) else true
def jumpR (op a b : Int) : Value := if cls op = 2 then .tuple #[.bool (jumpS (plainOf op) a b), .int .i64 0] else .tuple #[.bool false, .int .i64 11]
set_option maxHeartbeats 1000000 in
theorem do_pure (op a b : Int) (hlo : -9223372036854775808 ≤ op) (hhi : op ≤ 9223372036854775807) (hb0 : 0 ≤ b) : Pure Tryd.prog (Tab) 84 [.int .i64 op, U a, U b] (doR op a b) := by
  intro w0 H hT
  have hby : 0 ≤ b.tmod 64 := Int.tmod_nonneg _ hb0
  unfold U
  refine L_enter Tryd.func84 rfl Tryd.ntmps84 rfl rfl ?_
  refine W_sr ?_
  refine W_box rfl rfl rfl (fun b4 => ?_)
  refine W_box rfl rfl rfl (fun b5 => ?_)
  refine W_assign rfl rfl ?_
  refine W_assign rfl rfl ?_
  refine W_nil ?_
  refine W_seq ?_
  refine W_sr ?_
  refine W_move rfl rfl ?_
  refine W_callp (.cons rfl .nil) Tryd.call49 rfl hT (class_pure _) ?_
  refine W_bin rfl rfl b_neq rfl ?_
  refine W_nil ?_
  refine W_condS rfl (fun c0 => ?_) (fun c0 => ?_)
  · simp only [cond_true, cond_false, Bool.and_eq_true, Bool.or_eq_true, Bool.and_eq_false_iff, Bool.or_eq_false_iff, decide_eq_true_eq, decide_eq_false_iff_not, Bool.not_eq_true', Bool.not_eq_false', ne_eq, Decidable.not_not] at c0
    refine W_sr ?_
    refine W_assign rfl rfl ?_
    refine W_assign rfl rfl ?_
    refine W_nil ?_
    refine W_ret2m (H2 := H) Tryd.results84 rfl rfl (.nil _) zH ?_
    exact ⟨by unfold doR U; rw [if_neg c0], rfl⟩
  · simp only [cond_true, cond_false, Bool.and_eq_true, Bool.or_eq_true, Bool.and_eq_false_iff, Bool.or_eq_false_iff, decide_eq_true_eq, decide_eq_false_iff_not, Bool.not_eq_true', Bool.not_eq_false', ne_eq, Decidable.not_not] at c0
    refine W_skip ?_
    refine W_sr ?_
    refine W_load rfl ty28 rfl (Cell.own zM rfl) rfl ?_
    refine W_bin rfl rfl (b_rem (by decide) rfl) rfl ?_
    refine W_assign rfl rfl ?_
    refine W_nil ?_
    refine W_seq ?_
    refine W_sr ?_
    refine W_move rfl rfl ?_
    refine W_callp (.cons rfl .nil) Tryd.call87 rfl hT (plain_pure _ hlo hhi) ?_
    refine W_nil ?_
    refine W_block ?_
    refine W_sr ?_
    refine W_bin rfl rfl b_eql rfl ?_
    refine W_assign rfl rfl ?_
    refine W_nil ?_
    refine W_condS rfl (fun c1 => ?_) (fun c1 => ?_)
    · simp only [cond_true, cond_false, Bool.and_eq_true, Bool.or_eq_true, Bool.and_eq_false_iff, Bool.or_eq_false_iff, decide_eq_true_eq, decide_eq_false_iff_not, Bool.not_eq_true', Bool.not_eq_false', ne_eq, Decidable.not_not] at c1
      refine W_region ?_
      refine W_load rfl ty28 rfl (Cell.own zM rfl) rfl ?_
      refine W_load rfl ty28 rfl (Cell.own zM rfl) rfl ?_
      refine W_bin rfl rfl (b_add rfl) rfl ?_
      refine W_store rfl rfl ty28 rfl rfl zM rfl rfl zU ?_
      refine W_nil ?_
      refine W_blk ?_
      refine W_sr ?_
      refine W_load rfl ty28 rfl (Cell.own zM rfl) rfl ?_
      refine W_assign rfl rfl ?_
      refine W_assign rfl rfl ?_
      refine W_nil ?_
      refine W_ret2m (H2 := H) Tryd.results84 rfl rfl (.nil _) zH ?_
      exact ⟨by unfold doR doS U; rw [if_pos c0, c1]; rfl, rfl⟩
    · simp only [cond_true, cond_false, Bool.and_eq_true, Bool.or_eq_true, Bool.and_eq_false_iff, Bool.or_eq_false_iff, decide_eq_true_eq, decide_eq_false_iff_not, Bool.not_eq_true', Bool.not_eq_false', ne_eq, Decidable.not_not] at c1
      refine W_sr ?_
      refine W_bin rfl rfl b_eql rfl ?_
      refine W_assign rfl rfl ?_
      refine W_nil ?_
      refine W_condS rfl (fun c2 => ?_) (fun c2 => ?_)
      · simp only [cond_true, cond_false, Bool.and_eq_true, Bool.or_eq_true, Bool.and_eq_false_iff, Bool.or_eq_false_iff, decide_eq_true_eq, decide_eq_false_iff_not, Bool.not_eq_true', Bool.not_eq_false', ne_eq, Decidable.not_not] at c2
        refine W_region ?_
        refine W_load rfl ty28 rfl (Cell.own zM rfl) rfl ?_
        refine W_load rfl ty28 rfl (Cell.own zM rfl) rfl ?_
        refine W_bin rfl rfl (b_sub rfl) rfl ?_
        refine W_store rfl rfl ty28 rfl rfl zM rfl rfl zU ?_
        refine W_nil ?_
        refine W_blk ?_
        refine W_sr ?_
        refine W_load rfl ty28 rfl (Cell.own zM rfl) rfl ?_
        refine W_assign rfl rfl ?_
        refine W_assign rfl rfl ?_
        refine W_nil ?_
        refine W_ret2m (H2 := H) Tryd.results84 rfl rfl (.nil _) zH ?_
        exact ⟨by unfold doR doS U; rw [if_pos c0, c2]; rfl, rfl⟩
      · simp only [cond_true, cond_false, Bool.and_eq_true, Bool.or_eq_true, Bool.and_eq_false_iff, Bool.or_eq_false_iff, decide_eq_true_eq, decide_eq_false_iff_not, Bool.not_eq_true', Bool.not_eq_false', ne_eq, Decidable.not_not] at c2
        refine W_sr ?_
        refine W_bin rfl rfl b_eql rfl ?_
        refine W_assign rfl rfl ?_
        refine W_nil ?_
        refine W_condS rfl (fun c3 => ?_) (fun c3 => ?_)
        · simp only [cond_true, cond_false, Bool.and_eq_true, Bool.or_eq_true, Bool.and_eq_false_iff, Bool.or_eq_false_iff, decide_eq_true_eq, decide_eq_false_iff_not, Bool.not_eq_true', Bool.not_eq_false', ne_eq, Decidable.not_not] at c3
          refine W_region ?_
          refine W_load rfl ty28 rfl (Cell.own zM rfl) rfl ?_
          refine W_load rfl ty28 rfl (Cell.own zM rfl) rfl ?_
          refine W_bin rfl rfl (b_mul rfl) rfl ?_
          refine W_store rfl rfl ty28 rfl rfl zM rfl rfl zU ?_
          refine W_nil ?_
          refine W_blk ?_
          refine W_sr ?_
          refine W_load rfl ty28 rfl (Cell.own zM rfl) rfl ?_
          refine W_assign rfl rfl ?_
          refine W_assign rfl rfl ?_
          refine W_nil ?_
          refine W_ret2m (H2 := H) Tryd.results84 rfl rfl (.nil _) zH ?_
          exact ⟨by unfold doR doS U; rw [if_pos c0, c3]; rfl, rfl⟩
        · simp only [cond_true, cond_false, Bool.and_eq_true, Bool.or_eq_true, Bool.and_eq_false_iff, Bool.or_eq_false_iff, decide_eq_true_eq, decide_eq_false_iff_not, Bool.not_eq_true', Bool.not_eq_false', ne_eq, Decidable.not_not] at c3
          refine W_sr ?_
          refine W_bin rfl rfl b_eql rfl ?_
          refine W_assign rfl rfl ?_
          refine W_nil ?_
          refine W_condS rfl (fun c4 => ?_) (fun c4 => ?_)
          · simp only [cond_true, cond_false, Bool.and_eq_true, Bool.or_eq_true, Bool.and_eq_false_iff, Bool.or_eq_false_iff, decide_eq_true_eq, decide_eq_false_iff_not, Bool.not_eq_true', Bool.not_eq_false', ne_eq, Decidable.not_not] at c4
            refine W_region ?_
            refine W_load rfl ty28 rfl (Cell.own zM rfl) rfl ?_
            refine W_makeFunc .nil (.cons rfl (.cons rfl .nil)) rfl ?_
            refine W_call (.cons rfl (.cons rfl (.cons rfl .nil))) Tryd.call88 rfl (guarded_L Tryd.call89 (fun hb => quot_fun hb)) ?_
            rintro v H1 ⟨rfl, rfl⟩
            refine W_store rfl rfl ty28 rfl rfl zM rfl rfl zU ?_
            refine W_nil ?_
            refine W_blk ?_
            refine W_sr ?_
            refine W_load rfl ty28 rfl (Cell.own zM rfl) rfl ?_
            refine W_assign rfl rfl ?_
            refine W_assign rfl rfl ?_
            refine W_nil ?_
            refine W_ret2m (H2 := H) Tryd.results84 rfl rfl (.nil _) zH ?_
            exact ⟨by unfold doR doS U; rw [if_pos c0, c4]; rfl, rfl⟩
          · simp only [cond_true, cond_false, Bool.and_eq_true, Bool.or_eq_true, Bool.and_eq_false_iff, Bool.or_eq_false_iff, decide_eq_true_eq, decide_eq_false_iff_not, Bool.not_eq_true', Bool.not_eq_false', ne_eq, Decidable.not_not] at c4
            refine W_sr ?_
            refine W_bin rfl rfl b_eql rfl ?_
            refine W_assign rfl rfl ?_
            refine W_nil ?_
            refine W_condS rfl (fun c5 => ?_) (fun c5 => ?_)
            · simp only [cond_true, cond_false, Bool.and_eq_true, Bool.or_eq_true, Bool.and_eq_false_iff, Bool.or_eq_false_iff, decide_eq_true_eq, decide_eq_false_iff_not, Bool.not_eq_true', Bool.not_eq_false', ne_eq, Decidable.not_not] at c5
              refine W_region ?_
              refine W_load rfl ty28 rfl (Cell.own zM rfl) rfl ?_
              refine W_load rfl ty28 rfl (Cell.own zM rfl) rfl ?_
              refine W_makeFunc .nil (.cons rfl (.cons rfl .nil)) rfl ?_
              refine W_call (.cons rfl (.cons rfl (.cons rfl .nil))) Tryd.call88 rfl (guarded_L Tryd.call90 (fun hb => rems_fun hb)) ?_
              rintro v H1 ⟨rfl, rfl⟩
              refine W_store rfl rfl ty28 rfl rfl zM rfl rfl zU ?_
              refine W_nil ?_
              refine W_blk ?_
              refine W_sr ?_
              refine W_load rfl ty28 rfl (Cell.own zM rfl) rfl ?_
              refine W_assign rfl rfl ?_
              refine W_assign rfl rfl ?_
              refine W_nil ?_
              refine W_ret2m (H2 := H) Tryd.results84 rfl rfl (.nil _) zH ?_
              exact ⟨by unfold doR doS U; rw [if_pos c0, c5]; rfl, rfl⟩
            · simp only [cond_true, cond_false, Bool.and_eq_true, Bool.or_eq_true, Bool.and_eq_false_iff, Bool.or_eq_false_iff, decide_eq_true_eq, decide_eq_false_iff_not, Bool.not_eq_true', Bool.not_eq_false', ne_eq, Decidable.not_not] at c5
              refine W_sr ?_
              refine W_bin rfl rfl b_eql rfl ?_
              refine W_assign rfl rfl ?_
              refine W_nil ?_
              refine W_condS rfl (fun c6 => ?_) (fun c6 => ?_)
              · simp only [cond_true, cond_false, Bool.and_eq_true, Bool.or_eq_true, Bool.and_eq_false_iff, Bool.or_eq_false_iff, decide_eq_true_eq, decide_eq_false_iff_not, Bool.not_eq_true', Bool.not_eq_false', ne_eq, Decidable.not_not] at c6
                refine W_region ?_
                refine W_load rfl ty28 rfl (Cell.own zM rfl) rfl ?_
                refine W_load rfl ty28 rfl (Cell.own zM rfl) rfl ?_
                refine W_bin rfl rfl (b_and rfl) rfl ?_
                refine W_store rfl rfl ty28 rfl rfl zM rfl rfl zU ?_
                refine W_nil ?_
                refine W_blk ?_
                refine W_sr ?_
                refine W_load rfl ty28 rfl (Cell.own zM rfl) rfl ?_
                refine W_assign rfl rfl ?_
                refine W_assign rfl rfl ?_
                refine W_nil ?_
                refine W_ret2m (H2 := H) Tryd.results84 rfl rfl (.nil _) zH ?_
                exact ⟨by unfold doR doS U; rw [if_pos c0, c6]; rfl, rfl⟩
              · simp only [cond_true, cond_false, Bool.and_eq_true, Bool.or_eq_true, Bool.and_eq_false_iff, Bool.or_eq_false_iff, decide_eq_true_eq, decide_eq_false_iff_not, Bool.not_eq_true', Bool.not_eq_false', ne_eq, Decidable.not_not] at c6
                refine W_sr ?_
                refine W_bin rfl rfl b_eql rfl ?_
                refine W_assign rfl rfl ?_
                refine W_nil ?_
                refine W_condS rfl (fun c7 => ?_) (fun c7 => ?_)
                · simp only [cond_true, cond_false, Bool.and_eq_true, Bool.or_eq_true, Bool.and_eq_false_iff, Bool.or_eq_false_iff, decide_eq_true_eq, decide_eq_false_iff_not, Bool.not_eq_true', Bool.not_eq_false', ne_eq, Decidable.not_not] at c7
                  refine W_region ?_
                  refine W_load rfl ty28 rfl (Cell.own zM rfl) rfl ?_
                  refine W_load rfl ty28 rfl (Cell.own zM rfl) rfl ?_
                  refine W_bin rfl rfl (b_or rfl) rfl ?_
                  refine W_store rfl rfl ty28 rfl rfl zM rfl rfl zU ?_
                  refine W_nil ?_
                  refine W_blk ?_
                  refine W_sr ?_
                  refine W_load rfl ty28 rfl (Cell.own zM rfl) rfl ?_
                  refine W_assign rfl rfl ?_
                  refine W_assign rfl rfl ?_
                  refine W_nil ?_
                  refine W_ret2m (H2 := H) Tryd.results84 rfl rfl (.nil _) zH ?_
                  exact ⟨by unfold doR doS U; rw [if_pos c0, c7]; rfl, rfl⟩
                · simp only [cond_true, cond_false, Bool.and_eq_true, Bool.or_eq_true, Bool.and_eq_false_iff, Bool.or_eq_false_iff, decide_eq_true_eq, decide_eq_false_iff_not, Bool.not_eq_true', Bool.not_eq_false', ne_eq, Decidable.not_not] at c7
                  refine W_sr ?_
                  refine W_bin rfl rfl b_eql rfl ?_
                  refine W_assign rfl rfl ?_
                  refine W_nil ?_
                  refine W_condS rfl (fun c8 => ?_) (fun c8 => ?_)
                  · simp only [cond_true, cond_false, Bool.and_eq_true, Bool.or_eq_true, Bool.and_eq_false_iff, Bool.or_eq_false_iff, decide_eq_true_eq, decide_eq_false_iff_not, Bool.not_eq_true', Bool.not_eq_false', ne_eq, Decidable.not_not] at c8
                    refine W_region ?_
                    refine W_load rfl ty28 rfl (Cell.own zM rfl) rfl ?_
                    refine W_load rfl ty28 rfl (Cell.own zM rfl) rfl ?_
                    refine W_bin rfl rfl (b_xor rfl) rfl ?_
                    refine W_store rfl rfl ty28 rfl rfl zM rfl rfl zU ?_
                    refine W_nil ?_
                    refine W_blk ?_
                    refine W_sr ?_
                    refine W_load rfl ty28 rfl (Cell.own zM rfl) rfl ?_
                    refine W_assign rfl rfl ?_
                    refine W_assign rfl rfl ?_
                    refine W_nil ?_
                    refine W_ret2m (H2 := H) Tryd.results84 rfl rfl (.nil _) zH ?_
                    exact ⟨by unfold doR doS U; rw [if_pos c0, c8]; rfl, rfl⟩
                  · simp only [cond_true, cond_false, Bool.and_eq_true, Bool.or_eq_true, Bool.and_eq_false_iff, Bool.or_eq_false_iff, decide_eq_true_eq, decide_eq_false_iff_not, Bool.not_eq_true', Bool.not_eq_false', ne_eq, Decidable.not_not] at c8
                    refine W_sr ?_
                    refine W_bin rfl rfl b_eql rfl ?_
                    refine W_assign rfl rfl ?_
                    refine W_nil ?_
                    refine W_condS rfl (fun c9 => ?_) (fun c9 => ?_)
                    · simp only [cond_true, cond_false, Bool.and_eq_true, Bool.or_eq_true, Bool.and_eq_false_iff, Bool.or_eq_false_iff, decide_eq_true_eq, decide_eq_false_iff_not, Bool.not_eq_true', Bool.not_eq_false', ne_eq, Decidable.not_not] at c9
                      refine W_region ?_
                      refine W_load rfl ty28 rfl (Cell.own zM rfl) rfl ?_
                      refine W_move rfl rfl ?_
                      refine W_bin rfl rfl (b_shl hby rfl) rfl ?_
                      refine W_store rfl rfl ty28 rfl rfl zM rfl rfl zU ?_
                      refine W_nil ?_
                      refine W_blk ?_
                      refine W_sr ?_
                      refine W_load rfl ty28 rfl (Cell.own zM rfl) rfl ?_
                      refine W_assign rfl rfl ?_
                      refine W_assign rfl rfl ?_
                      refine W_nil ?_
                      refine W_ret2m (H2 := H) Tryd.results84 rfl rfl (.nil _) zH ?_
                      exact ⟨by unfold doR doS U; rw [if_pos c0, c9]; rfl, rfl⟩
                    · simp only [cond_true, cond_false, Bool.and_eq_true, Bool.or_eq_true, Bool.and_eq_false_iff, Bool.or_eq_false_iff, decide_eq_true_eq, decide_eq_false_iff_not, Bool.not_eq_true', Bool.not_eq_false', ne_eq, Decidable.not_not] at c9
                      refine W_sr ?_
                      refine W_bin rfl rfl b_eql rfl ?_
                      refine W_assign rfl rfl ?_
                      refine W_nil ?_
                      refine W_condS rfl (fun c10 => ?_) (fun c10 => ?_)
                      · simp only [cond_true, cond_false, Bool.and_eq_true, Bool.or_eq_true, Bool.and_eq_false_iff, Bool.or_eq_false_iff, decide_eq_true_eq, decide_eq_false_iff_not, Bool.not_eq_true', Bool.not_eq_false', ne_eq, Decidable.not_not] at c10
                        refine W_region ?_
                        refine W_load rfl ty28 rfl (Cell.own zM rfl) rfl ?_
                        refine W_move rfl rfl ?_
                        refine W_bin rfl rfl (b_shr hby rfl) rfl ?_
                        refine W_store rfl rfl ty28 rfl rfl zM rfl rfl zU ?_
                        refine W_nil ?_
                        refine W_blk ?_
                        refine W_sr ?_
                        refine W_load rfl ty28 rfl (Cell.own zM rfl) rfl ?_
                        refine W_assign rfl rfl ?_
                        refine W_assign rfl rfl ?_
                        refine W_nil ?_
                        refine W_ret2m (H2 := H) Tryd.results84 rfl rfl (.nil _) zH ?_
                        exact ⟨by unfold doR doS U; rw [if_pos c0, c10]; rfl, rfl⟩
                      · simp only [cond_true, cond_false, Bool.and_eq_true, Bool.or_eq_true, Bool.and_eq_false_iff, Bool.or_eq_false_iff, decide_eq_true_eq, decide_eq_false_iff_not, Bool.not_eq_true', Bool.not_eq_false', ne_eq, Decidable.not_not] at c10
                        refine W_sr ?_
                        refine W_bin rfl rfl b_eql rfl ?_
                        refine W_assign rfl rfl ?_
                        refine W_nil ?_
                        refine W_condS rfl (fun c11 => ?_) (fun c11 => ?_)
                        · simp only [cond_true, cond_false, Bool.and_eq_true, Bool.or_eq_true, Bool.and_eq_false_iff, Bool.or_eq_false_iff, decide_eq_true_eq, decide_eq_false_iff_not, Bool.not_eq_true', Bool.not_eq_false', ne_eq, Decidable.not_not] at c11
                          refine W_region ?_
                          refine W_load rfl ty28 rfl (Cell.own zM rfl) rfl ?_
                          refine W_conv rfl ty28 ty2 rfl rfl ?_
                          refine W_move rfl rfl ?_
                          refine W_bin rfl rfl (b_shr hby rfl) rfl ?_
                          refine W_conv rfl ty2 ty28 rfl rfl ?_
                          refine W_store rfl rfl ty28 rfl rfl zM rfl rfl zU ?_
                          refine W_nil ?_
                          refine W_blk ?_
                          refine W_sr ?_
                          refine W_load rfl ty28 rfl (Cell.own zM rfl) rfl ?_
                          refine W_assign rfl rfl ?_
                          refine W_assign rfl rfl ?_
                          refine W_nil ?_
                          refine W_ret2m (H2 := H) Tryd.results84 rfl rfl (.nil _) zH ?_
                          exact ⟨by unfold doR doS U; rw [if_pos c0, c11]; rfl, rfl⟩
                        · simp only [cond_true, cond_false, Bool.and_eq_true, Bool.or_eq_true, Bool.and_eq_false_iff, Bool.or_eq_false_iff, decide_eq_true_eq, decide_eq_false_iff_not, Bool.not_eq_true', Bool.not_eq_false', ne_eq, Decidable.not_not] at c11
                          refine W_sr ?_
                          refine W_bin rfl rfl b_eql rfl ?_
                          refine W_assign rfl rfl ?_
                          refine W_nil ?_
                          refine W_condS rfl (fun c12 => ?_) (fun c12 => ?_)
                          · simp only [cond_true, cond_false, Bool.and_eq_true, Bool.or_eq_true, Bool.and_eq_false_iff, Bool.or_eq_false_iff, decide_eq_true_eq, decide_eq_false_iff_not, Bool.not_eq_true', Bool.not_eq_false', ne_eq, Decidable.not_not] at c12
                            refine W_region ?_
                            refine W_load rfl ty28 rfl (Cell.own zM rfl) rfl ?_
                            refine W_store rfl rfl ty28 rfl rfl zM rfl rfl zU ?_
                            refine W_nil ?_
                            refine W_blk ?_
                            refine W_sr ?_
                            refine W_load rfl ty28 rfl (Cell.own zM rfl) rfl ?_
                            refine W_assign rfl rfl ?_
                            refine W_assign rfl rfl ?_
                            refine W_nil ?_
                            refine W_ret2m (H2 := H) Tryd.results84 rfl rfl (.nil _) zH ?_
                            exact ⟨by unfold doR doS U; rw [if_pos c0, c12]; rfl, rfl⟩
                          · simp only [cond_true, cond_false, Bool.and_eq_true, Bool.or_eq_true, Bool.and_eq_false_iff, Bool.or_eq_false_iff, decide_eq_true_eq, decide_eq_false_iff_not, Bool.not_eq_true', Bool.not_eq_false', ne_eq, Decidable.not_not] at c12
                            refine W_region ?_
                            refine W_load rfl ty28 rfl (Cell.own zM rfl) rfl ?_
                            refine W_neg rfl rfl rfl ?_
                            refine W_store rfl rfl ty28 rfl rfl zM rfl rfl zU ?_
                            refine W_nil ?_
                            refine W_blk ?_
                            refine W_sr ?_
                            refine W_load rfl ty28 rfl (Cell.own zM rfl) rfl ?_
                            refine W_assign rfl rfl ?_
                            refine W_assign rfl rfl ?_
                            refine W_nil ?_
                            refine W_ret2m (H2 := H) Tryd.results84 rfl rfl (.nil _) zH ?_
                            exact ⟨by unfold doR doS U; rw [if_pos c0, if_neg c1, if_neg c2, if_neg c3, if_neg c4, if_neg c5, if_neg c6, if_neg c7, if_neg c8, if_neg c9, if_neg c10, if_neg c11, if_neg c12], rfl⟩
set_option maxHeartbeats 1000000 in
theorem jumps_pure (op a b : Int) (hlo : -9223372036854775808 ≤ op) (hhi : op ≤ 9223372036854775807) (hb0 : 0 ≤ b) : Pure Tryd.prog (Tab) 83 [.int .i64 op, U a, U b] (jumpR op a b) := by
  intro w0 H hT
  unfold U
  refine L_enter Tryd.func83 rfl Tryd.ntmps83 rfl rfl ?_
  refine W_sr ?_
  refine W_assign rfl rfl ?_
  refine W_assign rfl rfl ?_
  refine W_nil ?_
  refine W_seq ?_
  refine W_sr ?_
  refine W_move rfl rfl ?_
  refine W_callp (.cons rfl .nil) Tryd.call49 rfl hT (class_pure _) ?_
  refine W_bin rfl rfl b_neq rfl ?_
  refine W_nil ?_
  refine W_condS rfl (fun c0 => ?_) (fun c0 => ?_)
  · simp only [cond_true, cond_false, Bool.and_eq_true, Bool.or_eq_true, Bool.and_eq_false_iff, Bool.or_eq_false_iff, decide_eq_true_eq, decide_eq_false_iff_not, Bool.not_eq_true', Bool.not_eq_false', ne_eq, Decidable.not_not] at c0
    refine W_sr ?_
    refine W_assign rfl rfl ?_
    refine W_assign rfl rfl ?_
    refine W_nil ?_
    refine W_ret2m Tryd.results83 rfl rfl (.nil _) (.refl _) ?_
    exact ⟨by unfold jumpR; rw [if_neg c0], rfl⟩
  · simp only [cond_true, cond_false, Bool.and_eq_true, Bool.or_eq_true, Bool.and_eq_false_iff, Bool.or_eq_false_iff, decide_eq_true_eq, decide_eq_false_iff_not, Bool.not_eq_true', Bool.not_eq_false', ne_eq, Decidable.not_not] at c0
    refine W_skip ?_
    refine W_sr ?_
    refine W_move rfl rfl ?_
    refine W_conv rfl ty28 ty2 rfl rfl ?_
    refine W_move rfl rfl ?_
    refine W_conv rfl ty28 ty2 rfl rfl ?_
    refine W_assign rfl rfl ?_
    refine W_assign rfl rfl ?_
    refine W_nil ?_
    refine W_seq ?_
    refine W_sr ?_
    refine W_move rfl rfl ?_
    refine W_callp (.cons rfl .nil) Tryd.call87 rfl hT (plain_pure _ hlo hhi) ?_
    refine W_nil ?_
    refine W_block ?_
    refine W_sr ?_
    refine W_bin rfl rfl b_eql rfl ?_
    refine W_assign rfl rfl ?_
    refine W_nil ?_
    refine W_condS rfl (fun c1 => ?_) (fun c1 => ?_)
    · simp only [cond_true, cond_false, Bool.and_eq_true, Bool.or_eq_true, Bool.and_eq_false_iff, Bool.or_eq_false_iff, decide_eq_true_eq, decide_eq_false_iff_not, Bool.not_eq_true', Bool.not_eq_false', ne_eq, Decidable.not_not] at c1
      refine W_sr ?_
      refine W_move rfl rfl ?_
      refine W_move rfl rfl ?_
      refine W_bin rfl rfl b_eql rfl ?_
      refine W_assign rfl rfl ?_
      refine W_assign rfl rfl ?_
      refine W_nil ?_
      refine W_ret2m Tryd.results83 rfl rfl (.nil _) (.refl _) ?_
      exact ⟨by unfold jumpR jumpS; rw [if_pos c0, c1]; rfl, rfl⟩
    · simp only [cond_true, cond_false, Bool.and_eq_true, Bool.or_eq_true, Bool.and_eq_false_iff, Bool.or_eq_false_iff, decide_eq_true_eq, decide_eq_false_iff_not, Bool.not_eq_true', Bool.not_eq_false', ne_eq, Decidable.not_not] at c1
      refine W_sr ?_
      refine W_bin rfl rfl b_eql rfl ?_
      refine W_assign rfl rfl ?_
      refine W_nil ?_
      refine W_condS rfl (fun c2 => ?_) (fun c2 => ?_)
      · simp only [cond_true, cond_false, Bool.and_eq_true, Bool.or_eq_true, Bool.and_eq_false_iff, Bool.or_eq_false_iff, decide_eq_true_eq, decide_eq_false_iff_not, Bool.not_eq_true', Bool.not_eq_false', ne_eq, Decidable.not_not] at c2
        refine W_sr ?_
        refine W_move rfl rfl ?_
        refine W_move rfl rfl ?_
        refine W_bin rfl rfl b_neq rfl ?_
        refine W_assign rfl rfl ?_
        refine W_assign rfl rfl ?_
        refine W_nil ?_
        refine W_ret2m Tryd.results83 rfl rfl (.nil _) (.refl _) ?_
        exact ⟨by unfold jumpR jumpS; rw [if_pos c0, c2]; rfl, rfl⟩
      · simp only [cond_true, cond_false, Bool.and_eq_true, Bool.or_eq_true, Bool.and_eq_false_iff, Bool.or_eq_false_iff, decide_eq_true_eq, decide_eq_false_iff_not, Bool.not_eq_true', Bool.not_eq_false', ne_eq, Decidable.not_not] at c2
        refine W_sr ?_
        refine W_bin rfl rfl b_eql rfl ?_
        refine W_assign rfl rfl ?_
        refine W_nil ?_
        refine W_condS rfl (fun c3 => ?_) (fun c3 => ?_)
        · simp only [cond_true, cond_false, Bool.and_eq_true, Bool.or_eq_true, Bool.and_eq_false_iff, Bool.or_eq_false_iff, decide_eq_true_eq, decide_eq_false_iff_not, Bool.not_eq_true', Bool.not_eq_false', ne_eq, Decidable.not_not] at c3
          refine W_sr ?_
          refine W_move rfl rfl ?_
          refine W_move rfl rfl ?_
          refine W_bin rfl rfl b_gtr rfl ?_
          refine W_assign rfl rfl ?_
          refine W_assign rfl rfl ?_
          refine W_nil ?_
          refine W_ret2m Tryd.results83 rfl rfl (.nil _) (.refl _) ?_
          exact ⟨by unfold jumpR jumpS; rw [if_pos c0, c3]; rfl, rfl⟩
        · simp only [cond_true, cond_false, Bool.and_eq_true, Bool.or_eq_true, Bool.and_eq_false_iff, Bool.or_eq_false_iff, decide_eq_true_eq, decide_eq_false_iff_not, Bool.not_eq_true', Bool.not_eq_false', ne_eq, Decidable.not_not] at c3
          refine W_sr ?_
          refine W_bin rfl rfl b_eql rfl ?_
          refine W_assign rfl rfl ?_
          refine W_nil ?_
          refine W_condS rfl (fun c4 => ?_) (fun c4 => ?_)
          · simp only [cond_true, cond_false, Bool.and_eq_true, Bool.or_eq_true, Bool.and_eq_false_iff, Bool.or_eq_false_iff, decide_eq_true_eq, decide_eq_false_iff_not, Bool.not_eq_true', Bool.not_eq_false', ne_eq, Decidable.not_not] at c4
            refine W_sr ?_
            refine W_move rfl rfl ?_
            refine W_move rfl rfl ?_
            refine W_bin rfl rfl b_geq rfl ?_
            refine W_assign rfl rfl ?_
            refine W_assign rfl rfl ?_
            refine W_nil ?_
            refine W_ret2m Tryd.results83 rfl rfl (.nil _) (.refl _) ?_
            exact ⟨by unfold jumpR jumpS; rw [if_pos c0, c4]; rfl, rfl⟩
          · simp only [cond_true, cond_false, Bool.and_eq_true, Bool.or_eq_true, Bool.and_eq_false_iff, Bool.or_eq_false_iff, decide_eq_true_eq, decide_eq_false_iff_not, Bool.not_eq_true', Bool.not_eq_false', ne_eq, Decidable.not_not] at c4
            refine W_sr ?_
            refine W_bin rfl rfl b_eql rfl ?_
            refine W_assign rfl rfl ?_
            refine W_nil ?_
            refine W_condS rfl (fun c5 => ?_) (fun c5 => ?_)
            · simp only [cond_true, cond_false, Bool.and_eq_true, Bool.or_eq_true, Bool.and_eq_false_iff, Bool.or_eq_false_iff, decide_eq_true_eq, decide_eq_false_iff_not, Bool.not_eq_true', Bool.not_eq_false', ne_eq, Decidable.not_not] at c5
              refine W_sr ?_
              refine W_move rfl rfl ?_
              refine W_move rfl rfl ?_
              refine W_bin rfl rfl b_lss rfl ?_
              refine W_assign rfl rfl ?_
              refine W_assign rfl rfl ?_
              refine W_nil ?_
              refine W_ret2m Tryd.results83 rfl rfl (.nil _) (.refl _) ?_
              exact ⟨by unfold jumpR jumpS; rw [if_pos c0, c5]; rfl, rfl⟩
            · simp only [cond_true, cond_false, Bool.and_eq_true, Bool.or_eq_true, Bool.and_eq_false_iff, Bool.or_eq_false_iff, decide_eq_true_eq, decide_eq_false_iff_not, Bool.not_eq_true', Bool.not_eq_false', ne_eq, Decidable.not_not] at c5
              refine W_sr ?_
              refine W_bin rfl rfl b_eql rfl ?_
              refine W_assign rfl rfl ?_
              refine W_nil ?_
              refine W_condS rfl (fun c6 => ?_) (fun c6 => ?_)
              · simp only [cond_true, cond_false, Bool.and_eq_true, Bool.or_eq_true, Bool.and_eq_false_iff, Bool.or_eq_false_iff, decide_eq_true_eq, decide_eq_false_iff_not, Bool.not_eq_true', Bool.not_eq_false', ne_eq, Decidable.not_not] at c6
                refine W_sr ?_
                refine W_move rfl rfl ?_
                refine W_move rfl rfl ?_
                refine W_bin rfl rfl b_leq rfl ?_
                refine W_assign rfl rfl ?_
                refine W_assign rfl rfl ?_
                refine W_nil ?_
                refine W_ret2m Tryd.results83 rfl rfl (.nil _) (.refl _) ?_
                exact ⟨by unfold jumpR jumpS; rw [if_pos c0, c6]; rfl, rfl⟩
              · simp only [cond_true, cond_false, Bool.and_eq_true, Bool.or_eq_true, Bool.and_eq_false_iff, Bool.or_eq_false_iff, decide_eq_true_eq, decide_eq_false_iff_not, Bool.not_eq_true', Bool.not_eq_false', ne_eq, Decidable.not_not] at c6
                refine W_sr ?_
                refine W_bin rfl rfl b_eql rfl ?_
                refine W_assign rfl rfl ?_
                refine W_nil ?_
                refine W_condS rfl (fun c7 => ?_) (fun c7 => ?_)
                · simp only [cond_true, cond_false, Bool.and_eq_true, Bool.or_eq_true, Bool.and_eq_false_iff, Bool.or_eq_false_iff, decide_eq_true_eq, decide_eq_false_iff_not, Bool.not_eq_true', Bool.not_eq_false', ne_eq, Decidable.not_not] at c7
                  refine W_sr ?_
                  refine W_move rfl rfl ?_
                  refine W_move rfl rfl ?_
                  refine W_bin rfl rfl (b_and rfl) rfl ?_
                  refine W_bin rfl rfl b_neq rfl ?_
                  refine W_assign rfl rfl ?_
                  refine W_assign rfl rfl ?_
                  refine W_nil ?_
                  refine W_ret2m Tryd.results83 rfl rfl (.nil _) (.refl _) ?_
                  exact ⟨by unfold jumpR jumpS; rw [if_pos c0, c7]; rfl, rfl⟩
                · simp only [cond_true, cond_false, Bool.and_eq_true, Bool.or_eq_true, Bool.and_eq_false_iff, Bool.or_eq_false_iff, decide_eq_true_eq, decide_eq_false_iff_not, Bool.not_eq_true', Bool.not_eq_false', ne_eq, Decidable.not_not] at c7
                  refine W_sr ?_
                  refine W_bin rfl rfl b_eql rfl ?_
                  refine W_assign rfl rfl ?_
                  refine W_nil ?_
                  refine W_condS rfl (fun c8 => ?_) (fun c8 => ?_)
                  · simp only [cond_true, cond_false, Bool.and_eq_true, Bool.or_eq_true, Bool.and_eq_false_iff, Bool.or_eq_false_iff, decide_eq_true_eq, decide_eq_false_iff_not, Bool.not_eq_true', Bool.not_eq_false', ne_eq, Decidable.not_not] at c8
                    refine W_sr ?_
                    refine W_move rfl rfl ?_
                    refine W_move rfl rfl ?_
                    refine W_bin rfl rfl b_gtr rfl ?_
                    refine W_assign rfl rfl ?_
                    refine W_assign rfl rfl ?_
                    refine W_nil ?_
                    refine W_ret2m Tryd.results83 rfl rfl (.nil _) (.refl _) ?_
                    exact ⟨by unfold jumpR jumpS; rw [if_pos c0, c8]; rfl, rfl⟩
                  · simp only [cond_true, cond_false, Bool.and_eq_true, Bool.or_eq_true, Bool.and_eq_false_iff, Bool.or_eq_false_iff, decide_eq_true_eq, decide_eq_false_iff_not, Bool.not_eq_true', Bool.not_eq_false', ne_eq, Decidable.not_not] at c8
                    refine W_sr ?_
                    refine W_bin rfl rfl b_eql rfl ?_
                    refine W_assign rfl rfl ?_
                    refine W_nil ?_
                    refine W_condS rfl (fun c9 => ?_) (fun c9 => ?_)
                    · simp only [cond_true, cond_false, Bool.and_eq_true, Bool.or_eq_true, Bool.and_eq_false_iff, Bool.or_eq_false_iff, decide_eq_true_eq, decide_eq_false_iff_not, Bool.not_eq_true', Bool.not_eq_false', ne_eq, Decidable.not_not] at c9
                      refine W_sr ?_
                      refine W_move rfl rfl ?_
                      refine W_move rfl rfl ?_
                      refine W_bin rfl rfl b_lss rfl ?_
                      refine W_assign rfl rfl ?_
                      refine W_assign rfl rfl ?_
                      refine W_nil ?_
                      refine W_ret2m Tryd.results83 rfl rfl (.nil _) (.refl _) ?_
                      exact ⟨by unfold jumpR jumpS; rw [if_pos c0, c9]; rfl, rfl⟩
                    · simp only [cond_true, cond_false, Bool.and_eq_true, Bool.or_eq_true, Bool.and_eq_false_iff, Bool.or_eq_false_iff, decide_eq_true_eq, decide_eq_false_iff_not, Bool.not_eq_true', Bool.not_eq_false', ne_eq, Decidable.not_not] at c9
                      refine W_skip ?_
                      refine W_blk ?_
                      refine W_sr ?_
                      refine W_assign rfl rfl ?_
                      refine W_assign rfl rfl ?_
                      refine W_nil ?_
                      refine W_ret2m Tryd.results83 rfl rfl (.nil _) (.refl _) ?_
                      exact ⟨by unfold jumpR jumpS; rw [if_pos c0, if_neg c1, if_neg c2, if_neg c3, if_neg c4, if_neg c5, if_neg c6, if_neg c7, if_neg c8, if_neg c9], rfl⟩
set_option maxHeartbeats 1000000 in
theorem word_pure (i : Int) : Pure Tryd.prog (Tab) 86 [.int .i64 i] (U (IntKind.u64.wrap i)) := by
  intro w0 H hT
  refine L_enter Tryd.func86 rfl Tryd.ntmps86 rfl rfl ?_
  refine W_sr ?_
  refine W_assign rfl rfl ?_
  refine W_nil ?_
  refine W_sr ?_
  refine W_move rfl rfl ?_
  refine W_conv rfl ty3 ty28 rfl rfl ?_
  refine W_assign rfl rfl ?_
  refine W_nil ?_
  refine W_ret1m Tryd.results86 rfl (.nil _) (.refl _) ?_
  exact ⟨rfl, rfl⟩
end Go.Proofs.YtcmfldfeakmdoaaDoor
namespace Go.Proofs.YtcmfldfeakmdoaaDoor
open Go Go.Sl
attribute [local irreducible] W
abbrev I64 (z : Int) : Prop := -9223372036854775808 ≤ z ∧ z ≤ 9223372036854775807
def Wd (z : Int) : Prop := 0 ≤ z ∧ z ≤ 18446744073709551615
theorem wd_w (m : Int) : Wd (IntKind.u64.wrap m) := by
  have e : IntKind.u64.wrap m = m % 18446744073709551616 := by simp [IntKind.wrap, IntKind.signed, IntKind.bits]
  rw [e]; exact ⟨by omega, by omega⟩
theorem wd_ite {c : Prop} [Decidable c] {x y : Int} (hx : Wd x) (hy : Wd y) : Wd (if c then x else y) := by
  by_cases h : c
  · rw [if_pos h]; exact hx
  · rw [if_neg h]; exact hy
theorem bits_wd (op : BinOp) (a b : Int) : Wd (bitsOf op .u64 a b) := by unfold bitsOf; exact wd_w _
theorem fdiv_wd {a : Int} (ha : Wd a) (k : Nat) : Wd (a.fdiv (2 ^ k)) := by
  have h2 : (0 : Int) < 2 ^ k := Int.pow_pos (by decide)
  rw [Int.fdiv_eq_ediv_of_nonneg _ (Int.le_of_lt h2)]
  exact ⟨Int.ediv_nonneg ha.1 (Int.le_of_lt h2), Int.le_trans (Int.ediv_le_self _ ha.1) ha.2⟩
theorem tmod_wd {a b : Int} (ha : Wd a) (hb : Wd b) : Wd (a.tmod b) := by
  have h1 := Int.tmod_nonneg b ha.1
  have h2 : a.tmod b ≤ a := by
    rw [Int.tmod_eq_emod_of_nonneg ha.1]
    have h3 := Int.mul_nonneg hb.1 (Int.ediv_nonneg ha.1 hb.1)
    have h4 := Int.mul_ediv_add_emod a b
    generalize b * (a / b) = q at h3 h4
    omega
  exact ⟨h1, Int.le_trans h2 ha.2⟩
theorem doS_wd (p : Int) {a b : Int} (ha : Wd a) (hb : Wd b) : Wd (doS p a b) := by
  unfold doS
  repeat' (refine wd_ite ?_ ?_)
  all_goals first | exact wd_w _ | exact bits_wd _ _ _ | exact ha | exact hb | exact fdiv_wd ha _ | exact tmod_wd ha hb | exact ⟨by decide, by decide⟩
end Go.Proofs.YtcmfldfeakmdoaaDoor
namespace Go.Proofs.YtcmfldfeakmdoaaDoor
open Go Go.Sl
attribute [local irreducible] W
structure Ins where
  op : Int
  dst : Int
  src : Int
  off : Int
  imm : Int
def Ins.cells (x : Ins) : List Value := [.int .i64 x.op, .int .i64 x.dst, .int .i64 x.src, .int .i64 x.off, .int .i64 x.imm]
abbrev Ins.val (x : Ins) : Value := .agg #[.int .i64 x.op, .int .i64 x.dst, .int .i64 x.src, .int .i64 x.off, .int .i64 x.imm]
structure Ins.Ok (x : Ins) : Prop where
  op : I64 x.op
  dst : I64 x.dst
  src : I64 x.src
  off : I64 x.off
  imm : I64 x.imm
structure Uses where
  d : Bool
  s : Bool
  o : Bool
  i : Bool
abbrev Uses.val (u : Uses) : Value := .agg #[.bool u.d, .bool u.s, .bool u.o, .bool u.i]
def hasU (x : Ins) : Uses := ⟨decide (x.dst ≠ 0), decide (x.src ≠ 0), decide (x.off ≠ 0), decide (x.imm ≠ 0)⟩
def andU (u v : Uses) : Uses := ⟨u.d && v.d, u.s && v.s, u.o && v.o, u.i && v.i⟩
def isBy (op : Int) : Bool := decide (cls op = 1 ∧ 16 ≤ op ∨ cls op = 2 ∧ 48 ≤ op)
def usedU (op : Int) : Uses :=
  if op = 12 then ⟨true, false, false, false⟩ else if op = 32 then ⟨false, false, true, false⟩ else if op = 64 then ⟨true, false, true, false⟩ else if op = 65 then ⟨false, true, true, false⟩
  else if op = 66 ∨ op = 67 then ⟨true, true, true, false⟩ else if op = 72 then ⟨false, false, false, true⟩ else if op = 73 then ⟨false, false, false, false⟩ else ⟨true, isBy op, decide (cls op = 2), !isBy op⟩
set_option maxHeartbeats 1000000 in
theorem has_pure (x : Ins) : Pure Tryd.prog (Tab) 48 [.agg #[.int .i64 x.op, .int .i64 x.dst, .int .i64 x.src, .int .i64 x.off, .int .i64 x.imm]] (Uses.val (hasU x)) := by
  intro w0 H hT
  refine L_enter Tryd.func48 rfl Tryd.ntmps48 rfl rfl ?_
  refine W_sr ?_
  refine W_box rfl rfl rfl (fun b1 => ?_)
  refine W_alloc ty104 rfl rfl (fun b2 => ?_)
  refine W_nil ?_
  refine W_sr ?_
  refine W_fieldAddr rfl fld59_1 (by decide) rfl ?_
  refine W_load rfl ty3 rfl (Cell.own zM rfl) rfl ?_
  refine W_bin rfl rfl b_neq rfl ?_
  refine W_fieldAddr rfl fld59_2 (by decide) rfl ?_
  refine W_load rfl ty3 rfl (Cell.own zM rfl) rfl ?_
  refine W_bin rfl rfl b_neq rfl ?_
  refine W_fieldAddr rfl fld59_3 (by decide) rfl ?_
  refine W_load rfl ty3 rfl (Cell.own zM rfl) rfl ?_
  refine W_bin rfl rfl b_neq rfl ?_
  refine W_fieldAddr rfl fld59_4 (by decide) rfl ?_
  refine W_load rfl ty3 rfl (Cell.own zM rfl) rfl ?_
  refine W_bin rfl rfl b_neq rfl ?_
  refine W_build ty104 pl104 (.cons rfl rfl rfl rfl rfl (.cons rfl rfl rfl rfl rfl (.cons rfl rfl rfl rfl rfl (.cons rfl rfl rfl rfl rfl .nil)))) rfl zF rfl ?_
  refine W_storeA rfl rfl ty104 rfl rfl zM (Nat.le_of_ble_eq_true rfl) zF zU ?_
  refine W_nil ?_
  refine W_ret1cO (H2 := H) Tryd.results48 rfl (.nil _) ty104 rfl zM rfl (by first | exact hsubI | (repeat (first | exact HSub.refl _ | refine HSub.cons zT ?_ | refine HSub.app (by repeat (first | exact TakeS.here _ | apply TakeS.next | apply TakeS.app)) ?_ | refine HSub.drop ?_ | refine HSub.dropS ?_ | exact HSub.nil _))) ?_
  exact ⟨rfl, rfl⟩
set_option maxHeartbeats 1000000 in
theorem and_pure (u v : Uses) : Pure Tryd.prog (Tab) 50 [Uses.val u, Uses.val v] (Uses.val (andU u v)) := by
  intro w0 H hT
  refine L_enter Tryd.func50 rfl Tryd.ntmps50 rfl rfl ?_
  refine W_sr ?_
  refine W_box rfl rfl rfl (fun b2 => ?_)
  refine W_box rfl rfl rfl (fun b3 => ?_)
  refine W_alloc ty104 rfl rfl (fun b4 => ?_)
  refine W_nil ?_
  refine W_sr ?_
  refine W_fieldAddr rfl fld104_0 (by decide) rfl ?_
  refine W_load rfl ty4 rfl (Cell.own zM rfl) rfl ?_
  refine W_move rfl rfl ?_
  apply W_and
  iterate 4 exact rfl
  case h1 =>
    intro hg2
    refine W_gyes rfl rfl ?_
    refine W_fieldAddr rfl fld104_0 (by decide) rfl ?_
    refine W_gyes rfl rfl ?_
    refine W_load rfl ty4 rfl (Cell.own zM rfl) rfl ?_
    exact W_met rfl zR
  refine W_fieldAddr rfl fld104_1 (by decide) rfl ?_
  refine W_load rfl ty4 rfl (Cell.own zM rfl) rfl ?_
  refine W_move rfl rfl ?_
  apply W_and
  iterate 4 exact rfl
  case h1 =>
    intro hg8
    refine W_gyes rfl rfl ?_
    refine W_fieldAddr rfl fld104_1 (by decide) rfl ?_
    refine W_gyes rfl rfl ?_
    refine W_load rfl ty4 rfl (Cell.own zM rfl) rfl ?_
    exact W_met rfl zR
  refine W_fieldAddr rfl fld104_2 (by decide) rfl ?_
  refine W_load rfl ty4 rfl (Cell.own zM rfl) rfl ?_
  refine W_move rfl rfl ?_
  apply W_and
  iterate 4 exact rfl
  case h1 =>
    intro hg14
    refine W_gyes rfl rfl ?_
    refine W_fieldAddr rfl fld104_2 (by decide) rfl ?_
    refine W_gyes rfl rfl ?_
    refine W_load rfl ty4 rfl (Cell.own zM rfl) rfl ?_
    exact W_met rfl zR
  refine W_fieldAddr rfl fld104_3 (by decide) rfl ?_
  refine W_load rfl ty4 rfl (Cell.own zM rfl) rfl ?_
  refine W_move rfl rfl ?_
  apply W_and
  iterate 4 exact rfl
  case h1 =>
    intro hg20
    refine W_gyes rfl rfl ?_
    refine W_fieldAddr rfl fld104_3 (by decide) rfl ?_
    refine W_gyes rfl rfl ?_
    refine W_load rfl ty4 rfl (Cell.own zM rfl) rfl ?_
    exact W_met rfl zR
  refine W_build ty104 pl104 (.cons rfl rfl rfl rfl rfl (.cons rfl rfl rfl rfl rfl (.cons rfl rfl rfl rfl rfl (.cons rfl rfl rfl rfl rfl .nil)))) rfl zF rfl ?_
  refine W_storeA rfl rfl ty104 rfl rfl zM (Nat.le_of_ble_eq_true rfl) zF zU ?_
  refine W_nil ?_
  refine W_ret1cO (H2 := H) Tryd.results50 rfl (.nil _) ty104 rfl zM rfl (by first | exact hsubI | (repeat (first | exact HSub.refl _ | refine HSub.cons zT ?_ | refine HSub.app (by repeat (first | exact TakeS.here _ | apply TakeS.next | apply TakeS.app)) ?_ | refine HSub.drop ?_ | refine HSub.dropS ?_ | exact HSub.nil _))) ?_
  exact ⟨rfl, rfl⟩
set_option maxHeartbeats 1000000 in
theorem used_pure (op : Int) : Pure Tryd.prog (Tab) 51 [.int .i64 op] (Uses.val (usedU op)) := by
  intro w0 H hT
  refine L_enter Tryd.func51 rfl Tryd.ntmps51 rfl rfl ?_
  refine W_sr ?_
  refine W_alloc ty104 rfl rfl (fun b2 => ?_)
  refine W_nil ?_
  refine W_seq ?_
  refine W_sr ?_
  refine W_move rfl rfl ?_
  refine W_nil ?_
  refine W_block ?_
  refine W_sr ?_
  refine W_bin rfl rfl b_eql rfl ?_
  refine W_assign rfl rfl ?_
  refine W_nil ?_
  refine W_condS rfl (fun c0 => ?_) (fun c0 => ?_)
  · simp only [cond_true, cond_false, Bool.and_eq_true, Bool.or_eq_true, Bool.and_eq_false_iff, Bool.or_eq_false_iff, decide_eq_true_eq, decide_eq_false_iff_not, Bool.not_eq_true', Bool.not_eq_false', ne_eq, Decidable.not_not] at c0
    refine W_sr ?_
    refine W_build ty104 pl104 (.cons rfl rfl rfl rfl rfl .nil) rfl zF rfl ?_
    refine W_storeA rfl rfl ty104 rfl rfl zM (Nat.le_of_ble_eq_true rfl) zF zU ?_
    refine W_nil ?_
    refine W_ret1cO (H2 := H) Tryd.results51 rfl (.nil _) ty104 rfl zM rfl (by first | exact hsubI | (repeat (first | exact HSub.refl _ | refine HSub.cons zT ?_ | refine HSub.app (by repeat (first | exact TakeS.here _ | apply TakeS.next | apply TakeS.app)) ?_ | refine HSub.drop ?_ | refine HSub.dropS ?_ | exact HSub.nil _))) ?_
    exact ⟨by unfold usedU isBy; repeat (first | rw [if_pos (by omega)] | rw [if_neg (by omega)]), rfl⟩
  · simp only [cond_true, cond_false, Bool.and_eq_true, Bool.or_eq_true, Bool.and_eq_false_iff, Bool.or_eq_false_iff, decide_eq_true_eq, decide_eq_false_iff_not, Bool.not_eq_true', Bool.not_eq_false', ne_eq, Decidable.not_not] at c0
    refine W_sr ?_
    refine W_bin rfl rfl b_eql rfl ?_
    refine W_assign rfl rfl ?_
    refine W_nil ?_
    refine W_condS rfl (fun c1 => ?_) (fun c1 => ?_)
    · simp only [cond_true, cond_false, Bool.and_eq_true, Bool.or_eq_true, Bool.and_eq_false_iff, Bool.or_eq_false_iff, decide_eq_true_eq, decide_eq_false_iff_not, Bool.not_eq_true', Bool.not_eq_false', ne_eq, Decidable.not_not] at c1
      refine W_sr ?_
      refine W_build ty104 pl104 (.cons rfl rfl rfl rfl rfl .nil) rfl zF rfl ?_
      refine W_storeA rfl rfl ty104 rfl rfl zM (Nat.le_of_ble_eq_true rfl) zF zU ?_
      refine W_nil ?_
      refine W_ret1cO (H2 := H) Tryd.results51 rfl (.nil _) ty104 rfl zM rfl (by first | exact hsubI | (repeat (first | exact HSub.refl _ | refine HSub.cons zT ?_ | refine HSub.app (by repeat (first | exact TakeS.here _ | apply TakeS.next | apply TakeS.app)) ?_ | refine HSub.drop ?_ | refine HSub.dropS ?_ | exact HSub.nil _))) ?_
      exact ⟨by unfold usedU isBy; repeat (first | rw [if_pos (by omega)] | rw [if_neg (by omega)]), rfl⟩
    · simp only [cond_true, cond_false, Bool.and_eq_true, Bool.or_eq_true, Bool.and_eq_false_iff, Bool.or_eq_false_iff, decide_eq_true_eq, decide_eq_false_iff_not, Bool.not_eq_true', Bool.not_eq_false', ne_eq, Decidable.not_not] at c1
      refine W_sr ?_
      refine W_bin rfl rfl b_eql rfl ?_
      refine W_assign rfl rfl ?_
      refine W_nil ?_
      refine W_condS rfl (fun c2 => ?_) (fun c2 => ?_)
      · simp only [cond_true, cond_false, Bool.and_eq_true, Bool.or_eq_true, Bool.and_eq_false_iff, Bool.or_eq_false_iff, decide_eq_true_eq, decide_eq_false_iff_not, Bool.not_eq_true', Bool.not_eq_false', ne_eq, Decidable.not_not] at c2
        refine W_sr ?_
        refine W_build ty104 pl104 (.cons rfl rfl rfl rfl rfl (.cons rfl rfl rfl rfl rfl .nil)) rfl zF rfl ?_
        refine W_storeA rfl rfl ty104 rfl rfl zM (Nat.le_of_ble_eq_true rfl) zF zU ?_
        refine W_nil ?_
        refine W_ret1cO (H2 := H) Tryd.results51 rfl (.nil _) ty104 rfl zM rfl (by first | exact hsubI | (repeat (first | exact HSub.refl _ | refine HSub.cons zT ?_ | refine HSub.app (by repeat (first | exact TakeS.here _ | apply TakeS.next | apply TakeS.app)) ?_ | refine HSub.drop ?_ | refine HSub.dropS ?_ | exact HSub.nil _))) ?_
        exact ⟨by unfold usedU isBy; repeat (first | rw [if_pos (by omega)] | rw [if_neg (by omega)]), rfl⟩
      · simp only [cond_true, cond_false, Bool.and_eq_true, Bool.or_eq_true, Bool.and_eq_false_iff, Bool.or_eq_false_iff, decide_eq_true_eq, decide_eq_false_iff_not, Bool.not_eq_true', Bool.not_eq_false', ne_eq, Decidable.not_not] at c2
        refine W_sr ?_
        refine W_bin rfl rfl b_eql rfl ?_
        refine W_assign rfl rfl ?_
        refine W_nil ?_
        refine W_condS rfl (fun c3 => ?_) (fun c3 => ?_)
        · simp only [cond_true, cond_false, Bool.and_eq_true, Bool.or_eq_true, Bool.and_eq_false_iff, Bool.or_eq_false_iff, decide_eq_true_eq, decide_eq_false_iff_not, Bool.not_eq_true', Bool.not_eq_false', ne_eq, Decidable.not_not] at c3
          refine W_sr ?_
          refine W_build ty104 pl104 (.cons rfl rfl rfl rfl rfl (.cons rfl rfl rfl rfl rfl .nil)) rfl zF rfl ?_
          refine W_storeA rfl rfl ty104 rfl rfl zM (Nat.le_of_ble_eq_true rfl) zF zU ?_
          refine W_nil ?_
          refine W_ret1cO (H2 := H) Tryd.results51 rfl (.nil _) ty104 rfl zM rfl (by first | exact hsubI | (repeat (first | exact HSub.refl _ | refine HSub.cons zT ?_ | refine HSub.app (by repeat (first | exact TakeS.here _ | apply TakeS.next | apply TakeS.app)) ?_ | refine HSub.drop ?_ | refine HSub.dropS ?_ | exact HSub.nil _))) ?_
          exact ⟨by unfold usedU isBy; repeat (first | rw [if_pos (by omega)] | rw [if_neg (by omega)]), rfl⟩
        · simp only [cond_true, cond_false, Bool.and_eq_true, Bool.or_eq_true, Bool.and_eq_false_iff, Bool.or_eq_false_iff, decide_eq_true_eq, decide_eq_false_iff_not, Bool.not_eq_true', Bool.not_eq_false', ne_eq, Decidable.not_not] at c3
          refine W_seq ?_
          refine W_sr ?_
          refine W_bin rfl rfl b_eql rfl ?_
          refine W_assign rfl rfl ?_
          refine W_nil ?_
          refine W_condS rfl (fun c4 => ?_) (fun c4 => ?_)
          · simp only [cond_true, cond_false, Bool.and_eq_true, Bool.or_eq_true, Bool.and_eq_false_iff, Bool.or_eq_false_iff, decide_eq_true_eq, decide_eq_false_iff_not, Bool.not_eq_true', Bool.not_eq_false', ne_eq, Decidable.not_not] at c4
            refine W_skip ?_
            refine W_condT rfl rfl ?_
            refine W_sr ?_
            refine W_build ty104 pl104 (.cons rfl rfl rfl rfl rfl (.cons rfl rfl rfl rfl rfl (.cons rfl rfl rfl rfl rfl .nil))) rfl zF rfl ?_
            refine W_storeA rfl rfl ty104 rfl rfl zM (Nat.le_of_ble_eq_true rfl) zF zU ?_
            refine W_nil ?_
            refine W_ret1cO (H2 := H) Tryd.results51 rfl (.nil _) ty104 rfl zM rfl (by first | exact hsubI | (repeat (first | exact HSub.refl _ | refine HSub.cons zT ?_ | refine HSub.app (by repeat (first | exact TakeS.here _ | apply TakeS.next | apply TakeS.app)) ?_ | refine HSub.drop ?_ | refine HSub.dropS ?_ | exact HSub.nil _))) ?_
            exact ⟨by unfold usedU isBy; repeat (first | rw [if_pos (by omega)] | rw [if_neg (by omega)]), rfl⟩
          · simp only [cond_true, cond_false, Bool.and_eq_true, Bool.or_eq_true, Bool.and_eq_false_iff, Bool.or_eq_false_iff, decide_eq_true_eq, decide_eq_false_iff_not, Bool.not_eq_true', Bool.not_eq_false', ne_eq, Decidable.not_not] at c4
            refine W_region ?_
            refine W_bin rfl rfl b_eql rfl ?_
            refine W_assign rfl rfl ?_
            refine W_nil ?_
            refine W_condS rfl (fun c5 => ?_) (fun c5 => ?_)
            · simp only [cond_true, cond_false, Bool.and_eq_true, Bool.or_eq_true, Bool.and_eq_false_iff, Bool.or_eq_false_iff, decide_eq_true_eq, decide_eq_false_iff_not, Bool.not_eq_true', Bool.not_eq_false', ne_eq, Decidable.not_not] at c5
              refine W_sr ?_
              refine W_build ty104 pl104 (.cons rfl rfl rfl rfl rfl (.cons rfl rfl rfl rfl rfl (.cons rfl rfl rfl rfl rfl .nil))) rfl zF rfl ?_
              refine W_storeA rfl rfl ty104 rfl rfl zM (Nat.le_of_ble_eq_true rfl) zF zU ?_
              refine W_nil ?_
              refine W_ret1cO (H2 := H) Tryd.results51 rfl (.nil _) ty104 rfl zM rfl (by first | exact hsubI | (repeat (first | exact HSub.refl _ | refine HSub.cons zT ?_ | refine HSub.app (by repeat (first | exact TakeS.here _ | apply TakeS.next | apply TakeS.app)) ?_ | refine HSub.drop ?_ | refine HSub.dropS ?_ | exact HSub.nil _))) ?_
              exact ⟨by unfold usedU isBy; repeat (first | rw [if_pos (by omega)] | rw [if_neg (by omega)]), rfl⟩
            · simp only [cond_true, cond_false, Bool.and_eq_true, Bool.or_eq_true, Bool.and_eq_false_iff, Bool.or_eq_false_iff, decide_eq_true_eq, decide_eq_false_iff_not, Bool.not_eq_true', Bool.not_eq_false', ne_eq, Decidable.not_not] at c5
              refine W_sr ?_
              refine W_bin rfl rfl b_eql rfl ?_
              refine W_assign rfl rfl ?_
              refine W_nil ?_
              refine W_condS rfl (fun c6 => ?_) (fun c6 => ?_)
              · simp only [cond_true, cond_false, Bool.and_eq_true, Bool.or_eq_true, Bool.and_eq_false_iff, Bool.or_eq_false_iff, decide_eq_true_eq, decide_eq_false_iff_not, Bool.not_eq_true', Bool.not_eq_false', ne_eq, Decidable.not_not] at c6
                refine W_sr ?_
                refine W_build ty104 pl104 (.cons rfl rfl rfl rfl rfl .nil) rfl zF rfl ?_
                refine W_storeA rfl rfl ty104 rfl rfl zM (Nat.le_of_ble_eq_true rfl) zF zU ?_
                refine W_nil ?_
                refine W_ret1cO (H2 := H) Tryd.results51 rfl (.nil _) ty104 rfl zM rfl (by first | exact hsubI | (repeat (first | exact HSub.refl _ | refine HSub.cons zT ?_ | refine HSub.app (by repeat (first | exact TakeS.here _ | apply TakeS.next | apply TakeS.app)) ?_ | refine HSub.drop ?_ | refine HSub.dropS ?_ | exact HSub.nil _))) ?_
                exact ⟨by unfold usedU isBy; repeat (first | rw [if_pos (by omega)] | rw [if_neg (by omega)]), rfl⟩
              · simp only [cond_true, cond_false, Bool.and_eq_true, Bool.or_eq_true, Bool.and_eq_false_iff, Bool.or_eq_false_iff, decide_eq_true_eq, decide_eq_false_iff_not, Bool.not_eq_true', Bool.not_eq_false', ne_eq, Decidable.not_not] at c6
                refine W_sr ?_
                refine W_bin rfl rfl b_eql rfl ?_
                refine W_assign rfl rfl ?_
                refine W_nil ?_
                refine W_condS rfl (fun c7 => ?_) (fun c7 => ?_)
                · simp only [cond_true, cond_false, Bool.and_eq_true, Bool.or_eq_true, Bool.and_eq_false_iff, Bool.or_eq_false_iff, decide_eq_true_eq, decide_eq_false_iff_not, Bool.not_eq_true', Bool.not_eq_false', ne_eq, Decidable.not_not] at c7
                  refine W_sr ?_
                  refine W_build ty104 pl104 .nil rfl zF rfl ?_
                  refine W_storeA rfl rfl ty104 rfl rfl zM (Nat.le_of_ble_eq_true rfl) zF zU ?_
                  refine W_nil ?_
                  refine W_ret1cO (H2 := H) Tryd.results51 rfl (.nil _) ty104 rfl zM rfl (by first | exact hsubI | (repeat (first | exact HSub.refl _ | refine HSub.cons zT ?_ | refine HSub.app (by repeat (first | exact TakeS.here _ | apply TakeS.next | apply TakeS.app)) ?_ | refine HSub.drop ?_ | refine HSub.dropS ?_ | exact HSub.nil _))) ?_
                  exact ⟨by unfold usedU isBy; repeat (first | rw [if_pos (by omega)] | rw [if_neg (by omega)]), rfl⟩
                · simp only [cond_true, cond_false, Bool.and_eq_true, Bool.or_eq_true, Bool.and_eq_false_iff, Bool.or_eq_false_iff, decide_eq_true_eq, decide_eq_false_iff_not, Bool.not_eq_true', Bool.not_eq_false', ne_eq, Decidable.not_not] at c7
                  refine W_skip ?_
                  refine W_blk ?_
                  refine W_sr ?_
                  refine W_move rfl rfl ?_
                  refine W_callp (.cons rfl .nil) Tryd.call66 rfl hT (by_pure _) ?_
                  refine W_move rfl rfl ?_
                  refine W_callp (.cons rfl .nil) Tryd.call49 rfl hT (class_pure _) ?_
                  refine W_bin rfl rfl b_eql rfl ?_
                  refine W_move rfl rfl ?_
                  refine W_callp (.cons rfl .nil) Tryd.call66 rfl hT (by_pure _) ?_
                  refine W_not rfl rfl ?_
                  refine W_build ty104 pl104 (.cons rfl rfl rfl rfl rfl (.cons rfl rfl rfl rfl rfl (.cons rfl rfl rfl rfl rfl (.cons rfl rfl rfl rfl rfl .nil)))) rfl zF rfl ?_
                  refine W_storeA rfl rfl ty104 rfl rfl zM (Nat.le_of_ble_eq_true rfl) zF zU ?_
                  refine W_nil ?_
                  refine W_ret1cO (H2 := H) Tryd.results51 rfl (.nil _) ty104 rfl zM rfl (by first | exact hsubI | (repeat (first | exact HSub.refl _ | refine HSub.cons zT ?_ | refine HSub.app (by repeat (first | exact TakeS.here _ | apply TakeS.next | apply TakeS.app)) ?_ | refine HSub.drop ?_ | refine HSub.dropS ?_ | exact HSub.nil _))) ?_
                  exact ⟨by unfold usedU isBy; repeat (first | rw [if_pos (by omega)] | rw [if_neg (by omega)]), rfl⟩
set_option maxHeartbeats 1000000 in
theorem out_pure (n low high : Int) : Pure Tryd.prog (Tab) 47 [.int .i64 n, .int .i64 low, .int .i64 high] (.bool (decide (n < low) || decide (high ≤ n))) := by
  intro w0 H hT
  refine L_enter Tryd.func47 rfl Tryd.ntmps47 rfl rfl ?_
  refine W_sr ?_
  refine W_assign rfl rfl ?_
  refine W_nil ?_
  refine W_sr ?_
  refine W_move rfl rfl ?_
  refine W_move rfl rfl ?_
  refine W_bin rfl rfl b_lss rfl ?_
  refine W_move rfl rfl ?_
  apply W_or
  iterate 4 exact rfl
  case h1 =>
    intro hg3
    refine W_gyes rfl rfl ?_
    refine W_move rfl rfl ?_
    refine W_gyes rfl rfl ?_
    refine W_move rfl rfl ?_
    refine W_gyes rfl rfl ?_
    refine W_bin rfl rfl b_geq rfl ?_
    exact W_met rfl zR
  refine W_assign rfl rfl ?_
  refine W_nil ?_
  refine W_ret1m Tryd.results47 rfl (.nil _) (.refl _) ?_
  exact ⟨rfl, rfl⟩
end Go.Proofs.YtcmfldfeakmdoaaDoor

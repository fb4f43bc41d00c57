/-
  Own work, printed by program: facts on the rows of the program's table of types, each by the kernel.
-/
import Derived.Test.YtknbohnoiigioaaRows
import Derived.Test.YtknbohnoiigioaaSlBuild
set_option linter.all false
set_option linter.unusedSimpArgs false
set_option linter.unusedVariables false
namespace Go.Proofs.Ytknbohnoiigioaa
open Go Go.Sl
set_option maxRecDepth 100000
theorem ty0 : Ty Try.prog 0 Try.t0.desc 1 (Go.Value.tuple #[]) 0 := ⟨by kernel_rfl, Try.t0, by kernel_rfl, rfl, rfl, rfl⟩
theorem ty1 : Ty Try.prog 1 Try.t1.desc 1 Go.Value.nilFunc 8 := ⟨by kernel_rfl, Try.t1, by kernel_rfl, rfl, rfl, rfl⟩
theorem ty2 : Ty Try.prog 2 (Go.TypeDesc.int Go.IntKind.i64) 1 (Go.Value.int Go.IntKind.i64 0) 8 := ⟨by kernel_rfl, Try.t2, by kernel_rfl, rfl, rfl, rfl⟩
theorem ty3 : Ty Try.prog 3 (Go.TypeDesc.int Go.IntKind.i64) 1 (Go.Value.int Go.IntKind.i64 0) 8 := ⟨by kernel_rfl, Try.t3, by kernel_rfl, rfl, rfl, rfl⟩
theorem ty4 : Ty Try.prog 4 Go.TypeDesc.bool 1 (Go.Value.bool false) 1 := ⟨by kernel_rfl, Try.t4, by kernel_rfl, rfl, rfl, rfl⟩
theorem ty5 : Ty Try.prog 5 (Go.TypeDesc.int Go.IntKind.u8) 1 (Go.Value.int Go.IntKind.u8 0) 1 := ⟨by kernel_rfl, Try.t5, by kernel_rfl, rfl, rfl, rfl⟩
theorem ty6 : Ty Try.prog 6 (Go.TypeDesc.int Go.IntKind.u8) 1 (Go.Value.int Go.IntKind.u8 0) 1 := ⟨by kernel_rfl, Try.t6, by kernel_rfl, rfl, rfl, rfl⟩
theorem ty7 : Ty Try.prog 7 Try.t7.desc 4 (Go.Value.agg #[(Go.Value.int Go.IntKind.i64 0), (Go.Value.int Go.IntKind.i64 0), (Go.Value.bool false), (Go.Value.int Go.IntKind.u8 0)]) 24 := ⟨by kernel_rfl, Try.t7, by kernel_rfl, rfl, rfl, rfl⟩
theorem ty8 : Ty Try.prog 8 Try.t7.desc 4 (Go.Value.agg #[(Go.Value.int Go.IntKind.i64 0), (Go.Value.int Go.IntKind.i64 0), (Go.Value.bool false), (Go.Value.int Go.IntKind.u8 0)]) 24 := ⟨by kernel_rfl, Try.t8, by kernel_rfl, rfl, rfl, rfl⟩
theorem ty9 : Ty Try.prog 9 Go.TypeDesc.string 1 (Go.Value.string (ByteArray.mk #[])) 16 := ⟨by kernel_rfl, Try.t9, by kernel_rfl, rfl, rfl, rfl⟩
theorem ty10 : Ty Try.prog 10 Go.TypeDesc.string 1 (Go.Value.string (ByteArray.mk #[])) 16 := ⟨by kernel_rfl, Try.t10, by kernel_rfl, rfl, rfl, rfl⟩
theorem ty11 : Ty Try.prog 11 Go.TypeDesc.string 1 (Go.Value.string (ByteArray.mk #[])) 16 := ⟨by kernel_rfl, Try.t11, by kernel_rfl, rfl, rfl, rfl⟩
theorem ty12 : Ty Try.prog 12 (Go.TypeDesc.int Go.IntKind.u64) 1 (Go.Value.int Go.IntKind.u64 0) 8 := ⟨by kernel_rfl, Try.t12, by kernel_rfl, rfl, rfl, rfl⟩
theorem ty13 : Ty Try.prog 13 Try.t13.desc 2 (Go.Value.agg #[(Go.Value.string (ByteArray.mk #[])), (Go.Value.int Go.IntKind.u64 0)]) 24 := ⟨by kernel_rfl, Try.t13, by kernel_rfl, rfl, rfl, rfl⟩
theorem ty14 : Ty Try.prog 14 Try.t13.desc 2 (Go.Value.agg #[(Go.Value.string (ByteArray.mk #[])), (Go.Value.int Go.IntKind.u64 0)]) 24 := ⟨by kernel_rfl, Try.t14, by kernel_rfl, rfl, rfl, rfl⟩
theorem ty15 : Ty Try.prog 15 (Go.TypeDesc.pointer 107) 1 (Go.Value.pointer Option.none) 8 := ⟨by kernel_rfl, Try.t15, by kernel_rfl, rfl, rfl, rfl⟩
theorem ty16 : Ty Try.prog 16 (Go.TypeDesc.pointer 110) 1 (Go.Value.pointer Option.none) 8 := ⟨by kernel_rfl, Try.t16, by kernel_rfl, rfl, rfl, rfl⟩
theorem ty17 : Ty Try.prog 17 (Go.TypeDesc.pointer 118) 1 (Go.Value.pointer Option.none) 8 := ⟨by kernel_rfl, Try.t17, by kernel_rfl, rfl, rfl, rfl⟩
theorem ty18 : Ty Try.prog 18 Try.t18.desc 1 (Go.Value.agg #[(Go.Value.pointer Option.none)]) 8 := ⟨by kernel_rfl, Try.t18, by kernel_rfl, rfl, rfl, rfl⟩
theorem ty19 : Ty Try.prog 19 Try.t18.desc 1 (Go.Value.agg #[(Go.Value.pointer Option.none)]) 8 := ⟨by kernel_rfl, Try.t19, by kernel_rfl, rfl, rfl, rfl⟩
theorem ty20 : Ty Try.prog 20 Try.t20.desc 1 Go.Value.nilIface 16 := ⟨by kernel_rfl, Try.t20, by kernel_rfl, rfl, rfl, rfl⟩
theorem ty21 : Ty Try.prog 21 (Go.TypeDesc.int Go.IntKind.i32) 1 (Go.Value.int Go.IntKind.i32 0) 4 := ⟨by kernel_rfl, Try.t21, by kernel_rfl, rfl, rfl, rfl⟩
theorem ty22 : Ty Try.prog 22 (Go.TypeDesc.slice 3) 1 (Go.Value.slice Option.none 0 0) 24 := ⟨by kernel_rfl, Try.t22, by kernel_rfl, rfl, rfl, rfl⟩
theorem ty23 : Ty Try.prog 23 (Go.TypeDesc.int Go.IntKind.u64) 1 (Go.Value.int Go.IntKind.u64 0) 8 := ⟨by kernel_rfl, Try.t23, by kernel_rfl, rfl, rfl, rfl⟩
theorem ty24 : Ty Try.prog 24 (Go.TypeDesc.pointer 57) 1 (Go.Value.pointer Option.none) 8 := ⟨by kernel_rfl, Try.t24, by kernel_rfl, rfl, rfl, rfl⟩
theorem ty25 : Ty Try.prog 25 (Go.TypeDesc.int Go.IntKind.i64) 1 (Go.Value.int Go.IntKind.i64 0) 8 := ⟨by kernel_rfl, Try.t25, by kernel_rfl, rfl, rfl, rfl⟩
theorem ty26 : Ty Try.prog 26 Try.t26.desc 1 (Go.Value.tuple #[(Go.Value.pointer Option.none), (Go.Value.int Go.IntKind.i64 0)]) 0 := ⟨by kernel_rfl, Try.t26, by kernel_rfl, rfl, rfl, rfl⟩
theorem ty27 : Ty Try.prog 27 Try.t27.desc 1 Go.Value.nilFunc 8 := ⟨by kernel_rfl, Try.t27, by kernel_rfl, rfl, rfl, rfl⟩
theorem ty28 : Ty Try.prog 28 Try.t28.desc 1 (Go.Value.tuple #[(Go.Value.slice Option.none 0 0), (Go.Value.int Go.IntKind.i64 0)]) 0 := ⟨by kernel_rfl, Try.t28, by kernel_rfl, rfl, rfl, rfl⟩
theorem ty29 : Ty Try.prog 29 Try.t29.desc 1 Go.Value.nilFunc 8 := ⟨by kernel_rfl, Try.t29, by kernel_rfl, rfl, rfl, rfl⟩
theorem ty30 : Ty Try.prog 30 Try.t30.desc 1 Go.Value.nilFunc 8 := ⟨by kernel_rfl, Try.t30, by kernel_rfl, rfl, rfl, rfl⟩
theorem ty31 : Ty Try.prog 31 Try.t31.desc 1 Go.Value.nilFunc 8 := ⟨by kernel_rfl, Try.t31, by kernel_rfl, rfl, rfl, rfl⟩
theorem ty32 : Ty Try.prog 32 Try.t32.desc 1 Go.Value.nilFunc 8 := ⟨by kernel_rfl, Try.t32, by kernel_rfl, rfl, rfl, rfl⟩
theorem ty33 : Ty Try.prog 33 Try.t33.desc 1 Go.Value.nilFunc 8 := ⟨by kernel_rfl, Try.t33, by kernel_rfl, rfl, rfl, rfl⟩
theorem ty34 : Ty Try.prog 34 Try.t34.desc 1 Go.Value.nilFunc 8 := ⟨by kernel_rfl, Try.t34, by kernel_rfl, rfl, rfl, rfl⟩
theorem ty35 : Ty Try.prog 35 (Go.TypeDesc.slice 9) 1 (Go.Value.slice Option.none 0 0) 24 := ⟨by kernel_rfl, Try.t35, by kernel_rfl, rfl, rfl, rfl⟩
theorem ty36 : Ty Try.prog 36 (Go.TypeDesc.slice 4) 1 (Go.Value.slice Option.none 0 0) 24 := ⟨by kernel_rfl, Try.t36, by kernel_rfl, rfl, rfl, rfl⟩
theorem ty37 : Ty Try.prog 37 (Go.TypeDesc.pointer 63) 1 (Go.Value.pointer Option.none) 8 := ⟨by kernel_rfl, Try.t37, by kernel_rfl, rfl, rfl, rfl⟩
theorem ty38 : Ty Try.prog 38 Try.t38.desc 1 (Go.Value.tuple #[(Go.Value.pointer Option.none), (Go.Value.int Go.IntKind.i64 0)]) 0 := ⟨by kernel_rfl, Try.t38, by kernel_rfl, rfl, rfl, rfl⟩
theorem ty39 : Ty Try.prog 39 Try.t39.desc 1 Go.Value.nilFunc 8 := ⟨by kernel_rfl, Try.t39, by kernel_rfl, rfl, rfl, rfl⟩
theorem ty40 : Ty Try.prog 40 Try.t40.desc 1 Go.Value.nilFunc 8 := ⟨by kernel_rfl, Try.t40, by kernel_rfl, rfl, rfl, rfl⟩
theorem ty41 : Ty Try.prog 41 Try.t41.desc 1 Go.Value.nilFunc 8 := ⟨by kernel_rfl, Try.t41, by kernel_rfl, rfl, rfl, rfl⟩
theorem ty42 : Ty Try.prog 42 Try.t42.desc 1 Go.Value.nilFunc 8 := ⟨by kernel_rfl, Try.t42, by kernel_rfl, rfl, rfl, rfl⟩
theorem ty43 : Ty Try.prog 43 Try.t43.desc 1 Go.Value.nilFunc 8 := ⟨by kernel_rfl, Try.t43, by kernel_rfl, rfl, rfl, rfl⟩
theorem ty44 : Ty Try.prog 44 Try.t44.desc 1 Go.Value.nilFunc 8 := ⟨by kernel_rfl, Try.t44, by kernel_rfl, rfl, rfl, rfl⟩
theorem ty45 : Ty Try.prog 45 (Go.TypeDesc.slice 47) 1 (Go.Value.slice Option.none 0 0) 24 := ⟨by kernel_rfl, Try.t45, by kernel_rfl, rfl, rfl, rfl⟩
theorem ty46 : Ty Try.prog 46 Try.t46.desc 2 (Go.Value.agg #[(Go.Value.bool false), (Go.Value.int Go.IntKind.i64 0)]) 16 := ⟨by kernel_rfl, Try.t46, by kernel_rfl, rfl, rfl, rfl⟩
theorem ty47 : Ty Try.prog 47 Try.t46.desc 2 (Go.Value.agg #[(Go.Value.bool false), (Go.Value.int Go.IntKind.i64 0)]) 16 := ⟨by kernel_rfl, Try.t47, by kernel_rfl, rfl, rfl, rfl⟩
theorem ty48 : Ty Try.prog 48 Try.t48.desc 1 (Go.Value.tuple #[(Go.Value.slice Option.none 0 0), (Go.Value.bool false)]) 0 := ⟨by kernel_rfl, Try.t48, by kernel_rfl, rfl, rfl, rfl⟩
theorem ty49 : Ty Try.prog 49 Try.t49.desc 1 Go.Value.nilFunc 8 := ⟨by kernel_rfl, Try.t49, by kernel_rfl, rfl, rfl, rfl⟩
theorem ty50 : Ty Try.prog 50 Try.t50.desc 1 Go.Value.nilFunc 8 := ⟨by kernel_rfl, Try.t50, by kernel_rfl, rfl, rfl, rfl⟩
theorem ty51 : Ty Try.prog 51 Try.t51.desc 1 (Go.Value.tuple #[(Go.Value.int Go.IntKind.i64 0), (Go.Value.bool false)]) 0 := ⟨by kernel_rfl, Try.t51, by kernel_rfl, rfl, rfl, rfl⟩
theorem ty52 : Ty Try.prog 52 Try.t52.desc 1 Go.Value.nilFunc 8 := ⟨by kernel_rfl, Try.t52, by kernel_rfl, rfl, rfl, rfl⟩
theorem ty53 : Ty Try.prog 53 Try.t53.desc 1 Go.Value.nilFunc 8 := ⟨by kernel_rfl, Try.t53, by kernel_rfl, rfl, rfl, rfl⟩
theorem ty54 : Ty Try.prog 54 Try.t54.desc 1 Go.Value.nilFunc 8 := ⟨by kernel_rfl, Try.t54, by kernel_rfl, rfl, rfl, rfl⟩
theorem ty55 : Ty Try.prog 55 (Go.TypeDesc.map 3 3) 1 (Go.Value.map Option.none) 8 := ⟨by kernel_rfl, Try.t55, by kernel_rfl, rfl, rfl, rfl⟩
theorem ty56 : Ty Try.prog 56 Try.t56.desc 3 (Go.Value.agg #[(Go.Value.int Go.IntKind.i64 0), (Go.Value.int Go.IntKind.i64 0), (Go.Value.map Option.none)]) 24 := ⟨by kernel_rfl, Try.t56, by kernel_rfl, rfl, rfl, rfl⟩
theorem ty57 : Ty Try.prog 57 Try.t56.desc 3 (Go.Value.agg #[(Go.Value.int Go.IntKind.i64 0), (Go.Value.int Go.IntKind.i64 0), (Go.Value.map Option.none)]) 24 := ⟨by kernel_rfl, Try.t57, by kernel_rfl, rfl, rfl, rfl⟩
theorem ty58 : Ty Try.prog 58 Try.t58.desc 1 Go.Value.nilFunc 8 := ⟨by kernel_rfl, Try.t58, by kernel_rfl, rfl, rfl, rfl⟩
theorem ty59 : Ty Try.prog 59 Try.t58.desc 1 Go.Value.nilFunc 8 := ⟨by kernel_rfl, Try.t59, by kernel_rfl, rfl, rfl, rfl⟩
theorem ty60 : Ty Try.prog 60 Try.t60.desc 1 Go.Value.nilFunc 8 := ⟨by kernel_rfl, Try.t60, by kernel_rfl, rfl, rfl, rfl⟩
theorem ty61 : Ty Try.prog 61 (Go.TypeDesc.map 9 3) 1 (Go.Value.map Option.none) 8 := ⟨by kernel_rfl, Try.t61, by kernel_rfl, rfl, rfl, rfl⟩
theorem ty62 : Ty Try.prog 62 Try.t62.desc 3 (Go.Value.agg #[(Go.Value.int Go.IntKind.i64 0), (Go.Value.int Go.IntKind.i64 0), (Go.Value.map Option.none)]) 24 := ⟨by kernel_rfl, Try.t62, by kernel_rfl, rfl, rfl, rfl⟩
theorem ty63 : Ty Try.prog 63 Try.t62.desc 3 (Go.Value.agg #[(Go.Value.int Go.IntKind.i64 0), (Go.Value.int Go.IntKind.i64 0), (Go.Value.map Option.none)]) 24 := ⟨by kernel_rfl, Try.t63, by kernel_rfl, rfl, rfl, rfl⟩
theorem ty64 : Ty Try.prog 64 Try.t64.desc 1 Go.Value.nilFunc 8 := ⟨by kernel_rfl, Try.t64, by kernel_rfl, rfl, rfl, rfl⟩
theorem ty65 : Ty Try.prog 65 Try.t64.desc 1 Go.Value.nilFunc 8 := ⟨by kernel_rfl, Try.t65, by kernel_rfl, rfl, rfl, rfl⟩
theorem ty66 : Ty Try.prog 66 Try.t66.desc 1 Go.Value.nilFunc 8 := ⟨by kernel_rfl, Try.t66, by kernel_rfl, rfl, rfl, rfl⟩
theorem ty67 : Ty Try.prog 67 Try.t67.desc 1 Go.Value.nilFunc 8 := ⟨by kernel_rfl, Try.t67, by kernel_rfl, rfl, rfl, rfl⟩
theorem ty68 : Ty Try.prog 68 Try.t68.desc 1 Go.Value.nilFunc 8 := ⟨by kernel_rfl, Try.t68, by kernel_rfl, rfl, rfl, rfl⟩
theorem ty69 : Ty Try.prog 69 Try.t69.desc 1 Go.Value.nilFunc 8 := ⟨by kernel_rfl, Try.t69, by kernel_rfl, rfl, rfl, rfl⟩
theorem ty70 : Ty Try.prog 70 Try.t70.desc 1 Go.Value.nilFunc 8 := ⟨by kernel_rfl, Try.t70, by kernel_rfl, rfl, rfl, rfl⟩
theorem ty71 : Ty Try.prog 71 Try.t71.desc 1 Go.Value.nilFunc 8 := ⟨by kernel_rfl, Try.t71, by kernel_rfl, rfl, rfl, rfl⟩
theorem ty72 : Ty Try.prog 72 Try.t72.desc 1 Go.Value.nilFunc 8 := ⟨by kernel_rfl, Try.t72, by kernel_rfl, rfl, rfl, rfl⟩
theorem ty73 : Ty Try.prog 73 Try.t73.desc 1 Go.Value.nilFunc 8 := ⟨by kernel_rfl, Try.t73, by kernel_rfl, rfl, rfl, rfl⟩
theorem ty74 : Ty Try.prog 74 Try.t74.desc 1 Go.Value.nilFunc 8 := ⟨by kernel_rfl, Try.t74, by kernel_rfl, rfl, rfl, rfl⟩
theorem ty75 : Ty Try.prog 75 Try.t75.desc 1 Go.Value.nilFunc 8 := ⟨by kernel_rfl, Try.t75, by kernel_rfl, rfl, rfl, rfl⟩
theorem ty76 : Ty Try.prog 76 (Go.TypeDesc.int Go.IntKind.u64) 1 (Go.Value.int Go.IntKind.u64 0) 8 := ⟨by kernel_rfl, Try.t76, by kernel_rfl, rfl, rfl, rfl⟩
theorem ty77 : Ty Try.prog 77 Try.t77.desc 1 Go.Value.nilFunc 8 := ⟨by kernel_rfl, Try.t77, by kernel_rfl, rfl, rfl, rfl⟩
theorem ty78 : Ty Try.prog 78 Try.t78.desc 1 Go.Value.nilFunc 8 := ⟨by kernel_rfl, Try.t78, by kernel_rfl, rfl, rfl, rfl⟩
theorem ty79 : Ty Try.prog 79 (Go.TypeDesc.int Go.IntKind.i64) 1 (Go.Value.int Go.IntKind.i64 0) 8 := ⟨by kernel_rfl, Try.t79, by kernel_rfl, rfl, rfl, rfl⟩
theorem ty80 : Ty Try.prog 80 Try.t80.desc 1 (Go.Value.tuple #[(Go.Value.int Go.IntKind.i64 0), (Go.Value.int Go.IntKind.i64 0)]) 0 := ⟨by kernel_rfl, Try.t80, by kernel_rfl, rfl, rfl, rfl⟩
theorem ty81 : Ty Try.prog 81 Try.t81.desc 1 Go.Value.nilFunc 8 := ⟨by kernel_rfl, Try.t81, by kernel_rfl, rfl, rfl, rfl⟩
theorem ty82 : Ty Try.prog 82 Try.t82.desc 1 Go.Value.nilFunc 8 := ⟨by kernel_rfl, Try.t82, by kernel_rfl, rfl, rfl, rfl⟩
theorem ty83 : Ty Try.prog 83 Try.t83.desc 1 Go.Value.nilFunc 8 := ⟨by kernel_rfl, Try.t83, by kernel_rfl, rfl, rfl, rfl⟩
theorem ty84 : Ty Try.prog 84 Try.t84.desc 1 Go.Value.nilFunc 8 := ⟨by kernel_rfl, Try.t84, by kernel_rfl, rfl, rfl, rfl⟩
theorem ty85 : Ty Try.prog 85 Try.t85.desc 1 Go.Value.nilFunc 8 := ⟨by kernel_rfl, Try.t85, by kernel_rfl, rfl, rfl, rfl⟩
theorem ty86 : Ty Try.prog 86 (Go.TypeDesc.int Go.IntKind.u32) 1 (Go.Value.int Go.IntKind.u32 0) 4 := ⟨by kernel_rfl, Try.t86, by kernel_rfl, rfl, rfl, rfl⟩
theorem ty87 : Ty Try.prog 87 Try.t87.desc 1 Go.Value.nilFunc 8 := ⟨by kernel_rfl, Try.t87, by kernel_rfl, rfl, rfl, rfl⟩
theorem ty88 : Ty Try.prog 88 Try.t88.desc 1 Go.Value.nilFunc 8 := ⟨by kernel_rfl, Try.t88, by kernel_rfl, rfl, rfl, rfl⟩
theorem ty89 : Ty Try.prog 89 Try.t89.desc 1 Go.Value.nilFunc 8 := ⟨by kernel_rfl, Try.t89, by kernel_rfl, rfl, rfl, rfl⟩
theorem ty90 : Ty Try.prog 90 Try.t90.desc 1 Go.Value.nilFunc 8 := ⟨by kernel_rfl, Try.t90, by kernel_rfl, rfl, rfl, rfl⟩
theorem ty91 : Ty Try.prog 91 Try.t91.desc 1 Go.Value.nilFunc 8 := ⟨by kernel_rfl, Try.t91, by kernel_rfl, rfl, rfl, rfl⟩
theorem ty92 : Ty Try.prog 92 Try.t92.desc 1 Go.Value.nilFunc 8 := ⟨by kernel_rfl, Try.t92, by kernel_rfl, rfl, rfl, rfl⟩
theorem ty93 : Ty Try.prog 93 (Go.TypeDesc.int Go.IntKind.u64) 1 (Go.Value.int Go.IntKind.u64 0) 8 := ⟨by kernel_rfl, Try.t93, by kernel_rfl, rfl, rfl, rfl⟩
theorem ty94 : Ty Try.prog 94 Try.t94.desc 1 Go.Value.nilFunc 8 := ⟨by kernel_rfl, Try.t94, by kernel_rfl, rfl, rfl, rfl⟩
theorem ty95 : Ty Try.prog 95 Try.t95.desc 1 Go.Value.nilFunc 8 := ⟨by kernel_rfl, Try.t95, by kernel_rfl, rfl, rfl, rfl⟩
theorem ty96 : Ty Try.prog 96 Try.t96.desc 1 Go.Value.nilFunc 8 := ⟨by kernel_rfl, Try.t96, by kernel_rfl, rfl, rfl, rfl⟩
theorem ty97 : Ty Try.prog 97 (Go.TypeDesc.pointer 3) 1 (Go.Value.pointer Option.none) 8 := ⟨by kernel_rfl, Try.t97, by kernel_rfl, rfl, rfl, rfl⟩
theorem ty98 : Ty Try.prog 98 Try.t98.desc 1 Go.Value.nilFunc 8 := ⟨by kernel_rfl, Try.t98, by kernel_rfl, rfl, rfl, rfl⟩
theorem ty99 : Ty Try.prog 99 Try.t99.desc 1 Go.Value.nilFunc 8 := ⟨by kernel_rfl, Try.t99, by kernel_rfl, rfl, rfl, rfl⟩
theorem ty100 : Ty Try.prog 100 Try.t100.desc 1 Go.Value.nilFunc 8 := ⟨by kernel_rfl, Try.t100, by kernel_rfl, rfl, rfl, rfl⟩
theorem ty101 : Ty Try.prog 101 (Go.TypeDesc.pointer 93) 1 (Go.Value.pointer Option.none) 8 := ⟨by kernel_rfl, Try.t101, by kernel_rfl, rfl, rfl, rfl⟩
theorem ty102 : Ty Try.prog 102 Try.t102.desc 1 (Go.Value.tuple #[(Go.Value.int Go.IntKind.i64 0), (Go.Value.int Go.IntKind.i64 0)]) 0 := ⟨by kernel_rfl, Try.t102, by kernel_rfl, rfl, rfl, rfl⟩
theorem ty103 : Ty Try.prog 103 Try.t103.desc 1 Go.Value.nilFunc 8 := ⟨by kernel_rfl, Try.t103, by kernel_rfl, rfl, rfl, rfl⟩
theorem ty104 : Ty Try.prog 104 Try.t104.desc 1 Go.Value.nilFunc 8 := ⟨by kernel_rfl, Try.t104, by kernel_rfl, rfl, rfl, rfl⟩
theorem ty105 : Ty Try.prog 105 Try.t105.desc 1 Go.Value.nilFunc 8 := ⟨by kernel_rfl, Try.t105, by kernel_rfl, rfl, rfl, rfl⟩
theorem ty106 : Ty Try.prog 106 Try.t106.desc 4 (Go.Value.agg #[(Go.Value.pointer Option.none), (Go.Value.pointer Option.none), (Go.Value.pointer Option.none), (Go.Value.string (ByteArray.mk #[]))]) 40 := ⟨by kernel_rfl, Try.t106, by kernel_rfl, rfl, rfl, rfl⟩
theorem ty107 : Ty Try.prog 107 Try.t106.desc 4 (Go.Value.agg #[(Go.Value.pointer Option.none), (Go.Value.pointer Option.none), (Go.Value.pointer Option.none), (Go.Value.string (ByteArray.mk #[]))]) 40 := ⟨by kernel_rfl, Try.t107, by kernel_rfl, rfl, rfl, rfl⟩
theorem ty108 : Ty Try.prog 108 (Go.TypeDesc.array 0 16) 0 (Go.Value.agg #[]) 0 := ⟨by kernel_rfl, Try.t108, by kernel_rfl, rfl, rfl, rfl⟩
theorem ty109 : Ty Try.prog 109 Try.t109.desc 0 (Go.Value.agg #[]) 0 := ⟨by kernel_rfl, Try.t109, by kernel_rfl, rfl, rfl, rfl⟩
theorem ty110 : Ty Try.prog 110 Try.t109.desc 0 (Go.Value.agg #[]) 0 := ⟨by kernel_rfl, Try.t110, by kernel_rfl, rfl, rfl, rfl⟩
theorem ty111 : Ty Try.prog 111 (Go.TypeDesc.int Go.IntKind.u8) 1 (Go.Value.int Go.IntKind.u8 0) 1 := ⟨by kernel_rfl, Try.t111, by kernel_rfl, rfl, rfl, rfl⟩
theorem ty112 : Ty Try.prog 112 (Go.TypeDesc.int Go.IntKind.u8) 1 (Go.Value.int Go.IntKind.u8 0) 1 := ⟨by kernel_rfl, Try.t112, by kernel_rfl, rfl, rfl, rfl⟩
theorem ty113 : Ty Try.prog 113 Try.t113.desc 1 Go.Value.nilFunc 8 := ⟨by kernel_rfl, Try.t113, by kernel_rfl, rfl, rfl, rfl⟩
theorem ty114 : Ty Try.prog 114 (Go.TypeDesc.pointer 5) 1 (Go.Value.pointer Option.none) 8 := ⟨by kernel_rfl, Try.t114, by kernel_rfl, rfl, rfl, rfl⟩
theorem ty115 : Ty Try.prog 115 (Go.TypeDesc.int Go.IntKind.i32) 1 (Go.Value.int Go.IntKind.i32 0) 4 := ⟨by kernel_rfl, Try.t115, by kernel_rfl, rfl, rfl, rfl⟩
theorem ty116 : Ty Try.prog 116 (Go.TypeDesc.int Go.IntKind.i32) 1 (Go.Value.int Go.IntKind.i32 0) 4 := ⟨by kernel_rfl, Try.t116, by kernel_rfl, rfl, rfl, rfl⟩
theorem ty117 : Ty Try.prog 117 Try.t117.desc 11 (Go.Value.agg #[(Go.Value.int Go.IntKind.u64 0), (Go.Value.int Go.IntKind.u64 0), (Go.Value.int Go.IntKind.u32 0), (Go.Value.int Go.IntKind.u8 0), (Go.Value.int Go.IntKind.u8 0), (Go.Value.int Go.IntKind.u8 0), (Go.Value.int Go.IntKind.u8 0), Go.Value.nilFunc, (Go.Value.pointer Option.none), (Go.Value.int Go.IntKind.i32 0), (Go.Value.int Go.IntKind.i32 0)]) 48 := ⟨by kernel_rfl, Try.t117, by kernel_rfl, rfl, rfl, rfl⟩
theorem ty118 : Ty Try.prog 118 Try.t117.desc 11 (Go.Value.agg #[(Go.Value.int Go.IntKind.u64 0), (Go.Value.int Go.IntKind.u64 0), (Go.Value.int Go.IntKind.u32 0), (Go.Value.int Go.IntKind.u8 0), (Go.Value.int Go.IntKind.u8 0), (Go.Value.int Go.IntKind.u8 0), (Go.Value.int Go.IntKind.u8 0), Go.Value.nilFunc, (Go.Value.pointer Option.none), (Go.Value.int Go.IntKind.i32 0), (Go.Value.int Go.IntKind.i32 0)]) 48 := ⟨by kernel_rfl, Try.t118, by kernel_rfl, rfl, rfl, rfl⟩
theorem ty119 : Ty Try.prog 119 Try.t119.desc 1 Go.Value.nilFunc 8 := ⟨by kernel_rfl, Try.t119, by kernel_rfl, rfl, rfl, rfl⟩
theorem ty120 : Ty Try.prog 120 Go.TypeDesc.unsafePointer 1 (Go.Value.pointer Option.none) 8 := ⟨by kernel_rfl, Try.t120, by kernel_rfl, rfl, rfl, rfl⟩
theorem fld7_0 : Fld Try.prog 7 0 0 1 false := ⟨_, _, (by kernel_rfl : Try.prog.underlying 7 = some Try.t7.desc), rfl, rfl, _, _, _, ty2, rfl⟩
theorem fld7_1 : Fld Try.prog 7 1 1 1 false := ⟨_, _, (by kernel_rfl : Try.prog.underlying 7 = some Try.t7.desc), rfl, rfl, _, _, _, ty3, rfl⟩
theorem fld7_2 : Fld Try.prog 7 2 2 1 false := ⟨_, _, (by kernel_rfl : Try.prog.underlying 7 = some Try.t7.desc), rfl, rfl, _, _, _, ty4, rfl⟩
theorem fld7_3 : Fld Try.prog 7 3 3 1 false := ⟨_, _, (by kernel_rfl : Try.prog.underlying 7 = some Try.t7.desc), rfl, rfl, _, _, _, ty6, rfl⟩
theorem fld8_0 : Fld Try.prog 8 0 0 1 false := ⟨_, _, (by kernel_rfl : Try.prog.underlying 8 = some Try.t7.desc), rfl, rfl, _, _, _, ty2, rfl⟩
theorem fld8_1 : Fld Try.prog 8 1 1 1 false := ⟨_, _, (by kernel_rfl : Try.prog.underlying 8 = some Try.t7.desc), rfl, rfl, _, _, _, ty3, rfl⟩
theorem fld8_2 : Fld Try.prog 8 2 2 1 false := ⟨_, _, (by kernel_rfl : Try.prog.underlying 8 = some Try.t7.desc), rfl, rfl, _, _, _, ty4, rfl⟩
theorem fld8_3 : Fld Try.prog 8 3 3 1 false := ⟨_, _, (by kernel_rfl : Try.prog.underlying 8 = some Try.t7.desc), rfl, rfl, _, _, _, ty6, rfl⟩
theorem fld13_0 : Fld Try.prog 13 0 0 1 false := ⟨_, _, (by kernel_rfl : Try.prog.underlying 13 = some Try.t13.desc), rfl, rfl, _, _, _, ty9, rfl⟩
theorem fld13_1 : Fld Try.prog 13 1 1 1 false := ⟨_, _, (by kernel_rfl : Try.prog.underlying 13 = some Try.t13.desc), rfl, rfl, _, _, _, ty12, rfl⟩
theorem fld14_0 : Fld Try.prog 14 0 0 1 false := ⟨_, _, (by kernel_rfl : Try.prog.underlying 14 = some Try.t13.desc), rfl, rfl, _, _, _, ty9, rfl⟩
theorem fld14_1 : Fld Try.prog 14 1 1 1 false := ⟨_, _, (by kernel_rfl : Try.prog.underlying 14 = some Try.t13.desc), rfl, rfl, _, _, _, ty12, rfl⟩
theorem fld18_0 : Fld Try.prog 18 0 0 1 false := ⟨_, _, (by kernel_rfl : Try.prog.underlying 18 = some Try.t18.desc), rfl, rfl, _, _, _, ty17, rfl⟩
theorem fld19_0 : Fld Try.prog 19 0 0 1 false := ⟨_, _, (by kernel_rfl : Try.prog.underlying 19 = some Try.t18.desc), rfl, rfl, _, _, _, ty17, rfl⟩
theorem fld46_0 : Fld Try.prog 46 0 0 1 false := ⟨_, _, (by kernel_rfl : Try.prog.underlying 46 = some Try.t46.desc), rfl, rfl, _, _, _, ty4, rfl⟩
theorem fld46_1 : Fld Try.prog 46 1 1 1 false := ⟨_, _, (by kernel_rfl : Try.prog.underlying 46 = some Try.t46.desc), rfl, rfl, _, _, _, ty3, rfl⟩
theorem fld47_0 : Fld Try.prog 47 0 0 1 false := ⟨_, _, (by kernel_rfl : Try.prog.underlying 47 = some Try.t46.desc), rfl, rfl, _, _, _, ty4, rfl⟩
theorem fld47_1 : Fld Try.prog 47 1 1 1 false := ⟨_, _, (by kernel_rfl : Try.prog.underlying 47 = some Try.t46.desc), rfl, rfl, _, _, _, ty3, rfl⟩
theorem fld56_0 : Fld Try.prog 56 0 0 1 false := ⟨_, _, (by kernel_rfl : Try.prog.underlying 56 = some Try.t56.desc), rfl, rfl, _, _, _, ty3, rfl⟩
theorem fld56_1 : Fld Try.prog 56 1 1 1 false := ⟨_, _, (by kernel_rfl : Try.prog.underlying 56 = some Try.t56.desc), rfl, rfl, _, _, _, ty3, rfl⟩
theorem fld56_2 : Fld Try.prog 56 2 2 1 false := ⟨_, _, (by kernel_rfl : Try.prog.underlying 56 = some Try.t56.desc), rfl, rfl, _, _, _, ty55, rfl⟩
theorem fld57_0 : Fld Try.prog 57 0 0 1 false := ⟨_, _, (by kernel_rfl : Try.prog.underlying 57 = some Try.t56.desc), rfl, rfl, _, _, _, ty3, rfl⟩
theorem fld57_1 : Fld Try.prog 57 1 1 1 false := ⟨_, _, (by kernel_rfl : Try.prog.underlying 57 = some Try.t56.desc), rfl, rfl, _, _, _, ty3, rfl⟩
theorem fld57_2 : Fld Try.prog 57 2 2 1 false := ⟨_, _, (by kernel_rfl : Try.prog.underlying 57 = some Try.t56.desc), rfl, rfl, _, _, _, ty55, rfl⟩
theorem fld62_0 : Fld Try.prog 62 0 0 1 false := ⟨_, _, (by kernel_rfl : Try.prog.underlying 62 = some Try.t62.desc), rfl, rfl, _, _, _, ty3, rfl⟩
theorem fld62_1 : Fld Try.prog 62 1 1 1 false := ⟨_, _, (by kernel_rfl : Try.prog.underlying 62 = some Try.t62.desc), rfl, rfl, _, _, _, ty3, rfl⟩
theorem fld62_2 : Fld Try.prog 62 2 2 1 false := ⟨_, _, (by kernel_rfl : Try.prog.underlying 62 = some Try.t62.desc), rfl, rfl, _, _, _, ty61, rfl⟩
theorem fld63_0 : Fld Try.prog 63 0 0 1 false := ⟨_, _, (by kernel_rfl : Try.prog.underlying 63 = some Try.t62.desc), rfl, rfl, _, _, _, ty3, rfl⟩
theorem fld63_1 : Fld Try.prog 63 1 1 1 false := ⟨_, _, (by kernel_rfl : Try.prog.underlying 63 = some Try.t62.desc), rfl, rfl, _, _, _, ty3, rfl⟩
theorem fld63_2 : Fld Try.prog 63 2 2 1 false := ⟨_, _, (by kernel_rfl : Try.prog.underlying 63 = some Try.t62.desc), rfl, rfl, _, _, _, ty61, rfl⟩
theorem fld106_0 : Fld Try.prog 106 0 0 1 false := ⟨_, _, (by kernel_rfl : Try.prog.underlying 106 = some Try.t106.desc), rfl, rfl, _, _, _, ty17, rfl⟩
theorem fld106_1 : Fld Try.prog 106 1 1 1 false := ⟨_, _, (by kernel_rfl : Try.prog.underlying 106 = some Try.t106.desc), rfl, rfl, _, _, _, ty17, rfl⟩
theorem fld106_2 : Fld Try.prog 106 2 2 1 false := ⟨_, _, (by kernel_rfl : Try.prog.underlying 106 = some Try.t106.desc), rfl, rfl, _, _, _, ty17, rfl⟩
theorem fld106_3 : Fld Try.prog 106 3 3 1 false := ⟨_, _, (by kernel_rfl : Try.prog.underlying 106 = some Try.t106.desc), rfl, rfl, _, _, _, ty9, rfl⟩
theorem fld107_0 : Fld Try.prog 107 0 0 1 false := ⟨_, _, (by kernel_rfl : Try.prog.underlying 107 = some Try.t106.desc), rfl, rfl, _, _, _, ty17, rfl⟩
theorem fld107_1 : Fld Try.prog 107 1 1 1 false := ⟨_, _, (by kernel_rfl : Try.prog.underlying 107 = some Try.t106.desc), rfl, rfl, _, _, _, ty17, rfl⟩
theorem fld107_2 : Fld Try.prog 107 2 2 1 false := ⟨_, _, (by kernel_rfl : Try.prog.underlying 107 = some Try.t106.desc), rfl, rfl, _, _, _, ty17, rfl⟩
theorem fld107_3 : Fld Try.prog 107 3 3 1 false := ⟨_, _, (by kernel_rfl : Try.prog.underlying 107 = some Try.t106.desc), rfl, rfl, _, _, _, ty9, rfl⟩
theorem fld109_0 : Fld Try.prog 109 0 0 0 true := ⟨_, _, (by kernel_rfl : Try.prog.underlying 109 = some Try.t109.desc), rfl, rfl, _, _, _, ty108, rfl⟩
theorem fld110_0 : Fld Try.prog 110 0 0 0 true := ⟨_, _, (by kernel_rfl : Try.prog.underlying 110 = some Try.t109.desc), rfl, rfl, _, _, _, ty108, rfl⟩
theorem fld117_0 : Fld Try.prog 117 0 0 1 false := ⟨_, _, (by kernel_rfl : Try.prog.underlying 117 = some Try.t117.desc), rfl, rfl, _, _, _, ty12, rfl⟩
theorem fld117_1 : Fld Try.prog 117 1 1 1 false := ⟨_, _, (by kernel_rfl : Try.prog.underlying 117 = some Try.t117.desc), rfl, rfl, _, _, _, ty12, rfl⟩
theorem fld117_2 : Fld Try.prog 117 2 2 1 false := ⟨_, _, (by kernel_rfl : Try.prog.underlying 117 = some Try.t117.desc), rfl, rfl, _, _, _, ty86, rfl⟩
theorem fld117_3 : Fld Try.prog 117 3 3 1 false := ⟨_, _, (by kernel_rfl : Try.prog.underlying 117 = some Try.t117.desc), rfl, rfl, _, _, _, ty111, rfl⟩
theorem fld117_4 : Fld Try.prog 117 4 4 1 false := ⟨_, _, (by kernel_rfl : Try.prog.underlying 117 = some Try.t117.desc), rfl, rfl, _, _, _, ty5, rfl⟩
theorem fld117_5 : Fld Try.prog 117 5 5 1 false := ⟨_, _, (by kernel_rfl : Try.prog.underlying 117 = some Try.t117.desc), rfl, rfl, _, _, _, ty5, rfl⟩
theorem fld117_6 : Fld Try.prog 117 6 6 1 false := ⟨_, _, (by kernel_rfl : Try.prog.underlying 117 = some Try.t117.desc), rfl, rfl, _, _, _, ty112, rfl⟩
theorem fld117_7 : Fld Try.prog 117 7 7 1 false := ⟨_, _, (by kernel_rfl : Try.prog.underlying 117 = some Try.t117.desc), rfl, rfl, _, _, _, ty113, rfl⟩
theorem fld117_8 : Fld Try.prog 117 8 8 1 false := ⟨_, _, (by kernel_rfl : Try.prog.underlying 117 = some Try.t117.desc), rfl, rfl, _, _, _, ty114, rfl⟩
theorem fld117_9 : Fld Try.prog 117 9 9 1 false := ⟨_, _, (by kernel_rfl : Try.prog.underlying 117 = some Try.t117.desc), rfl, rfl, _, _, _, ty115, rfl⟩
theorem fld117_10 : Fld Try.prog 117 10 10 1 false := ⟨_, _, (by kernel_rfl : Try.prog.underlying 117 = some Try.t117.desc), rfl, rfl, _, _, _, ty116, rfl⟩
theorem fld118_0 : Fld Try.prog 118 0 0 1 false := ⟨_, _, (by kernel_rfl : Try.prog.underlying 118 = some Try.t117.desc), rfl, rfl, _, _, _, ty12, rfl⟩
theorem fld118_1 : Fld Try.prog 118 1 1 1 false := ⟨_, _, (by kernel_rfl : Try.prog.underlying 118 = some Try.t117.desc), rfl, rfl, _, _, _, ty12, rfl⟩
theorem fld118_2 : Fld Try.prog 118 2 2 1 false := ⟨_, _, (by kernel_rfl : Try.prog.underlying 118 = some Try.t117.desc), rfl, rfl, _, _, _, ty86, rfl⟩
theorem fld118_3 : Fld Try.prog 118 3 3 1 false := ⟨_, _, (by kernel_rfl : Try.prog.underlying 118 = some Try.t117.desc), rfl, rfl, _, _, _, ty111, rfl⟩
theorem fld118_4 : Fld Try.prog 118 4 4 1 false := ⟨_, _, (by kernel_rfl : Try.prog.underlying 118 = some Try.t117.desc), rfl, rfl, _, _, _, ty5, rfl⟩
theorem fld118_5 : Fld Try.prog 118 5 5 1 false := ⟨_, _, (by kernel_rfl : Try.prog.underlying 118 = some Try.t117.desc), rfl, rfl, _, _, _, ty5, rfl⟩
theorem fld118_6 : Fld Try.prog 118 6 6 1 false := ⟨_, _, (by kernel_rfl : Try.prog.underlying 118 = some Try.t117.desc), rfl, rfl, _, _, _, ty112, rfl⟩
theorem fld118_7 : Fld Try.prog 118 7 7 1 false := ⟨_, _, (by kernel_rfl : Try.prog.underlying 118 = some Try.t117.desc), rfl, rfl, _, _, _, ty113, rfl⟩
theorem fld118_8 : Fld Try.prog 118 8 8 1 false := ⟨_, _, (by kernel_rfl : Try.prog.underlying 118 = some Try.t117.desc), rfl, rfl, _, _, _, ty114, rfl⟩
theorem fld118_9 : Fld Try.prog 118 9 9 1 false := ⟨_, _, (by kernel_rfl : Try.prog.underlying 118 = some Try.t117.desc), rfl, rfl, _, _, _, ty115, rfl⟩
theorem fld118_10 : Fld Try.prog 118 10 10 1 false := ⟨_, _, (by kernel_rfl : Try.prog.underlying 118 = some Try.t117.desc), rfl, rfl, _, _, _, ty116, rfl⟩
theorem pl7 : StructPl Try.prog 7 [(0, 1), (1, 1), (2, 1), (3, 1)] := ⟨_, (by kernel_rfl : Try.prog.underlying 7 = some Try.t7.desc), fun _ => by kernel_rfl⟩
theorem pl8 : StructPl Try.prog 8 [(0, 1), (1, 1), (2, 1), (3, 1)] := ⟨_, (by kernel_rfl : Try.prog.underlying 8 = some Try.t7.desc), fun _ => by kernel_rfl⟩
theorem pl13 : StructPl Try.prog 13 [(0, 1), (1, 1)] := ⟨_, (by kernel_rfl : Try.prog.underlying 13 = some Try.t13.desc), fun _ => by kernel_rfl⟩
theorem pl14 : StructPl Try.prog 14 [(0, 1), (1, 1)] := ⟨_, (by kernel_rfl : Try.prog.underlying 14 = some Try.t13.desc), fun _ => by kernel_rfl⟩
theorem pl18 : StructPl Try.prog 18 [(0, 1)] := ⟨_, (by kernel_rfl : Try.prog.underlying 18 = some Try.t18.desc), fun _ => by kernel_rfl⟩
theorem pl19 : StructPl Try.prog 19 [(0, 1)] := ⟨_, (by kernel_rfl : Try.prog.underlying 19 = some Try.t18.desc), fun _ => by kernel_rfl⟩
theorem pl46 : StructPl Try.prog 46 [(0, 1), (1, 1)] := ⟨_, (by kernel_rfl : Try.prog.underlying 46 = some Try.t46.desc), fun _ => by kernel_rfl⟩
theorem pl47 : StructPl Try.prog 47 [(0, 1), (1, 1)] := ⟨_, (by kernel_rfl : Try.prog.underlying 47 = some Try.t46.desc), fun _ => by kernel_rfl⟩
theorem pl56 : StructPl Try.prog 56 [(0, 1), (1, 1), (2, 1)] := ⟨_, (by kernel_rfl : Try.prog.underlying 56 = some Try.t56.desc), fun _ => by kernel_rfl⟩
theorem pl57 : StructPl Try.prog 57 [(0, 1), (1, 1), (2, 1)] := ⟨_, (by kernel_rfl : Try.prog.underlying 57 = some Try.t56.desc), fun _ => by kernel_rfl⟩
theorem pl62 : StructPl Try.prog 62 [(0, 1), (1, 1), (2, 1)] := ⟨_, (by kernel_rfl : Try.prog.underlying 62 = some Try.t62.desc), fun _ => by kernel_rfl⟩
theorem pl63 : StructPl Try.prog 63 [(0, 1), (1, 1), (2, 1)] := ⟨_, (by kernel_rfl : Try.prog.underlying 63 = some Try.t62.desc), fun _ => by kernel_rfl⟩
theorem pl106 : StructPl Try.prog 106 [(0, 1), (1, 1), (2, 1), (3, 1)] := ⟨_, (by kernel_rfl : Try.prog.underlying 106 = some Try.t106.desc), fun _ => by kernel_rfl⟩
theorem pl107 : StructPl Try.prog 107 [(0, 1), (1, 1), (2, 1), (3, 1)] := ⟨_, (by kernel_rfl : Try.prog.underlying 107 = some Try.t106.desc), fun _ => by kernel_rfl⟩
theorem pl109 : StructPl Try.prog 109 [(0, 0)] := ⟨_, (by kernel_rfl : Try.prog.underlying 109 = some Try.t109.desc), fun _ => by kernel_rfl⟩
theorem pl110 : StructPl Try.prog 110 [(0, 0)] := ⟨_, (by kernel_rfl : Try.prog.underlying 110 = some Try.t109.desc), fun _ => by kernel_rfl⟩
theorem pl117 : StructPl Try.prog 117 [(0, 1), (1, 1), (2, 1), (3, 1), (4, 1), (5, 1), (6, 1), (7, 1), (8, 1), (9, 1), (10, 1)] := ⟨_, (by kernel_rfl : Try.prog.underlying 117 = some Try.t117.desc), fun _ => by kernel_rfl⟩
theorem pl118 : StructPl Try.prog 118 [(0, 1), (1, 1), (2, 1), (3, 1), (4, 1), (5, 1), (6, 1), (7, 1), (8, 1), (9, 1), (10, 1)] := ⟨_, (by kernel_rfl : Try.prog.underlying 118 = some Try.t117.desc), fun _ => by kernel_rfl⟩
end Go.Proofs.Ytknbohnoiigioaa

/-
  Own work, printed by program: facts on the rows of the program's table of types, each by the kernel.
-/
import Derived.Test.YtknbohnoiigioaaDoorRows
import Derived.Test.YtknbohnoiigioaaDoorSlCoretoSlArgs
set_option linter.all false
set_option linter.unusedSimpArgs false
set_option linter.unusedVariables false
namespace Go.Proofs.YtknbohnoiigioaaDoor
open Go Go.Sl
set_option maxRecDepth 100000
theorem ty0 : Ty Tryd.prog 0 Tryd.t0.desc 1 (Go.Value.tuple #[]) 0 := ⟨by kernel_rfl, Tryd.t0, by kernel_rfl, rfl, rfl, rfl⟩
theorem ty1 : Ty Tryd.prog 1 Tryd.t1.desc 1 Go.Value.nilFunc 8 := ⟨by kernel_rfl, Tryd.t1, by kernel_rfl, rfl, rfl, rfl⟩
theorem ty2 : Ty Tryd.prog 2 (Go.TypeDesc.int Go.IntKind.i64) 1 (Go.Value.int Go.IntKind.i64 0) 8 := ⟨by kernel_rfl, Tryd.t2, by kernel_rfl, rfl, rfl, rfl⟩
theorem ty3 : Ty Tryd.prog 3 (Go.TypeDesc.int Go.IntKind.i64) 1 (Go.Value.int Go.IntKind.i64 0) 8 := ⟨by kernel_rfl, Tryd.t3, by kernel_rfl, rfl, rfl, rfl⟩
theorem ty4 : Ty Tryd.prog 4 Go.TypeDesc.bool 1 (Go.Value.bool false) 1 := ⟨by kernel_rfl, Tryd.t4, by kernel_rfl, rfl, rfl, rfl⟩
theorem ty5 : Ty Tryd.prog 5 (Go.TypeDesc.int Go.IntKind.u8) 1 (Go.Value.int Go.IntKind.u8 0) 1 := ⟨by kernel_rfl, Tryd.t5, by kernel_rfl, rfl, rfl, rfl⟩
theorem ty6 : Ty Tryd.prog 6 (Go.TypeDesc.int Go.IntKind.u8) 1 (Go.Value.int Go.IntKind.u8 0) 1 := ⟨by kernel_rfl, Tryd.t6, by kernel_rfl, rfl, rfl, rfl⟩
theorem ty7 : Ty Tryd.prog 7 Tryd.t7.desc 4 (Go.Value.agg #[(Go.Value.int Go.IntKind.i64 0), (Go.Value.int Go.IntKind.i64 0), (Go.Value.bool false), (Go.Value.int Go.IntKind.u8 0)]) 24 := ⟨by kernel_rfl, Tryd.t7, by kernel_rfl, rfl, rfl, rfl⟩
theorem ty8 : Ty Tryd.prog 8 Tryd.t7.desc 4 (Go.Value.agg #[(Go.Value.int Go.IntKind.i64 0), (Go.Value.int Go.IntKind.i64 0), (Go.Value.bool false), (Go.Value.int Go.IntKind.u8 0)]) 24 := ⟨by kernel_rfl, Tryd.t8, by kernel_rfl, rfl, rfl, rfl⟩
theorem ty9 : Ty Tryd.prog 9 Go.TypeDesc.string 1 (Go.Value.string (ByteArray.mk #[])) 16 := ⟨by kernel_rfl, Tryd.t9, by kernel_rfl, rfl, rfl, rfl⟩
theorem ty10 : Ty Tryd.prog 10 Go.TypeDesc.string 1 (Go.Value.string (ByteArray.mk #[])) 16 := ⟨by kernel_rfl, Tryd.t10, by kernel_rfl, rfl, rfl, rfl⟩
theorem ty11 : Ty Tryd.prog 11 Go.TypeDesc.string 1 (Go.Value.string (ByteArray.mk #[])) 16 := ⟨by kernel_rfl, Tryd.t11, by kernel_rfl, rfl, rfl, rfl⟩
theorem ty12 : Ty Tryd.prog 12 (Go.TypeDesc.int Go.IntKind.u64) 1 (Go.Value.int Go.IntKind.u64 0) 8 := ⟨by kernel_rfl, Tryd.t12, by kernel_rfl, rfl, rfl, rfl⟩
theorem ty13 : Ty Tryd.prog 13 Tryd.t13.desc 2 (Go.Value.agg #[(Go.Value.string (ByteArray.mk #[])), (Go.Value.int Go.IntKind.u64 0)]) 24 := ⟨by kernel_rfl, Tryd.t13, by kernel_rfl, rfl, rfl, rfl⟩
theorem ty14 : Ty Tryd.prog 14 Tryd.t13.desc 2 (Go.Value.agg #[(Go.Value.string (ByteArray.mk #[])), (Go.Value.int Go.IntKind.u64 0)]) 24 := ⟨by kernel_rfl, Tryd.t14, by kernel_rfl, rfl, rfl, rfl⟩
theorem ty15 : Ty Tryd.prog 15 (Go.TypeDesc.pointer 175) 1 (Go.Value.pointer Option.none) 8 := ⟨by kernel_rfl, Tryd.t15, by kernel_rfl, rfl, rfl, rfl⟩
theorem ty16 : Ty Tryd.prog 16 (Go.TypeDesc.pointer 178) 1 (Go.Value.pointer Option.none) 8 := ⟨by kernel_rfl, Tryd.t16, by kernel_rfl, rfl, rfl, rfl⟩
theorem ty17 : Ty Tryd.prog 17 (Go.TypeDesc.pointer 186) 1 (Go.Value.pointer Option.none) 8 := ⟨by kernel_rfl, Tryd.t17, by kernel_rfl, rfl, rfl, rfl⟩
theorem ty18 : Ty Tryd.prog 18 Tryd.t18.desc 1 (Go.Value.agg #[(Go.Value.pointer Option.none)]) 8 := ⟨by kernel_rfl, Tryd.t18, by kernel_rfl, rfl, rfl, rfl⟩
theorem ty19 : Ty Tryd.prog 19 Tryd.t18.desc 1 (Go.Value.agg #[(Go.Value.pointer Option.none)]) 8 := ⟨by kernel_rfl, Tryd.t19, by kernel_rfl, rfl, rfl, rfl⟩
theorem ty20 : Ty Tryd.prog 20 Tryd.t20.desc 1 Go.Value.nilIface 16 := ⟨by kernel_rfl, Tryd.t20, by kernel_rfl, rfl, rfl, rfl⟩
theorem ty21 : Ty Tryd.prog 21 (Go.TypeDesc.int Go.IntKind.i32) 1 (Go.Value.int Go.IntKind.i32 0) 4 := ⟨by kernel_rfl, Tryd.t21, by kernel_rfl, rfl, rfl, rfl⟩
theorem ty22 : Ty Tryd.prog 22 (Go.TypeDesc.int Go.IntKind.u64) 1 (Go.Value.int Go.IntKind.u64 0) 8 := ⟨by kernel_rfl, Tryd.t22, by kernel_rfl, rfl, rfl, rfl⟩
theorem ty23 : Ty Tryd.prog 23 (Go.TypeDesc.slice 22) 1 (Go.Value.slice Option.none 0 0) 24 := ⟨by kernel_rfl, Tryd.t23, by kernel_rfl, rfl, rfl, rfl⟩
theorem ty24 : Ty Tryd.prog 24 (Go.TypeDesc.pointer 102) 1 (Go.Value.pointer Option.none) 8 := ⟨by kernel_rfl, Tryd.t24, by kernel_rfl, rfl, rfl, rfl⟩
theorem ty25 : Ty Tryd.prog 25 Tryd.t25.desc 1 Go.Value.nilFunc 8 := ⟨by kernel_rfl, Tryd.t25, by kernel_rfl, rfl, rfl, rfl⟩
theorem ty26 : Ty Tryd.prog 26 Tryd.t26.desc 4 (Go.Value.agg #[(Go.Value.int Go.IntKind.i64 0), (Go.Value.int Go.IntKind.i64 0), (Go.Value.int Go.IntKind.u64 0), (Go.Value.int Go.IntKind.u64 0)]) 32 := ⟨by kernel_rfl, Tryd.t26, by kernel_rfl, rfl, rfl, rfl⟩
theorem ty27 : Ty Tryd.prog 27 Tryd.t26.desc 4 (Go.Value.agg #[(Go.Value.int Go.IntKind.i64 0), (Go.Value.int Go.IntKind.i64 0), (Go.Value.int Go.IntKind.u64 0), (Go.Value.int Go.IntKind.u64 0)]) 32 := ⟨by kernel_rfl, Tryd.t27, by kernel_rfl, rfl, rfl, rfl⟩
theorem ty28 : Ty Tryd.prog 28 (Go.TypeDesc.int Go.IntKind.i64) 1 (Go.Value.int Go.IntKind.i64 0) 8 := ⟨by kernel_rfl, Tryd.t28, by kernel_rfl, rfl, rfl, rfl⟩
theorem ty29 : Ty Tryd.prog 29 Tryd.t29.desc 1 (Go.Value.tuple #[(Go.Value.agg #[(Go.Value.int Go.IntKind.i64 0), (Go.Value.int Go.IntKind.i64 0), (Go.Value.int Go.IntKind.u64 0), (Go.Value.int Go.IntKind.u64 0)]), (Go.Value.int Go.IntKind.i64 0)]) 0 := ⟨by kernel_rfl, Tryd.t29, by kernel_rfl, rfl, rfl, rfl⟩
theorem ty30 : Ty Tryd.prog 30 Tryd.t30.desc 1 Go.Value.nilFunc 8 := ⟨by kernel_rfl, Tryd.t30, by kernel_rfl, rfl, rfl, rfl⟩
theorem ty31 : Ty Tryd.prog 31 Tryd.t31.desc 1 (Go.Value.tuple #[(Go.Value.int Go.IntKind.u64 0), (Go.Value.bool false)]) 0 := ⟨by kernel_rfl, Tryd.t31, by kernel_rfl, rfl, rfl, rfl⟩
theorem ty32 : Ty Tryd.prog 32 Tryd.t32.desc 1 Go.Value.nilFunc 8 := ⟨by kernel_rfl, Tryd.t32, by kernel_rfl, rfl, rfl, rfl⟩
theorem ty33 : Ty Tryd.prog 33 Tryd.t33.desc 1 Go.Value.nilFunc 8 := ⟨by kernel_rfl, Tryd.t33, by kernel_rfl, rfl, rfl, rfl⟩
theorem ty34 : Ty Tryd.prog 34 Tryd.t34.desc 1 Go.Value.nilFunc 8 := ⟨by kernel_rfl, Tryd.t34, by kernel_rfl, rfl, rfl, rfl⟩
theorem ty35 : Ty Tryd.prog 35 (Go.TypeDesc.slice 3) 1 (Go.Value.slice Option.none 0 0) 24 := ⟨by kernel_rfl, Tryd.t35, by kernel_rfl, rfl, rfl, rfl⟩
theorem ty36 : Ty Tryd.prog 36 Tryd.t36.desc 1 Go.Value.nilFunc 8 := ⟨by kernel_rfl, Tryd.t36, by kernel_rfl, rfl, rfl, rfl⟩
theorem ty37 : Ty Tryd.prog 37 Tryd.t37.desc 1 Go.Value.nilFunc 8 := ⟨by kernel_rfl, Tryd.t37, by kernel_rfl, rfl, rfl, rfl⟩
theorem ty38 : Ty Tryd.prog 38 Tryd.t38.desc 1 Go.Value.nilFunc 8 := ⟨by kernel_rfl, Tryd.t38, by kernel_rfl, rfl, rfl, rfl⟩
theorem ty39 : Ty Tryd.prog 39 (Go.TypeDesc.array 100 4) 100 ((Tryd.t39.zero).getD undef) 100 := ⟨by kernel_rfl, Tryd.t39, by kernel_rfl, rfl, rfl, rfl⟩
theorem ty40 : Ty Tryd.prog 40 Tryd.t40.desc 1 Go.Value.nilFunc 8 := ⟨by kernel_rfl, Tryd.t40, by kernel_rfl, rfl, rfl, rfl⟩
theorem ty41 : Ty Tryd.prog 41 (Go.TypeDesc.array 100 22) 100 ((Tryd.t41.zero).getD undef) 800 := ⟨by kernel_rfl, Tryd.t41, by kernel_rfl, rfl, rfl, rfl⟩
theorem ty42 : Ty Tryd.prog 42 Tryd.t42.desc 1 (Go.Value.tuple #[(Go.Value.agg #[(Go.Value.int Go.IntKind.i64 0), (Go.Value.int Go.IntKind.i64 0), (Go.Value.int Go.IntKind.u64 0), (Go.Value.int Go.IntKind.u64 0)]), (Go.Value.bool false)]) 0 := ⟨by kernel_rfl, Tryd.t42, by kernel_rfl, rfl, rfl, rfl⟩
theorem ty43 : Ty Tryd.prog 43 Tryd.t43.desc 1 Go.Value.nilFunc 8 := ⟨by kernel_rfl, Tryd.t43, by kernel_rfl, rfl, rfl, rfl⟩
theorem ty44 : Ty Tryd.prog 44 Tryd.t44.desc 1 Go.Value.nilFunc 8 := ⟨by kernel_rfl, Tryd.t44, by kernel_rfl, rfl, rfl, rfl⟩
theorem ty45 : Ty Tryd.prog 45 (Go.TypeDesc.pointer 112) 1 (Go.Value.pointer Option.none) 8 := ⟨by kernel_rfl, Tryd.t45, by kernel_rfl, rfl, rfl, rfl⟩
theorem ty46 : Ty Tryd.prog 46 Tryd.t46.desc 1 (Go.Value.tuple #[(Go.Value.pointer Option.none), (Go.Value.int Go.IntKind.i64 0)]) 0 := ⟨by kernel_rfl, Tryd.t46, by kernel_rfl, rfl, rfl, rfl⟩
theorem ty47 : Ty Tryd.prog 47 Tryd.t47.desc 1 Go.Value.nilFunc 8 := ⟨by kernel_rfl, Tryd.t47, by kernel_rfl, rfl, rfl, rfl⟩
theorem ty48 : Ty Tryd.prog 48 Tryd.t48.desc 1 Go.Value.nilFunc 8 := ⟨by kernel_rfl, Tryd.t48, by kernel_rfl, rfl, rfl, rfl⟩
theorem ty49 : Ty Tryd.prog 49 (Go.TypeDesc.int Go.IntKind.u64) 1 (Go.Value.int Go.IntKind.u64 0) 8 := ⟨by kernel_rfl, Tryd.t49, by kernel_rfl, rfl, rfl, rfl⟩
theorem ty50 : Ty Tryd.prog 50 Tryd.t50.desc 1 Go.Value.nilFunc 8 := ⟨by kernel_rfl, Tryd.t50, by kernel_rfl, rfl, rfl, rfl⟩
theorem ty51 : Ty Tryd.prog 51 Tryd.t51.desc 1 Go.Value.nilFunc 8 := ⟨by kernel_rfl, Tryd.t51, by kernel_rfl, rfl, rfl, rfl⟩
theorem ty52 : Ty Tryd.prog 52 Tryd.t52.desc 1 Go.Value.nilFunc 8 := ⟨by kernel_rfl, Tryd.t52, by kernel_rfl, rfl, rfl, rfl⟩
theorem ty53 : Ty Tryd.prog 53 Tryd.t53.desc 1 Go.Value.nilFunc 8 := ⟨by kernel_rfl, Tryd.t53, by kernel_rfl, rfl, rfl, rfl⟩
theorem ty54 : Ty Tryd.prog 54 Tryd.t54.desc 1 (Go.Value.tuple #[(Go.Value.int Go.IntKind.i64 0), (Go.Value.agg #[(Go.Value.int Go.IntKind.i64 0), (Go.Value.int Go.IntKind.i64 0), (Go.Value.int Go.IntKind.u64 0), (Go.Value.int Go.IntKind.u64 0)]), (Go.Value.bool false)]) 0 := ⟨by kernel_rfl, Tryd.t54, by kernel_rfl, rfl, rfl, rfl⟩
theorem ty55 : Ty Tryd.prog 55 Tryd.t55.desc 1 Go.Value.nilFunc 8 := ⟨by kernel_rfl, Tryd.t55, by kernel_rfl, rfl, rfl, rfl⟩
theorem ty56 : Ty Tryd.prog 56 Tryd.t56.desc 1 Go.Value.nilFunc 8 := ⟨by kernel_rfl, Tryd.t56, by kernel_rfl, rfl, rfl, rfl⟩
theorem ty57 : Ty Tryd.prog 57 Tryd.t57.desc 1 Go.Value.nilFunc 8 := ⟨by kernel_rfl, Tryd.t57, by kernel_rfl, rfl, rfl, rfl⟩
theorem ty58 : Ty Tryd.prog 58 (Go.TypeDesc.slice 64) 1 (Go.Value.slice Option.none 0 0) 24 := ⟨by kernel_rfl, Tryd.t58, by kernel_rfl, rfl, rfl, rfl⟩
theorem ty59 : Ty Tryd.prog 59 (Go.TypeDesc.slice 80) 1 (Go.Value.slice Option.none 0 0) 24 := ⟨by kernel_rfl, Tryd.t59, by kernel_rfl, rfl, rfl, rfl⟩
theorem ty60 : Ty Tryd.prog 60 Tryd.t60.desc 1 Go.Value.nilFunc 8 := ⟨by kernel_rfl, Tryd.t60, by kernel_rfl, rfl, rfl, rfl⟩
theorem ty61 : Ty Tryd.prog 61 Tryd.t61.desc 3 (Go.Value.agg #[(Go.Value.int Go.IntKind.i64 0), (Go.Value.int Go.IntKind.i64 0), (Go.Value.int Go.IntKind.u64 0)]) 24 := ⟨by kernel_rfl, Tryd.t61, by kernel_rfl, rfl, rfl, rfl⟩
theorem ty62 : Ty Tryd.prog 62 Tryd.t61.desc 3 (Go.Value.agg #[(Go.Value.int Go.IntKind.i64 0), (Go.Value.int Go.IntKind.i64 0), (Go.Value.int Go.IntKind.u64 0)]) 24 := ⟨by kernel_rfl, Tryd.t62, by kernel_rfl, rfl, rfl, rfl⟩
theorem ty63 : Ty Tryd.prog 63 Tryd.t63.desc 4 (Go.Value.agg #[(Go.Value.int Go.IntKind.i64 0), (Go.Value.int Go.IntKind.i64 0), (Go.Value.int Go.IntKind.i64 0), (Go.Value.int Go.IntKind.u64 0)]) 32 := ⟨by kernel_rfl, Tryd.t63, by kernel_rfl, rfl, rfl, rfl⟩
theorem ty64 : Ty Tryd.prog 64 Tryd.t63.desc 4 (Go.Value.agg #[(Go.Value.int Go.IntKind.i64 0), (Go.Value.int Go.IntKind.i64 0), (Go.Value.int Go.IntKind.i64 0), (Go.Value.int Go.IntKind.u64 0)]) 32 := ⟨by kernel_rfl, Tryd.t64, by kernel_rfl, rfl, rfl, rfl⟩
theorem ty65 : Ty Tryd.prog 65 Tryd.t26.desc 4 (Go.Value.agg #[(Go.Value.int Go.IntKind.i64 0), (Go.Value.int Go.IntKind.i64 0), (Go.Value.int Go.IntKind.u64 0), (Go.Value.int Go.IntKind.u64 0)]) 32 := ⟨by kernel_rfl, Tryd.t65, by kernel_rfl, rfl, rfl, rfl⟩
theorem ty66 : Ty Tryd.prog 66 Tryd.t66.desc 1 (Go.Value.tuple #[(Go.Value.slice Option.none 0 0), (Go.Value.agg #[(Go.Value.int Go.IntKind.i64 0), (Go.Value.int Go.IntKind.i64 0), (Go.Value.int Go.IntKind.u64 0), (Go.Value.int Go.IntKind.u64 0)]), (Go.Value.int Go.IntKind.i64 0)]) 0 := ⟨by kernel_rfl, Tryd.t66, by kernel_rfl, rfl, rfl, rfl⟩
theorem ty67 : Ty Tryd.prog 67 Tryd.t67.desc 1 Go.Value.nilFunc 8 := ⟨by kernel_rfl, Tryd.t67, by kernel_rfl, rfl, rfl, rfl⟩
theorem ty68 : Ty Tryd.prog 68 Tryd.t68.desc 1 Go.Value.nilFunc 8 := ⟨by kernel_rfl, Tryd.t68, by kernel_rfl, rfl, rfl, rfl⟩
theorem ty69 : Ty Tryd.prog 69 Tryd.t69.desc 1 (Go.Value.tuple #[(Go.Value.slice Option.none 0 0), (Go.Value.bool false)]) 0 := ⟨by kernel_rfl, Tryd.t69, by kernel_rfl, rfl, rfl, rfl⟩
theorem ty70 : Ty Tryd.prog 70 Tryd.t70.desc 1 Go.Value.nilFunc 8 := ⟨by kernel_rfl, Tryd.t70, by kernel_rfl, rfl, rfl, rfl⟩
theorem ty71 : Ty Tryd.prog 71 Tryd.t71.desc 1 Go.Value.nilFunc 8 := ⟨by kernel_rfl, Tryd.t71, by kernel_rfl, rfl, rfl, rfl⟩
theorem ty72 : Ty Tryd.prog 72 Tryd.t72.desc 1 (Go.Value.tuple #[(Go.Value.slice Option.none 0 0), (Go.Value.slice Option.none 0 0)]) 0 := ⟨by kernel_rfl, Tryd.t72, by kernel_rfl, rfl, rfl, rfl⟩
theorem ty73 : Ty Tryd.prog 73 Tryd.t73.desc 1 Go.Value.nilFunc 8 := ⟨by kernel_rfl, Tryd.t73, by kernel_rfl, rfl, rfl, rfl⟩
theorem ty74 : Ty Tryd.prog 74 Tryd.t74.desc 1 Go.Value.nilFunc 8 := ⟨by kernel_rfl, Tryd.t74, by kernel_rfl, rfl, rfl, rfl⟩
theorem ty75 : Ty Tryd.prog 75 Tryd.t75.desc 1 Go.Value.nilFunc 8 := ⟨by kernel_rfl, Tryd.t75, by kernel_rfl, rfl, rfl, rfl⟩
theorem ty76 : Ty Tryd.prog 76 Tryd.t76.desc 5 (Go.Value.agg #[(Go.Value.int Go.IntKind.i64 0), (Go.Value.int Go.IntKind.i64 0), (Go.Value.int Go.IntKind.i64 0), (Go.Value.int Go.IntKind.u64 0), (Go.Value.int Go.IntKind.u64 0)]) 40 := ⟨by kernel_rfl, Tryd.t76, by kernel_rfl, rfl, rfl, rfl⟩
theorem ty77 : Ty Tryd.prog 77 Tryd.t76.desc 5 (Go.Value.agg #[(Go.Value.int Go.IntKind.i64 0), (Go.Value.int Go.IntKind.i64 0), (Go.Value.int Go.IntKind.i64 0), (Go.Value.int Go.IntKind.u64 0), (Go.Value.int Go.IntKind.u64 0)]) 40 := ⟨by kernel_rfl, Tryd.t77, by kernel_rfl, rfl, rfl, rfl⟩
theorem ty78 : Ty Tryd.prog 78 (Go.TypeDesc.slice 77) 1 (Go.Value.slice Option.none 0 0) 24 := ⟨by kernel_rfl, Tryd.t78, by kernel_rfl, rfl, rfl, rfl⟩
theorem ty79 : Ty Tryd.prog 79 Tryd.t79.desc 2 (Go.Value.agg #[(Go.Value.int Go.IntKind.u64 0), (Go.Value.slice Option.none 0 0)]) 32 := ⟨by kernel_rfl, Tryd.t79, by kernel_rfl, rfl, rfl, rfl⟩
theorem ty80 : Ty Tryd.prog 80 Tryd.t79.desc 2 (Go.Value.agg #[(Go.Value.int Go.IntKind.u64 0), (Go.Value.slice Option.none 0 0)]) 32 := ⟨by kernel_rfl, Tryd.t80, by kernel_rfl, rfl, rfl, rfl⟩
theorem ty81 : Ty Tryd.prog 81 Tryd.t81.desc 1 Go.Value.nilFunc 8 := ⟨by kernel_rfl, Tryd.t81, by kernel_rfl, rfl, rfl, rfl⟩
theorem ty82 : Ty Tryd.prog 82 Tryd.t82.desc 1 Go.Value.nilFunc 8 := ⟨by kernel_rfl, Tryd.t82, by kernel_rfl, rfl, rfl, rfl⟩
theorem ty83 : Ty Tryd.prog 83 Tryd.t83.desc 1 Go.Value.nilFunc 8 := ⟨by kernel_rfl, Tryd.t83, by kernel_rfl, rfl, rfl, rfl⟩
theorem ty84 : Ty Tryd.prog 84 Tryd.t84.desc 1 Go.Value.nilFunc 8 := ⟨by kernel_rfl, Tryd.t84, by kernel_rfl, rfl, rfl, rfl⟩
theorem ty85 : Ty Tryd.prog 85 Tryd.t85.desc 1 Go.Value.nilFunc 8 := ⟨by kernel_rfl, Tryd.t85, by kernel_rfl, rfl, rfl, rfl⟩
theorem ty86 : Ty Tryd.prog 86 Tryd.t86.desc 1 Go.Value.nilFunc 8 := ⟨by kernel_rfl, Tryd.t86, by kernel_rfl, rfl, rfl, rfl⟩
theorem ty87 : Ty Tryd.prog 87 Tryd.t87.desc 1 Go.Value.nilFunc 8 := ⟨by kernel_rfl, Tryd.t87, by kernel_rfl, rfl, rfl, rfl⟩
theorem ty88 : Ty Tryd.prog 88 Tryd.t88.desc 1 Go.Value.nilFunc 8 := ⟨by kernel_rfl, Tryd.t88, by kernel_rfl, rfl, rfl, rfl⟩
theorem ty89 : Ty Tryd.prog 89 (Go.TypeDesc.slice 62) 1 (Go.Value.slice Option.none 0 0) 24 := ⟨by kernel_rfl, Tryd.t89, by kernel_rfl, rfl, rfl, rfl⟩
theorem ty90 : Ty Tryd.prog 90 Tryd.t90.desc 1 (Go.Value.tuple #[(Go.Value.agg #[(Go.Value.int Go.IntKind.u64 0), (Go.Value.slice Option.none 0 0)]), (Go.Value.agg #[(Go.Value.int Go.IntKind.i64 0), (Go.Value.int Go.IntKind.i64 0), (Go.Value.int Go.IntKind.u64 0), (Go.Value.int Go.IntKind.u64 0)]), (Go.Value.int Go.IntKind.i64 0)]) 0 := ⟨by kernel_rfl, Tryd.t90, by kernel_rfl, rfl, rfl, rfl⟩
theorem ty91 : Ty Tryd.prog 91 Tryd.t91.desc 1 Go.Value.nilFunc 8 := ⟨by kernel_rfl, Tryd.t91, by kernel_rfl, rfl, rfl, rfl⟩
theorem ty92 : Ty Tryd.prog 92 Tryd.t92.desc 1 (Go.Value.tuple #[(Go.Value.agg #[(Go.Value.int Go.IntKind.u64 0), (Go.Value.slice Option.none 0 0)]), (Go.Value.bool false)]) 0 := ⟨by kernel_rfl, Tryd.t92, by kernel_rfl, rfl, rfl, rfl⟩
theorem ty93 : Ty Tryd.prog 93 Tryd.t93.desc 1 Go.Value.nilFunc 8 := ⟨by kernel_rfl, Tryd.t93, by kernel_rfl, rfl, rfl, rfl⟩
theorem ty94 : Ty Tryd.prog 94 Tryd.t94.desc 1 (Go.Value.tuple #[(Go.Value.agg #[(Go.Value.int Go.IntKind.u64 0), (Go.Value.slice Option.none 0 0)]), (Go.Value.slice Option.none 0 0)]) 0 := ⟨by kernel_rfl, Tryd.t94, by kernel_rfl, rfl, rfl, rfl⟩
theorem ty95 : Ty Tryd.prog 95 Tryd.t95.desc 1 Go.Value.nilFunc 8 := ⟨by kernel_rfl, Tryd.t95, by kernel_rfl, rfl, rfl, rfl⟩
theorem ty96 : Ty Tryd.prog 96 Tryd.t96.desc 1 Go.Value.nilFunc 8 := ⟨by kernel_rfl, Tryd.t96, by kernel_rfl, rfl, rfl, rfl⟩
theorem ty97 : Ty Tryd.prog 97 (Go.TypeDesc.map 3 104) 1 (Go.Value.map Option.none) 8 := ⟨by kernel_rfl, Tryd.t97, by kernel_rfl, rfl, rfl, rfl⟩
theorem ty98 : Ty Tryd.prog 98 (Go.TypeDesc.array 64 35) 64 (Go.Value.agg #[(Go.Value.slice Option.none 0 0), (Go.Value.slice Option.none 0 0), (Go.Value.slice Option.none 0 0), (Go.Value.slice Option.none 0 0), (Go.Value.slice Option.none 0 0), (Go.Value.slice Option.none 0 0), (Go.Value.slice Option.none 0 0), (Go.Value.slice Option.none 0 0), (Go.Value.slice Option.none 0 0), (Go.Value.slice Option.none 0 0), (Go.Value.slice Option.none 0 0), (Go.Value.slice Option.none 0 0), (Go.Value.slice Option.none 0 0), (Go.Value.slice Option.none 0 0), (Go.Value.slice Option.none 0 0), (Go.Value.slice Option.none 0 0), (Go.Value.slice Option.none 0 0), (Go.Value.slice Option.none 0 0), (Go.Value.slice Option.none 0 0), (Go.Value.slice Option.none 0 0), (Go.Value.slice Option.none 0 0), (Go.Value.slice Option.none 0 0), (Go.Value.slice Option.none 0 0), (Go.Value.slice Option.none 0 0), (Go.Value.slice Option.none 0 0), (Go.Value.slice Option.none 0 0), (Go.Value.slice Option.none 0 0), (Go.Value.slice Option.none 0 0), (Go.Value.slice Option.none 0 0), (Go.Value.slice Option.none 0 0), (Go.Value.slice Option.none 0 0), (Go.Value.slice Option.none 0 0), (Go.Value.slice Option.none 0 0), (Go.Value.slice Option.none 0 0), (Go.Value.slice Option.none 0 0), (Go.Value.slice Option.none 0 0), (Go.Value.slice Option.none 0 0), (Go.Value.slice Option.none 0 0), (Go.Value.slice Option.none 0 0), (Go.Value.slice Option.none 0 0), (Go.Value.slice Option.none 0 0), (Go.Value.slice Option.none 0 0), (Go.Value.slice Option.none 0 0), (Go.Value.slice Option.none 0 0), (Go.Value.slice Option.none 0 0), (Go.Value.slice Option.none 0 0), (Go.Value.slice Option.none 0 0), (Go.Value.slice Option.none 0 0), (Go.Value.slice Option.none 0 0), (Go.Value.slice Option.none 0 0), (Go.Value.slice Option.none 0 0), (Go.Value.slice Option.none 0 0), (Go.Value.slice Option.none 0 0), (Go.Value.slice Option.none 0 0), (Go.Value.slice Option.none 0 0), (Go.Value.slice Option.none 0 0), (Go.Value.slice Option.none 0 0), (Go.Value.slice Option.none 0 0), (Go.Value.slice Option.none 0 0), (Go.Value.slice Option.none 0 0), (Go.Value.slice Option.none 0 0), (Go.Value.slice Option.none 0 0), (Go.Value.slice Option.none 0 0), (Go.Value.slice Option.none 0 0)]) 1536 := ⟨by kernel_rfl, Tryd.t98, by kernel_rfl, rfl, rfl, rfl⟩
theorem ty99 : Ty Tryd.prog 99 (Go.TypeDesc.array 8 98) 512 ((Tryd.t99.zero).getD undef) 12288 := ⟨by kernel_rfl, Tryd.t99, by kernel_rfl, rfl, rfl, rfl⟩
theorem ty100 : Ty Tryd.prog 100 (Go.TypeDesc.array 8 49) 8 (Go.Value.agg #[(Go.Value.int Go.IntKind.u64 0), (Go.Value.int Go.IntKind.u64 0), (Go.Value.int Go.IntKind.u64 0), (Go.Value.int Go.IntKind.u64 0), (Go.Value.int Go.IntKind.u64 0), (Go.Value.int Go.IntKind.u64 0), (Go.Value.int Go.IntKind.u64 0), (Go.Value.int Go.IntKind.u64 0)]) 64 := ⟨by kernel_rfl, Tryd.t100, by kernel_rfl, rfl, rfl, rfl⟩
theorem ty101 : Ty Tryd.prog 101 Tryd.t101.desc 523 ((Tryd.t101.zero).getD undef) 12376 := ⟨by kernel_rfl, Tryd.t101, by kernel_rfl, rfl, rfl, rfl⟩
theorem ty102 : Ty Tryd.prog 102 Tryd.t101.desc 523 ((Tryd.t102.zero).getD undef) 12376 := ⟨by kernel_rfl, Tryd.t102, by kernel_rfl, rfl, rfl, rfl⟩
theorem ty103 : Ty Tryd.prog 103 Tryd.t103.desc 5 (Go.Value.agg #[(Go.Value.int Go.IntKind.i64 0), (Go.Value.int Go.IntKind.i64 0), (Go.Value.int Go.IntKind.u64 0), (Go.Value.int Go.IntKind.u64 0), (Go.Value.int Go.IntKind.i64 0)]) 40 := ⟨by kernel_rfl, Tryd.t103, by kernel_rfl, rfl, rfl, rfl⟩
theorem ty104 : Ty Tryd.prog 104 Tryd.t103.desc 5 (Go.Value.agg #[(Go.Value.int Go.IntKind.i64 0), (Go.Value.int Go.IntKind.i64 0), (Go.Value.int Go.IntKind.u64 0), (Go.Value.int Go.IntKind.u64 0), (Go.Value.int Go.IntKind.i64 0)]) 40 := ⟨by kernel_rfl, Tryd.t104, by kernel_rfl, rfl, rfl, rfl⟩
theorem ty105 : Ty Tryd.prog 105 Tryd.t105.desc 1 (Go.Value.tuple #[(Go.Value.agg #[(Go.Value.int Go.IntKind.i64 0), (Go.Value.int Go.IntKind.i64 0), (Go.Value.int Go.IntKind.u64 0), (Go.Value.int Go.IntKind.u64 0), (Go.Value.int Go.IntKind.i64 0)]), (Go.Value.bool false)]) 0 := ⟨by kernel_rfl, Tryd.t105, by kernel_rfl, rfl, rfl, rfl⟩
theorem ty106 : Ty Tryd.prog 106 Tryd.t106.desc 1 Go.Value.nilFunc 8 := ⟨by kernel_rfl, Tryd.t106, by kernel_rfl, rfl, rfl, rfl⟩
theorem ty107 : Ty Tryd.prog 107 Tryd.t107.desc 1 Go.Value.nilFunc 8 := ⟨by kernel_rfl, Tryd.t107, by kernel_rfl, rfl, rfl, rfl⟩
theorem ty108 : Ty Tryd.prog 108 Tryd.t107.desc 1 Go.Value.nilFunc 8 := ⟨by kernel_rfl, Tryd.t108, by kernel_rfl, rfl, rfl, rfl⟩
theorem ty109 : Ty Tryd.prog 109 Tryd.t109.desc 1 Go.Value.nilFunc 8 := ⟨by kernel_rfl, Tryd.t109, by kernel_rfl, rfl, rfl, rfl⟩
theorem ty110 : Ty Tryd.prog 110 (Go.TypeDesc.slice 24) 1 (Go.Value.slice Option.none 0 0) 24 := ⟨by kernel_rfl, Tryd.t110, by kernel_rfl, rfl, rfl, rfl⟩
theorem ty111 : Ty Tryd.prog 111 Tryd.t111.desc 1 (Go.Value.agg #[(Go.Value.slice Option.none 0 0)]) 24 := ⟨by kernel_rfl, Tryd.t111, by kernel_rfl, rfl, rfl, rfl⟩
theorem ty112 : Ty Tryd.prog 112 Tryd.t111.desc 1 (Go.Value.agg #[(Go.Value.slice Option.none 0 0)]) 24 := ⟨by kernel_rfl, Tryd.t112, by kernel_rfl, rfl, rfl, rfl⟩
theorem ty113 : Ty Tryd.prog 113 Tryd.t113.desc 1 Go.Value.nilFunc 8 := ⟨by kernel_rfl, Tryd.t113, by kernel_rfl, rfl, rfl, rfl⟩
theorem ty114 : Ty Tryd.prog 114 Tryd.t114.desc 1 Go.Value.nilFunc 8 := ⟨by kernel_rfl, Tryd.t114, by kernel_rfl, rfl, rfl, rfl⟩
theorem ty115 : Ty Tryd.prog 115 Tryd.t115.desc 1 Go.Value.nilFunc 8 := ⟨by kernel_rfl, Tryd.t115, by kernel_rfl, rfl, rfl, rfl⟩
theorem ty116 : Ty Tryd.prog 116 Tryd.t115.desc 1 Go.Value.nilFunc 8 := ⟨by kernel_rfl, Tryd.t116, by kernel_rfl, rfl, rfl, rfl⟩
theorem ty117 : Ty Tryd.prog 117 Tryd.t117.desc 1 Go.Value.nilFunc 8 := ⟨by kernel_rfl, Tryd.t117, by kernel_rfl, rfl, rfl, rfl⟩
theorem ty118 : Ty Tryd.prog 118 Tryd.t118.desc 1 Go.Value.nilFunc 8 := ⟨by kernel_rfl, Tryd.t118, by kernel_rfl, rfl, rfl, rfl⟩
theorem ty119 : Ty Tryd.prog 119 Tryd.t119.desc 1 Go.Value.nilFunc 8 := ⟨by kernel_rfl, Tryd.t119, by kernel_rfl, rfl, rfl, rfl⟩
theorem ty120 : Ty Tryd.prog 120 Tryd.t120.desc 1 Go.Value.nilFunc 8 := ⟨by kernel_rfl, Tryd.t120, by kernel_rfl, rfl, rfl, rfl⟩
theorem ty121 : Ty Tryd.prog 121 Tryd.t121.desc 1 (Go.Value.tuple #[(Go.Value.agg #[(Go.Value.int Go.IntKind.i64 0), (Go.Value.int Go.IntKind.i64 0), (Go.Value.int Go.IntKind.u64 0), (Go.Value.int Go.IntKind.u64 0)]), (Go.Value.int Go.IntKind.i64 0)]) 0 := ⟨by kernel_rfl, Tryd.t121, by kernel_rfl, rfl, rfl, rfl⟩
theorem ty122 : Ty Tryd.prog 122 Tryd.t122.desc 1 Go.Value.nilFunc 8 := ⟨by kernel_rfl, Tryd.t122, by kernel_rfl, rfl, rfl, rfl⟩
theorem ty123 : Ty Tryd.prog 123 Tryd.t123.desc 1 Go.Value.nilFunc 8 := ⟨by kernel_rfl, Tryd.t123, by kernel_rfl, rfl, rfl, rfl⟩
theorem ty124 : Ty Tryd.prog 124 Tryd.t124.desc 1 (Go.Value.tuple #[(Go.Value.int Go.IntKind.i64 0), (Go.Value.bool false)]) 0 := ⟨by kernel_rfl, Tryd.t124, by kernel_rfl, rfl, rfl, rfl⟩
theorem ty125 : Ty Tryd.prog 125 Tryd.t125.desc 1 Go.Value.nilFunc 8 := ⟨by kernel_rfl, Tryd.t125, by kernel_rfl, rfl, rfl, rfl⟩
theorem ty126 : Ty Tryd.prog 126 (Go.TypeDesc.int Go.IntKind.u64) 1 (Go.Value.int Go.IntKind.u64 0) 8 := ⟨by kernel_rfl, Tryd.t126, by kernel_rfl, rfl, rfl, rfl⟩
theorem ty127 : Ty Tryd.prog 127 Tryd.t127.desc 1 Go.Value.nilFunc 8 := ⟨by kernel_rfl, Tryd.t127, by kernel_rfl, rfl, rfl, rfl⟩
theorem ty128 : Ty Tryd.prog 128 Tryd.t128.desc 1 Go.Value.nilFunc 8 := ⟨by kernel_rfl, Tryd.t128, by kernel_rfl, rfl, rfl, rfl⟩
theorem ty129 : Ty Tryd.prog 129 Tryd.t129.desc 1 Go.Value.nilFunc 8 := ⟨by kernel_rfl, Tryd.t129, by kernel_rfl, rfl, rfl, rfl⟩
theorem ty130 : Ty Tryd.prog 130 Tryd.t130.desc 1 Go.Value.nilFunc 8 := ⟨by kernel_rfl, Tryd.t130, by kernel_rfl, rfl, rfl, rfl⟩
theorem ty131 : Ty Tryd.prog 131 Tryd.t131.desc 1 (Go.Value.tuple #[(Go.Value.int Go.IntKind.u64 0), (Go.Value.int Go.IntKind.i64 0)]) 0 := ⟨by kernel_rfl, Tryd.t131, by kernel_rfl, rfl, rfl, rfl⟩
theorem ty132 : Ty Tryd.prog 132 Tryd.t132.desc 1 Go.Value.nilFunc 8 := ⟨by kernel_rfl, Tryd.t132, by kernel_rfl, rfl, rfl, rfl⟩
theorem ty133 : Ty Tryd.prog 133 Tryd.t133.desc 1 Go.Value.nilFunc 8 := ⟨by kernel_rfl, Tryd.t133, by kernel_rfl, rfl, rfl, rfl⟩
theorem ty134 : Ty Tryd.prog 134 Tryd.t134.desc 1 Go.Value.nilFunc 8 := ⟨by kernel_rfl, Tryd.t134, by kernel_rfl, rfl, rfl, rfl⟩
theorem ty135 : Ty Tryd.prog 135 Tryd.t135.desc 1 Go.Value.nilFunc 8 := ⟨by kernel_rfl, Tryd.t135, by kernel_rfl, rfl, rfl, rfl⟩
theorem ty136 : Ty Tryd.prog 136 Tryd.t136.desc 1 Go.Value.nilFunc 8 := ⟨by kernel_rfl, Tryd.t136, by kernel_rfl, rfl, rfl, rfl⟩
theorem ty137 : Ty Tryd.prog 137 Tryd.t137.desc 1 Go.Value.nilFunc 8 := ⟨by kernel_rfl, Tryd.t137, by kernel_rfl, rfl, rfl, rfl⟩
theorem ty138 : Ty Tryd.prog 138 Tryd.t138.desc 1 Go.Value.nilFunc 8 := ⟨by kernel_rfl, Tryd.t138, by kernel_rfl, rfl, rfl, rfl⟩
theorem ty139 : Ty Tryd.prog 139 Tryd.t139.desc 1 Go.Value.nilFunc 8 := ⟨by kernel_rfl, Tryd.t139, by kernel_rfl, rfl, rfl, rfl⟩
theorem ty140 : Ty Tryd.prog 140 Tryd.t140.desc 1 Go.Value.nilFunc 8 := ⟨by kernel_rfl, Tryd.t140, by kernel_rfl, rfl, rfl, rfl⟩
theorem ty141 : Ty Tryd.prog 141 Tryd.t141.desc 1 Go.Value.nilFunc 8 := ⟨by kernel_rfl, Tryd.t141, by kernel_rfl, rfl, rfl, rfl⟩
theorem ty142 : Ty Tryd.prog 142 (Go.TypeDesc.int Go.IntKind.i64) 1 (Go.Value.int Go.IntKind.i64 0) 8 := ⟨by kernel_rfl, Tryd.t142, by kernel_rfl, rfl, rfl, rfl⟩
theorem ty143 : Ty Tryd.prog 143 Tryd.t143.desc 1 (Go.Value.tuple #[(Go.Value.int Go.IntKind.i64 0), (Go.Value.int Go.IntKind.i64 0)]) 0 := ⟨by kernel_rfl, Tryd.t143, by kernel_rfl, rfl, rfl, rfl⟩
theorem ty144 : Ty Tryd.prog 144 Tryd.t144.desc 1 Go.Value.nilFunc 8 := ⟨by kernel_rfl, Tryd.t144, by kernel_rfl, rfl, rfl, rfl⟩
theorem ty145 : Ty Tryd.prog 145 Tryd.t145.desc 1 Go.Value.nilFunc 8 := ⟨by kernel_rfl, Tryd.t145, by kernel_rfl, rfl, rfl, rfl⟩
theorem ty146 : Ty Tryd.prog 146 Tryd.t146.desc 1 Go.Value.nilFunc 8 := ⟨by kernel_rfl, Tryd.t146, by kernel_rfl, rfl, rfl, rfl⟩
theorem ty147 : Ty Tryd.prog 147 Tryd.t147.desc 1 Go.Value.nilFunc 8 := ⟨by kernel_rfl, Tryd.t147, by kernel_rfl, rfl, rfl, rfl⟩
theorem ty148 : Ty Tryd.prog 148 Tryd.t148.desc 1 Go.Value.nilFunc 8 := ⟨by kernel_rfl, Tryd.t148, by kernel_rfl, rfl, rfl, rfl⟩
theorem ty149 : Ty Tryd.prog 149 Tryd.t149.desc 1 Go.Value.nilFunc 8 := ⟨by kernel_rfl, Tryd.t149, by kernel_rfl, rfl, rfl, rfl⟩
theorem ty150 : Ty Tryd.prog 150 (Go.TypeDesc.int Go.IntKind.u32) 1 (Go.Value.int Go.IntKind.u32 0) 4 := ⟨by kernel_rfl, Tryd.t150, by kernel_rfl, rfl, rfl, rfl⟩
theorem ty151 : Ty Tryd.prog 151 Tryd.t151.desc 1 Go.Value.nilFunc 8 := ⟨by kernel_rfl, Tryd.t151, by kernel_rfl, rfl, rfl, rfl⟩
theorem ty152 : Ty Tryd.prog 152 Tryd.t152.desc 1 Go.Value.nilFunc 8 := ⟨by kernel_rfl, Tryd.t152, by kernel_rfl, rfl, rfl, rfl⟩
theorem ty153 : Ty Tryd.prog 153 Tryd.t153.desc 1 Go.Value.nilFunc 8 := ⟨by kernel_rfl, Tryd.t153, by kernel_rfl, rfl, rfl, rfl⟩
theorem ty154 : Ty Tryd.prog 154 Tryd.t154.desc 1 Go.Value.nilFunc 8 := ⟨by kernel_rfl, Tryd.t154, by kernel_rfl, rfl, rfl, rfl⟩
theorem ty155 : Ty Tryd.prog 155 Tryd.t155.desc 1 Go.Value.nilFunc 8 := ⟨by kernel_rfl, Tryd.t155, by kernel_rfl, rfl, rfl, rfl⟩
theorem ty156 : Ty Tryd.prog 156 Tryd.t156.desc 1 Go.Value.nilFunc 8 := ⟨by kernel_rfl, Tryd.t156, by kernel_rfl, rfl, rfl, rfl⟩
theorem ty157 : Ty Tryd.prog 157 Tryd.t157.desc 1 Go.Value.nilFunc 8 := ⟨by kernel_rfl, Tryd.t157, by kernel_rfl, rfl, rfl, rfl⟩
theorem ty158 : Ty Tryd.prog 158 Tryd.t158.desc 1 Go.Value.nilFunc 8 := ⟨by kernel_rfl, Tryd.t158, by kernel_rfl, rfl, rfl, rfl⟩
theorem ty159 : Ty Tryd.prog 159 (Go.TypeDesc.int Go.IntKind.u64) 1 (Go.Value.int Go.IntKind.u64 0) 8 := ⟨by kernel_rfl, Tryd.t159, by kernel_rfl, rfl, rfl, rfl⟩
theorem ty160 : Ty Tryd.prog 160 Tryd.t160.desc 1 Go.Value.nilFunc 8 := ⟨by kernel_rfl, Tryd.t160, by kernel_rfl, rfl, rfl, rfl⟩
theorem ty161 : Ty Tryd.prog 161 (Go.TypeDesc.pointer 3) 1 (Go.Value.pointer Option.none) 8 := ⟨by kernel_rfl, Tryd.t161, by kernel_rfl, rfl, rfl, rfl⟩
theorem ty162 : Ty Tryd.prog 162 Tryd.t162.desc 1 Go.Value.nilFunc 8 := ⟨by kernel_rfl, Tryd.t162, by kernel_rfl, rfl, rfl, rfl⟩
theorem ty163 : Ty Tryd.prog 163 Tryd.t163.desc 1 Go.Value.nilFunc 8 := ⟨by kernel_rfl, Tryd.t163, by kernel_rfl, rfl, rfl, rfl⟩
theorem ty164 : Ty Tryd.prog 164 Tryd.t163.desc 1 Go.Value.nilFunc 8 := ⟨by kernel_rfl, Tryd.t164, by kernel_rfl, rfl, rfl, rfl⟩
theorem ty165 : Ty Tryd.prog 165 Tryd.t165.desc 1 Go.Value.nilFunc 8 := ⟨by kernel_rfl, Tryd.t165, by kernel_rfl, rfl, rfl, rfl⟩
theorem ty166 : Ty Tryd.prog 166 Tryd.t166.desc 1 Go.Value.nilFunc 8 := ⟨by kernel_rfl, Tryd.t166, by kernel_rfl, rfl, rfl, rfl⟩
theorem ty167 : Ty Tryd.prog 167 Tryd.t167.desc 1 Go.Value.nilFunc 8 := ⟨by kernel_rfl, Tryd.t167, by kernel_rfl, rfl, rfl, rfl⟩
theorem ty168 : Ty Tryd.prog 168 (Go.TypeDesc.pointer 159) 1 (Go.Value.pointer Option.none) 8 := ⟨by kernel_rfl, Tryd.t168, by kernel_rfl, rfl, rfl, rfl⟩
theorem ty169 : Ty Tryd.prog 169 Tryd.t169.desc 1 (Go.Value.tuple #[(Go.Value.int Go.IntKind.i64 0), (Go.Value.int Go.IntKind.i64 0)]) 0 := ⟨by kernel_rfl, Tryd.t169, by kernel_rfl, rfl, rfl, rfl⟩
theorem ty170 : Ty Tryd.prog 170 Tryd.t170.desc 1 Go.Value.nilFunc 8 := ⟨by kernel_rfl, Tryd.t170, by kernel_rfl, rfl, rfl, rfl⟩
theorem ty171 : Ty Tryd.prog 171 Tryd.t171.desc 1 Go.Value.nilFunc 8 := ⟨by kernel_rfl, Tryd.t171, by kernel_rfl, rfl, rfl, rfl⟩
theorem ty172 : Ty Tryd.prog 172 (Go.TypeDesc.array 64 5) 64 (Go.Value.agg #[(Go.Value.int Go.IntKind.u8 0), (Go.Value.int Go.IntKind.u8 0), (Go.Value.int Go.IntKind.u8 0), (Go.Value.int Go.IntKind.u8 0), (Go.Value.int Go.IntKind.u8 0), (Go.Value.int Go.IntKind.u8 0), (Go.Value.int Go.IntKind.u8 0), (Go.Value.int Go.IntKind.u8 0), (Go.Value.int Go.IntKind.u8 0), (Go.Value.int Go.IntKind.u8 0), (Go.Value.int Go.IntKind.u8 0), (Go.Value.int Go.IntKind.u8 0), (Go.Value.int Go.IntKind.u8 0), (Go.Value.int Go.IntKind.u8 0), (Go.Value.int Go.IntKind.u8 0), (Go.Value.int Go.IntKind.u8 0), (Go.Value.int Go.IntKind.u8 0), (Go.Value.int Go.IntKind.u8 0), (Go.Value.int Go.IntKind.u8 0), (Go.Value.int Go.IntKind.u8 0), (Go.Value.int Go.IntKind.u8 0), (Go.Value.int Go.IntKind.u8 0), (Go.Value.int Go.IntKind.u8 0), (Go.Value.int Go.IntKind.u8 0), (Go.Value.int Go.IntKind.u8 0), (Go.Value.int Go.IntKind.u8 0), (Go.Value.int Go.IntKind.u8 0), (Go.Value.int Go.IntKind.u8 0), (Go.Value.int Go.IntKind.u8 0), (Go.Value.int Go.IntKind.u8 0), (Go.Value.int Go.IntKind.u8 0), (Go.Value.int Go.IntKind.u8 0), (Go.Value.int Go.IntKind.u8 0), (Go.Value.int Go.IntKind.u8 0), (Go.Value.int Go.IntKind.u8 0), (Go.Value.int Go.IntKind.u8 0), (Go.Value.int Go.IntKind.u8 0), (Go.Value.int Go.IntKind.u8 0), (Go.Value.int Go.IntKind.u8 0), (Go.Value.int Go.IntKind.u8 0), (Go.Value.int Go.IntKind.u8 0), (Go.Value.int Go.IntKind.u8 0), (Go.Value.int Go.IntKind.u8 0), (Go.Value.int Go.IntKind.u8 0), (Go.Value.int Go.IntKind.u8 0), (Go.Value.int Go.IntKind.u8 0), (Go.Value.int Go.IntKind.u8 0), (Go.Value.int Go.IntKind.u8 0), (Go.Value.int Go.IntKind.u8 0), (Go.Value.int Go.IntKind.u8 0), (Go.Value.int Go.IntKind.u8 0), (Go.Value.int Go.IntKind.u8 0), (Go.Value.int Go.IntKind.u8 0), (Go.Value.int Go.IntKind.u8 0), (Go.Value.int Go.IntKind.u8 0), (Go.Value.int Go.IntKind.u8 0), (Go.Value.int Go.IntKind.u8 0), (Go.Value.int Go.IntKind.u8 0), (Go.Value.int Go.IntKind.u8 0), (Go.Value.int Go.IntKind.u8 0), (Go.Value.int Go.IntKind.u8 0), (Go.Value.int Go.IntKind.u8 0), (Go.Value.int Go.IntKind.u8 0), (Go.Value.int Go.IntKind.u8 0)]) 64 := ⟨by kernel_rfl, Tryd.t172, by kernel_rfl, rfl, rfl, rfl⟩
theorem ty173 : Ty Tryd.prog 173 Tryd.t173.desc 1 Go.Value.nilFunc 8 := ⟨by kernel_rfl, Tryd.t173, by kernel_rfl, rfl, rfl, rfl⟩
theorem ty174 : Ty Tryd.prog 174 Tryd.t174.desc 4 (Go.Value.agg #[(Go.Value.pointer Option.none), (Go.Value.pointer Option.none), (Go.Value.pointer Option.none), (Go.Value.string (ByteArray.mk #[]))]) 40 := ⟨by kernel_rfl, Tryd.t174, by kernel_rfl, rfl, rfl, rfl⟩
theorem ty175 : Ty Tryd.prog 175 Tryd.t174.desc 4 (Go.Value.agg #[(Go.Value.pointer Option.none), (Go.Value.pointer Option.none), (Go.Value.pointer Option.none), (Go.Value.string (ByteArray.mk #[]))]) 40 := ⟨by kernel_rfl, Tryd.t175, by kernel_rfl, rfl, rfl, rfl⟩
theorem ty176 : Ty Tryd.prog 176 (Go.TypeDesc.array 0 16) 0 (Go.Value.agg #[]) 0 := ⟨by kernel_rfl, Tryd.t176, by kernel_rfl, rfl, rfl, rfl⟩
theorem ty177 : Ty Tryd.prog 177 Tryd.t177.desc 0 (Go.Value.agg #[]) 0 := ⟨by kernel_rfl, Tryd.t177, by kernel_rfl, rfl, rfl, rfl⟩
theorem ty178 : Ty Tryd.prog 178 Tryd.t177.desc 0 (Go.Value.agg #[]) 0 := ⟨by kernel_rfl, Tryd.t178, by kernel_rfl, rfl, rfl, rfl⟩
theorem ty179 : Ty Tryd.prog 179 (Go.TypeDesc.int Go.IntKind.u8) 1 (Go.Value.int Go.IntKind.u8 0) 1 := ⟨by kernel_rfl, Tryd.t179, by kernel_rfl, rfl, rfl, rfl⟩
theorem ty180 : Ty Tryd.prog 180 (Go.TypeDesc.int Go.IntKind.u8) 1 (Go.Value.int Go.IntKind.u8 0) 1 := ⟨by kernel_rfl, Tryd.t180, by kernel_rfl, rfl, rfl, rfl⟩
theorem ty181 : Ty Tryd.prog 181 Tryd.t181.desc 1 Go.Value.nilFunc 8 := ⟨by kernel_rfl, Tryd.t181, by kernel_rfl, rfl, rfl, rfl⟩
theorem ty182 : Ty Tryd.prog 182 (Go.TypeDesc.pointer 5) 1 (Go.Value.pointer Option.none) 8 := ⟨by kernel_rfl, Tryd.t182, by kernel_rfl, rfl, rfl, rfl⟩
theorem ty183 : Ty Tryd.prog 183 (Go.TypeDesc.int Go.IntKind.i32) 1 (Go.Value.int Go.IntKind.i32 0) 4 := ⟨by kernel_rfl, Tryd.t183, by kernel_rfl, rfl, rfl, rfl⟩
theorem ty184 : Ty Tryd.prog 184 (Go.TypeDesc.int Go.IntKind.i32) 1 (Go.Value.int Go.IntKind.i32 0) 4 := ⟨by kernel_rfl, Tryd.t184, by kernel_rfl, rfl, rfl, rfl⟩
theorem ty185 : Ty Tryd.prog 185 Tryd.t185.desc 11 (Go.Value.agg #[(Go.Value.int Go.IntKind.u64 0), (Go.Value.int Go.IntKind.u64 0), (Go.Value.int Go.IntKind.u32 0), (Go.Value.int Go.IntKind.u8 0), (Go.Value.int Go.IntKind.u8 0), (Go.Value.int Go.IntKind.u8 0), (Go.Value.int Go.IntKind.u8 0), Go.Value.nilFunc, (Go.Value.pointer Option.none), (Go.Value.int Go.IntKind.i32 0), (Go.Value.int Go.IntKind.i32 0)]) 48 := ⟨by kernel_rfl, Tryd.t185, by kernel_rfl, rfl, rfl, rfl⟩
theorem ty186 : Ty Tryd.prog 186 Tryd.t185.desc 11 (Go.Value.agg #[(Go.Value.int Go.IntKind.u64 0), (Go.Value.int Go.IntKind.u64 0), (Go.Value.int Go.IntKind.u32 0), (Go.Value.int Go.IntKind.u8 0), (Go.Value.int Go.IntKind.u8 0), (Go.Value.int Go.IntKind.u8 0), (Go.Value.int Go.IntKind.u8 0), Go.Value.nilFunc, (Go.Value.pointer Option.none), (Go.Value.int Go.IntKind.i32 0), (Go.Value.int Go.IntKind.i32 0)]) 48 := ⟨by kernel_rfl, Tryd.t186, by kernel_rfl, rfl, rfl, rfl⟩
theorem ty187 : Ty Tryd.prog 187 Go.TypeDesc.unsafePointer 1 (Go.Value.pointer Option.none) 8 := ⟨by kernel_rfl, Tryd.t187, by kernel_rfl, rfl, rfl, rfl⟩
theorem fld7_0 : Fld Tryd.prog 7 0 0 1 false := ⟨_, _, (by kernel_rfl : Tryd.prog.underlying 7 = some Tryd.t7.desc), rfl, rfl, _, _, _, ty2, rfl⟩
theorem fld7_1 : Fld Tryd.prog 7 1 1 1 false := ⟨_, _, (by kernel_rfl : Tryd.prog.underlying 7 = some Tryd.t7.desc), rfl, rfl, _, _, _, ty3, rfl⟩
theorem fld7_2 : Fld Tryd.prog 7 2 2 1 false := ⟨_, _, (by kernel_rfl : Tryd.prog.underlying 7 = some Tryd.t7.desc), rfl, rfl, _, _, _, ty4, rfl⟩
theorem fld7_3 : Fld Tryd.prog 7 3 3 1 false := ⟨_, _, (by kernel_rfl : Tryd.prog.underlying 7 = some Tryd.t7.desc), rfl, rfl, _, _, _, ty6, rfl⟩
theorem fld8_0 : Fld Tryd.prog 8 0 0 1 false := ⟨_, _, (by kernel_rfl : Tryd.prog.underlying 8 = some Tryd.t7.desc), rfl, rfl, _, _, _, ty2, rfl⟩
theorem fld8_1 : Fld Tryd.prog 8 1 1 1 false := ⟨_, _, (by kernel_rfl : Tryd.prog.underlying 8 = some Tryd.t7.desc), rfl, rfl, _, _, _, ty3, rfl⟩
theorem fld8_2 : Fld Tryd.prog 8 2 2 1 false := ⟨_, _, (by kernel_rfl : Tryd.prog.underlying 8 = some Tryd.t7.desc), rfl, rfl, _, _, _, ty4, rfl⟩
theorem fld8_3 : Fld Tryd.prog 8 3 3 1 false := ⟨_, _, (by kernel_rfl : Tryd.prog.underlying 8 = some Tryd.t7.desc), rfl, rfl, _, _, _, ty6, rfl⟩
theorem fld13_0 : Fld Tryd.prog 13 0 0 1 false := ⟨_, _, (by kernel_rfl : Tryd.prog.underlying 13 = some Tryd.t13.desc), rfl, rfl, _, _, _, ty9, rfl⟩
theorem fld13_1 : Fld Tryd.prog 13 1 1 1 false := ⟨_, _, (by kernel_rfl : Tryd.prog.underlying 13 = some Tryd.t13.desc), rfl, rfl, _, _, _, ty12, rfl⟩
theorem fld14_0 : Fld Tryd.prog 14 0 0 1 false := ⟨_, _, (by kernel_rfl : Tryd.prog.underlying 14 = some Tryd.t13.desc), rfl, rfl, _, _, _, ty9, rfl⟩
theorem fld14_1 : Fld Tryd.prog 14 1 1 1 false := ⟨_, _, (by kernel_rfl : Tryd.prog.underlying 14 = some Tryd.t13.desc), rfl, rfl, _, _, _, ty12, rfl⟩
theorem fld18_0 : Fld Tryd.prog 18 0 0 1 false := ⟨_, _, (by kernel_rfl : Tryd.prog.underlying 18 = some Tryd.t18.desc), rfl, rfl, _, _, _, ty17, rfl⟩
theorem fld19_0 : Fld Tryd.prog 19 0 0 1 false := ⟨_, _, (by kernel_rfl : Tryd.prog.underlying 19 = some Tryd.t18.desc), rfl, rfl, _, _, _, ty17, rfl⟩
theorem fld26_0 : Fld Tryd.prog 26 0 0 1 false := ⟨_, _, (by kernel_rfl : Tryd.prog.underlying 26 = some Tryd.t26.desc), rfl, rfl, _, _, _, ty3, rfl⟩
theorem fld26_1 : Fld Tryd.prog 26 1 1 1 false := ⟨_, _, (by kernel_rfl : Tryd.prog.underlying 26 = some Tryd.t26.desc), rfl, rfl, _, _, _, ty3, rfl⟩
theorem fld26_2 : Fld Tryd.prog 26 2 2 1 false := ⟨_, _, (by kernel_rfl : Tryd.prog.underlying 26 = some Tryd.t26.desc), rfl, rfl, _, _, _, ty22, rfl⟩
theorem fld26_3 : Fld Tryd.prog 26 3 3 1 false := ⟨_, _, (by kernel_rfl : Tryd.prog.underlying 26 = some Tryd.t26.desc), rfl, rfl, _, _, _, ty22, rfl⟩
theorem fld27_0 : Fld Tryd.prog 27 0 0 1 false := ⟨_, _, (by kernel_rfl : Tryd.prog.underlying 27 = some Tryd.t26.desc), rfl, rfl, _, _, _, ty3, rfl⟩
theorem fld27_1 : Fld Tryd.prog 27 1 1 1 false := ⟨_, _, (by kernel_rfl : Tryd.prog.underlying 27 = some Tryd.t26.desc), rfl, rfl, _, _, _, ty3, rfl⟩
theorem fld27_2 : Fld Tryd.prog 27 2 2 1 false := ⟨_, _, (by kernel_rfl : Tryd.prog.underlying 27 = some Tryd.t26.desc), rfl, rfl, _, _, _, ty22, rfl⟩
theorem fld27_3 : Fld Tryd.prog 27 3 3 1 false := ⟨_, _, (by kernel_rfl : Tryd.prog.underlying 27 = some Tryd.t26.desc), rfl, rfl, _, _, _, ty22, rfl⟩
theorem fld61_0 : Fld Tryd.prog 61 0 0 1 false := ⟨_, _, (by kernel_rfl : Tryd.prog.underlying 61 = some Tryd.t61.desc), rfl, rfl, _, _, _, ty3, rfl⟩
theorem fld61_1 : Fld Tryd.prog 61 1 1 1 false := ⟨_, _, (by kernel_rfl : Tryd.prog.underlying 61 = some Tryd.t61.desc), rfl, rfl, _, _, _, ty3, rfl⟩
theorem fld61_2 : Fld Tryd.prog 61 2 2 1 false := ⟨_, _, (by kernel_rfl : Tryd.prog.underlying 61 = some Tryd.t61.desc), rfl, rfl, _, _, _, ty22, rfl⟩
theorem fld62_0 : Fld Tryd.prog 62 0 0 1 false := ⟨_, _, (by kernel_rfl : Tryd.prog.underlying 62 = some Tryd.t61.desc), rfl, rfl, _, _, _, ty3, rfl⟩
theorem fld62_1 : Fld Tryd.prog 62 1 1 1 false := ⟨_, _, (by kernel_rfl : Tryd.prog.underlying 62 = some Tryd.t61.desc), rfl, rfl, _, _, _, ty3, rfl⟩
theorem fld62_2 : Fld Tryd.prog 62 2 2 1 false := ⟨_, _, (by kernel_rfl : Tryd.prog.underlying 62 = some Tryd.t61.desc), rfl, rfl, _, _, _, ty22, rfl⟩
theorem fld63_0 : Fld Tryd.prog 63 0 0 1 false := ⟨_, _, (by kernel_rfl : Tryd.prog.underlying 63 = some Tryd.t63.desc), rfl, rfl, _, _, _, ty3, rfl⟩
theorem fld63_1 : Fld Tryd.prog 63 1 1 3 true := ⟨_, _, (by kernel_rfl : Tryd.prog.underlying 63 = some Tryd.t63.desc), rfl, rfl, _, _, _, ty62, rfl⟩
theorem fld64_0 : Fld Tryd.prog 64 0 0 1 false := ⟨_, _, (by kernel_rfl : Tryd.prog.underlying 64 = some Tryd.t63.desc), rfl, rfl, _, _, _, ty3, rfl⟩
theorem fld64_1 : Fld Tryd.prog 64 1 1 3 true := ⟨_, _, (by kernel_rfl : Tryd.prog.underlying 64 = some Tryd.t63.desc), rfl, rfl, _, _, _, ty62, rfl⟩
theorem fld65_0 : Fld Tryd.prog 65 0 0 1 false := ⟨_, _, (by kernel_rfl : Tryd.prog.underlying 65 = some Tryd.t26.desc), rfl, rfl, _, _, _, ty3, rfl⟩
theorem fld65_1 : Fld Tryd.prog 65 1 1 1 false := ⟨_, _, (by kernel_rfl : Tryd.prog.underlying 65 = some Tryd.t26.desc), rfl, rfl, _, _, _, ty3, rfl⟩
theorem fld65_2 : Fld Tryd.prog 65 2 2 1 false := ⟨_, _, (by kernel_rfl : Tryd.prog.underlying 65 = some Tryd.t26.desc), rfl, rfl, _, _, _, ty22, rfl⟩
theorem fld65_3 : Fld Tryd.prog 65 3 3 1 false := ⟨_, _, (by kernel_rfl : Tryd.prog.underlying 65 = some Tryd.t26.desc), rfl, rfl, _, _, _, ty22, rfl⟩
theorem fld76_0 : Fld Tryd.prog 76 0 0 1 false := ⟨_, _, (by kernel_rfl : Tryd.prog.underlying 76 = some Tryd.t76.desc), rfl, rfl, _, _, _, ty3, rfl⟩
theorem fld76_1 : Fld Tryd.prog 76 1 1 4 true := ⟨_, _, (by kernel_rfl : Tryd.prog.underlying 76 = some Tryd.t76.desc), rfl, rfl, _, _, _, ty65, rfl⟩
theorem fld77_0 : Fld Tryd.prog 77 0 0 1 false := ⟨_, _, (by kernel_rfl : Tryd.prog.underlying 77 = some Tryd.t76.desc), rfl, rfl, _, _, _, ty3, rfl⟩
theorem fld77_1 : Fld Tryd.prog 77 1 1 4 true := ⟨_, _, (by kernel_rfl : Tryd.prog.underlying 77 = some Tryd.t76.desc), rfl, rfl, _, _, _, ty65, rfl⟩
theorem fld79_0 : Fld Tryd.prog 79 0 0 1 false := ⟨_, _, (by kernel_rfl : Tryd.prog.underlying 79 = some Tryd.t79.desc), rfl, rfl, _, _, _, ty22, rfl⟩
theorem fld79_1 : Fld Tryd.prog 79 1 1 1 false := ⟨_, _, (by kernel_rfl : Tryd.prog.underlying 79 = some Tryd.t79.desc), rfl, rfl, _, _, _, ty78, rfl⟩
theorem fld80_0 : Fld Tryd.prog 80 0 0 1 false := ⟨_, _, (by kernel_rfl : Tryd.prog.underlying 80 = some Tryd.t79.desc), rfl, rfl, _, _, _, ty22, rfl⟩
theorem fld80_1 : Fld Tryd.prog 80 1 1 1 false := ⟨_, _, (by kernel_rfl : Tryd.prog.underlying 80 = some Tryd.t79.desc), rfl, rfl, _, _, _, ty78, rfl⟩
theorem fld101_0 : Fld Tryd.prog 101 0 0 1 false := ⟨_, _, (by kernel_rfl : Tryd.prog.underlying 101 = some Tryd.t101.desc), rfl, rfl, _, _, _, ty22, rfl⟩
theorem fld101_1 : Fld Tryd.prog 101 1 1 512 true := ⟨_, _, (by kernel_rfl : Tryd.prog.underlying 101 = some Tryd.t101.desc), rfl, rfl, _, _, _, ty99, rfl⟩
theorem fld101_2 : Fld Tryd.prog 101 2 513 8 true := ⟨_, _, (by kernel_rfl : Tryd.prog.underlying 101 = some Tryd.t101.desc), rfl, rfl, _, _, _, ty100, rfl⟩
theorem fld101_3 : Fld Tryd.prog 101 3 521 1 false := ⟨_, _, (by kernel_rfl : Tryd.prog.underlying 101 = some Tryd.t101.desc), rfl, rfl, _, _, _, ty97, rfl⟩
theorem fld101_4 : Fld Tryd.prog 101 4 522 1 false := ⟨_, _, (by kernel_rfl : Tryd.prog.underlying 101 = some Tryd.t101.desc), rfl, rfl, _, _, _, ty3, rfl⟩
theorem fld102_0 : Fld Tryd.prog 102 0 0 1 false := ⟨_, _, (by kernel_rfl : Tryd.prog.underlying 102 = some Tryd.t101.desc), rfl, rfl, _, _, _, ty22, rfl⟩
theorem fld102_1 : Fld Tryd.prog 102 1 1 512 true := ⟨_, _, (by kernel_rfl : Tryd.prog.underlying 102 = some Tryd.t101.desc), rfl, rfl, _, _, _, ty99, rfl⟩
theorem fld102_2 : Fld Tryd.prog 102 2 513 8 true := ⟨_, _, (by kernel_rfl : Tryd.prog.underlying 102 = some Tryd.t101.desc), rfl, rfl, _, _, _, ty100, rfl⟩
theorem fld102_3 : Fld Tryd.prog 102 3 521 1 false := ⟨_, _, (by kernel_rfl : Tryd.prog.underlying 102 = some Tryd.t101.desc), rfl, rfl, _, _, _, ty97, rfl⟩
theorem fld102_4 : Fld Tryd.prog 102 4 522 1 false := ⟨_, _, (by kernel_rfl : Tryd.prog.underlying 102 = some Tryd.t101.desc), rfl, rfl, _, _, _, ty3, rfl⟩
theorem fld103_0 : Fld Tryd.prog 103 0 0 4 true := ⟨_, _, (by kernel_rfl : Tryd.prog.underlying 103 = some Tryd.t103.desc), rfl, rfl, _, _, _, ty27, rfl⟩
theorem fld103_1 : Fld Tryd.prog 103 1 4 1 false := ⟨_, _, (by kernel_rfl : Tryd.prog.underlying 103 = some Tryd.t103.desc), rfl, rfl, _, _, _, ty3, rfl⟩
theorem fld104_0 : Fld Tryd.prog 104 0 0 4 true := ⟨_, _, (by kernel_rfl : Tryd.prog.underlying 104 = some Tryd.t103.desc), rfl, rfl, _, _, _, ty27, rfl⟩
theorem fld104_1 : Fld Tryd.prog 104 1 4 1 false := ⟨_, _, (by kernel_rfl : Tryd.prog.underlying 104 = some Tryd.t103.desc), rfl, rfl, _, _, _, ty3, rfl⟩
theorem fld111_0 : Fld Tryd.prog 111 0 0 1 false := ⟨_, _, (by kernel_rfl : Tryd.prog.underlying 111 = some Tryd.t111.desc), rfl, rfl, _, _, _, ty110, rfl⟩
theorem fld112_0 : Fld Tryd.prog 112 0 0 1 false := ⟨_, _, (by kernel_rfl : Tryd.prog.underlying 112 = some Tryd.t111.desc), rfl, rfl, _, _, _, ty110, rfl⟩
theorem fld174_0 : Fld Tryd.prog 174 0 0 1 false := ⟨_, _, (by kernel_rfl : Tryd.prog.underlying 174 = some Tryd.t174.desc), rfl, rfl, _, _, _, ty17, rfl⟩
theorem fld174_1 : Fld Tryd.prog 174 1 1 1 false := ⟨_, _, (by kernel_rfl : Tryd.prog.underlying 174 = some Tryd.t174.desc), rfl, rfl, _, _, _, ty17, rfl⟩
theorem fld174_2 : Fld Tryd.prog 174 2 2 1 false := ⟨_, _, (by kernel_rfl : Tryd.prog.underlying 174 = some Tryd.t174.desc), rfl, rfl, _, _, _, ty17, rfl⟩
theorem fld174_3 : Fld Tryd.prog 174 3 3 1 false := ⟨_, _, (by kernel_rfl : Tryd.prog.underlying 174 = some Tryd.t174.desc), rfl, rfl, _, _, _, ty9, rfl⟩
theorem fld175_0 : Fld Tryd.prog 175 0 0 1 false := ⟨_, _, (by kernel_rfl : Tryd.prog.underlying 175 = some Tryd.t174.desc), rfl, rfl, _, _, _, ty17, rfl⟩
theorem fld175_1 : Fld Tryd.prog 175 1 1 1 false := ⟨_, _, (by kernel_rfl : Tryd.prog.underlying 175 = some Tryd.t174.desc), rfl, rfl, _, _, _, ty17, rfl⟩
theorem fld175_2 : Fld Tryd.prog 175 2 2 1 false := ⟨_, _, (by kernel_rfl : Tryd.prog.underlying 175 = some Tryd.t174.desc), rfl, rfl, _, _, _, ty17, rfl⟩
theorem fld175_3 : Fld Tryd.prog 175 3 3 1 false := ⟨_, _, (by kernel_rfl : Tryd.prog.underlying 175 = some Tryd.t174.desc), rfl, rfl, _, _, _, ty9, rfl⟩
theorem fld177_0 : Fld Tryd.prog 177 0 0 0 true := ⟨_, _, (by kernel_rfl : Tryd.prog.underlying 177 = some Tryd.t177.desc), rfl, rfl, _, _, _, ty176, rfl⟩
theorem fld178_0 : Fld Tryd.prog 178 0 0 0 true := ⟨_, _, (by kernel_rfl : Tryd.prog.underlying 178 = some Tryd.t177.desc), rfl, rfl, _, _, _, ty176, rfl⟩
theorem fld185_0 : Fld Tryd.prog 185 0 0 1 false := ⟨_, _, (by kernel_rfl : Tryd.prog.underlying 185 = some Tryd.t185.desc), rfl, rfl, _, _, _, ty12, rfl⟩
theorem fld185_1 : Fld Tryd.prog 185 1 1 1 false := ⟨_, _, (by kernel_rfl : Tryd.prog.underlying 185 = some Tryd.t185.desc), rfl, rfl, _, _, _, ty12, rfl⟩
theorem fld185_2 : Fld Tryd.prog 185 2 2 1 false := ⟨_, _, (by kernel_rfl : Tryd.prog.underlying 185 = some Tryd.t185.desc), rfl, rfl, _, _, _, ty150, rfl⟩
theorem fld185_3 : Fld Tryd.prog 185 3 3 1 false := ⟨_, _, (by kernel_rfl : Tryd.prog.underlying 185 = some Tryd.t185.desc), rfl, rfl, _, _, _, ty179, rfl⟩
theorem fld185_4 : Fld Tryd.prog 185 4 4 1 false := ⟨_, _, (by kernel_rfl : Tryd.prog.underlying 185 = some Tryd.t185.desc), rfl, rfl, _, _, _, ty5, rfl⟩
theorem fld185_5 : Fld Tryd.prog 185 5 5 1 false := ⟨_, _, (by kernel_rfl : Tryd.prog.underlying 185 = some Tryd.t185.desc), rfl, rfl, _, _, _, ty5, rfl⟩
theorem fld185_6 : Fld Tryd.prog 185 6 6 1 false := ⟨_, _, (by kernel_rfl : Tryd.prog.underlying 185 = some Tryd.t185.desc), rfl, rfl, _, _, _, ty180, rfl⟩
theorem fld185_7 : Fld Tryd.prog 185 7 7 1 false := ⟨_, _, (by kernel_rfl : Tryd.prog.underlying 185 = some Tryd.t185.desc), rfl, rfl, _, _, _, ty181, rfl⟩
theorem fld185_8 : Fld Tryd.prog 185 8 8 1 false := ⟨_, _, (by kernel_rfl : Tryd.prog.underlying 185 = some Tryd.t185.desc), rfl, rfl, _, _, _, ty182, rfl⟩
theorem fld185_9 : Fld Tryd.prog 185 9 9 1 false := ⟨_, _, (by kernel_rfl : Tryd.prog.underlying 185 = some Tryd.t185.desc), rfl, rfl, _, _, _, ty183, rfl⟩
theorem fld185_10 : Fld Tryd.prog 185 10 10 1 false := ⟨_, _, (by kernel_rfl : Tryd.prog.underlying 185 = some Tryd.t185.desc), rfl, rfl, _, _, _, ty184, rfl⟩
theorem fld186_0 : Fld Tryd.prog 186 0 0 1 false := ⟨_, _, (by kernel_rfl : Tryd.prog.underlying 186 = some Tryd.t185.desc), rfl, rfl, _, _, _, ty12, rfl⟩
theorem fld186_1 : Fld Tryd.prog 186 1 1 1 false := ⟨_, _, (by kernel_rfl : Tryd.prog.underlying 186 = some Tryd.t185.desc), rfl, rfl, _, _, _, ty12, rfl⟩
theorem fld186_2 : Fld Tryd.prog 186 2 2 1 false := ⟨_, _, (by kernel_rfl : Tryd.prog.underlying 186 = some Tryd.t185.desc), rfl, rfl, _, _, _, ty150, rfl⟩
theorem fld186_3 : Fld Tryd.prog 186 3 3 1 false := ⟨_, _, (by kernel_rfl : Tryd.prog.underlying 186 = some Tryd.t185.desc), rfl, rfl, _, _, _, ty179, rfl⟩
theorem fld186_4 : Fld Tryd.prog 186 4 4 1 false := ⟨_, _, (by kernel_rfl : Tryd.prog.underlying 186 = some Tryd.t185.desc), rfl, rfl, _, _, _, ty5, rfl⟩
theorem fld186_5 : Fld Tryd.prog 186 5 5 1 false := ⟨_, _, (by kernel_rfl : Tryd.prog.underlying 186 = some Tryd.t185.desc), rfl, rfl, _, _, _, ty5, rfl⟩
theorem fld186_6 : Fld Tryd.prog 186 6 6 1 false := ⟨_, _, (by kernel_rfl : Tryd.prog.underlying 186 = some Tryd.t185.desc), rfl, rfl, _, _, _, ty180, rfl⟩
theorem fld186_7 : Fld Tryd.prog 186 7 7 1 false := ⟨_, _, (by kernel_rfl : Tryd.prog.underlying 186 = some Tryd.t185.desc), rfl, rfl, _, _, _, ty181, rfl⟩
theorem fld186_8 : Fld Tryd.prog 186 8 8 1 false := ⟨_, _, (by kernel_rfl : Tryd.prog.underlying 186 = some Tryd.t185.desc), rfl, rfl, _, _, _, ty182, rfl⟩
theorem fld186_9 : Fld Tryd.prog 186 9 9 1 false := ⟨_, _, (by kernel_rfl : Tryd.prog.underlying 186 = some Tryd.t185.desc), rfl, rfl, _, _, _, ty183, rfl⟩
theorem fld186_10 : Fld Tryd.prog 186 10 10 1 false := ⟨_, _, (by kernel_rfl : Tryd.prog.underlying 186 = some Tryd.t185.desc), rfl, rfl, _, _, _, ty184, rfl⟩
theorem pl7 : StructPl Tryd.prog 7 [(0, 1), (1, 1), (2, 1), (3, 1)] := ⟨_, (by kernel_rfl : Tryd.prog.underlying 7 = some Tryd.t7.desc), fun _ => by kernel_rfl⟩
theorem pl8 : StructPl Tryd.prog 8 [(0, 1), (1, 1), (2, 1), (3, 1)] := ⟨_, (by kernel_rfl : Tryd.prog.underlying 8 = some Tryd.t7.desc), fun _ => by kernel_rfl⟩
theorem pl13 : StructPl Tryd.prog 13 [(0, 1), (1, 1)] := ⟨_, (by kernel_rfl : Tryd.prog.underlying 13 = some Tryd.t13.desc), fun _ => by kernel_rfl⟩
theorem pl14 : StructPl Tryd.prog 14 [(0, 1), (1, 1)] := ⟨_, (by kernel_rfl : Tryd.prog.underlying 14 = some Tryd.t13.desc), fun _ => by kernel_rfl⟩
theorem pl18 : StructPl Tryd.prog 18 [(0, 1)] := ⟨_, (by kernel_rfl : Tryd.prog.underlying 18 = some Tryd.t18.desc), fun _ => by kernel_rfl⟩
theorem pl19 : StructPl Tryd.prog 19 [(0, 1)] := ⟨_, (by kernel_rfl : Tryd.prog.underlying 19 = some Tryd.t18.desc), fun _ => by kernel_rfl⟩
theorem pl26 : StructPl Tryd.prog 26 [(0, 1), (1, 1), (2, 1), (3, 1)] := ⟨_, (by kernel_rfl : Tryd.prog.underlying 26 = some Tryd.t26.desc), fun _ => by kernel_rfl⟩
theorem pl27 : StructPl Tryd.prog 27 [(0, 1), (1, 1), (2, 1), (3, 1)] := ⟨_, (by kernel_rfl : Tryd.prog.underlying 27 = some Tryd.t26.desc), fun _ => by kernel_rfl⟩
theorem pl61 : StructPl Tryd.prog 61 [(0, 1), (1, 1), (2, 1)] := ⟨_, (by kernel_rfl : Tryd.prog.underlying 61 = some Tryd.t61.desc), fun _ => by kernel_rfl⟩
theorem pl62 : StructPl Tryd.prog 62 [(0, 1), (1, 1), (2, 1)] := ⟨_, (by kernel_rfl : Tryd.prog.underlying 62 = some Tryd.t61.desc), fun _ => by kernel_rfl⟩
theorem pl63 : StructPl Tryd.prog 63 [(0, 1), (1, 3)] := ⟨_, (by kernel_rfl : Tryd.prog.underlying 63 = some Tryd.t63.desc), fun _ => by kernel_rfl⟩
theorem pl64 : StructPl Tryd.prog 64 [(0, 1), (1, 3)] := ⟨_, (by kernel_rfl : Tryd.prog.underlying 64 = some Tryd.t63.desc), fun _ => by kernel_rfl⟩
theorem pl65 : StructPl Tryd.prog 65 [(0, 1), (1, 1), (2, 1), (3, 1)] := ⟨_, (by kernel_rfl : Tryd.prog.underlying 65 = some Tryd.t26.desc), fun _ => by kernel_rfl⟩
theorem pl76 : StructPl Tryd.prog 76 [(0, 1), (1, 4)] := ⟨_, (by kernel_rfl : Tryd.prog.underlying 76 = some Tryd.t76.desc), fun _ => by kernel_rfl⟩
theorem pl77 : StructPl Tryd.prog 77 [(0, 1), (1, 4)] := ⟨_, (by kernel_rfl : Tryd.prog.underlying 77 = some Tryd.t76.desc), fun _ => by kernel_rfl⟩
theorem pl79 : StructPl Tryd.prog 79 [(0, 1), (1, 1)] := ⟨_, (by kernel_rfl : Tryd.prog.underlying 79 = some Tryd.t79.desc), fun _ => by kernel_rfl⟩
theorem pl80 : StructPl Tryd.prog 80 [(0, 1), (1, 1)] := ⟨_, (by kernel_rfl : Tryd.prog.underlying 80 = some Tryd.t79.desc), fun _ => by kernel_rfl⟩
theorem pl101 : StructPl Tryd.prog 101 [(0, 1), (1, 512), (513, 8), (521, 1), (522, 1)] := ⟨_, (by kernel_rfl : Tryd.prog.underlying 101 = some Tryd.t101.desc), fun _ => by kernel_rfl⟩
theorem pl102 : StructPl Tryd.prog 102 [(0, 1), (1, 512), (513, 8), (521, 1), (522, 1)] := ⟨_, (by kernel_rfl : Tryd.prog.underlying 102 = some Tryd.t101.desc), fun _ => by kernel_rfl⟩
theorem pl103 : StructPl Tryd.prog 103 [(0, 4), (4, 1)] := ⟨_, (by kernel_rfl : Tryd.prog.underlying 103 = some Tryd.t103.desc), fun _ => by kernel_rfl⟩
theorem pl104 : StructPl Tryd.prog 104 [(0, 4), (4, 1)] := ⟨_, (by kernel_rfl : Tryd.prog.underlying 104 = some Tryd.t103.desc), fun _ => by kernel_rfl⟩
theorem pl111 : StructPl Tryd.prog 111 [(0, 1)] := ⟨_, (by kernel_rfl : Tryd.prog.underlying 111 = some Tryd.t111.desc), fun _ => by kernel_rfl⟩
theorem pl112 : StructPl Tryd.prog 112 [(0, 1)] := ⟨_, (by kernel_rfl : Tryd.prog.underlying 112 = some Tryd.t111.desc), fun _ => by kernel_rfl⟩
theorem pl174 : StructPl Tryd.prog 174 [(0, 1), (1, 1), (2, 1), (3, 1)] := ⟨_, (by kernel_rfl : Tryd.prog.underlying 174 = some Tryd.t174.desc), fun _ => by kernel_rfl⟩
theorem pl175 : StructPl Tryd.prog 175 [(0, 1), (1, 1), (2, 1), (3, 1)] := ⟨_, (by kernel_rfl : Tryd.prog.underlying 175 = some Tryd.t174.desc), fun _ => by kernel_rfl⟩
theorem pl177 : StructPl Tryd.prog 177 [(0, 0)] := ⟨_, (by kernel_rfl : Tryd.prog.underlying 177 = some Tryd.t177.desc), fun _ => by kernel_rfl⟩
theorem pl178 : StructPl Tryd.prog 178 [(0, 0)] := ⟨_, (by kernel_rfl : Tryd.prog.underlying 178 = some Tryd.t177.desc), fun _ => by kernel_rfl⟩
theorem pl185 : StructPl Tryd.prog 185 [(0, 1), (1, 1), (2, 1), (3, 1), (4, 1), (5, 1), (6, 1), (7, 1), (8, 1), (9, 1), (10, 1)] := ⟨_, (by kernel_rfl : Tryd.prog.underlying 185 = some Tryd.t185.desc), fun _ => by kernel_rfl⟩
theorem pl186 : StructPl Tryd.prog 186 [(0, 1), (1, 1), (2, 1), (3, 1), (4, 1), (5, 1), (6, 1), (7, 1), (8, 1), (9, 1), (10, 1)] := ⟨_, (by kernel_rfl : Tryd.prog.underlying 186 = some Tryd.t185.desc), fun _ => by kernel_rfl⟩
end Go.Proofs.YtknbohnoiigioaaDoor

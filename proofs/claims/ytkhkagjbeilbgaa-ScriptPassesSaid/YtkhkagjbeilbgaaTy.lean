/-
  Own work, printed by program: facts on the rows of the program's table of types, each by the kernel.
-/
import Derived.Test.YtkhkagjbeilbgaaRows
import Derived.Test.YtkhkagjbeilbgaaSlBuild
set_option linter.all false
set_option linter.unusedSimpArgs false
set_option linter.unusedVariables false
namespace Go.Proofs.Ytkhkagjbeilbgaa
open Go Go.Sl
set_option maxRecDepth 100000
theorem ty0 : Ty Try.prog 0 Try.t0.desc 1 (Go.Value.tuple #[]) 0 := ⟨by kernel_rfl, Try.t0, by kernel_rfl, rfl, rfl, rfl⟩
theorem ty1 : Ty Try.prog 1 Try.t1.desc 1 Go.Value.nilFunc 8 := ⟨by kernel_rfl, Try.t1, by kernel_rfl, rfl, rfl, rfl⟩
theorem ty2 : Ty Try.prog 2 (Go.TypeDesc.int Go.IntKind.i64) 1 (Go.Value.int Go.IntKind.i64 0) 8 := ⟨by kernel_rfl, Try.t2, by kernel_rfl, rfl, rfl, rfl⟩
theorem ty3 : Ty Try.prog 3 (Go.TypeDesc.int Go.IntKind.i64) 1 (Go.Value.int Go.IntKind.i64 0) 8 := ⟨by kernel_rfl, Try.t3, by kernel_rfl, rfl, rfl, rfl⟩
theorem ty4 : Ty Try.prog 4 Go.TypeDesc.bool 1 (Go.Value.bool false) 1 := ⟨by kernel_rfl, Try.t4, by kernel_rfl, rfl, rfl, rfl⟩
theorem ty5 : Ty Try.prog 5 (Go.TypeDesc.int Go.IntKind.u8) 1 (Go.Value.int Go.IntKind.u8 0) 1 := ⟨by kernel_rfl, Try.t5, by kernel_rfl, rfl, rfl, rfl⟩
theorem ty6 : Ty Try.prog 6 (Go.TypeDesc.int Go.IntKind.u8) 1 (Go.Value.int Go.IntKind.u8 0) 1 := ⟨by kernel_rfl, Try.t6, by kernel_rfl, rfl, rfl, rfl⟩
theorem ty7 : Ty Try.prog 7 Try.t7.desc 4 (Go.Value.agg #[(Go.Value.int Go.IntKind.i64 0), (Go.Value.int Go.IntKind.i64 0), (Go.Value.bool false), (Go.Value.int Go.IntKind.u8 0)]) 24 := ⟨by kernel_rfl, Try.t7, by kernel_rfl, rfl, rfl, rfl⟩
theorem ty8 : Ty Try.prog 8 Try.t7.desc 4 (Go.Value.agg #[(Go.Value.int Go.IntKind.i64 0), (Go.Value.int Go.IntKind.i64 0), (Go.Value.bool false), (Go.Value.int Go.IntKind.u8 0)]) 24 := ⟨by kernel_rfl, Try.t8, by kernel_rfl, rfl, rfl, rfl⟩
theorem ty9 : Ty Try.prog 9 Go.TypeDesc.string 1 (Go.Value.string (ByteArray.mk #[])) 16 := ⟨by kernel_rfl, Try.t9, by kernel_rfl, rfl, rfl, rfl⟩
theorem ty10 : Ty Try.prog 10 Go.TypeDesc.string 1 (Go.Value.string (ByteArray.mk #[])) 16 := ⟨by kernel_rfl, Try.t10, by kernel_rfl, rfl, rfl, rfl⟩
theorem ty11 : Ty Try.prog 11 Go.TypeDesc.string 1 (Go.Value.string (ByteArray.mk #[])) 16 := ⟨by kernel_rfl, Try.t11, by kernel_rfl, rfl, rfl, rfl⟩
theorem ty12 : Ty Try.prog 12 (Go.TypeDesc.int Go.IntKind.u64) 1 (Go.Value.int Go.IntKind.u64 0) 8 := ⟨by kernel_rfl, Try.t12, by kernel_rfl, rfl, rfl, rfl⟩
theorem ty13 : Ty Try.prog 13 Try.t13.desc 2 (Go.Value.agg #[(Go.Value.string (ByteArray.mk #[])), (Go.Value.int Go.IntKind.u64 0)]) 24 := ⟨by kernel_rfl, Try.t13, by kernel_rfl, rfl, rfl, rfl⟩
theorem ty14 : Ty Try.prog 14 Try.t13.desc 2 (Go.Value.agg #[(Go.Value.string (ByteArray.mk #[])), (Go.Value.int Go.IntKind.u64 0)]) 24 := ⟨by kernel_rfl, Try.t14, by kernel_rfl, rfl, rfl, rfl⟩
theorem ty15 : Ty Try.prog 15 (Go.TypeDesc.pointer 88) 1 (Go.Value.pointer Option.none) 8 := ⟨by kernel_rfl, Try.t15, by kernel_rfl, rfl, rfl, rfl⟩
theorem ty16 : Ty Try.prog 16 (Go.TypeDesc.pointer 91) 1 (Go.Value.pointer Option.none) 8 := ⟨by kernel_rfl, Try.t16, by kernel_rfl, rfl, rfl, rfl⟩
theorem ty17 : Ty Try.prog 17 (Go.TypeDesc.pointer 100) 1 (Go.Value.pointer Option.none) 8 := ⟨by kernel_rfl, Try.t17, by kernel_rfl, rfl, rfl, rfl⟩
theorem ty18 : Ty Try.prog 18 Try.t18.desc 1 (Go.Value.agg #[(Go.Value.pointer Option.none)]) 8 := ⟨by kernel_rfl, Try.t18, by kernel_rfl, rfl, rfl, rfl⟩
theorem ty19 : Ty Try.prog 19 Try.t18.desc 1 (Go.Value.agg #[(Go.Value.pointer Option.none)]) 8 := ⟨by kernel_rfl, Try.t19, by kernel_rfl, rfl, rfl, rfl⟩
theorem ty20 : Ty Try.prog 20 Try.t20.desc 1 Go.Value.nilIface 16 := ⟨by kernel_rfl, Try.t20, by kernel_rfl, rfl, rfl, rfl⟩
theorem ty21 : Ty Try.prog 21 (Go.TypeDesc.int Go.IntKind.i32) 1 (Go.Value.int Go.IntKind.i32 0) 4 := ⟨by kernel_rfl, Try.t21, by kernel_rfl, rfl, rfl, rfl⟩
theorem ty22 : Ty Try.prog 22 (Go.TypeDesc.slice 5) 1 (Go.Value.slice Option.none 0 0) 24 := ⟨by kernel_rfl, Try.t22, by kernel_rfl, rfl, rfl, rfl⟩
theorem ty23 : Ty Try.prog 23 (Go.TypeDesc.slice 32) 1 (Go.Value.slice Option.none 0 0) 24 := ⟨by kernel_rfl, Try.t23, by kernel_rfl, rfl, rfl, rfl⟩
theorem ty24 : Ty Try.prog 24 Try.t24.desc 1 Go.Value.nilFunc 8 := ⟨by kernel_rfl, Try.t24, by kernel_rfl, rfl, rfl, rfl⟩
theorem ty25 : Ty Try.prog 25 (Go.TypeDesc.slice 35) 1 (Go.Value.slice Option.none 0 0) 24 := ⟨by kernel_rfl, Try.t25, by kernel_rfl, rfl, rfl, rfl⟩
theorem ty26 : Ty Try.prog 26 Try.t26.desc 1 Go.Value.nilFunc 8 := ⟨by kernel_rfl, Try.t26, by kernel_rfl, rfl, rfl, rfl⟩
theorem ty27 : Ty Try.prog 27 (Go.TypeDesc.int Go.IntKind.u64) 1 (Go.Value.int Go.IntKind.u64 0) 8 := ⟨by kernel_rfl, Try.t27, by kernel_rfl, rfl, rfl, rfl⟩
theorem ty28 : Ty Try.prog 28 Try.t28.desc 7 (Go.Value.agg #[(Go.Value.int Go.IntKind.i64 0), (Go.Value.int Go.IntKind.i64 0), (Go.Value.int Go.IntKind.i64 0), (Go.Value.int Go.IntKind.i64 0), (Go.Value.int Go.IntKind.u64 0), (Go.Value.int Go.IntKind.u64 0), (Go.Value.slice Option.none 0 0)]) 72 := ⟨by kernel_rfl, Try.t28, by kernel_rfl, rfl, rfl, rfl⟩
theorem ty29 : Ty Try.prog 29 Try.t28.desc 7 (Go.Value.agg #[(Go.Value.int Go.IntKind.i64 0), (Go.Value.int Go.IntKind.i64 0), (Go.Value.int Go.IntKind.i64 0), (Go.Value.int Go.IntKind.i64 0), (Go.Value.int Go.IntKind.u64 0), (Go.Value.int Go.IntKind.u64 0), (Go.Value.slice Option.none 0 0)]) 72 := ⟨by kernel_rfl, Try.t29, by kernel_rfl, rfl, rfl, rfl⟩
theorem ty30 : Ty Try.prog 30 (Go.TypeDesc.int Go.IntKind.i64) 1 (Go.Value.int Go.IntKind.i64 0) 8 := ⟨by kernel_rfl, Try.t30, by kernel_rfl, rfl, rfl, rfl⟩
theorem ty31 : Ty Try.prog 31 Try.t31.desc 9 (Go.Value.agg #[(Go.Value.int Go.IntKind.i64 0), (Go.Value.int Go.IntKind.i64 0), (Go.Value.int Go.IntKind.i64 0), (Go.Value.int Go.IntKind.i64 0), (Go.Value.int Go.IntKind.i64 0), (Go.Value.int Go.IntKind.u64 0), (Go.Value.int Go.IntKind.u64 0), (Go.Value.slice Option.none 0 0), (Go.Value.int Go.IntKind.i64 0)]) 88 := ⟨by kernel_rfl, Try.t31, by kernel_rfl, rfl, rfl, rfl⟩
theorem ty32 : Ty Try.prog 32 Try.t31.desc 9 (Go.Value.agg #[(Go.Value.int Go.IntKind.i64 0), (Go.Value.int Go.IntKind.i64 0), (Go.Value.int Go.IntKind.i64 0), (Go.Value.int Go.IntKind.i64 0), (Go.Value.int Go.IntKind.i64 0), (Go.Value.int Go.IntKind.u64 0), (Go.Value.int Go.IntKind.u64 0), (Go.Value.slice Option.none 0 0), (Go.Value.int Go.IntKind.i64 0)]) 88 := ⟨by kernel_rfl, Try.t32, by kernel_rfl, rfl, rfl, rfl⟩
theorem ty33 : Ty Try.prog 33 Try.t28.desc 7 (Go.Value.agg #[(Go.Value.int Go.IntKind.i64 0), (Go.Value.int Go.IntKind.i64 0), (Go.Value.int Go.IntKind.i64 0), (Go.Value.int Go.IntKind.i64 0), (Go.Value.int Go.IntKind.u64 0), (Go.Value.int Go.IntKind.u64 0), (Go.Value.slice Option.none 0 0)]) 72 := ⟨by kernel_rfl, Try.t33, by kernel_rfl, rfl, rfl, rfl⟩
theorem ty34 : Ty Try.prog 34 Try.t34.desc 9 (Go.Value.agg #[(Go.Value.int Go.IntKind.i64 0), (Go.Value.int Go.IntKind.i64 0), (Go.Value.int Go.IntKind.i64 0), (Go.Value.int Go.IntKind.i64 0), (Go.Value.int Go.IntKind.i64 0), (Go.Value.int Go.IntKind.u64 0), (Go.Value.int Go.IntKind.u64 0), (Go.Value.slice Option.none 0 0), (Go.Value.int Go.IntKind.i64 0)]) 88 := ⟨by kernel_rfl, Try.t34, by kernel_rfl, rfl, rfl, rfl⟩
theorem ty35 : Ty Try.prog 35 Try.t34.desc 9 (Go.Value.agg #[(Go.Value.int Go.IntKind.i64 0), (Go.Value.int Go.IntKind.i64 0), (Go.Value.int Go.IntKind.i64 0), (Go.Value.int Go.IntKind.i64 0), (Go.Value.int Go.IntKind.i64 0), (Go.Value.int Go.IntKind.u64 0), (Go.Value.int Go.IntKind.u64 0), (Go.Value.slice Option.none 0 0), (Go.Value.int Go.IntKind.i64 0)]) 88 := ⟨by kernel_rfl, Try.t35, by kernel_rfl, rfl, rfl, rfl⟩
theorem ty36 : Ty Try.prog 36 Try.t36.desc 1 Go.Value.nilFunc 8 := ⟨by kernel_rfl, Try.t36, by kernel_rfl, rfl, rfl, rfl⟩
theorem ty37 : Ty Try.prog 37 Try.t37.desc 1 Go.Value.nilFunc 8 := ⟨by kernel_rfl, Try.t37, by kernel_rfl, rfl, rfl, rfl⟩
theorem ty38 : Ty Try.prog 38 Try.t38.desc 1 Go.Value.nilFunc 8 := ⟨by kernel_rfl, Try.t38, by kernel_rfl, rfl, rfl, rfl⟩
theorem ty39 : Ty Try.prog 39 (Go.TypeDesc.slice 33) 1 (Go.Value.slice Option.none 0 0) 24 := ⟨by kernel_rfl, Try.t39, by kernel_rfl, rfl, rfl, rfl⟩
theorem ty40 : Ty Try.prog 40 (Go.TypeDesc.slice 29) 1 (Go.Value.slice Option.none 0 0) 24 := ⟨by kernel_rfl, Try.t40, by kernel_rfl, rfl, rfl, rfl⟩
theorem ty41 : Ty Try.prog 41 (Go.TypeDesc.slice 3) 1 (Go.Value.slice Option.none 0 0) 24 := ⟨by kernel_rfl, Try.t41, by kernel_rfl, rfl, rfl, rfl⟩
theorem ty42 : Ty Try.prog 42 Try.t42.desc 1 Go.Value.nilFunc 8 := ⟨by kernel_rfl, Try.t42, by kernel_rfl, rfl, rfl, rfl⟩
theorem ty43 : Ty Try.prog 43 Try.t43.desc 1 Go.Value.nilFunc 8 := ⟨by kernel_rfl, Try.t43, by kernel_rfl, rfl, rfl, rfl⟩
theorem ty44 : Ty Try.prog 44 Try.t44.desc 1 Go.Value.nilFunc 8 := ⟨by kernel_rfl, Try.t44, by kernel_rfl, rfl, rfl, rfl⟩
theorem ty45 : Ty Try.prog 45 Try.t45.desc 1 Go.Value.nilFunc 8 := ⟨by kernel_rfl, Try.t45, by kernel_rfl, rfl, rfl, rfl⟩
theorem ty46 : Ty Try.prog 46 Try.t46.desc 1 (Go.Value.tuple #[(Go.Value.slice Option.none 0 0), (Go.Value.int Go.IntKind.i64 0)]) 0 := ⟨by kernel_rfl, Try.t46, by kernel_rfl, rfl, rfl, rfl⟩
theorem ty47 : Ty Try.prog 47 Try.t47.desc 1 Go.Value.nilFunc 8 := ⟨by kernel_rfl, Try.t47, by kernel_rfl, rfl, rfl, rfl⟩
theorem ty48 : Ty Try.prog 48 Try.t48.desc 1 Go.Value.nilFunc 8 := ⟨by kernel_rfl, Try.t48, by kernel_rfl, rfl, rfl, rfl⟩
theorem ty49 : Ty Try.prog 49 Try.t49.desc 1 Go.Value.nilFunc 8 := ⟨by kernel_rfl, Try.t49, by kernel_rfl, rfl, rfl, rfl⟩
theorem ty50 : Ty Try.prog 50 Try.t50.desc 1 Go.Value.nilFunc 8 := ⟨by kernel_rfl, Try.t50, by kernel_rfl, rfl, rfl, rfl⟩
theorem ty51 : Ty Try.prog 51 Try.t51.desc 1 Go.Value.nilFunc 8 := ⟨by kernel_rfl, Try.t51, by kernel_rfl, rfl, rfl, rfl⟩
theorem ty52 : Ty Try.prog 52 Try.t52.desc 1 Go.Value.nilFunc 8 := ⟨by kernel_rfl, Try.t52, by kernel_rfl, rfl, rfl, rfl⟩
theorem ty53 : Ty Try.prog 53 Try.t53.desc 1 Go.Value.nilFunc 8 := ⟨by kernel_rfl, Try.t53, by kernel_rfl, rfl, rfl, rfl⟩
theorem ty54 : Ty Try.prog 54 Try.t54.desc 1 Go.Value.nilFunc 8 := ⟨by kernel_rfl, Try.t54, by kernel_rfl, rfl, rfl, rfl⟩
theorem ty55 : Ty Try.prog 55 Try.t55.desc 1 Go.Value.nilFunc 8 := ⟨by kernel_rfl, Try.t55, by kernel_rfl, rfl, rfl, rfl⟩
theorem ty56 : Ty Try.prog 56 Try.t55.desc 1 Go.Value.nilFunc 8 := ⟨by kernel_rfl, Try.t56, by kernel_rfl, rfl, rfl, rfl⟩
theorem ty57 : Ty Try.prog 57 Try.t57.desc 1 Go.Value.nilFunc 8 := ⟨by kernel_rfl, Try.t57, by kernel_rfl, rfl, rfl, rfl⟩
theorem ty58 : Ty Try.prog 58 Try.t58.desc 1 (Go.Value.tuple #[(Go.Value.agg #[(Go.Value.int Go.IntKind.i64 0), (Go.Value.int Go.IntKind.i64 0), (Go.Value.int Go.IntKind.i64 0), (Go.Value.int Go.IntKind.i64 0), (Go.Value.int Go.IntKind.u64 0), (Go.Value.int Go.IntKind.u64 0), (Go.Value.slice Option.none 0 0)]), (Go.Value.int Go.IntKind.i64 0)]) 0 := ⟨by kernel_rfl, Try.t58, by kernel_rfl, rfl, rfl, rfl⟩
theorem ty59 : Ty Try.prog 59 Try.t59.desc 1 Go.Value.nilFunc 8 := ⟨by kernel_rfl, Try.t59, by kernel_rfl, rfl, rfl, rfl⟩
theorem ty60 : Ty Try.prog 60 Try.t60.desc 1 Go.Value.nilFunc 8 := ⟨by kernel_rfl, Try.t60, by kernel_rfl, rfl, rfl, rfl⟩
theorem ty61 : Ty Try.prog 61 Try.t61.desc 1 Go.Value.nilFunc 8 := ⟨by kernel_rfl, Try.t61, by kernel_rfl, rfl, rfl, rfl⟩
theorem ty62 : Ty Try.prog 62 Try.t62.desc 1 Go.Value.nilFunc 8 := ⟨by kernel_rfl, Try.t62, by kernel_rfl, rfl, rfl, rfl⟩
theorem ty63 : Ty Try.prog 63 Try.t63.desc 1 Go.Value.nilFunc 8 := ⟨by kernel_rfl, Try.t63, by kernel_rfl, rfl, rfl, rfl⟩
theorem ty64 : Ty Try.prog 64 Try.t64.desc 1 Go.Value.nilFunc 8 := ⟨by kernel_rfl, Try.t64, by kernel_rfl, rfl, rfl, rfl⟩
theorem ty65 : Ty Try.prog 65 Try.t65.desc 1 Go.Value.nilFunc 8 := ⟨by kernel_rfl, Try.t65, by kernel_rfl, rfl, rfl, rfl⟩
theorem ty66 : Ty Try.prog 66 (Go.TypeDesc.array 5 3) 5 (Go.Value.agg #[(Go.Value.int Go.IntKind.i64 0), (Go.Value.int Go.IntKind.i64 0), (Go.Value.int Go.IntKind.i64 0), (Go.Value.int Go.IntKind.i64 0), (Go.Value.int Go.IntKind.i64 0)]) 40 := ⟨by kernel_rfl, Try.t66, by kernel_rfl, rfl, rfl, rfl⟩
theorem ty67 : Ty Try.prog 67 (Go.TypeDesc.array 5 3) 5 (Go.Value.agg #[(Go.Value.int Go.IntKind.i64 0), (Go.Value.int Go.IntKind.i64 0), (Go.Value.int Go.IntKind.i64 0), (Go.Value.int Go.IntKind.i64 0), (Go.Value.int Go.IntKind.i64 0)]) 40 := ⟨by kernel_rfl, Try.t67, by kernel_rfl, rfl, rfl, rfl⟩
theorem ty68 : Ty Try.prog 68 Try.t68.desc 2 (Go.Value.agg #[(Go.Value.int Go.IntKind.i64 0), (Go.Value.int Go.IntKind.i64 0)]) 16 := ⟨by kernel_rfl, Try.t68, by kernel_rfl, rfl, rfl, rfl⟩
theorem ty69 : Ty Try.prog 69 Try.t68.desc 2 (Go.Value.agg #[(Go.Value.int Go.IntKind.i64 0), (Go.Value.int Go.IntKind.i64 0)]) 16 := ⟨by kernel_rfl, Try.t69, by kernel_rfl, rfl, rfl, rfl⟩
theorem ty70 : Ty Try.prog 70 (Go.TypeDesc.array 3 69) 6 (Go.Value.agg #[(Go.Value.int Go.IntKind.i64 0), (Go.Value.int Go.IntKind.i64 0), (Go.Value.int Go.IntKind.i64 0), (Go.Value.int Go.IntKind.i64 0), (Go.Value.int Go.IntKind.i64 0), (Go.Value.int Go.IntKind.i64 0)]) 48 := ⟨by kernel_rfl, Try.t70, by kernel_rfl, rfl, rfl, rfl⟩
theorem ty71 : Ty Try.prog 71 Try.t71.desc 1 (Go.Value.tuple #[(Go.Value.agg #[(Go.Value.int Go.IntKind.i64 0), (Go.Value.int Go.IntKind.i64 0), (Go.Value.int Go.IntKind.i64 0), (Go.Value.int Go.IntKind.i64 0), (Go.Value.int Go.IntKind.i64 0)]), (Go.Value.agg #[(Go.Value.int Go.IntKind.i64 0), (Go.Value.int Go.IntKind.i64 0), (Go.Value.int Go.IntKind.i64 0), (Go.Value.int Go.IntKind.i64 0), (Go.Value.int Go.IntKind.i64 0), (Go.Value.int Go.IntKind.i64 0)])]) 0 := ⟨by kernel_rfl, Try.t71, by kernel_rfl, rfl, rfl, rfl⟩
theorem ty72 : Ty Try.prog 72 Try.t72.desc 1 Go.Value.nilFunc 8 := ⟨by kernel_rfl, Try.t72, by kernel_rfl, rfl, rfl, rfl⟩
theorem ty73 : Ty Try.prog 73 Try.t73.desc 1 Go.Value.nilFunc 8 := ⟨by kernel_rfl, Try.t73, by kernel_rfl, rfl, rfl, rfl⟩
theorem ty74 : Ty Try.prog 74 (Go.TypeDesc.array 5 27) 5 (Go.Value.agg #[(Go.Value.int Go.IntKind.u64 0), (Go.Value.int Go.IntKind.u64 0), (Go.Value.int Go.IntKind.u64 0), (Go.Value.int Go.IntKind.u64 0), (Go.Value.int Go.IntKind.u64 0)]) 40 := ⟨by kernel_rfl, Try.t74, by kernel_rfl, rfl, rfl, rfl⟩
theorem ty75 : Ty Try.prog 75 Try.t75.desc 1 Go.Value.nilFunc 8 := ⟨by kernel_rfl, Try.t75, by kernel_rfl, rfl, rfl, rfl⟩
theorem ty76 : Ty Try.prog 76 Try.t76.desc 1 Go.Value.nilFunc 8 := ⟨by kernel_rfl, Try.t76, by kernel_rfl, rfl, rfl, rfl⟩
theorem ty77 : Ty Try.prog 77 (Go.TypeDesc.array 3 3) 3 (Go.Value.agg #[(Go.Value.int Go.IntKind.i64 0), (Go.Value.int Go.IntKind.i64 0), (Go.Value.int Go.IntKind.i64 0)]) 24 := ⟨by kernel_rfl, Try.t77, by kernel_rfl, rfl, rfl, rfl⟩
theorem ty78 : Ty Try.prog 78 Try.t78.desc 1 Go.Value.nilFunc 8 := ⟨by kernel_rfl, Try.t78, by kernel_rfl, rfl, rfl, rfl⟩
theorem ty79 : Ty Try.prog 79 Try.t79.desc 1 Go.Value.nilFunc 8 := ⟨by kernel_rfl, Try.t79, by kernel_rfl, rfl, rfl, rfl⟩
theorem ty80 : Ty Try.prog 80 Try.t80.desc 1 (Go.Value.tuple #[(Go.Value.agg #[(Go.Value.int Go.IntKind.i64 0), (Go.Value.int Go.IntKind.i64 0), (Go.Value.int Go.IntKind.i64 0), (Go.Value.int Go.IntKind.i64 0), (Go.Value.int Go.IntKind.u64 0), (Go.Value.int Go.IntKind.u64 0), (Go.Value.slice Option.none 0 0)]), (Go.Value.int Go.IntKind.i64 0)]) 0 := ⟨by kernel_rfl, Try.t80, by kernel_rfl, rfl, rfl, rfl⟩
theorem ty81 : Ty Try.prog 81 Try.t81.desc 1 Go.Value.nilFunc 8 := ⟨by kernel_rfl, Try.t81, by kernel_rfl, rfl, rfl, rfl⟩
theorem ty82 : Ty Try.prog 82 Try.t82.desc 1 Go.Value.nilFunc 8 := ⟨by kernel_rfl, Try.t82, by kernel_rfl, rfl, rfl, rfl⟩
theorem ty83 : Ty Try.prog 83 (Go.TypeDesc.slice 9) 1 (Go.Value.slice Option.none 0 0) 24 := ⟨by kernel_rfl, Try.t83, by kernel_rfl, rfl, rfl, rfl⟩
theorem ty84 : Ty Try.prog 84 (Go.TypeDesc.int Go.IntKind.u64) 1 (Go.Value.int Go.IntKind.u64 0) 8 := ⟨by kernel_rfl, Try.t84, by kernel_rfl, rfl, rfl, rfl⟩
theorem ty85 : Ty Try.prog 85 Try.t85.desc 1 Go.Value.nilFunc 8 := ⟨by kernel_rfl, Try.t85, by kernel_rfl, rfl, rfl, rfl⟩
theorem ty86 : Ty Try.prog 86 Try.t86.desc 1 Go.Value.nilFunc 8 := ⟨by kernel_rfl, Try.t86, by kernel_rfl, rfl, rfl, rfl⟩
theorem ty87 : Ty Try.prog 87 Try.t87.desc 4 (Go.Value.agg #[(Go.Value.pointer Option.none), (Go.Value.pointer Option.none), (Go.Value.pointer Option.none), (Go.Value.string (ByteArray.mk #[]))]) 40 := ⟨by kernel_rfl, Try.t87, by kernel_rfl, rfl, rfl, rfl⟩
theorem ty88 : Ty Try.prog 88 Try.t87.desc 4 (Go.Value.agg #[(Go.Value.pointer Option.none), (Go.Value.pointer Option.none), (Go.Value.pointer Option.none), (Go.Value.string (ByteArray.mk #[]))]) 40 := ⟨by kernel_rfl, Try.t88, by kernel_rfl, rfl, rfl, rfl⟩
theorem ty89 : Ty Try.prog 89 (Go.TypeDesc.array 0 16) 0 (Go.Value.agg #[]) 0 := ⟨by kernel_rfl, Try.t89, by kernel_rfl, rfl, rfl, rfl⟩
theorem ty90 : Ty Try.prog 90 Try.t90.desc 0 (Go.Value.agg #[]) 0 := ⟨by kernel_rfl, Try.t90, by kernel_rfl, rfl, rfl, rfl⟩
theorem ty91 : Ty Try.prog 91 Try.t90.desc 0 (Go.Value.agg #[]) 0 := ⟨by kernel_rfl, Try.t91, by kernel_rfl, rfl, rfl, rfl⟩
theorem ty92 : Ty Try.prog 92 (Go.TypeDesc.int Go.IntKind.u32) 1 (Go.Value.int Go.IntKind.u32 0) 4 := ⟨by kernel_rfl, Try.t92, by kernel_rfl, rfl, rfl, rfl⟩
theorem ty93 : Ty Try.prog 93 (Go.TypeDesc.int Go.IntKind.u8) 1 (Go.Value.int Go.IntKind.u8 0) 1 := ⟨by kernel_rfl, Try.t93, by kernel_rfl, rfl, rfl, rfl⟩
theorem ty94 : Ty Try.prog 94 (Go.TypeDesc.int Go.IntKind.u8) 1 (Go.Value.int Go.IntKind.u8 0) 1 := ⟨by kernel_rfl, Try.t94, by kernel_rfl, rfl, rfl, rfl⟩
theorem ty95 : Ty Try.prog 95 Try.t95.desc 1 Go.Value.nilFunc 8 := ⟨by kernel_rfl, Try.t95, by kernel_rfl, rfl, rfl, rfl⟩
theorem ty96 : Ty Try.prog 96 (Go.TypeDesc.pointer 5) 1 (Go.Value.pointer Option.none) 8 := ⟨by kernel_rfl, Try.t96, by kernel_rfl, rfl, rfl, rfl⟩
theorem ty97 : Ty Try.prog 97 (Go.TypeDesc.int Go.IntKind.i32) 1 (Go.Value.int Go.IntKind.i32 0) 4 := ⟨by kernel_rfl, Try.t97, by kernel_rfl, rfl, rfl, rfl⟩
theorem ty98 : Ty Try.prog 98 (Go.TypeDesc.int Go.IntKind.i32) 1 (Go.Value.int Go.IntKind.i32 0) 4 := ⟨by kernel_rfl, Try.t98, by kernel_rfl, rfl, rfl, rfl⟩
theorem ty99 : Ty Try.prog 99 Try.t99.desc 11 (Go.Value.agg #[(Go.Value.int Go.IntKind.u64 0), (Go.Value.int Go.IntKind.u64 0), (Go.Value.int Go.IntKind.u32 0), (Go.Value.int Go.IntKind.u8 0), (Go.Value.int Go.IntKind.u8 0), (Go.Value.int Go.IntKind.u8 0), (Go.Value.int Go.IntKind.u8 0), Go.Value.nilFunc, (Go.Value.pointer Option.none), (Go.Value.int Go.IntKind.i32 0), (Go.Value.int Go.IntKind.i32 0)]) 48 := ⟨by kernel_rfl, Try.t99, by kernel_rfl, rfl, rfl, rfl⟩
theorem ty100 : Ty Try.prog 100 Try.t99.desc 11 (Go.Value.agg #[(Go.Value.int Go.IntKind.u64 0), (Go.Value.int Go.IntKind.u64 0), (Go.Value.int Go.IntKind.u32 0), (Go.Value.int Go.IntKind.u8 0), (Go.Value.int Go.IntKind.u8 0), (Go.Value.int Go.IntKind.u8 0), (Go.Value.int Go.IntKind.u8 0), Go.Value.nilFunc, (Go.Value.pointer Option.none), (Go.Value.int Go.IntKind.i32 0), (Go.Value.int Go.IntKind.i32 0)]) 48 := ⟨by kernel_rfl, Try.t100, by kernel_rfl, rfl, rfl, rfl⟩
theorem ty101 : Ty Try.prog 101 Go.TypeDesc.unsafePointer 1 (Go.Value.pointer Option.none) 8 := ⟨by kernel_rfl, Try.t101, by kernel_rfl, rfl, rfl, rfl⟩
theorem fld7_0 : Fld Try.prog 7 0 0 1 false := ⟨_, _, (by kernel_rfl : Try.prog.underlying 7 = some Try.t7.desc), rfl, rfl, _, _, _, ty2, rfl⟩
theorem fld7_1 : Fld Try.prog 7 1 1 1 false := ⟨_, _, (by kernel_rfl : Try.prog.underlying 7 = some Try.t7.desc), rfl, rfl, _, _, _, ty3, rfl⟩
theorem fld7_2 : Fld Try.prog 7 2 2 1 false := ⟨_, _, (by kernel_rfl : Try.prog.underlying 7 = some Try.t7.desc), rfl, rfl, _, _, _, ty4, rfl⟩
theorem fld7_3 : Fld Try.prog 7 3 3 1 false := ⟨_, _, (by kernel_rfl : Try.prog.underlying 7 = some Try.t7.desc), rfl, rfl, _, _, _, ty6, rfl⟩
theorem fld8_0 : Fld Try.prog 8 0 0 1 false := ⟨_, _, (by kernel_rfl : Try.prog.underlying 8 = some Try.t7.desc), rfl, rfl, _, _, _, ty2, rfl⟩
theorem fld8_1 : Fld Try.prog 8 1 1 1 false := ⟨_, _, (by kernel_rfl : Try.prog.underlying 8 = some Try.t7.desc), rfl, rfl, _, _, _, ty3, rfl⟩
theorem fld8_2 : Fld Try.prog 8 2 2 1 false := ⟨_, _, (by kernel_rfl : Try.prog.underlying 8 = some Try.t7.desc), rfl, rfl, _, _, _, ty4, rfl⟩
theorem fld8_3 : Fld Try.prog 8 3 3 1 false := ⟨_, _, (by kernel_rfl : Try.prog.underlying 8 = some Try.t7.desc), rfl, rfl, _, _, _, ty6, rfl⟩
theorem fld13_0 : Fld Try.prog 13 0 0 1 false := ⟨_, _, (by kernel_rfl : Try.prog.underlying 13 = some Try.t13.desc), rfl, rfl, _, _, _, ty9, rfl⟩
theorem fld13_1 : Fld Try.prog 13 1 1 1 false := ⟨_, _, (by kernel_rfl : Try.prog.underlying 13 = some Try.t13.desc), rfl, rfl, _, _, _, ty12, rfl⟩
theorem fld14_0 : Fld Try.prog 14 0 0 1 false := ⟨_, _, (by kernel_rfl : Try.prog.underlying 14 = some Try.t13.desc), rfl, rfl, _, _, _, ty9, rfl⟩
theorem fld14_1 : Fld Try.prog 14 1 1 1 false := ⟨_, _, (by kernel_rfl : Try.prog.underlying 14 = some Try.t13.desc), rfl, rfl, _, _, _, ty12, rfl⟩
theorem fld18_0 : Fld Try.prog 18 0 0 1 false := ⟨_, _, (by kernel_rfl : Try.prog.underlying 18 = some Try.t18.desc), rfl, rfl, _, _, _, ty17, rfl⟩
theorem fld19_0 : Fld Try.prog 19 0 0 1 false := ⟨_, _, (by kernel_rfl : Try.prog.underlying 19 = some Try.t18.desc), rfl, rfl, _, _, _, ty17, rfl⟩
theorem fld28_0 : Fld Try.prog 28 0 0 1 false := ⟨_, _, (by kernel_rfl : Try.prog.underlying 28 = some Try.t28.desc), rfl, rfl, _, _, _, ty3, rfl⟩
theorem fld28_1 : Fld Try.prog 28 1 1 1 false := ⟨_, _, (by kernel_rfl : Try.prog.underlying 28 = some Try.t28.desc), rfl, rfl, _, _, _, ty3, rfl⟩
theorem fld28_2 : Fld Try.prog 28 2 2 1 false := ⟨_, _, (by kernel_rfl : Try.prog.underlying 28 = some Try.t28.desc), rfl, rfl, _, _, _, ty3, rfl⟩
theorem fld28_3 : Fld Try.prog 28 3 3 1 false := ⟨_, _, (by kernel_rfl : Try.prog.underlying 28 = some Try.t28.desc), rfl, rfl, _, _, _, ty3, rfl⟩
theorem fld28_4 : Fld Try.prog 28 4 4 1 false := ⟨_, _, (by kernel_rfl : Try.prog.underlying 28 = some Try.t28.desc), rfl, rfl, _, _, _, ty27, rfl⟩
theorem fld28_5 : Fld Try.prog 28 5 5 1 false := ⟨_, _, (by kernel_rfl : Try.prog.underlying 28 = some Try.t28.desc), rfl, rfl, _, _, _, ty27, rfl⟩
theorem fld28_6 : Fld Try.prog 28 6 6 1 false := ⟨_, _, (by kernel_rfl : Try.prog.underlying 28 = some Try.t28.desc), rfl, rfl, _, _, _, ty22, rfl⟩
theorem fld29_0 : Fld Try.prog 29 0 0 1 false := ⟨_, _, (by kernel_rfl : Try.prog.underlying 29 = some Try.t28.desc), rfl, rfl, _, _, _, ty3, rfl⟩
theorem fld29_1 : Fld Try.prog 29 1 1 1 false := ⟨_, _, (by kernel_rfl : Try.prog.underlying 29 = some Try.t28.desc), rfl, rfl, _, _, _, ty3, rfl⟩
theorem fld29_2 : Fld Try.prog 29 2 2 1 false := ⟨_, _, (by kernel_rfl : Try.prog.underlying 29 = some Try.t28.desc), rfl, rfl, _, _, _, ty3, rfl⟩
theorem fld29_3 : Fld Try.prog 29 3 3 1 false := ⟨_, _, (by kernel_rfl : Try.prog.underlying 29 = some Try.t28.desc), rfl, rfl, _, _, _, ty3, rfl⟩
theorem fld29_4 : Fld Try.prog 29 4 4 1 false := ⟨_, _, (by kernel_rfl : Try.prog.underlying 29 = some Try.t28.desc), rfl, rfl, _, _, _, ty27, rfl⟩
theorem fld29_5 : Fld Try.prog 29 5 5 1 false := ⟨_, _, (by kernel_rfl : Try.prog.underlying 29 = some Try.t28.desc), rfl, rfl, _, _, _, ty27, rfl⟩
theorem fld29_6 : Fld Try.prog 29 6 6 1 false := ⟨_, _, (by kernel_rfl : Try.prog.underlying 29 = some Try.t28.desc), rfl, rfl, _, _, _, ty22, rfl⟩
theorem fld31_0 : Fld Try.prog 31 0 0 1 false := ⟨_, _, (by kernel_rfl : Try.prog.underlying 31 = some Try.t31.desc), rfl, rfl, _, _, _, ty3, rfl⟩
theorem fld31_1 : Fld Try.prog 31 1 1 7 true := ⟨_, _, (by kernel_rfl : Try.prog.underlying 31 = some Try.t31.desc), rfl, rfl, _, _, _, ty29, rfl⟩
theorem fld31_2 : Fld Try.prog 31 2 8 1 false := ⟨_, _, (by kernel_rfl : Try.prog.underlying 31 = some Try.t31.desc), rfl, rfl, _, _, _, ty30, rfl⟩
theorem fld32_0 : Fld Try.prog 32 0 0 1 false := ⟨_, _, (by kernel_rfl : Try.prog.underlying 32 = some Try.t31.desc), rfl, rfl, _, _, _, ty3, rfl⟩
theorem fld32_1 : Fld Try.prog 32 1 1 7 true := ⟨_, _, (by kernel_rfl : Try.prog.underlying 32 = some Try.t31.desc), rfl, rfl, _, _, _, ty29, rfl⟩
theorem fld32_2 : Fld Try.prog 32 2 8 1 false := ⟨_, _, (by kernel_rfl : Try.prog.underlying 32 = some Try.t31.desc), rfl, rfl, _, _, _, ty30, rfl⟩
theorem fld33_0 : Fld Try.prog 33 0 0 1 false := ⟨_, _, (by kernel_rfl : Try.prog.underlying 33 = some Try.t28.desc), rfl, rfl, _, _, _, ty3, rfl⟩
theorem fld33_1 : Fld Try.prog 33 1 1 1 false := ⟨_, _, (by kernel_rfl : Try.prog.underlying 33 = some Try.t28.desc), rfl, rfl, _, _, _, ty3, rfl⟩
theorem fld33_2 : Fld Try.prog 33 2 2 1 false := ⟨_, _, (by kernel_rfl : Try.prog.underlying 33 = some Try.t28.desc), rfl, rfl, _, _, _, ty3, rfl⟩
theorem fld33_3 : Fld Try.prog 33 3 3 1 false := ⟨_, _, (by kernel_rfl : Try.prog.underlying 33 = some Try.t28.desc), rfl, rfl, _, _, _, ty3, rfl⟩
theorem fld33_4 : Fld Try.prog 33 4 4 1 false := ⟨_, _, (by kernel_rfl : Try.prog.underlying 33 = some Try.t28.desc), rfl, rfl, _, _, _, ty27, rfl⟩
theorem fld33_5 : Fld Try.prog 33 5 5 1 false := ⟨_, _, (by kernel_rfl : Try.prog.underlying 33 = some Try.t28.desc), rfl, rfl, _, _, _, ty27, rfl⟩
theorem fld33_6 : Fld Try.prog 33 6 6 1 false := ⟨_, _, (by kernel_rfl : Try.prog.underlying 33 = some Try.t28.desc), rfl, rfl, _, _, _, ty22, rfl⟩
theorem fld34_0 : Fld Try.prog 34 0 0 1 false := ⟨_, _, (by kernel_rfl : Try.prog.underlying 34 = some Try.t34.desc), rfl, rfl, _, _, _, ty3, rfl⟩
theorem fld34_1 : Fld Try.prog 34 1 1 7 true := ⟨_, _, (by kernel_rfl : Try.prog.underlying 34 = some Try.t34.desc), rfl, rfl, _, _, _, ty33, rfl⟩
theorem fld34_2 : Fld Try.prog 34 2 8 1 false := ⟨_, _, (by kernel_rfl : Try.prog.underlying 34 = some Try.t34.desc), rfl, rfl, _, _, _, ty3, rfl⟩
theorem fld35_0 : Fld Try.prog 35 0 0 1 false := ⟨_, _, (by kernel_rfl : Try.prog.underlying 35 = some Try.t34.desc), rfl, rfl, _, _, _, ty3, rfl⟩
theorem fld35_1 : Fld Try.prog 35 1 1 7 true := ⟨_, _, (by kernel_rfl : Try.prog.underlying 35 = some Try.t34.desc), rfl, rfl, _, _, _, ty33, rfl⟩
theorem fld35_2 : Fld Try.prog 35 2 8 1 false := ⟨_, _, (by kernel_rfl : Try.prog.underlying 35 = some Try.t34.desc), rfl, rfl, _, _, _, ty3, rfl⟩
theorem fld68_0 : Fld Try.prog 68 0 0 1 false := ⟨_, _, (by kernel_rfl : Try.prog.underlying 68 = some Try.t68.desc), rfl, rfl, _, _, _, ty3, rfl⟩
theorem fld68_1 : Fld Try.prog 68 1 1 1 false := ⟨_, _, (by kernel_rfl : Try.prog.underlying 68 = some Try.t68.desc), rfl, rfl, _, _, _, ty3, rfl⟩
theorem fld69_0 : Fld Try.prog 69 0 0 1 false := ⟨_, _, (by kernel_rfl : Try.prog.underlying 69 = some Try.t68.desc), rfl, rfl, _, _, _, ty3, rfl⟩
theorem fld69_1 : Fld Try.prog 69 1 1 1 false := ⟨_, _, (by kernel_rfl : Try.prog.underlying 69 = some Try.t68.desc), rfl, rfl, _, _, _, ty3, rfl⟩
theorem fld87_0 : Fld Try.prog 87 0 0 1 false := ⟨_, _, (by kernel_rfl : Try.prog.underlying 87 = some Try.t87.desc), rfl, rfl, _, _, _, ty17, rfl⟩
theorem fld87_1 : Fld Try.prog 87 1 1 1 false := ⟨_, _, (by kernel_rfl : Try.prog.underlying 87 = some Try.t87.desc), rfl, rfl, _, _, _, ty17, rfl⟩
theorem fld87_2 : Fld Try.prog 87 2 2 1 false := ⟨_, _, (by kernel_rfl : Try.prog.underlying 87 = some Try.t87.desc), rfl, rfl, _, _, _, ty17, rfl⟩
theorem fld87_3 : Fld Try.prog 87 3 3 1 false := ⟨_, _, (by kernel_rfl : Try.prog.underlying 87 = some Try.t87.desc), rfl, rfl, _, _, _, ty9, rfl⟩
theorem fld88_0 : Fld Try.prog 88 0 0 1 false := ⟨_, _, (by kernel_rfl : Try.prog.underlying 88 = some Try.t87.desc), rfl, rfl, _, _, _, ty17, rfl⟩
theorem fld88_1 : Fld Try.prog 88 1 1 1 false := ⟨_, _, (by kernel_rfl : Try.prog.underlying 88 = some Try.t87.desc), rfl, rfl, _, _, _, ty17, rfl⟩
theorem fld88_2 : Fld Try.prog 88 2 2 1 false := ⟨_, _, (by kernel_rfl : Try.prog.underlying 88 = some Try.t87.desc), rfl, rfl, _, _, _, ty17, rfl⟩
theorem fld88_3 : Fld Try.prog 88 3 3 1 false := ⟨_, _, (by kernel_rfl : Try.prog.underlying 88 = some Try.t87.desc), rfl, rfl, _, _, _, ty9, rfl⟩
theorem fld90_0 : Fld Try.prog 90 0 0 0 true := ⟨_, _, (by kernel_rfl : Try.prog.underlying 90 = some Try.t90.desc), rfl, rfl, _, _, _, ty89, rfl⟩
theorem fld91_0 : Fld Try.prog 91 0 0 0 true := ⟨_, _, (by kernel_rfl : Try.prog.underlying 91 = some Try.t90.desc), rfl, rfl, _, _, _, ty89, rfl⟩
theorem fld99_0 : Fld Try.prog 99 0 0 1 false := ⟨_, _, (by kernel_rfl : Try.prog.underlying 99 = some Try.t99.desc), rfl, rfl, _, _, _, ty12, rfl⟩
theorem fld99_1 : Fld Try.prog 99 1 1 1 false := ⟨_, _, (by kernel_rfl : Try.prog.underlying 99 = some Try.t99.desc), rfl, rfl, _, _, _, ty12, rfl⟩
theorem fld99_2 : Fld Try.prog 99 2 2 1 false := ⟨_, _, (by kernel_rfl : Try.prog.underlying 99 = some Try.t99.desc), rfl, rfl, _, _, _, ty92, rfl⟩
theorem fld99_3 : Fld Try.prog 99 3 3 1 false := ⟨_, _, (by kernel_rfl : Try.prog.underlying 99 = some Try.t99.desc), rfl, rfl, _, _, _, ty93, rfl⟩
theorem fld99_4 : Fld Try.prog 99 4 4 1 false := ⟨_, _, (by kernel_rfl : Try.prog.underlying 99 = some Try.t99.desc), rfl, rfl, _, _, _, ty5, rfl⟩
theorem fld99_5 : Fld Try.prog 99 5 5 1 false := ⟨_, _, (by kernel_rfl : Try.prog.underlying 99 = some Try.t99.desc), rfl, rfl, _, _, _, ty5, rfl⟩
theorem fld99_6 : Fld Try.prog 99 6 6 1 false := ⟨_, _, (by kernel_rfl : Try.prog.underlying 99 = some Try.t99.desc), rfl, rfl, _, _, _, ty94, rfl⟩
theorem fld99_7 : Fld Try.prog 99 7 7 1 false := ⟨_, _, (by kernel_rfl : Try.prog.underlying 99 = some Try.t99.desc), rfl, rfl, _, _, _, ty95, rfl⟩
theorem fld99_8 : Fld Try.prog 99 8 8 1 false := ⟨_, _, (by kernel_rfl : Try.prog.underlying 99 = some Try.t99.desc), rfl, rfl, _, _, _, ty96, rfl⟩
theorem fld99_9 : Fld Try.prog 99 9 9 1 false := ⟨_, _, (by kernel_rfl : Try.prog.underlying 99 = some Try.t99.desc), rfl, rfl, _, _, _, ty97, rfl⟩
theorem fld99_10 : Fld Try.prog 99 10 10 1 false := ⟨_, _, (by kernel_rfl : Try.prog.underlying 99 = some Try.t99.desc), rfl, rfl, _, _, _, ty98, rfl⟩
theorem fld100_0 : Fld Try.prog 100 0 0 1 false := ⟨_, _, (by kernel_rfl : Try.prog.underlying 100 = some Try.t99.desc), rfl, rfl, _, _, _, ty12, rfl⟩
theorem fld100_1 : Fld Try.prog 100 1 1 1 false := ⟨_, _, (by kernel_rfl : Try.prog.underlying 100 = some Try.t99.desc), rfl, rfl, _, _, _, ty12, rfl⟩
theorem fld100_2 : Fld Try.prog 100 2 2 1 false := ⟨_, _, (by kernel_rfl : Try.prog.underlying 100 = some Try.t99.desc), rfl, rfl, _, _, _, ty92, rfl⟩
theorem fld100_3 : Fld Try.prog 100 3 3 1 false := ⟨_, _, (by kernel_rfl : Try.prog.underlying 100 = some Try.t99.desc), rfl, rfl, _, _, _, ty93, rfl⟩
theorem fld100_4 : Fld Try.prog 100 4 4 1 false := ⟨_, _, (by kernel_rfl : Try.prog.underlying 100 = some Try.t99.desc), rfl, rfl, _, _, _, ty5, rfl⟩
theorem fld100_5 : Fld Try.prog 100 5 5 1 false := ⟨_, _, (by kernel_rfl : Try.prog.underlying 100 = some Try.t99.desc), rfl, rfl, _, _, _, ty5, rfl⟩
theorem fld100_6 : Fld Try.prog 100 6 6 1 false := ⟨_, _, (by kernel_rfl : Try.prog.underlying 100 = some Try.t99.desc), rfl, rfl, _, _, _, ty94, rfl⟩
theorem fld100_7 : Fld Try.prog 100 7 7 1 false := ⟨_, _, (by kernel_rfl : Try.prog.underlying 100 = some Try.t99.desc), rfl, rfl, _, _, _, ty95, rfl⟩
theorem fld100_8 : Fld Try.prog 100 8 8 1 false := ⟨_, _, (by kernel_rfl : Try.prog.underlying 100 = some Try.t99.desc), rfl, rfl, _, _, _, ty96, rfl⟩
theorem fld100_9 : Fld Try.prog 100 9 9 1 false := ⟨_, _, (by kernel_rfl : Try.prog.underlying 100 = some Try.t99.desc), rfl, rfl, _, _, _, ty97, rfl⟩
theorem fld100_10 : Fld Try.prog 100 10 10 1 false := ⟨_, _, (by kernel_rfl : Try.prog.underlying 100 = some Try.t99.desc), rfl, rfl, _, _, _, ty98, rfl⟩
theorem pl7 : StructPl Try.prog 7 [(0, 1), (1, 1), (2, 1), (3, 1)] := ⟨_, (by kernel_rfl : Try.prog.underlying 7 = some Try.t7.desc), fun _ => by kernel_rfl⟩
theorem pl8 : StructPl Try.prog 8 [(0, 1), (1, 1), (2, 1), (3, 1)] := ⟨_, (by kernel_rfl : Try.prog.underlying 8 = some Try.t7.desc), fun _ => by kernel_rfl⟩
theorem pl13 : StructPl Try.prog 13 [(0, 1), (1, 1)] := ⟨_, (by kernel_rfl : Try.prog.underlying 13 = some Try.t13.desc), fun _ => by kernel_rfl⟩
theorem pl14 : StructPl Try.prog 14 [(0, 1), (1, 1)] := ⟨_, (by kernel_rfl : Try.prog.underlying 14 = some Try.t13.desc), fun _ => by kernel_rfl⟩
theorem pl18 : StructPl Try.prog 18 [(0, 1)] := ⟨_, (by kernel_rfl : Try.prog.underlying 18 = some Try.t18.desc), fun _ => by kernel_rfl⟩
theorem pl19 : StructPl Try.prog 19 [(0, 1)] := ⟨_, (by kernel_rfl : Try.prog.underlying 19 = some Try.t18.desc), fun _ => by kernel_rfl⟩
theorem pl28 : StructPl Try.prog 28 [(0, 1), (1, 1), (2, 1), (3, 1), (4, 1), (5, 1), (6, 1)] := ⟨_, (by kernel_rfl : Try.prog.underlying 28 = some Try.t28.desc), fun _ => by kernel_rfl⟩
theorem pl29 : StructPl Try.prog 29 [(0, 1), (1, 1), (2, 1), (3, 1), (4, 1), (5, 1), (6, 1)] := ⟨_, (by kernel_rfl : Try.prog.underlying 29 = some Try.t28.desc), fun _ => by kernel_rfl⟩
theorem pl31 : StructPl Try.prog 31 [(0, 1), (1, 7), (8, 1)] := ⟨_, (by kernel_rfl : Try.prog.underlying 31 = some Try.t31.desc), fun _ => by kernel_rfl⟩
theorem pl32 : StructPl Try.prog 32 [(0, 1), (1, 7), (8, 1)] := ⟨_, (by kernel_rfl : Try.prog.underlying 32 = some Try.t31.desc), fun _ => by kernel_rfl⟩
theorem pl33 : StructPl Try.prog 33 [(0, 1), (1, 1), (2, 1), (3, 1), (4, 1), (5, 1), (6, 1)] := ⟨_, (by kernel_rfl : Try.prog.underlying 33 = some Try.t28.desc), fun _ => by kernel_rfl⟩
theorem pl34 : StructPl Try.prog 34 [(0, 1), (1, 7), (8, 1)] := ⟨_, (by kernel_rfl : Try.prog.underlying 34 = some Try.t34.desc), fun _ => by kernel_rfl⟩
theorem pl35 : StructPl Try.prog 35 [(0, 1), (1, 7), (8, 1)] := ⟨_, (by kernel_rfl : Try.prog.underlying 35 = some Try.t34.desc), fun _ => by kernel_rfl⟩
theorem pl68 : StructPl Try.prog 68 [(0, 1), (1, 1)] := ⟨_, (by kernel_rfl : Try.prog.underlying 68 = some Try.t68.desc), fun _ => by kernel_rfl⟩
theorem pl69 : StructPl Try.prog 69 [(0, 1), (1, 1)] := ⟨_, (by kernel_rfl : Try.prog.underlying 69 = some Try.t68.desc), fun _ => by kernel_rfl⟩
theorem pl87 : StructPl Try.prog 87 [(0, 1), (1, 1), (2, 1), (3, 1)] := ⟨_, (by kernel_rfl : Try.prog.underlying 87 = some Try.t87.desc), fun _ => by kernel_rfl⟩
theorem pl88 : StructPl Try.prog 88 [(0, 1), (1, 1), (2, 1), (3, 1)] := ⟨_, (by kernel_rfl : Try.prog.underlying 88 = some Try.t87.desc), fun _ => by kernel_rfl⟩
theorem pl90 : StructPl Try.prog 90 [(0, 0)] := ⟨_, (by kernel_rfl : Try.prog.underlying 90 = some Try.t90.desc), fun _ => by kernel_rfl⟩
theorem pl91 : StructPl Try.prog 91 [(0, 0)] := ⟨_, (by kernel_rfl : Try.prog.underlying 91 = some Try.t90.desc), fun _ => by kernel_rfl⟩
theorem pl99 : StructPl Try.prog 99 [(0, 1), (1, 1), (2, 1), (3, 1), (4, 1), (5, 1), (6, 1), (7, 1), (8, 1), (9, 1), (10, 1)] := ⟨_, (by kernel_rfl : Try.prog.underlying 99 = some Try.t99.desc), fun _ => by kernel_rfl⟩
theorem pl100 : StructPl Try.prog 100 [(0, 1), (1, 1), (2, 1), (3, 1), (4, 1), (5, 1), (6, 1), (7, 1), (8, 1), (9, 1), (10, 1)] := ⟨_, (by kernel_rfl : Try.prog.underlying 100 = some Try.t99.desc), fun _ => by kernel_rfl⟩
end Go.Proofs.Ytkhkagjbeilbgaa

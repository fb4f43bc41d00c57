/-
  Own work, printed by program: facts on the rows of the program's table of types, each by the kernel.
-/
import Derived.Test.YtpfoecmianohjaaDoorRows
import Derived.Test.YtpfoecmianohjaaDoorSlBuild
set_option linter.all false
set_option linter.unusedSimpArgs false
set_option linter.unusedVariables false
namespace Go.Proofs.YtpfoecmianohjaaDoor
open Go Go.Sl
set_option maxRecDepth 100000
theorem ty0 : Ty Tryd.prog 0 Tryd.t0.desc 1 (Go.Value.tuple #[]) 0 := ⟨by kernel_rfl, Tryd.t0, by kernel_rfl, rfl, rfl, rfl⟩
theorem ty1 : Ty Tryd.prog 1 Tryd.t1.desc 1 Go.Value.nilFunc 8 := ⟨by kernel_rfl, Tryd.t1, by kernel_rfl, rfl, rfl, rfl⟩
theorem ty2 : Ty Tryd.prog 2 (Go.TypeDesc.int Go.IntKind.i64) 1 (Go.Value.int Go.IntKind.i64 0) 8 := ⟨by kernel_rfl, Tryd.t2, by kernel_rfl, rfl, rfl, rfl⟩
theorem ty3 : Ty Tryd.prog 3 (Go.TypeDesc.int Go.IntKind.i64) 1 (Go.Value.int Go.IntKind.i64 0) 8 := ⟨by kernel_rfl, Tryd.t3, by kernel_rfl, rfl, rfl, rfl⟩
theorem ty4 : Ty Tryd.prog 4 Go.TypeDesc.bool 1 (Go.Value.bool false) 1 := ⟨by kernel_rfl, Tryd.t4, by kernel_rfl, rfl, rfl, rfl⟩
theorem ty5 : Ty Tryd.prog 5 (Go.TypeDesc.int Go.IntKind.u8) 1 (Go.Value.int Go.IntKind.u8 0) 1 := ⟨by kernel_rfl, Tryd.t5, by kernel_rfl, rfl, rfl, rfl⟩
theorem ty6 : Ty Tryd.prog 6 (Go.TypeDesc.int Go.IntKind.u8) 1 (Go.Value.int Go.IntKind.u8 0) 1 := ⟨by kernel_rfl, Tryd.t6, by kernel_rfl, rfl, rfl, rfl⟩
theorem ty7 : Ty Tryd.prog 7 Tryd.t7.desc 4 (Go.Value.agg #[(Go.Value.int Go.IntKind.i64 0), (Go.Value.int Go.IntKind.i64 0), (Go.Value.bool false), (Go.Value.int Go.IntKind.u8 0)]) 24 := ⟨by kernel_rfl, Tryd.t7, by kernel_rfl, rfl, rfl, rfl⟩
theorem ty8 : Ty Tryd.prog 8 Tryd.t7.desc 4 (Go.Value.agg #[(Go.Value.int Go.IntKind.i64 0), (Go.Value.int Go.IntKind.i64 0), (Go.Value.bool false), (Go.Value.int Go.IntKind.u8 0)]) 24 := ⟨by kernel_rfl, Tryd.t8, by kernel_rfl, rfl, rfl, rfl⟩
theorem ty9 : Ty Tryd.prog 9 Go.TypeDesc.string 1 (Go.Value.string (ByteArray.mk #[])) 16 := ⟨by kernel_rfl, Tryd.t9, by kernel_rfl, rfl, rfl, rfl⟩
theorem ty10 : Ty Tryd.prog 10 Go.TypeDesc.string 1 (Go.Value.string (ByteArray.mk #[])) 16 := ⟨by kernel_rfl, Tryd.t10, by kernel_rfl, rfl, rfl, rfl⟩
theorem ty11 : Ty Tryd.prog 11 Go.TypeDesc.string 1 (Go.Value.string (ByteArray.mk #[])) 16 := ⟨by kernel_rfl, Tryd.t11, by kernel_rfl, rfl, rfl, rfl⟩
theorem ty12 : Ty Tryd.prog 12 (Go.TypeDesc.int Go.IntKind.u64) 1 (Go.Value.int Go.IntKind.u64 0) 8 := ⟨by kernel_rfl, Tryd.t12, by kernel_rfl, rfl, rfl, rfl⟩
theorem ty13 : Ty Tryd.prog 13 Tryd.t13.desc 2 (Go.Value.agg #[(Go.Value.string (ByteArray.mk #[])), (Go.Value.int Go.IntKind.u64 0)]) 24 := ⟨by kernel_rfl, Tryd.t13, by kernel_rfl, rfl, rfl, rfl⟩
theorem ty14 : Ty Tryd.prog 14 Tryd.t13.desc 2 (Go.Value.agg #[(Go.Value.string (ByteArray.mk #[])), (Go.Value.int Go.IntKind.u64 0)]) 24 := ⟨by kernel_rfl, Tryd.t14, by kernel_rfl, rfl, rfl, rfl⟩
theorem ty15 : Ty Tryd.prog 15 (Go.TypeDesc.pointer 127) 1 (Go.Value.pointer Option.none) 8 := ⟨by kernel_rfl, Tryd.t15, by kernel_rfl, rfl, rfl, rfl⟩
theorem ty16 : Ty Tryd.prog 16 (Go.TypeDesc.pointer 130) 1 (Go.Value.pointer Option.none) 8 := ⟨by kernel_rfl, Tryd.t16, by kernel_rfl, rfl, rfl, rfl⟩
theorem ty17 : Ty Tryd.prog 17 (Go.TypeDesc.pointer 138) 1 (Go.Value.pointer Option.none) 8 := ⟨by kernel_rfl, Tryd.t17, by kernel_rfl, rfl, rfl, rfl⟩
theorem ty18 : Ty Tryd.prog 18 Tryd.t18.desc 1 (Go.Value.agg #[(Go.Value.pointer Option.none)]) 8 := ⟨by kernel_rfl, Tryd.t18, by kernel_rfl, rfl, rfl, rfl⟩
theorem ty19 : Ty Tryd.prog 19 Tryd.t18.desc 1 (Go.Value.agg #[(Go.Value.pointer Option.none)]) 8 := ⟨by kernel_rfl, Tryd.t19, by kernel_rfl, rfl, rfl, rfl⟩
theorem ty20 : Ty Tryd.prog 20 Tryd.t20.desc 1 Go.Value.nilIface 16 := ⟨by kernel_rfl, Tryd.t20, by kernel_rfl, rfl, rfl, rfl⟩
theorem ty21 : Ty Tryd.prog 21 (Go.TypeDesc.int Go.IntKind.i32) 1 (Go.Value.int Go.IntKind.i32 0) 4 := ⟨by kernel_rfl, Tryd.t21, by kernel_rfl, rfl, rfl, rfl⟩
theorem ty22 : Ty Tryd.prog 22 (Go.TypeDesc.int Go.IntKind.u64) 1 (Go.Value.int Go.IntKind.u64 0) 8 := ⟨by kernel_rfl, Tryd.t22, by kernel_rfl, rfl, rfl, rfl⟩
theorem ty23 : Ty Tryd.prog 23 (Go.TypeDesc.int Go.IntKind.i64) 1 (Go.Value.int Go.IntKind.i64 0) 8 := ⟨by kernel_rfl, Tryd.t23, by kernel_rfl, rfl, rfl, rfl⟩
theorem ty24 : Ty Tryd.prog 24 Tryd.t24.desc 1 (Go.Value.tuple #[(Go.Value.int Go.IntKind.u64 0), (Go.Value.int Go.IntKind.i64 0)]) 0 := ⟨by kernel_rfl, Tryd.t24, by kernel_rfl, rfl, rfl, rfl⟩
theorem ty25 : Ty Tryd.prog 25 Tryd.t25.desc 1 Go.Value.nilFunc 8 := ⟨by kernel_rfl, Tryd.t25, by kernel_rfl, rfl, rfl, rfl⟩
theorem ty26 : Ty Tryd.prog 26 Tryd.t26.desc 1 (Go.Value.tuple #[(Go.Value.int Go.IntKind.u64 0), (Go.Value.int Go.IntKind.i64 0)]) 0 := ⟨by kernel_rfl, Tryd.t26, by kernel_rfl, rfl, rfl, rfl⟩
theorem ty27 : Ty Tryd.prog 27 Tryd.t27.desc 1 Go.Value.nilFunc 8 := ⟨by kernel_rfl, Tryd.t27, by kernel_rfl, rfl, rfl, rfl⟩
theorem ty28 : Ty Tryd.prog 28 Tryd.t28.desc 1 Go.Value.nilFunc 8 := ⟨by kernel_rfl, Tryd.t28, by kernel_rfl, rfl, rfl, rfl⟩
theorem ty29 : Ty Tryd.prog 29 Tryd.t29.desc 1 Go.Value.nilFunc 8 := ⟨by kernel_rfl, Tryd.t29, by kernel_rfl, rfl, rfl, rfl⟩
theorem ty30 : Ty Tryd.prog 30 Tryd.t30.desc 1 (Go.Value.tuple #[(Go.Value.bool false), (Go.Value.int Go.IntKind.i64 0)]) 0 := ⟨by kernel_rfl, Tryd.t30, by kernel_rfl, rfl, rfl, rfl⟩
theorem ty31 : Ty Tryd.prog 31 Tryd.t31.desc 1 Go.Value.nilFunc 8 := ⟨by kernel_rfl, Tryd.t31, by kernel_rfl, rfl, rfl, rfl⟩
theorem ty32 : Ty Tryd.prog 32 Tryd.t32.desc 1 (Go.Value.tuple #[(Go.Value.bool false), (Go.Value.int Go.IntKind.i64 0)]) 0 := ⟨by kernel_rfl, Tryd.t32, by kernel_rfl, rfl, rfl, rfl⟩
theorem ty33 : Ty Tryd.prog 33 Tryd.t33.desc 1 Go.Value.nilFunc 8 := ⟨by kernel_rfl, Tryd.t33, by kernel_rfl, rfl, rfl, rfl⟩
theorem ty34 : Ty Tryd.prog 34 Tryd.t34.desc 1 Go.Value.nilFunc 8 := ⟨by kernel_rfl, Tryd.t34, by kernel_rfl, rfl, rfl, rfl⟩
theorem ty35 : Ty Tryd.prog 35 Tryd.t35.desc 1 Go.Value.nilFunc 8 := ⟨by kernel_rfl, Tryd.t35, by kernel_rfl, rfl, rfl, rfl⟩
theorem ty36 : Ty Tryd.prog 36 Tryd.t36.desc 1 Go.Value.nilFunc 8 := ⟨by kernel_rfl, Tryd.t36, by kernel_rfl, rfl, rfl, rfl⟩
theorem ty37 : Ty Tryd.prog 37 (Go.TypeDesc.slice 22) 1 (Go.Value.slice Option.none 0 0) 24 := ⟨by kernel_rfl, Tryd.t37, by kernel_rfl, rfl, rfl, rfl⟩
theorem ty38 : Ty Tryd.prog 38 Tryd.t38.desc 1 Go.Value.nilFunc 8 := ⟨by kernel_rfl, Tryd.t38, by kernel_rfl, rfl, rfl, rfl⟩
theorem ty39 : Ty Tryd.prog 39 Tryd.t39.desc 1 Go.Value.nilFunc 8 := ⟨by kernel_rfl, Tryd.t39, by kernel_rfl, rfl, rfl, rfl⟩
theorem ty40 : Ty Tryd.prog 40 Tryd.t40.desc 1 (Go.Value.tuple #[(Go.Value.string (ByteArray.mk #[])), (Go.Value.int Go.IntKind.i64 0), (Go.Value.bool false)]) 0 := ⟨by kernel_rfl, Tryd.t40, by kernel_rfl, rfl, rfl, rfl⟩
theorem ty41 : Ty Tryd.prog 41 Tryd.t41.desc 1 Go.Value.nilFunc 8 := ⟨by kernel_rfl, Tryd.t41, by kernel_rfl, rfl, rfl, rfl⟩
theorem ty42 : Ty Tryd.prog 42 Tryd.t42.desc 1 Go.Value.nilFunc 8 := ⟨by kernel_rfl, Tryd.t42, by kernel_rfl, rfl, rfl, rfl⟩
theorem ty43 : Ty Tryd.prog 43 (Go.TypeDesc.slice 59) 1 (Go.Value.slice Option.none 0 0) 24 := ⟨by kernel_rfl, Tryd.t43, by kernel_rfl, rfl, rfl, rfl⟩
theorem ty44 : Ty Tryd.prog 44 Tryd.t44.desc 1 (Go.Value.tuple #[(Go.Value.int Go.IntKind.i64 0), (Go.Value.int Go.IntKind.i64 0)]) 0 := ⟨by kernel_rfl, Tryd.t44, by kernel_rfl, rfl, rfl, rfl⟩
theorem ty45 : Ty Tryd.prog 45 Tryd.t45.desc 1 Go.Value.nilFunc 8 := ⟨by kernel_rfl, Tryd.t45, by kernel_rfl, rfl, rfl, rfl⟩
theorem ty46 : Ty Tryd.prog 46 Tryd.t46.desc 1 (Go.Value.tuple #[(Go.Value.int Go.IntKind.i64 0), (Go.Value.int Go.IntKind.i64 0)]) 0 := ⟨by kernel_rfl, Tryd.t46, by kernel_rfl, rfl, rfl, rfl⟩
theorem ty47 : Ty Tryd.prog 47 Tryd.t47.desc 1 Go.Value.nilFunc 8 := ⟨by kernel_rfl, Tryd.t47, by kernel_rfl, rfl, rfl, rfl⟩
theorem ty48 : Ty Tryd.prog 48 (Go.TypeDesc.slice 67) 1 (Go.Value.slice Option.none 0 0) 24 := ⟨by kernel_rfl, Tryd.t48, by kernel_rfl, rfl, rfl, rfl⟩
theorem ty49 : Ty Tryd.prog 49 Tryd.t49.desc 1 Go.Value.nilFunc 8 := ⟨by kernel_rfl, Tryd.t49, by kernel_rfl, rfl, rfl, rfl⟩
theorem ty50 : Ty Tryd.prog 50 Tryd.t50.desc 2 (Go.Value.agg #[(Go.Value.slice Option.none 0 0), (Go.Value.bool false)]) 32 := ⟨by kernel_rfl, Tryd.t50, by kernel_rfl, rfl, rfl, rfl⟩
theorem ty51 : Ty Tryd.prog 51 Tryd.t50.desc 2 (Go.Value.agg #[(Go.Value.slice Option.none 0 0), (Go.Value.bool false)]) 32 := ⟨by kernel_rfl, Tryd.t51, by kernel_rfl, rfl, rfl, rfl⟩
theorem ty52 : Ty Tryd.prog 52 Tryd.t52.desc 1 Go.Value.nilFunc 8 := ⟨by kernel_rfl, Tryd.t52, by kernel_rfl, rfl, rfl, rfl⟩
theorem ty53 : Ty Tryd.prog 53 Tryd.t53.desc 1 Go.Value.nilFunc 8 := ⟨by kernel_rfl, Tryd.t53, by kernel_rfl, rfl, rfl, rfl⟩
theorem ty54 : Ty Tryd.prog 54 (Go.TypeDesc.slice 3) 1 (Go.Value.slice Option.none 0 0) 24 := ⟨by kernel_rfl, Tryd.t54, by kernel_rfl, rfl, rfl, rfl⟩
theorem ty55 : Ty Tryd.prog 55 Tryd.t55.desc 1 Go.Value.nilFunc 8 := ⟨by kernel_rfl, Tryd.t55, by kernel_rfl, rfl, rfl, rfl⟩
theorem ty56 : Ty Tryd.prog 56 Tryd.t56.desc 1 Go.Value.nilFunc 8 := ⟨by kernel_rfl, Tryd.t56, by kernel_rfl, rfl, rfl, rfl⟩
theorem ty57 : Ty Tryd.prog 57 (Go.TypeDesc.slice 4) 1 (Go.Value.slice Option.none 0 0) 24 := ⟨by kernel_rfl, Tryd.t57, by kernel_rfl, rfl, rfl, rfl⟩
theorem ty58 : Ty Tryd.prog 58 Tryd.t58.desc 5 (Go.Value.agg #[(Go.Value.int Go.IntKind.i64 0), (Go.Value.int Go.IntKind.i64 0), (Go.Value.int Go.IntKind.i64 0), (Go.Value.int Go.IntKind.i64 0), (Go.Value.int Go.IntKind.i64 0)]) 40 := ⟨by kernel_rfl, Tryd.t58, by kernel_rfl, rfl, rfl, rfl⟩
theorem ty59 : Ty Tryd.prog 59 Tryd.t58.desc 5 (Go.Value.agg #[(Go.Value.int Go.IntKind.i64 0), (Go.Value.int Go.IntKind.i64 0), (Go.Value.int Go.IntKind.i64 0), (Go.Value.int Go.IntKind.i64 0), (Go.Value.int Go.IntKind.i64 0)]) 40 := ⟨by kernel_rfl, Tryd.t59, by kernel_rfl, rfl, rfl, rfl⟩
theorem ty60 : Ty Tryd.prog 60 (Go.TypeDesc.int Go.IntKind.u64) 1 (Go.Value.int Go.IntKind.u64 0) 8 := ⟨by kernel_rfl, Tryd.t60, by kernel_rfl, rfl, rfl, rfl⟩
theorem ty61 : Ty Tryd.prog 61 Tryd.t61.desc 1 Go.Value.nilFunc 8 := ⟨by kernel_rfl, Tryd.t61, by kernel_rfl, rfl, rfl, rfl⟩
theorem ty62 : Ty Tryd.prog 62 Tryd.t62.desc 1 Go.Value.nilFunc 8 := ⟨by kernel_rfl, Tryd.t62, by kernel_rfl, rfl, rfl, rfl⟩
theorem ty63 : Ty Tryd.prog 63 Tryd.t63.desc 1 Go.Value.nilFunc 8 := ⟨by kernel_rfl, Tryd.t63, by kernel_rfl, rfl, rfl, rfl⟩
theorem ty64 : Ty Tryd.prog 64 Tryd.t64.desc 1 Go.Value.nilFunc 8 := ⟨by kernel_rfl, Tryd.t64, by kernel_rfl, rfl, rfl, rfl⟩
theorem ty65 : Ty Tryd.prog 65 Tryd.t65.desc 1 Go.Value.nilFunc 8 := ⟨by kernel_rfl, Tryd.t65, by kernel_rfl, rfl, rfl, rfl⟩
theorem ty66 : Ty Tryd.prog 66 Tryd.t66.desc 1 Go.Value.nilFunc 8 := ⟨by kernel_rfl, Tryd.t66, by kernel_rfl, rfl, rfl, rfl⟩
theorem ty67 : Ty Tryd.prog 67 Tryd.t58.desc 5 (Go.Value.agg #[(Go.Value.int Go.IntKind.i64 0), (Go.Value.int Go.IntKind.i64 0), (Go.Value.int Go.IntKind.i64 0), (Go.Value.int Go.IntKind.i64 0), (Go.Value.int Go.IntKind.i64 0)]) 40 := ⟨by kernel_rfl, Tryd.t67, by kernel_rfl, rfl, rfl, rfl⟩
theorem ty68 : Ty Tryd.prog 68 Tryd.t68.desc 1 Go.Value.nilFunc 8 := ⟨by kernel_rfl, Tryd.t68, by kernel_rfl, rfl, rfl, rfl⟩
theorem ty69 : Ty Tryd.prog 69 Tryd.t69.desc 1 Go.Value.nilFunc 8 := ⟨by kernel_rfl, Tryd.t69, by kernel_rfl, rfl, rfl, rfl⟩
theorem ty70 : Ty Tryd.prog 70 (Go.TypeDesc.int Go.IntKind.u64) 1 (Go.Value.int Go.IntKind.u64 0) 8 := ⟨by kernel_rfl, Tryd.t70, by kernel_rfl, rfl, rfl, rfl⟩
theorem ty71 : Ty Tryd.prog 71 Tryd.t71.desc 1 Go.Value.nilFunc 8 := ⟨by kernel_rfl, Tryd.t71, by kernel_rfl, rfl, rfl, rfl⟩
theorem ty72 : Ty Tryd.prog 72 Tryd.t72.desc 1 Go.Value.nilFunc 8 := ⟨by kernel_rfl, Tryd.t72, by kernel_rfl, rfl, rfl, rfl⟩
theorem ty73 : Ty Tryd.prog 73 Tryd.t73.desc 1 (Go.Value.tuple #[(Go.Value.string (ByteArray.mk #[])), (Go.Value.string (ByteArray.mk #[])), (Go.Value.int Go.IntKind.i64 0)]) 0 := ⟨by kernel_rfl, Tryd.t73, by kernel_rfl, rfl, rfl, rfl⟩
theorem ty74 : Ty Tryd.prog 74 Tryd.t74.desc 1 Go.Value.nilFunc 8 := ⟨by kernel_rfl, Tryd.t74, by kernel_rfl, rfl, rfl, rfl⟩
theorem ty75 : Ty Tryd.prog 75 Tryd.t75.desc 1 Go.Value.nilFunc 8 := ⟨by kernel_rfl, Tryd.t75, by kernel_rfl, rfl, rfl, rfl⟩
theorem ty76 : Ty Tryd.prog 76 Tryd.t76.desc 1 Go.Value.nilFunc 8 := ⟨by kernel_rfl, Tryd.t76, by kernel_rfl, rfl, rfl, rfl⟩
theorem ty77 : Ty Tryd.prog 77 (Go.TypeDesc.slice 9) 1 (Go.Value.slice Option.none 0 0) 24 := ⟨by kernel_rfl, Tryd.t77, by kernel_rfl, rfl, rfl, rfl⟩
theorem ty78 : Ty Tryd.prog 78 Tryd.t78.desc 1 Go.Value.nilFunc 8 := ⟨by kernel_rfl, Tryd.t78, by kernel_rfl, rfl, rfl, rfl⟩
theorem ty79 : Ty Tryd.prog 79 Tryd.t79.desc 1 Go.Value.nilFunc 8 := ⟨by kernel_rfl, Tryd.t79, by kernel_rfl, rfl, rfl, rfl⟩
theorem ty80 : Ty Tryd.prog 80 Tryd.t80.desc 1 Go.Value.nilFunc 8 := ⟨by kernel_rfl, Tryd.t80, by kernel_rfl, rfl, rfl, rfl⟩
theorem ty81 : Ty Tryd.prog 81 Tryd.t81.desc 1 Go.Value.nilFunc 8 := ⟨by kernel_rfl, Tryd.t81, by kernel_rfl, rfl, rfl, rfl⟩
theorem ty82 : Ty Tryd.prog 82 Tryd.t82.desc 1 Go.Value.nilFunc 8 := ⟨by kernel_rfl, Tryd.t82, by kernel_rfl, rfl, rfl, rfl⟩
theorem ty83 : Ty Tryd.prog 83 Tryd.t83.desc 1 Go.Value.nilFunc 8 := ⟨by kernel_rfl, Tryd.t83, by kernel_rfl, rfl, rfl, rfl⟩
theorem ty84 : Ty Tryd.prog 84 (Go.TypeDesc.slice 82) 1 (Go.Value.slice Option.none 0 0) 24 := ⟨by kernel_rfl, Tryd.t84, by kernel_rfl, rfl, rfl, rfl⟩
theorem ty85 : Ty Tryd.prog 85 Tryd.t85.desc 1 Go.Value.nilFunc 8 := ⟨by kernel_rfl, Tryd.t85, by kernel_rfl, rfl, rfl, rfl⟩
theorem ty86 : Ty Tryd.prog 86 Tryd.t86.desc 1 Go.Value.nilFunc 8 := ⟨by kernel_rfl, Tryd.t86, by kernel_rfl, rfl, rfl, rfl⟩
theorem ty87 : Ty Tryd.prog 87 Tryd.t86.desc 1 Go.Value.nilFunc 8 := ⟨by kernel_rfl, Tryd.t87, by kernel_rfl, rfl, rfl, rfl⟩
theorem ty88 : Ty Tryd.prog 88 Tryd.t88.desc 1 Go.Value.nilFunc 8 := ⟨by kernel_rfl, Tryd.t88, by kernel_rfl, rfl, rfl, rfl⟩
theorem ty89 : Ty Tryd.prog 89 Tryd.t89.desc 1 Go.Value.nilFunc 8 := ⟨by kernel_rfl, Tryd.t89, by kernel_rfl, rfl, rfl, rfl⟩
theorem ty90 : Ty Tryd.prog 90 Tryd.t90.desc 1 Go.Value.nilFunc 8 := ⟨by kernel_rfl, Tryd.t90, by kernel_rfl, rfl, rfl, rfl⟩
theorem ty91 : Ty Tryd.prog 91 Tryd.t91.desc 1 Go.Value.nilFunc 8 := ⟨by kernel_rfl, Tryd.t91, by kernel_rfl, rfl, rfl, rfl⟩
theorem ty92 : Ty Tryd.prog 92 Tryd.t92.desc 1 Go.Value.nilFunc 8 := ⟨by kernel_rfl, Tryd.t92, by kernel_rfl, rfl, rfl, rfl⟩
theorem ty93 : Ty Tryd.prog 93 Tryd.t93.desc 1 Go.Value.nilFunc 8 := ⟨by kernel_rfl, Tryd.t93, by kernel_rfl, rfl, rfl, rfl⟩
theorem ty94 : Ty Tryd.prog 94 (Go.TypeDesc.array 256 5) 256 ((Tryd.t94.zero).getD undef) 256 := ⟨by kernel_rfl, Tryd.t94, by kernel_rfl, rfl, rfl, rfl⟩
theorem ty95 : Ty Tryd.prog 95 Tryd.t95.desc 1 Go.Value.nilFunc 8 := ⟨by kernel_rfl, Tryd.t95, by kernel_rfl, rfl, rfl, rfl⟩
theorem ty96 : Ty Tryd.prog 96 Tryd.t96.desc 1 Go.Value.nilFunc 8 := ⟨by kernel_rfl, Tryd.t96, by kernel_rfl, rfl, rfl, rfl⟩
theorem ty97 : Ty Tryd.prog 97 Tryd.t97.desc 1 Go.Value.nilFunc 8 := ⟨by kernel_rfl, Tryd.t97, by kernel_rfl, rfl, rfl, rfl⟩
theorem ty98 : Ty Tryd.prog 98 Tryd.t98.desc 1 Go.Value.nilFunc 8 := ⟨by kernel_rfl, Tryd.t98, by kernel_rfl, rfl, rfl, rfl⟩
theorem ty99 : Ty Tryd.prog 99 Tryd.t99.desc 4 (Go.Value.agg #[(Go.Value.bool false), (Go.Value.bool false), (Go.Value.bool false), (Go.Value.bool false)]) 4 := ⟨by kernel_rfl, Tryd.t99, by kernel_rfl, rfl, rfl, rfl⟩
theorem ty100 : Ty Tryd.prog 100 Tryd.t99.desc 4 (Go.Value.agg #[(Go.Value.bool false), (Go.Value.bool false), (Go.Value.bool false), (Go.Value.bool false)]) 4 := ⟨by kernel_rfl, Tryd.t100, by kernel_rfl, rfl, rfl, rfl⟩
theorem ty101 : Ty Tryd.prog 101 Tryd.t101.desc 1 Go.Value.nilFunc 8 := ⟨by kernel_rfl, Tryd.t101, by kernel_rfl, rfl, rfl, rfl⟩
theorem ty102 : Ty Tryd.prog 102 Tryd.t102.desc 1 Go.Value.nilFunc 8 := ⟨by kernel_rfl, Tryd.t102, by kernel_rfl, rfl, rfl, rfl⟩
theorem ty103 : Ty Tryd.prog 103 Tryd.t103.desc 1 Go.Value.nilFunc 8 := ⟨by kernel_rfl, Tryd.t103, by kernel_rfl, rfl, rfl, rfl⟩
theorem ty104 : Ty Tryd.prog 104 Tryd.t104.desc 1 Go.Value.nilFunc 8 := ⟨by kernel_rfl, Tryd.t104, by kernel_rfl, rfl, rfl, rfl⟩
theorem ty105 : Ty Tryd.prog 105 Tryd.t105.desc 1 Go.Value.nilFunc 8 := ⟨by kernel_rfl, Tryd.t105, by kernel_rfl, rfl, rfl, rfl⟩
theorem ty106 : Ty Tryd.prog 106 (Go.TypeDesc.slice 108) 1 (Go.Value.slice Option.none 0 0) 24 := ⟨by kernel_rfl, Tryd.t106, by kernel_rfl, rfl, rfl, rfl⟩
theorem ty107 : Ty Tryd.prog 107 Tryd.t107.desc 2 (Go.Value.agg #[(Go.Value.int Go.IntKind.i64 0), (Go.Value.int Go.IntKind.i64 0)]) 16 := ⟨by kernel_rfl, Tryd.t107, by kernel_rfl, rfl, rfl, rfl⟩
theorem ty108 : Ty Tryd.prog 108 Tryd.t107.desc 2 (Go.Value.agg #[(Go.Value.int Go.IntKind.i64 0), (Go.Value.int Go.IntKind.i64 0)]) 16 := ⟨by kernel_rfl, Tryd.t108, by kernel_rfl, rfl, rfl, rfl⟩
theorem ty109 : Ty Tryd.prog 109 (Go.TypeDesc.int Go.IntKind.u32) 1 (Go.Value.int Go.IntKind.u32 0) 4 := ⟨by kernel_rfl, Tryd.t109, by kernel_rfl, rfl, rfl, rfl⟩
theorem ty110 : Ty Tryd.prog 110 Tryd.t110.desc 1 Go.Value.nilFunc 8 := ⟨by kernel_rfl, Tryd.t110, by kernel_rfl, rfl, rfl, rfl⟩
theorem ty111 : Ty Tryd.prog 111 (Go.TypeDesc.pointer 115) 1 (Go.Value.pointer Option.none) 8 := ⟨by kernel_rfl, Tryd.t111, by kernel_rfl, rfl, rfl, rfl⟩
theorem ty112 : Ty Tryd.prog 112 (Go.TypeDesc.slice 118) 1 (Go.Value.slice Option.none 0 0) 24 := ⟨by kernel_rfl, Tryd.t112, by kernel_rfl, rfl, rfl, rfl⟩
theorem ty113 : Ty Tryd.prog 113 (Go.TypeDesc.slice 121) 1 (Go.Value.slice Option.none 0 0) 24 := ⟨by kernel_rfl, Tryd.t113, by kernel_rfl, rfl, rfl, rfl⟩
theorem ty114 : Ty Tryd.prog 114 Tryd.t114.desc 3 (Go.Value.agg #[(Go.Value.slice Option.none 0 0), (Go.Value.slice Option.none 0 0), (Go.Value.int Go.IntKind.i64 0)]) 56 := ⟨by kernel_rfl, Tryd.t114, by kernel_rfl, rfl, rfl, rfl⟩
theorem ty115 : Ty Tryd.prog 115 Tryd.t114.desc 3 (Go.Value.agg #[(Go.Value.slice Option.none 0 0), (Go.Value.slice Option.none 0 0), (Go.Value.int Go.IntKind.i64 0)]) 56 := ⟨by kernel_rfl, Tryd.t115, by kernel_rfl, rfl, rfl, rfl⟩
theorem ty116 : Ty Tryd.prog 116 (Go.TypeDesc.int Go.IntKind.u16) 1 (Go.Value.int Go.IntKind.u16 0) 2 := ⟨by kernel_rfl, Tryd.t116, by kernel_rfl, rfl, rfl, rfl⟩
theorem ty117 : Ty Tryd.prog 117 Tryd.t117.desc 3 (Go.Value.agg #[(Go.Value.int Go.IntKind.u16 0), (Go.Value.int Go.IntKind.u16 0), (Go.Value.int Go.IntKind.u16 0)]) 6 := ⟨by kernel_rfl, Tryd.t117, by kernel_rfl, rfl, rfl, rfl⟩
theorem ty118 : Ty Tryd.prog 118 Tryd.t117.desc 3 (Go.Value.agg #[(Go.Value.int Go.IntKind.u16 0), (Go.Value.int Go.IntKind.u16 0), (Go.Value.int Go.IntKind.u16 0)]) 6 := ⟨by kernel_rfl, Tryd.t118, by kernel_rfl, rfl, rfl, rfl⟩
theorem ty119 : Ty Tryd.prog 119 Tryd.t119.desc 1 Go.Value.nilFunc 8 := ⟨by kernel_rfl, Tryd.t119, by kernel_rfl, rfl, rfl, rfl⟩
theorem ty120 : Ty Tryd.prog 120 Tryd.t120.desc 3 (Go.Value.agg #[(Go.Value.int Go.IntKind.u32 0), (Go.Value.int Go.IntKind.u32 0), (Go.Value.int Go.IntKind.u32 0)]) 12 := ⟨by kernel_rfl, Tryd.t120, by kernel_rfl, rfl, rfl, rfl⟩
theorem ty121 : Ty Tryd.prog 121 Tryd.t120.desc 3 (Go.Value.agg #[(Go.Value.int Go.IntKind.u32 0), (Go.Value.int Go.IntKind.u32 0), (Go.Value.int Go.IntKind.u32 0)]) 12 := ⟨by kernel_rfl, Tryd.t121, by kernel_rfl, rfl, rfl, rfl⟩
theorem ty122 : Ty Tryd.prog 122 Tryd.t122.desc 1 Go.Value.nilFunc 8 := ⟨by kernel_rfl, Tryd.t122, by kernel_rfl, rfl, rfl, rfl⟩
theorem ty123 : Ty Tryd.prog 123 (Go.TypeDesc.pointer 118) 1 (Go.Value.pointer Option.none) 8 := ⟨by kernel_rfl, Tryd.t123, by kernel_rfl, rfl, rfl, rfl⟩
theorem ty124 : Ty Tryd.prog 124 (Go.TypeDesc.pointer 121) 1 (Go.Value.pointer Option.none) 8 := ⟨by kernel_rfl, Tryd.t124, by kernel_rfl, rfl, rfl, rfl⟩
theorem ty125 : Ty Tryd.prog 125 Tryd.t125.desc 1 Go.Value.nilFunc 8 := ⟨by kernel_rfl, Tryd.t125, by kernel_rfl, rfl, rfl, rfl⟩
theorem ty126 : Ty Tryd.prog 126 Tryd.t126.desc 4 (Go.Value.agg #[(Go.Value.pointer Option.none), (Go.Value.pointer Option.none), (Go.Value.pointer Option.none), (Go.Value.string (ByteArray.mk #[]))]) 40 := ⟨by kernel_rfl, Tryd.t126, by kernel_rfl, rfl, rfl, rfl⟩
theorem ty127 : Ty Tryd.prog 127 Tryd.t126.desc 4 (Go.Value.agg #[(Go.Value.pointer Option.none), (Go.Value.pointer Option.none), (Go.Value.pointer Option.none), (Go.Value.string (ByteArray.mk #[]))]) 40 := ⟨by kernel_rfl, Tryd.t127, by kernel_rfl, rfl, rfl, rfl⟩
theorem ty128 : Ty Tryd.prog 128 (Go.TypeDesc.array 0 16) 0 (Go.Value.agg #[]) 0 := ⟨by kernel_rfl, Tryd.t128, by kernel_rfl, rfl, rfl, rfl⟩
theorem ty129 : Ty Tryd.prog 129 Tryd.t129.desc 0 (Go.Value.agg #[]) 0 := ⟨by kernel_rfl, Tryd.t129, by kernel_rfl, rfl, rfl, rfl⟩
theorem ty130 : Ty Tryd.prog 130 Tryd.t129.desc 0 (Go.Value.agg #[]) 0 := ⟨by kernel_rfl, Tryd.t130, by kernel_rfl, rfl, rfl, rfl⟩
theorem ty131 : Ty Tryd.prog 131 (Go.TypeDesc.int Go.IntKind.u8) 1 (Go.Value.int Go.IntKind.u8 0) 1 := ⟨by kernel_rfl, Tryd.t131, by kernel_rfl, rfl, rfl, rfl⟩
theorem ty132 : Ty Tryd.prog 132 (Go.TypeDesc.int Go.IntKind.u8) 1 (Go.Value.int Go.IntKind.u8 0) 1 := ⟨by kernel_rfl, Tryd.t132, by kernel_rfl, rfl, rfl, rfl⟩
theorem ty133 : Ty Tryd.prog 133 Tryd.t133.desc 1 Go.Value.nilFunc 8 := ⟨by kernel_rfl, Tryd.t133, by kernel_rfl, rfl, rfl, rfl⟩
theorem ty134 : Ty Tryd.prog 134 (Go.TypeDesc.pointer 5) 1 (Go.Value.pointer Option.none) 8 := ⟨by kernel_rfl, Tryd.t134, by kernel_rfl, rfl, rfl, rfl⟩
theorem ty135 : Ty Tryd.prog 135 (Go.TypeDesc.int Go.IntKind.i32) 1 (Go.Value.int Go.IntKind.i32 0) 4 := ⟨by kernel_rfl, Tryd.t135, by kernel_rfl, rfl, rfl, rfl⟩
theorem ty136 : Ty Tryd.prog 136 (Go.TypeDesc.int Go.IntKind.i32) 1 (Go.Value.int Go.IntKind.i32 0) 4 := ⟨by kernel_rfl, Tryd.t136, by kernel_rfl, rfl, rfl, rfl⟩
theorem ty137 : Ty Tryd.prog 137 Tryd.t137.desc 11 (Go.Value.agg #[(Go.Value.int Go.IntKind.u64 0), (Go.Value.int Go.IntKind.u64 0), (Go.Value.int Go.IntKind.u32 0), (Go.Value.int Go.IntKind.u8 0), (Go.Value.int Go.IntKind.u8 0), (Go.Value.int Go.IntKind.u8 0), (Go.Value.int Go.IntKind.u8 0), Go.Value.nilFunc, (Go.Value.pointer Option.none), (Go.Value.int Go.IntKind.i32 0), (Go.Value.int Go.IntKind.i32 0)]) 48 := ⟨by kernel_rfl, Tryd.t137, by kernel_rfl, rfl, rfl, rfl⟩
theorem ty138 : Ty Tryd.prog 138 Tryd.t137.desc 11 (Go.Value.agg #[(Go.Value.int Go.IntKind.u64 0), (Go.Value.int Go.IntKind.u64 0), (Go.Value.int Go.IntKind.u32 0), (Go.Value.int Go.IntKind.u8 0), (Go.Value.int Go.IntKind.u8 0), (Go.Value.int Go.IntKind.u8 0), (Go.Value.int Go.IntKind.u8 0), Go.Value.nilFunc, (Go.Value.pointer Option.none), (Go.Value.int Go.IntKind.i32 0), (Go.Value.int Go.IntKind.i32 0)]) 48 := ⟨by kernel_rfl, Tryd.t138, by kernel_rfl, rfl, rfl, rfl⟩
theorem ty139 : Ty Tryd.prog 139 Go.TypeDesc.unsafePointer 1 (Go.Value.pointer Option.none) 8 := ⟨by kernel_rfl, Tryd.t139, by kernel_rfl, rfl, rfl, rfl⟩
theorem fld7_0 : Fld Tryd.prog 7 0 0 1 false := ⟨_, _, (by kernel_rfl : Tryd.prog.underlying 7 = some Tryd.t7.desc), rfl, rfl, _, _, _, ty2, rfl⟩
theorem fld7_1 : Fld Tryd.prog 7 1 1 1 false := ⟨_, _, (by kernel_rfl : Tryd.prog.underlying 7 = some Tryd.t7.desc), rfl, rfl, _, _, _, ty3, rfl⟩
theorem fld7_2 : Fld Tryd.prog 7 2 2 1 false := ⟨_, _, (by kernel_rfl : Tryd.prog.underlying 7 = some Tryd.t7.desc), rfl, rfl, _, _, _, ty4, rfl⟩
theorem fld7_3 : Fld Tryd.prog 7 3 3 1 false := ⟨_, _, (by kernel_rfl : Tryd.prog.underlying 7 = some Tryd.t7.desc), rfl, rfl, _, _, _, ty6, rfl⟩
theorem fld8_0 : Fld Tryd.prog 8 0 0 1 false := ⟨_, _, (by kernel_rfl : Tryd.prog.underlying 8 = some Tryd.t7.desc), rfl, rfl, _, _, _, ty2, rfl⟩
theorem fld8_1 : Fld Tryd.prog 8 1 1 1 false := ⟨_, _, (by kernel_rfl : Tryd.prog.underlying 8 = some Tryd.t7.desc), rfl, rfl, _, _, _, ty3, rfl⟩
theorem fld8_2 : Fld Tryd.prog 8 2 2 1 false := ⟨_, _, (by kernel_rfl : Tryd.prog.underlying 8 = some Tryd.t7.desc), rfl, rfl, _, _, _, ty4, rfl⟩
theorem fld8_3 : Fld Tryd.prog 8 3 3 1 false := ⟨_, _, (by kernel_rfl : Tryd.prog.underlying 8 = some Tryd.t7.desc), rfl, rfl, _, _, _, ty6, rfl⟩
theorem fld13_0 : Fld Tryd.prog 13 0 0 1 false := ⟨_, _, (by kernel_rfl : Tryd.prog.underlying 13 = some Tryd.t13.desc), rfl, rfl, _, _, _, ty9, rfl⟩
theorem fld13_1 : Fld Tryd.prog 13 1 1 1 false := ⟨_, _, (by kernel_rfl : Tryd.prog.underlying 13 = some Tryd.t13.desc), rfl, rfl, _, _, _, ty12, rfl⟩
theorem fld14_0 : Fld Tryd.prog 14 0 0 1 false := ⟨_, _, (by kernel_rfl : Tryd.prog.underlying 14 = some Tryd.t13.desc), rfl, rfl, _, _, _, ty9, rfl⟩
theorem fld14_1 : Fld Tryd.prog 14 1 1 1 false := ⟨_, _, (by kernel_rfl : Tryd.prog.underlying 14 = some Tryd.t13.desc), rfl, rfl, _, _, _, ty12, rfl⟩
theorem fld18_0 : Fld Tryd.prog 18 0 0 1 false := ⟨_, _, (by kernel_rfl : Tryd.prog.underlying 18 = some Tryd.t18.desc), rfl, rfl, _, _, _, ty17, rfl⟩
theorem fld19_0 : Fld Tryd.prog 19 0 0 1 false := ⟨_, _, (by kernel_rfl : Tryd.prog.underlying 19 = some Tryd.t18.desc), rfl, rfl, _, _, _, ty17, rfl⟩
theorem fld50_0 : Fld Tryd.prog 50 0 0 1 false := ⟨_, _, (by kernel_rfl : Tryd.prog.underlying 50 = some Tryd.t50.desc), rfl, rfl, _, _, _, ty48, rfl⟩
theorem fld50_1 : Fld Tryd.prog 50 1 1 1 false := ⟨_, _, (by kernel_rfl : Tryd.prog.underlying 50 = some Tryd.t50.desc), rfl, rfl, _, _, _, ty4, rfl⟩
theorem fld51_0 : Fld Tryd.prog 51 0 0 1 false := ⟨_, _, (by kernel_rfl : Tryd.prog.underlying 51 = some Tryd.t50.desc), rfl, rfl, _, _, _, ty48, rfl⟩
theorem fld51_1 : Fld Tryd.prog 51 1 1 1 false := ⟨_, _, (by kernel_rfl : Tryd.prog.underlying 51 = some Tryd.t50.desc), rfl, rfl, _, _, _, ty4, rfl⟩
theorem fld58_0 : Fld Tryd.prog 58 0 0 1 false := ⟨_, _, (by kernel_rfl : Tryd.prog.underlying 58 = some Tryd.t58.desc), rfl, rfl, _, _, _, ty3, rfl⟩
theorem fld58_1 : Fld Tryd.prog 58 1 1 1 false := ⟨_, _, (by kernel_rfl : Tryd.prog.underlying 58 = some Tryd.t58.desc), rfl, rfl, _, _, _, ty3, rfl⟩
theorem fld58_2 : Fld Tryd.prog 58 2 2 1 false := ⟨_, _, (by kernel_rfl : Tryd.prog.underlying 58 = some Tryd.t58.desc), rfl, rfl, _, _, _, ty3, rfl⟩
theorem fld58_3 : Fld Tryd.prog 58 3 3 1 false := ⟨_, _, (by kernel_rfl : Tryd.prog.underlying 58 = some Tryd.t58.desc), rfl, rfl, _, _, _, ty3, rfl⟩
theorem fld58_4 : Fld Tryd.prog 58 4 4 1 false := ⟨_, _, (by kernel_rfl : Tryd.prog.underlying 58 = some Tryd.t58.desc), rfl, rfl, _, _, _, ty3, rfl⟩
theorem fld59_0 : Fld Tryd.prog 59 0 0 1 false := ⟨_, _, (by kernel_rfl : Tryd.prog.underlying 59 = some Tryd.t58.desc), rfl, rfl, _, _, _, ty3, rfl⟩
theorem fld59_1 : Fld Tryd.prog 59 1 1 1 false := ⟨_, _, (by kernel_rfl : Tryd.prog.underlying 59 = some Tryd.t58.desc), rfl, rfl, _, _, _, ty3, rfl⟩
theorem fld59_2 : Fld Tryd.prog 59 2 2 1 false := ⟨_, _, (by kernel_rfl : Tryd.prog.underlying 59 = some Tryd.t58.desc), rfl, rfl, _, _, _, ty3, rfl⟩
theorem fld59_3 : Fld Tryd.prog 59 3 3 1 false := ⟨_, _, (by kernel_rfl : Tryd.prog.underlying 59 = some Tryd.t58.desc), rfl, rfl, _, _, _, ty3, rfl⟩
theorem fld59_4 : Fld Tryd.prog 59 4 4 1 false := ⟨_, _, (by kernel_rfl : Tryd.prog.underlying 59 = some Tryd.t58.desc), rfl, rfl, _, _, _, ty3, rfl⟩
theorem fld67_0 : Fld Tryd.prog 67 0 0 1 false := ⟨_, _, (by kernel_rfl : Tryd.prog.underlying 67 = some Tryd.t58.desc), rfl, rfl, _, _, _, ty3, rfl⟩
theorem fld67_1 : Fld Tryd.prog 67 1 1 1 false := ⟨_, _, (by kernel_rfl : Tryd.prog.underlying 67 = some Tryd.t58.desc), rfl, rfl, _, _, _, ty3, rfl⟩
theorem fld67_2 : Fld Tryd.prog 67 2 2 1 false := ⟨_, _, (by kernel_rfl : Tryd.prog.underlying 67 = some Tryd.t58.desc), rfl, rfl, _, _, _, ty3, rfl⟩
theorem fld67_3 : Fld Tryd.prog 67 3 3 1 false := ⟨_, _, (by kernel_rfl : Tryd.prog.underlying 67 = some Tryd.t58.desc), rfl, rfl, _, _, _, ty3, rfl⟩
theorem fld67_4 : Fld Tryd.prog 67 4 4 1 false := ⟨_, _, (by kernel_rfl : Tryd.prog.underlying 67 = some Tryd.t58.desc), rfl, rfl, _, _, _, ty3, rfl⟩
theorem fld99_0 : Fld Tryd.prog 99 0 0 1 false := ⟨_, _, (by kernel_rfl : Tryd.prog.underlying 99 = some Tryd.t99.desc), rfl, rfl, _, _, _, ty4, rfl⟩
theorem fld99_1 : Fld Tryd.prog 99 1 1 1 false := ⟨_, _, (by kernel_rfl : Tryd.prog.underlying 99 = some Tryd.t99.desc), rfl, rfl, _, _, _, ty4, rfl⟩
theorem fld99_2 : Fld Tryd.prog 99 2 2 1 false := ⟨_, _, (by kernel_rfl : Tryd.prog.underlying 99 = some Tryd.t99.desc), rfl, rfl, _, _, _, ty4, rfl⟩
theorem fld99_3 : Fld Tryd.prog 99 3 3 1 false := ⟨_, _, (by kernel_rfl : Tryd.prog.underlying 99 = some Tryd.t99.desc), rfl, rfl, _, _, _, ty4, rfl⟩
theorem fld100_0 : Fld Tryd.prog 100 0 0 1 false := ⟨_, _, (by kernel_rfl : Tryd.prog.underlying 100 = some Tryd.t99.desc), rfl, rfl, _, _, _, ty4, rfl⟩
theorem fld100_1 : Fld Tryd.prog 100 1 1 1 false := ⟨_, _, (by kernel_rfl : Tryd.prog.underlying 100 = some Tryd.t99.desc), rfl, rfl, _, _, _, ty4, rfl⟩
theorem fld100_2 : Fld Tryd.prog 100 2 2 1 false := ⟨_, _, (by kernel_rfl : Tryd.prog.underlying 100 = some Tryd.t99.desc), rfl, rfl, _, _, _, ty4, rfl⟩
theorem fld100_3 : Fld Tryd.prog 100 3 3 1 false := ⟨_, _, (by kernel_rfl : Tryd.prog.underlying 100 = some Tryd.t99.desc), rfl, rfl, _, _, _, ty4, rfl⟩
theorem fld107_0 : Fld Tryd.prog 107 0 0 1 false := ⟨_, _, (by kernel_rfl : Tryd.prog.underlying 107 = some Tryd.t107.desc), rfl, rfl, _, _, _, ty3, rfl⟩
theorem fld107_1 : Fld Tryd.prog 107 1 1 1 false := ⟨_, _, (by kernel_rfl : Tryd.prog.underlying 107 = some Tryd.t107.desc), rfl, rfl, _, _, _, ty3, rfl⟩
theorem fld108_0 : Fld Tryd.prog 108 0 0 1 false := ⟨_, _, (by kernel_rfl : Tryd.prog.underlying 108 = some Tryd.t107.desc), rfl, rfl, _, _, _, ty3, rfl⟩
theorem fld108_1 : Fld Tryd.prog 108 1 1 1 false := ⟨_, _, (by kernel_rfl : Tryd.prog.underlying 108 = some Tryd.t107.desc), rfl, rfl, _, _, _, ty3, rfl⟩
theorem fld114_0 : Fld Tryd.prog 114 0 0 1 false := ⟨_, _, (by kernel_rfl : Tryd.prog.underlying 114 = some Tryd.t114.desc), rfl, rfl, _, _, _, ty112, rfl⟩
theorem fld114_1 : Fld Tryd.prog 114 1 1 1 false := ⟨_, _, (by kernel_rfl : Tryd.prog.underlying 114 = some Tryd.t114.desc), rfl, rfl, _, _, _, ty113, rfl⟩
theorem fld114_2 : Fld Tryd.prog 114 2 2 1 false := ⟨_, _, (by kernel_rfl : Tryd.prog.underlying 114 = some Tryd.t114.desc), rfl, rfl, _, _, _, ty3, rfl⟩
theorem fld115_0 : Fld Tryd.prog 115 0 0 1 false := ⟨_, _, (by kernel_rfl : Tryd.prog.underlying 115 = some Tryd.t114.desc), rfl, rfl, _, _, _, ty112, rfl⟩
theorem fld115_1 : Fld Tryd.prog 115 1 1 1 false := ⟨_, _, (by kernel_rfl : Tryd.prog.underlying 115 = some Tryd.t114.desc), rfl, rfl, _, _, _, ty113, rfl⟩
theorem fld115_2 : Fld Tryd.prog 115 2 2 1 false := ⟨_, _, (by kernel_rfl : Tryd.prog.underlying 115 = some Tryd.t114.desc), rfl, rfl, _, _, _, ty3, rfl⟩
theorem fld117_0 : Fld Tryd.prog 117 0 0 1 false := ⟨_, _, (by kernel_rfl : Tryd.prog.underlying 117 = some Tryd.t117.desc), rfl, rfl, _, _, _, ty116, rfl⟩
theorem fld117_1 : Fld Tryd.prog 117 1 1 1 false := ⟨_, _, (by kernel_rfl : Tryd.prog.underlying 117 = some Tryd.t117.desc), rfl, rfl, _, _, _, ty116, rfl⟩
theorem fld117_2 : Fld Tryd.prog 117 2 2 1 false := ⟨_, _, (by kernel_rfl : Tryd.prog.underlying 117 = some Tryd.t117.desc), rfl, rfl, _, _, _, ty116, rfl⟩
theorem fld118_0 : Fld Tryd.prog 118 0 0 1 false := ⟨_, _, (by kernel_rfl : Tryd.prog.underlying 118 = some Tryd.t117.desc), rfl, rfl, _, _, _, ty116, rfl⟩
theorem fld118_1 : Fld Tryd.prog 118 1 1 1 false := ⟨_, _, (by kernel_rfl : Tryd.prog.underlying 118 = some Tryd.t117.desc), rfl, rfl, _, _, _, ty116, rfl⟩
theorem fld118_2 : Fld Tryd.prog 118 2 2 1 false := ⟨_, _, (by kernel_rfl : Tryd.prog.underlying 118 = some Tryd.t117.desc), rfl, rfl, _, _, _, ty116, rfl⟩
theorem fld120_0 : Fld Tryd.prog 120 0 0 1 false := ⟨_, _, (by kernel_rfl : Tryd.prog.underlying 120 = some Tryd.t120.desc), rfl, rfl, _, _, _, ty109, rfl⟩
theorem fld120_1 : Fld Tryd.prog 120 1 1 1 false := ⟨_, _, (by kernel_rfl : Tryd.prog.underlying 120 = some Tryd.t120.desc), rfl, rfl, _, _, _, ty109, rfl⟩
theorem fld120_2 : Fld Tryd.prog 120 2 2 1 false := ⟨_, _, (by kernel_rfl : Tryd.prog.underlying 120 = some Tryd.t120.desc), rfl, rfl, _, _, _, ty109, rfl⟩
theorem fld121_0 : Fld Tryd.prog 121 0 0 1 false := ⟨_, _, (by kernel_rfl : Tryd.prog.underlying 121 = some Tryd.t120.desc), rfl, rfl, _, _, _, ty109, rfl⟩
theorem fld121_1 : Fld Tryd.prog 121 1 1 1 false := ⟨_, _, (by kernel_rfl : Tryd.prog.underlying 121 = some Tryd.t120.desc), rfl, rfl, _, _, _, ty109, rfl⟩
theorem fld121_2 : Fld Tryd.prog 121 2 2 1 false := ⟨_, _, (by kernel_rfl : Tryd.prog.underlying 121 = some Tryd.t120.desc), rfl, rfl, _, _, _, ty109, rfl⟩
theorem fld126_0 : Fld Tryd.prog 126 0 0 1 false := ⟨_, _, (by kernel_rfl : Tryd.prog.underlying 126 = some Tryd.t126.desc), rfl, rfl, _, _, _, ty17, rfl⟩
theorem fld126_1 : Fld Tryd.prog 126 1 1 1 false := ⟨_, _, (by kernel_rfl : Tryd.prog.underlying 126 = some Tryd.t126.desc), rfl, rfl, _, _, _, ty17, rfl⟩
theorem fld126_2 : Fld Tryd.prog 126 2 2 1 false := ⟨_, _, (by kernel_rfl : Tryd.prog.underlying 126 = some Tryd.t126.desc), rfl, rfl, _, _, _, ty17, rfl⟩
theorem fld126_3 : Fld Tryd.prog 126 3 3 1 false := ⟨_, _, (by kernel_rfl : Tryd.prog.underlying 126 = some Tryd.t126.desc), rfl, rfl, _, _, _, ty9, rfl⟩
theorem fld127_0 : Fld Tryd.prog 127 0 0 1 false := ⟨_, _, (by kernel_rfl : Tryd.prog.underlying 127 = some Tryd.t126.desc), rfl, rfl, _, _, _, ty17, rfl⟩
theorem fld127_1 : Fld Tryd.prog 127 1 1 1 false := ⟨_, _, (by kernel_rfl : Tryd.prog.underlying 127 = some Tryd.t126.desc), rfl, rfl, _, _, _, ty17, rfl⟩
theorem fld127_2 : Fld Tryd.prog 127 2 2 1 false := ⟨_, _, (by kernel_rfl : Tryd.prog.underlying 127 = some Tryd.t126.desc), rfl, rfl, _, _, _, ty17, rfl⟩
theorem fld127_3 : Fld Tryd.prog 127 3 3 1 false := ⟨_, _, (by kernel_rfl : Tryd.prog.underlying 127 = some Tryd.t126.desc), rfl, rfl, _, _, _, ty9, rfl⟩
theorem fld129_0 : Fld Tryd.prog 129 0 0 0 true := ⟨_, _, (by kernel_rfl : Tryd.prog.underlying 129 = some Tryd.t129.desc), rfl, rfl, _, _, _, ty128, rfl⟩
theorem fld130_0 : Fld Tryd.prog 130 0 0 0 true := ⟨_, _, (by kernel_rfl : Tryd.prog.underlying 130 = some Tryd.t129.desc), rfl, rfl, _, _, _, ty128, rfl⟩
theorem fld137_0 : Fld Tryd.prog 137 0 0 1 false := ⟨_, _, (by kernel_rfl : Tryd.prog.underlying 137 = some Tryd.t137.desc), rfl, rfl, _, _, _, ty12, rfl⟩
theorem fld137_1 : Fld Tryd.prog 137 1 1 1 false := ⟨_, _, (by kernel_rfl : Tryd.prog.underlying 137 = some Tryd.t137.desc), rfl, rfl, _, _, _, ty12, rfl⟩
theorem fld137_2 : Fld Tryd.prog 137 2 2 1 false := ⟨_, _, (by kernel_rfl : Tryd.prog.underlying 137 = some Tryd.t137.desc), rfl, rfl, _, _, _, ty109, rfl⟩
theorem fld137_3 : Fld Tryd.prog 137 3 3 1 false := ⟨_, _, (by kernel_rfl : Tryd.prog.underlying 137 = some Tryd.t137.desc), rfl, rfl, _, _, _, ty131, rfl⟩
theorem fld137_4 : Fld Tryd.prog 137 4 4 1 false := ⟨_, _, (by kernel_rfl : Tryd.prog.underlying 137 = some Tryd.t137.desc), rfl, rfl, _, _, _, ty5, rfl⟩
theorem fld137_5 : Fld Tryd.prog 137 5 5 1 false := ⟨_, _, (by kernel_rfl : Tryd.prog.underlying 137 = some Tryd.t137.desc), rfl, rfl, _, _, _, ty5, rfl⟩
theorem fld137_6 : Fld Tryd.prog 137 6 6 1 false := ⟨_, _, (by kernel_rfl : Tryd.prog.underlying 137 = some Tryd.t137.desc), rfl, rfl, _, _, _, ty132, rfl⟩
theorem fld137_7 : Fld Tryd.prog 137 7 7 1 false := ⟨_, _, (by kernel_rfl : Tryd.prog.underlying 137 = some Tryd.t137.desc), rfl, rfl, _, _, _, ty133, rfl⟩
theorem fld137_8 : Fld Tryd.prog 137 8 8 1 false := ⟨_, _, (by kernel_rfl : Tryd.prog.underlying 137 = some Tryd.t137.desc), rfl, rfl, _, _, _, ty134, rfl⟩
theorem fld137_9 : Fld Tryd.prog 137 9 9 1 false := ⟨_, _, (by kernel_rfl : Tryd.prog.underlying 137 = some Tryd.t137.desc), rfl, rfl, _, _, _, ty135, rfl⟩
theorem fld137_10 : Fld Tryd.prog 137 10 10 1 false := ⟨_, _, (by kernel_rfl : Tryd.prog.underlying 137 = some Tryd.t137.desc), rfl, rfl, _, _, _, ty136, rfl⟩
theorem fld138_0 : Fld Tryd.prog 138 0 0 1 false := ⟨_, _, (by kernel_rfl : Tryd.prog.underlying 138 = some Tryd.t137.desc), rfl, rfl, _, _, _, ty12, rfl⟩
theorem fld138_1 : Fld Tryd.prog 138 1 1 1 false := ⟨_, _, (by kernel_rfl : Tryd.prog.underlying 138 = some Tryd.t137.desc), rfl, rfl, _, _, _, ty12, rfl⟩
theorem fld138_2 : Fld Tryd.prog 138 2 2 1 false := ⟨_, _, (by kernel_rfl : Tryd.prog.underlying 138 = some Tryd.t137.desc), rfl, rfl, _, _, _, ty109, rfl⟩
theorem fld138_3 : Fld Tryd.prog 138 3 3 1 false := ⟨_, _, (by kernel_rfl : Tryd.prog.underlying 138 = some Tryd.t137.desc), rfl, rfl, _, _, _, ty131, rfl⟩
theorem fld138_4 : Fld Tryd.prog 138 4 4 1 false := ⟨_, _, (by kernel_rfl : Tryd.prog.underlying 138 = some Tryd.t137.desc), rfl, rfl, _, _, _, ty5, rfl⟩
theorem fld138_5 : Fld Tryd.prog 138 5 5 1 false := ⟨_, _, (by kernel_rfl : Tryd.prog.underlying 138 = some Tryd.t137.desc), rfl, rfl, _, _, _, ty5, rfl⟩
theorem fld138_6 : Fld Tryd.prog 138 6 6 1 false := ⟨_, _, (by kernel_rfl : Tryd.prog.underlying 138 = some Tryd.t137.desc), rfl, rfl, _, _, _, ty132, rfl⟩
theorem fld138_7 : Fld Tryd.prog 138 7 7 1 false := ⟨_, _, (by kernel_rfl : Tryd.prog.underlying 138 = some Tryd.t137.desc), rfl, rfl, _, _, _, ty133, rfl⟩
theorem fld138_8 : Fld Tryd.prog 138 8 8 1 false := ⟨_, _, (by kernel_rfl : Tryd.prog.underlying 138 = some Tryd.t137.desc), rfl, rfl, _, _, _, ty134, rfl⟩
theorem fld138_9 : Fld Tryd.prog 138 9 9 1 false := ⟨_, _, (by kernel_rfl : Tryd.prog.underlying 138 = some Tryd.t137.desc), rfl, rfl, _, _, _, ty135, rfl⟩
theorem fld138_10 : Fld Tryd.prog 138 10 10 1 false := ⟨_, _, (by kernel_rfl : Tryd.prog.underlying 138 = some Tryd.t137.desc), rfl, rfl, _, _, _, ty136, rfl⟩
theorem pl7 : StructPl Tryd.prog 7 [(0, 1), (1, 1), (2, 1), (3, 1)] := ⟨_, (by kernel_rfl : Tryd.prog.underlying 7 = some Tryd.t7.desc), fun _ => by kernel_rfl⟩
theorem pl8 : StructPl Tryd.prog 8 [(0, 1), (1, 1), (2, 1), (3, 1)] := ⟨_, (by kernel_rfl : Tryd.prog.underlying 8 = some Tryd.t7.desc), fun _ => by kernel_rfl⟩
theorem pl13 : StructPl Tryd.prog 13 [(0, 1), (1, 1)] := ⟨_, (by kernel_rfl : Tryd.prog.underlying 13 = some Tryd.t13.desc), fun _ => by kernel_rfl⟩
theorem pl14 : StructPl Tryd.prog 14 [(0, 1), (1, 1)] := ⟨_, (by kernel_rfl : Tryd.prog.underlying 14 = some Tryd.t13.desc), fun _ => by kernel_rfl⟩
theorem pl18 : StructPl Tryd.prog 18 [(0, 1)] := ⟨_, (by kernel_rfl : Tryd.prog.underlying 18 = some Tryd.t18.desc), fun _ => by kernel_rfl⟩
theorem pl19 : StructPl Tryd.prog 19 [(0, 1)] := ⟨_, (by kernel_rfl : Tryd.prog.underlying 19 = some Tryd.t18.desc), fun _ => by kernel_rfl⟩
theorem pl50 : StructPl Tryd.prog 50 [(0, 1), (1, 1)] := ⟨_, (by kernel_rfl : Tryd.prog.underlying 50 = some Tryd.t50.desc), fun _ => by kernel_rfl⟩
theorem pl51 : StructPl Tryd.prog 51 [(0, 1), (1, 1)] := ⟨_, (by kernel_rfl : Tryd.prog.underlying 51 = some Tryd.t50.desc), fun _ => by kernel_rfl⟩
theorem pl58 : StructPl Tryd.prog 58 [(0, 1), (1, 1), (2, 1), (3, 1), (4, 1)] := ⟨_, (by kernel_rfl : Tryd.prog.underlying 58 = some Tryd.t58.desc), fun _ => by kernel_rfl⟩
theorem pl59 : StructPl Tryd.prog 59 [(0, 1), (1, 1), (2, 1), (3, 1), (4, 1)] := ⟨_, (by kernel_rfl : Tryd.prog.underlying 59 = some Tryd.t58.desc), fun _ => by kernel_rfl⟩
theorem pl67 : StructPl Tryd.prog 67 [(0, 1), (1, 1), (2, 1), (3, 1), (4, 1)] := ⟨_, (by kernel_rfl : Tryd.prog.underlying 67 = some Tryd.t58.desc), fun _ => by kernel_rfl⟩
theorem pl99 : StructPl Tryd.prog 99 [(0, 1), (1, 1), (2, 1), (3, 1)] := ⟨_, (by kernel_rfl : Tryd.prog.underlying 99 = some Tryd.t99.desc), fun _ => by kernel_rfl⟩
theorem pl100 : StructPl Tryd.prog 100 [(0, 1), (1, 1), (2, 1), (3, 1)] := ⟨_, (by kernel_rfl : Tryd.prog.underlying 100 = some Tryd.t99.desc), fun _ => by kernel_rfl⟩
theorem pl107 : StructPl Tryd.prog 107 [(0, 1), (1, 1)] := ⟨_, (by kernel_rfl : Tryd.prog.underlying 107 = some Tryd.t107.desc), fun _ => by kernel_rfl⟩
theorem pl108 : StructPl Tryd.prog 108 [(0, 1), (1, 1)] := ⟨_, (by kernel_rfl : Tryd.prog.underlying 108 = some Tryd.t107.desc), fun _ => by kernel_rfl⟩
theorem pl114 : StructPl Tryd.prog 114 [(0, 1), (1, 1), (2, 1)] := ⟨_, (by kernel_rfl : Tryd.prog.underlying 114 = some Tryd.t114.desc), fun _ => by kernel_rfl⟩
theorem pl115 : StructPl Tryd.prog 115 [(0, 1), (1, 1), (2, 1)] := ⟨_, (by kernel_rfl : Tryd.prog.underlying 115 = some Tryd.t114.desc), fun _ => by kernel_rfl⟩
theorem pl117 : StructPl Tryd.prog 117 [(0, 1), (1, 1), (2, 1)] := ⟨_, (by kernel_rfl : Tryd.prog.underlying 117 = some Tryd.t117.desc), fun _ => by kernel_rfl⟩
theorem pl118 : StructPl Tryd.prog 118 [(0, 1), (1, 1), (2, 1)] := ⟨_, (by kernel_rfl : Tryd.prog.underlying 118 = some Tryd.t117.desc), fun _ => by kernel_rfl⟩
theorem pl120 : StructPl Tryd.prog 120 [(0, 1), (1, 1), (2, 1)] := ⟨_, (by kernel_rfl : Tryd.prog.underlying 120 = some Tryd.t120.desc), fun _ => by kernel_rfl⟩
theorem pl121 : StructPl Tryd.prog 121 [(0, 1), (1, 1), (2, 1)] := ⟨_, (by kernel_rfl : Tryd.prog.underlying 121 = some Tryd.t120.desc), fun _ => by kernel_rfl⟩
theorem pl126 : StructPl Tryd.prog 126 [(0, 1), (1, 1), (2, 1), (3, 1)] := ⟨_, (by kernel_rfl : Tryd.prog.underlying 126 = some Tryd.t126.desc), fun _ => by kernel_rfl⟩
theorem pl127 : StructPl Tryd.prog 127 [(0, 1), (1, 1), (2, 1), (3, 1)] := ⟨_, (by kernel_rfl : Tryd.prog.underlying 127 = some Tryd.t126.desc), fun _ => by kernel_rfl⟩
theorem pl129 : StructPl Tryd.prog 129 [(0, 0)] := ⟨_, (by kernel_rfl : Tryd.prog.underlying 129 = some Tryd.t129.desc), fun _ => by kernel_rfl⟩
theorem pl130 : StructPl Tryd.prog 130 [(0, 0)] := ⟨_, (by kernel_rfl : Tryd.prog.underlying 130 = some Tryd.t129.desc), fun _ => by kernel_rfl⟩
theorem pl137 : StructPl Tryd.prog 137 [(0, 1), (1, 1), (2, 1), (3, 1), (4, 1), (5, 1), (6, 1), (7, 1), (8, 1), (9, 1), (10, 1)] := ⟨_, (by kernel_rfl : Tryd.prog.underlying 137 = some Tryd.t137.desc), fun _ => by kernel_rfl⟩
theorem pl138 : StructPl Tryd.prog 138 [(0, 1), (1, 1), (2, 1), (3, 1), (4, 1), (5, 1), (6, 1), (7, 1), (8, 1), (9, 1), (10, 1)] := ⟨_, (by kernel_rfl : Tryd.prog.underlying 138 = some Tryd.t137.desc), fun _ => by kernel_rfl⟩
end Go.Proofs.YtpfoecmianohjaaDoor

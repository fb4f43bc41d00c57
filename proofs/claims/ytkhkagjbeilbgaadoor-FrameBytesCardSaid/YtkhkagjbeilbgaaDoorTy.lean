/-
  Own work, printed by program: facts on the rows of the program's table of types, each by the kernel.
-/
import Derived.Test.YtkhkagjbeilbgaaDoorRows
import Derived.Test.YtkhkagjbeilbgaaDoorSlBuild
set_option linter.all false
set_option linter.unusedSimpArgs false
set_option linter.unusedVariables false
namespace Go.Proofs.YtkhkagjbeilbgaaDoor
open Go Go.Sl
set_option maxRecDepth 100000
theorem ty0 : Ty Tryd.prog 0 Tryd.t0.desc 1 (Go.Value.tuple #[]) 0 := ⟨by kernel_rfl, Tryd.t0, by kernel_rfl, rfl, rfl, rfl⟩
theorem ty1 : Ty Tryd.prog 1 Tryd.t1.desc 1 Go.Value.nilFunc 8 := ⟨by kernel_rfl, Tryd.t1, by kernel_rfl, rfl, rfl, rfl⟩
theorem ty2 : Ty Tryd.prog 2 (Go.TypeDesc.int Go.IntKind.i64) 1 (Go.Value.int Go.IntKind.i64 0) 8 := ⟨by kernel_rfl, Tryd.t2, by kernel_rfl, rfl, rfl, rfl⟩
theorem ty3 : Ty Tryd.prog 3 (Go.TypeDesc.int Go.IntKind.i64) 1 (Go.Value.int Go.IntKind.i64 0) 8 := ⟨by kernel_rfl, Tryd.t3, by kernel_rfl, rfl, rfl, rfl⟩
theorem ty4 : Ty Tryd.prog 4 Go.TypeDesc.bool 1 (Go.Value.bool false) 1 := ⟨by kernel_rfl, Tryd.t4, by kernel_rfl, rfl, rfl, rfl⟩
theorem ty5 : Ty Tryd.prog 5 (Go.TypeDesc.int Go.IntKind.u8) 1 (Go.Value.int Go.IntKind.u8 0) 1 := ⟨by kernel_rfl, Tryd.t5, by kernel_rfl, rfl, rfl, rfl⟩
theorem ty6 : Ty Tryd.prog 6 (Go.TypeDesc.int Go.IntKind.u8) 1 (Go.Value.int Go.IntKind.u8 0) 1 := ⟨by kernel_rfl, Tryd.t6, by kernel_rfl, rfl, rfl, rfl⟩
theorem ty7 : Ty Tryd.prog 7 Tryd.t7.desc 4 (Go.Value.agg #[(Go.Value.int Go.IntKind.i64 0), (Go.Value.int Go.IntKind.i64 0), (Go.Value.bool false), (Go.Value.int Go.IntKind.u8 0)]) 24 := ⟨by kernel_rfl, Tryd.t7, by kernel_rfl, rfl, rfl, rfl⟩
theorem ty8 : Ty Tryd.prog 8 Tryd.t7.desc 4 (Go.Value.agg #[(Go.Value.int Go.IntKind.i64 0), (Go.Value.int Go.IntKind.i64 0), (Go.Value.bool false), (Go.Value.int Go.IntKind.u8 0)]) 24 := ⟨by kernel_rfl, Tryd.t8, by kernel_rfl, rfl, rfl, rfl⟩
theorem ty9 : Ty Tryd.prog 9 Go.TypeDesc.string 1 (Go.Value.string (ByteArray.mk #[])) 16 := ⟨by kernel_rfl, Tryd.t9, by kernel_rfl, rfl, rfl, rfl⟩
theorem ty10 : Ty Tryd.prog 10 Go.TypeDesc.string 1 (Go.Value.string (ByteArray.mk #[])) 16 := ⟨by kernel_rfl, Tryd.t10, by kernel_rfl, rfl, rfl, rfl⟩
theorem ty11 : Ty Tryd.prog 11 Go.TypeDesc.string 1 (Go.Value.string (ByteArray.mk #[])) 16 := ⟨by kernel_rfl, Tryd.t11, by kernel_rfl, rfl, rfl, rfl⟩
theorem ty12 : Ty Tryd.prog 12 (Go.TypeDesc.int Go.IntKind.u64) 1 (Go.Value.int Go.IntKind.u64 0) 8 := ⟨by kernel_rfl, Tryd.t12, by kernel_rfl, rfl, rfl, rfl⟩
theorem ty13 : Ty Tryd.prog 13 Tryd.t13.desc 2 (Go.Value.agg #[(Go.Value.string (ByteArray.mk #[])), (Go.Value.int Go.IntKind.u64 0)]) 24 := ⟨by kernel_rfl, Tryd.t13, by kernel_rfl, rfl, rfl, rfl⟩
theorem ty14 : Ty Tryd.prog 14 Tryd.t13.desc 2 (Go.Value.agg #[(Go.Value.string (ByteArray.mk #[])), (Go.Value.int Go.IntKind.u64 0)]) 24 := ⟨by kernel_rfl, Tryd.t14, by kernel_rfl, rfl, rfl, rfl⟩
theorem ty15 : Ty Tryd.prog 15 (Go.TypeDesc.pointer 214) 1 (Go.Value.pointer Option.none) 8 := ⟨by kernel_rfl, Tryd.t15, by kernel_rfl, rfl, rfl, rfl⟩
theorem ty16 : Ty Tryd.prog 16 (Go.TypeDesc.pointer 217) 1 (Go.Value.pointer Option.none) 8 := ⟨by kernel_rfl, Tryd.t16, by kernel_rfl, rfl, rfl, rfl⟩
theorem ty17 : Ty Tryd.prog 17 (Go.TypeDesc.pointer 225) 1 (Go.Value.pointer Option.none) 8 := ⟨by kernel_rfl, Tryd.t17, by kernel_rfl, rfl, rfl, rfl⟩
theorem ty18 : Ty Tryd.prog 18 Tryd.t18.desc 1 (Go.Value.agg #[(Go.Value.pointer Option.none)]) 8 := ⟨by kernel_rfl, Tryd.t18, by kernel_rfl, rfl, rfl, rfl⟩
theorem ty19 : Ty Tryd.prog 19 Tryd.t18.desc 1 (Go.Value.agg #[(Go.Value.pointer Option.none)]) 8 := ⟨by kernel_rfl, Tryd.t19, by kernel_rfl, rfl, rfl, rfl⟩
theorem ty20 : Ty Tryd.prog 20 Tryd.t20.desc 1 Go.Value.nilIface 16 := ⟨by kernel_rfl, Tryd.t20, by kernel_rfl, rfl, rfl, rfl⟩
theorem ty21 : Ty Tryd.prog 21 (Go.TypeDesc.int Go.IntKind.i32) 1 (Go.Value.int Go.IntKind.i32 0) 4 := ⟨by kernel_rfl, Tryd.t21, by kernel_rfl, rfl, rfl, rfl⟩
theorem ty22 : Ty Tryd.prog 22 (Go.TypeDesc.int Go.IntKind.u64) 1 (Go.Value.int Go.IntKind.u64 0) 8 := ⟨by kernel_rfl, Tryd.t22, by kernel_rfl, rfl, rfl, rfl⟩
theorem ty23 : Ty Tryd.prog 23 (Go.TypeDesc.slice 5) 1 (Go.Value.slice Option.none 0 0) 24 := ⟨by kernel_rfl, Tryd.t23, by kernel_rfl, rfl, rfl, rfl⟩
theorem ty24 : Ty Tryd.prog 24 Tryd.t24.desc 7 (Go.Value.agg #[(Go.Value.int Go.IntKind.i64 0), (Go.Value.int Go.IntKind.i64 0), (Go.Value.int Go.IntKind.i64 0), (Go.Value.int Go.IntKind.i64 0), (Go.Value.int Go.IntKind.u64 0), (Go.Value.int Go.IntKind.u64 0), (Go.Value.slice Option.none 0 0)]) 72 := ⟨by kernel_rfl, Tryd.t24, by kernel_rfl, rfl, rfl, rfl⟩
theorem ty25 : Ty Tryd.prog 25 Tryd.t24.desc 7 (Go.Value.agg #[(Go.Value.int Go.IntKind.i64 0), (Go.Value.int Go.IntKind.i64 0), (Go.Value.int Go.IntKind.i64 0), (Go.Value.int Go.IntKind.i64 0), (Go.Value.int Go.IntKind.u64 0), (Go.Value.int Go.IntKind.u64 0), (Go.Value.slice Option.none 0 0)]) 72 := ⟨by kernel_rfl, Tryd.t25, by kernel_rfl, rfl, rfl, rfl⟩
theorem ty26 : Ty Tryd.prog 26 Tryd.t26.desc 1 Go.Value.nilFunc 8 := ⟨by kernel_rfl, Tryd.t26, by kernel_rfl, rfl, rfl, rfl⟩
theorem ty27 : Ty Tryd.prog 27 Tryd.t27.desc 1 Go.Value.nilFunc 8 := ⟨by kernel_rfl, Tryd.t27, by kernel_rfl, rfl, rfl, rfl⟩
theorem ty28 : Ty Tryd.prog 28 Tryd.t28.desc 1 Go.Value.nilFunc 8 := ⟨by kernel_rfl, Tryd.t28, by kernel_rfl, rfl, rfl, rfl⟩
theorem ty29 : Ty Tryd.prog 29 (Go.TypeDesc.int Go.IntKind.i64) 1 (Go.Value.int Go.IntKind.i64 0) 8 := ⟨by kernel_rfl, Tryd.t29, by kernel_rfl, rfl, rfl, rfl⟩
theorem ty30 : Ty Tryd.prog 30 Tryd.t30.desc 1 Go.Value.nilFunc 8 := ⟨by kernel_rfl, Tryd.t30, by kernel_rfl, rfl, rfl, rfl⟩
theorem ty31 : Ty Tryd.prog 31 Tryd.t24.desc 7 (Go.Value.agg #[(Go.Value.int Go.IntKind.i64 0), (Go.Value.int Go.IntKind.i64 0), (Go.Value.int Go.IntKind.i64 0), (Go.Value.int Go.IntKind.i64 0), (Go.Value.int Go.IntKind.u64 0), (Go.Value.int Go.IntKind.u64 0), (Go.Value.slice Option.none 0 0)]) 72 := ⟨by kernel_rfl, Tryd.t31, by kernel_rfl, rfl, rfl, rfl⟩
theorem ty32 : Ty Tryd.prog 32 Tryd.t32.desc 1 Go.Value.nilFunc 8 := ⟨by kernel_rfl, Tryd.t32, by kernel_rfl, rfl, rfl, rfl⟩
theorem ty33 : Ty Tryd.prog 33 Tryd.t33.desc 1 Go.Value.nilFunc 8 := ⟨by kernel_rfl, Tryd.t33, by kernel_rfl, rfl, rfl, rfl⟩
theorem ty34 : Ty Tryd.prog 34 Tryd.t34.desc 1 Go.Value.nilFunc 8 := ⟨by kernel_rfl, Tryd.t34, by kernel_rfl, rfl, rfl, rfl⟩
theorem ty35 : Ty Tryd.prog 35 (Go.TypeDesc.slice 55) 1 (Go.Value.slice Option.none 0 0) 24 := ⟨by kernel_rfl, Tryd.t35, by kernel_rfl, rfl, rfl, rfl⟩
theorem ty36 : Ty Tryd.prog 36 (Go.TypeDesc.slice 46) 1 (Go.Value.slice Option.none 0 0) 24 := ⟨by kernel_rfl, Tryd.t36, by kernel_rfl, rfl, rfl, rfl⟩
theorem ty37 : Ty Tryd.prog 37 (Go.TypeDesc.pointer 130) 1 (Go.Value.pointer Option.none) 8 := ⟨by kernel_rfl, Tryd.t37, by kernel_rfl, rfl, rfl, rfl⟩
theorem ty38 : Ty Tryd.prog 38 Tryd.t38.desc 1 (Go.Value.tuple #[(Go.Value.pointer Option.none), (Go.Value.int Go.IntKind.i64 0)]) 0 := ⟨by kernel_rfl, Tryd.t38, by kernel_rfl, rfl, rfl, rfl⟩
theorem ty39 : Ty Tryd.prog 39 Tryd.t39.desc 1 Go.Value.nilFunc 8 := ⟨by kernel_rfl, Tryd.t39, by kernel_rfl, rfl, rfl, rfl⟩
theorem ty40 : Ty Tryd.prog 40 (Go.TypeDesc.slice 50) 1 (Go.Value.slice Option.none 0 0) 24 := ⟨by kernel_rfl, Tryd.t40, by kernel_rfl, rfl, rfl, rfl⟩
theorem ty41 : Ty Tryd.prog 41 Tryd.t41.desc 1 Go.Value.nilFunc 8 := ⟨by kernel_rfl, Tryd.t41, by kernel_rfl, rfl, rfl, rfl⟩
theorem ty42 : Ty Tryd.prog 42 Tryd.t42.desc 1 Go.Value.nilFunc 8 := ⟨by kernel_rfl, Tryd.t42, by kernel_rfl, rfl, rfl, rfl⟩
theorem ty43 : Ty Tryd.prog 43 Tryd.t43.desc 5 (Go.Value.agg #[(Go.Value.int Go.IntKind.i64 0), (Go.Value.int Go.IntKind.i64 0), (Go.Value.int Go.IntKind.i64 0), (Go.Value.int Go.IntKind.i64 0), (Go.Value.int Go.IntKind.i64 0)]) 40 := ⟨by kernel_rfl, Tryd.t43, by kernel_rfl, rfl, rfl, rfl⟩
theorem ty44 : Ty Tryd.prog 44 Tryd.t43.desc 5 (Go.Value.agg #[(Go.Value.int Go.IntKind.i64 0), (Go.Value.int Go.IntKind.i64 0), (Go.Value.int Go.IntKind.i64 0), (Go.Value.int Go.IntKind.i64 0), (Go.Value.int Go.IntKind.i64 0)]) 40 := ⟨by kernel_rfl, Tryd.t44, by kernel_rfl, rfl, rfl, rfl⟩
theorem ty45 : Ty Tryd.prog 45 Tryd.t45.desc 1 Go.Value.nilFunc 8 := ⟨by kernel_rfl, Tryd.t45, by kernel_rfl, rfl, rfl, rfl⟩
theorem ty46 : Ty Tryd.prog 46 Tryd.t43.desc 5 (Go.Value.agg #[(Go.Value.int Go.IntKind.i64 0), (Go.Value.int Go.IntKind.i64 0), (Go.Value.int Go.IntKind.i64 0), (Go.Value.int Go.IntKind.i64 0), (Go.Value.int Go.IntKind.i64 0)]) 40 := ⟨by kernel_rfl, Tryd.t46, by kernel_rfl, rfl, rfl, rfl⟩
theorem ty47 : Ty Tryd.prog 47 Tryd.t47.desc 2 (Go.Value.agg #[(Go.Value.int Go.IntKind.i64 0), (Go.Value.int Go.IntKind.i64 0)]) 16 := ⟨by kernel_rfl, Tryd.t47, by kernel_rfl, rfl, rfl, rfl⟩
theorem ty48 : Ty Tryd.prog 48 Tryd.t47.desc 2 (Go.Value.agg #[(Go.Value.int Go.IntKind.i64 0), (Go.Value.int Go.IntKind.i64 0)]) 16 := ⟨by kernel_rfl, Tryd.t48, by kernel_rfl, rfl, rfl, rfl⟩
theorem ty49 : Ty Tryd.prog 49 Tryd.t49.desc 5 (Go.Value.agg #[(Go.Value.bool false), (Go.Value.int Go.IntKind.i64 0), (Go.Value.int Go.IntKind.i64 0), (Go.Value.int Go.IntKind.i64 0), (Go.Value.int Go.IntKind.u64 0)]) 40 := ⟨by kernel_rfl, Tryd.t49, by kernel_rfl, rfl, rfl, rfl⟩
theorem ty50 : Ty Tryd.prog 50 Tryd.t49.desc 5 (Go.Value.agg #[(Go.Value.bool false), (Go.Value.int Go.IntKind.i64 0), (Go.Value.int Go.IntKind.i64 0), (Go.Value.int Go.IntKind.i64 0), (Go.Value.int Go.IntKind.u64 0)]) 40 := ⟨by kernel_rfl, Tryd.t50, by kernel_rfl, rfl, rfl, rfl⟩
theorem ty51 : Ty Tryd.prog 51 Tryd.t51.desc 1 (Go.Value.tuple #[(Go.Value.agg #[(Go.Value.bool false), (Go.Value.int Go.IntKind.i64 0), (Go.Value.int Go.IntKind.i64 0), (Go.Value.int Go.IntKind.i64 0), (Go.Value.int Go.IntKind.u64 0)]), (Go.Value.int Go.IntKind.i64 0)]) 0 := ⟨by kernel_rfl, Tryd.t51, by kernel_rfl, rfl, rfl, rfl⟩
theorem ty52 : Ty Tryd.prog 52 Tryd.t52.desc 1 Go.Value.nilFunc 8 := ⟨by kernel_rfl, Tryd.t52, by kernel_rfl, rfl, rfl, rfl⟩
theorem ty53 : Ty Tryd.prog 53 Tryd.t53.desc 1 Go.Value.nilFunc 8 := ⟨by kernel_rfl, Tryd.t53, by kernel_rfl, rfl, rfl, rfl⟩
theorem ty54 : Ty Tryd.prog 54 Tryd.t54.desc 5 (Go.Value.agg #[(Go.Value.bool false), (Go.Value.int Go.IntKind.i64 0), (Go.Value.int Go.IntKind.i64 0), (Go.Value.int Go.IntKind.i64 0), (Go.Value.int Go.IntKind.u64 0)]) 40 := ⟨by kernel_rfl, Tryd.t54, by kernel_rfl, rfl, rfl, rfl⟩
theorem ty55 : Ty Tryd.prog 55 Tryd.t54.desc 5 (Go.Value.agg #[(Go.Value.bool false), (Go.Value.int Go.IntKind.i64 0), (Go.Value.int Go.IntKind.i64 0), (Go.Value.int Go.IntKind.i64 0), (Go.Value.int Go.IntKind.u64 0)]) 40 := ⟨by kernel_rfl, Tryd.t55, by kernel_rfl, rfl, rfl, rfl⟩
theorem ty56 : Ty Tryd.prog 56 Tryd.t56.desc 1 Go.Value.nilFunc 8 := ⟨by kernel_rfl, Tryd.t56, by kernel_rfl, rfl, rfl, rfl⟩
theorem ty57 : Ty Tryd.prog 57 (Go.TypeDesc.slice 62) 1 (Go.Value.slice Option.none 0 0) 24 := ⟨by kernel_rfl, Tryd.t57, by kernel_rfl, rfl, rfl, rfl⟩
theorem ty58 : Ty Tryd.prog 58 (Go.TypeDesc.array 18 55) 90 ((Tryd.t58.zero).getD undef) 720 := ⟨by kernel_rfl, Tryd.t58, by kernel_rfl, rfl, rfl, rfl⟩
theorem ty59 : Ty Tryd.prog 59 Tryd.t59.desc 90 ((Tryd.t59.zero).getD undef) 720 := ⟨by kernel_rfl, Tryd.t59, by kernel_rfl, rfl, rfl, rfl⟩
theorem ty60 : Ty Tryd.prog 60 Tryd.t59.desc 90 ((Tryd.t60.zero).getD undef) 720 := ⟨by kernel_rfl, Tryd.t60, by kernel_rfl, rfl, rfl, rfl⟩
theorem ty61 : Ty Tryd.prog 61 Tryd.t61.desc 7 (Go.Value.agg #[(Go.Value.bool false), (Go.Value.int Go.IntKind.i64 0), (Go.Value.bool false), (Go.Value.int Go.IntKind.i64 0), (Go.Value.int Go.IntKind.i64 0), (Go.Value.int Go.IntKind.i64 0), (Go.Value.int Go.IntKind.u64 0)]) 56 := ⟨by kernel_rfl, Tryd.t61, by kernel_rfl, rfl, rfl, rfl⟩
theorem ty62 : Ty Tryd.prog 62 Tryd.t61.desc 7 (Go.Value.agg #[(Go.Value.bool false), (Go.Value.int Go.IntKind.i64 0), (Go.Value.bool false), (Go.Value.int Go.IntKind.i64 0), (Go.Value.int Go.IntKind.i64 0), (Go.Value.int Go.IntKind.i64 0), (Go.Value.int Go.IntKind.u64 0)]) 56 := ⟨by kernel_rfl, Tryd.t62, by kernel_rfl, rfl, rfl, rfl⟩
theorem ty63 : Ty Tryd.prog 63 Tryd.t63.desc 1 Go.Value.nilFunc 8 := ⟨by kernel_rfl, Tryd.t63, by kernel_rfl, rfl, rfl, rfl⟩
theorem ty64 : Ty Tryd.prog 64 Tryd.t64.desc 1 Go.Value.nilFunc 8 := ⟨by kernel_rfl, Tryd.t64, by kernel_rfl, rfl, rfl, rfl⟩
theorem ty65 : Ty Tryd.prog 65 Tryd.t65.desc 1 Go.Value.nilFunc 8 := ⟨by kernel_rfl, Tryd.t65, by kernel_rfl, rfl, rfl, rfl⟩
theorem ty66 : Ty Tryd.prog 66 Tryd.t66.desc 1 Go.Value.nilFunc 8 := ⟨by kernel_rfl, Tryd.t66, by kernel_rfl, rfl, rfl, rfl⟩
theorem ty67 : Ty Tryd.prog 67 Tryd.t67.desc 1 (Go.Value.tuple #[(Go.Value.agg #[(Go.Value.bool false), (Go.Value.int Go.IntKind.i64 0), (Go.Value.int Go.IntKind.i64 0), (Go.Value.int Go.IntKind.i64 0), (Go.Value.int Go.IntKind.u64 0), (Go.Value.bool false), (Go.Value.int Go.IntKind.i64 0), (Go.Value.int Go.IntKind.i64 0), (Go.Value.int Go.IntKind.i64 0), (Go.Value.int Go.IntKind.u64 0), (Go.Value.bool false), (Go.Value.int Go.IntKind.i64 0), (Go.Value.int Go.IntKind.i64 0), (Go.Value.int Go.IntKind.i64 0), (Go.Value.int Go.IntKind.u64 0), (Go.Value.bool false), (Go.Value.int Go.IntKind.i64 0), (Go.Value.int Go.IntKind.i64 0), (Go.Value.int Go.IntKind.i64 0), (Go.Value.int Go.IntKind.u64 0), (Go.Value.bool false), (Go.Value.int Go.IntKind.i64 0), (Go.Value.int Go.IntKind.i64 0), (Go.Value.int Go.IntKind.i64 0), (Go.Value.int Go.IntKind.u64 0), (Go.Value.bool false), (Go.Value.int Go.IntKind.i64 0), (Go.Value.int Go.IntKind.i64 0), (Go.Value.int Go.IntKind.i64 0), (Go.Value.int Go.IntKind.u64 0), (Go.Value.bool false), (Go.Value.int Go.IntKind.i64 0), (Go.Value.int Go.IntKind.i64 0), (Go.Value.int Go.IntKind.i64 0), (Go.Value.int Go.IntKind.u64 0), (Go.Value.bool false), (Go.Value.int Go.IntKind.i64 0), (Go.Value.int Go.IntKind.i64 0), (Go.Value.int Go.IntKind.i64 0), (Go.Value.int Go.IntKind.u64 0), (Go.Value.bool false), (Go.Value.int Go.IntKind.i64 0), (Go.Value.int Go.IntKind.i64 0), (Go.Value.int Go.IntKind.i64 0), (Go.Value.int Go.IntKind.u64 0), (Go.Value.bool false), (Go.Value.int Go.IntKind.i64 0), (Go.Value.int Go.IntKind.i64 0), (Go.Value.int Go.IntKind.i64 0), (Go.Value.int Go.IntKind.u64 0), (Go.Value.bool false), (Go.Value.int Go.IntKind.i64 0), (Go.Value.int Go.IntKind.i64 0), (Go.Value.int Go.IntKind.i64 0), (Go.Value.int Go.IntKind.u64 0), (Go.Value.bool false), (Go.Value.int Go.IntKind.i64 0), (Go.Value.int Go.IntKind.i64 0), (Go.Value.int Go.IntKind.i64 0), (Go.Value.int Go.IntKind.u64 0), (Go.Value.bool false), (Go.Value.int Go.IntKind.i64 0), (Go.Value.int Go.IntKind.i64 0), (Go.Value.int Go.IntKind.i64 0), (Go.Value.int Go.IntKind.u64 0), (Go.Value.bool false), (Go.Value.int Go.IntKind.i64 0), (Go.Value.int Go.IntKind.i64 0), (Go.Value.int Go.IntKind.i64 0), (Go.Value.int Go.IntKind.u64 0), (Go.Value.bool false), (Go.Value.int Go.IntKind.i64 0), (Go.Value.int Go.IntKind.i64 0), (Go.Value.int Go.IntKind.i64 0), (Go.Value.int Go.IntKind.u64 0), (Go.Value.bool false), (Go.Value.int Go.IntKind.i64 0), (Go.Value.int Go.IntKind.i64 0), (Go.Value.int Go.IntKind.i64 0), (Go.Value.int Go.IntKind.u64 0), (Go.Value.bool false), (Go.Value.int Go.IntKind.i64 0), (Go.Value.int Go.IntKind.i64 0), (Go.Value.int Go.IntKind.i64 0), (Go.Value.int Go.IntKind.u64 0), (Go.Value.bool false), (Go.Value.int Go.IntKind.i64 0), (Go.Value.int Go.IntKind.i64 0), (Go.Value.int Go.IntKind.i64 0), (Go.Value.int Go.IntKind.u64 0)]), (Go.Value.int Go.IntKind.i64 0)]) 0 := ⟨by kernel_rfl, Tryd.t67, by kernel_rfl, rfl, rfl, rfl⟩
theorem ty68 : Ty Tryd.prog 68 Tryd.t68.desc 1 Go.Value.nilFunc 8 := ⟨by kernel_rfl, Tryd.t68, by kernel_rfl, rfl, rfl, rfl⟩
theorem ty69 : Ty Tryd.prog 69 Tryd.t69.desc 1 Go.Value.nilFunc 8 := ⟨by kernel_rfl, Tryd.t69, by kernel_rfl, rfl, rfl, rfl⟩
theorem ty70 : Ty Tryd.prog 70 Tryd.t70.desc 1 (Go.Value.tuple #[(Go.Value.slice Option.none 0 0), (Go.Value.int Go.IntKind.i64 0)]) 0 := ⟨by kernel_rfl, Tryd.t70, by kernel_rfl, rfl, rfl, rfl⟩
theorem ty71 : Ty Tryd.prog 71 Tryd.t71.desc 1 Go.Value.nilFunc 8 := ⟨by kernel_rfl, Tryd.t71, by kernel_rfl, rfl, rfl, rfl⟩
theorem ty72 : Ty Tryd.prog 72 Tryd.t72.desc 1 (Go.Value.tuple #[(Go.Value.slice Option.none 0 0), (Go.Value.int Go.IntKind.i64 0)]) 0 := ⟨by kernel_rfl, Tryd.t72, by kernel_rfl, rfl, rfl, rfl⟩
theorem ty73 : Ty Tryd.prog 73 Tryd.t73.desc 1 Go.Value.nilFunc 8 := ⟨by kernel_rfl, Tryd.t73, by kernel_rfl, rfl, rfl, rfl⟩
theorem ty74 : Ty Tryd.prog 74 Tryd.t74.desc 1 Go.Value.nilFunc 8 := ⟨by kernel_rfl, Tryd.t74, by kernel_rfl, rfl, rfl, rfl⟩
theorem ty75 : Ty Tryd.prog 75 Tryd.t75.desc 1 Go.Value.nilFunc 8 := ⟨by kernel_rfl, Tryd.t75, by kernel_rfl, rfl, rfl, rfl⟩
theorem ty76 : Ty Tryd.prog 76 Tryd.t76.desc 1 (Go.Value.tuple #[(Go.Value.bool false), (Go.Value.int Go.IntKind.i64 0)]) 0 := ⟨by kernel_rfl, Tryd.t76, by kernel_rfl, rfl, rfl, rfl⟩
theorem ty77 : Ty Tryd.prog 77 Tryd.t77.desc 1 Go.Value.nilFunc 8 := ⟨by kernel_rfl, Tryd.t77, by kernel_rfl, rfl, rfl, rfl⟩
theorem ty78 : Ty Tryd.prog 78 (Go.TypeDesc.array 5 50) 25 (Go.Value.agg #[(Go.Value.bool false), (Go.Value.int Go.IntKind.i64 0), (Go.Value.int Go.IntKind.i64 0), (Go.Value.int Go.IntKind.i64 0), (Go.Value.int Go.IntKind.u64 0), (Go.Value.bool false), (Go.Value.int Go.IntKind.i64 0), (Go.Value.int Go.IntKind.i64 0), (Go.Value.int Go.IntKind.i64 0), (Go.Value.int Go.IntKind.u64 0), (Go.Value.bool false), (Go.Value.int Go.IntKind.i64 0), (Go.Value.int Go.IntKind.i64 0), (Go.Value.int Go.IntKind.i64 0), (Go.Value.int Go.IntKind.u64 0), (Go.Value.bool false), (Go.Value.int Go.IntKind.i64 0), (Go.Value.int Go.IntKind.i64 0), (Go.Value.int Go.IntKind.i64 0), (Go.Value.int Go.IntKind.u64 0), (Go.Value.bool false), (Go.Value.int Go.IntKind.i64 0), (Go.Value.int Go.IntKind.i64 0), (Go.Value.int Go.IntKind.i64 0), (Go.Value.int Go.IntKind.u64 0)]) 200 := ⟨by kernel_rfl, Tryd.t78, by kernel_rfl, rfl, rfl, rfl⟩
theorem ty79 : Ty Tryd.prog 79 Tryd.t79.desc 1 Go.Value.nilFunc 8 := ⟨by kernel_rfl, Tryd.t79, by kernel_rfl, rfl, rfl, rfl⟩
theorem ty80 : Ty Tryd.prog 80 Tryd.t80.desc 1 Go.Value.nilFunc 8 := ⟨by kernel_rfl, Tryd.t80, by kernel_rfl, rfl, rfl, rfl⟩
theorem ty81 : Ty Tryd.prog 81 (Go.TypeDesc.slice 44) 1 (Go.Value.slice Option.none 0 0) 24 := ⟨by kernel_rfl, Tryd.t81, by kernel_rfl, rfl, rfl, rfl⟩
theorem ty82 : Ty Tryd.prog 82 Tryd.t82.desc 1 Go.Value.nilFunc 8 := ⟨by kernel_rfl, Tryd.t82, by kernel_rfl, rfl, rfl, rfl⟩
theorem ty83 : Ty Tryd.prog 83 Tryd.t83.desc 2 (Go.Value.agg #[(Go.Value.slice Option.none 0 0), (Go.Value.bool false)]) 32 := ⟨by kernel_rfl, Tryd.t83, by kernel_rfl, rfl, rfl, rfl⟩
theorem ty84 : Ty Tryd.prog 84 Tryd.t83.desc 2 (Go.Value.agg #[(Go.Value.slice Option.none 0 0), (Go.Value.bool false)]) 32 := ⟨by kernel_rfl, Tryd.t84, by kernel_rfl, rfl, rfl, rfl⟩
theorem ty85 : Ty Tryd.prog 85 (Go.TypeDesc.pointer 144) 1 (Go.Value.pointer Option.none) 8 := ⟨by kernel_rfl, Tryd.t85, by kernel_rfl, rfl, rfl, rfl⟩
theorem ty86 : Ty Tryd.prog 86 Tryd.t86.desc 1 (Go.Value.tuple #[(Go.Value.pointer Option.none), (Go.Value.int Go.IntKind.i64 0)]) 0 := ⟨by kernel_rfl, Tryd.t86, by kernel_rfl, rfl, rfl, rfl⟩
theorem ty87 : Ty Tryd.prog 87 Tryd.t87.desc 1 Go.Value.nilFunc 8 := ⟨by kernel_rfl, Tryd.t87, by kernel_rfl, rfl, rfl, rfl⟩
theorem ty88 : Ty Tryd.prog 88 Tryd.t88.desc 1 (Go.Value.tuple #[(Go.Value.int Go.IntKind.i64 0), (Go.Value.int Go.IntKind.i64 0)]) 0 := ⟨by kernel_rfl, Tryd.t88, by kernel_rfl, rfl, rfl, rfl⟩
theorem ty89 : Ty Tryd.prog 89 Tryd.t89.desc 1 Go.Value.nilFunc 8 := ⟨by kernel_rfl, Tryd.t89, by kernel_rfl, rfl, rfl, rfl⟩
theorem ty90 : Ty Tryd.prog 90 Tryd.t90.desc 34 (Go.Value.agg #[(Go.Value.int Go.IntKind.i64 0), (Go.Value.int Go.IntKind.i64 0), (Go.Value.int Go.IntKind.i64 0), (Go.Value.bool false), (Go.Value.int Go.IntKind.i64 0), (Go.Value.int Go.IntKind.i64 0), (Go.Value.int Go.IntKind.i64 0), (Go.Value.int Go.IntKind.u64 0), (Go.Value.bool false), (Go.Value.int Go.IntKind.i64 0), (Go.Value.int Go.IntKind.i64 0), (Go.Value.int Go.IntKind.i64 0), (Go.Value.int Go.IntKind.u64 0), (Go.Value.bool false), (Go.Value.int Go.IntKind.i64 0), (Go.Value.int Go.IntKind.i64 0), (Go.Value.int Go.IntKind.i64 0), (Go.Value.int Go.IntKind.u64 0), (Go.Value.bool false), (Go.Value.int Go.IntKind.i64 0), (Go.Value.int Go.IntKind.i64 0), (Go.Value.int Go.IntKind.i64 0), (Go.Value.int Go.IntKind.u64 0), (Go.Value.bool false), (Go.Value.int Go.IntKind.i64 0), (Go.Value.int Go.IntKind.i64 0), (Go.Value.int Go.IntKind.i64 0), (Go.Value.int Go.IntKind.u64 0), (Go.Value.bool false), (Go.Value.int Go.IntKind.i64 0), (Go.Value.int Go.IntKind.i64 0), (Go.Value.int Go.IntKind.i64 0), (Go.Value.int Go.IntKind.u64 0), (Go.Value.int Go.IntKind.u64 0)]) 272 := ⟨by kernel_rfl, Tryd.t90, by kernel_rfl, rfl, rfl, rfl⟩
theorem ty91 : Ty Tryd.prog 91 Tryd.t90.desc 34 (Go.Value.agg #[(Go.Value.int Go.IntKind.i64 0), (Go.Value.int Go.IntKind.i64 0), (Go.Value.int Go.IntKind.i64 0), (Go.Value.bool false), (Go.Value.int Go.IntKind.i64 0), (Go.Value.int Go.IntKind.i64 0), (Go.Value.int Go.IntKind.i64 0), (Go.Value.int Go.IntKind.u64 0), (Go.Value.bool false), (Go.Value.int Go.IntKind.i64 0), (Go.Value.int Go.IntKind.i64 0), (Go.Value.int Go.IntKind.i64 0), (Go.Value.int Go.IntKind.u64 0), (Go.Value.bool false), (Go.Value.int Go.IntKind.i64 0), (Go.Value.int Go.IntKind.i64 0), (Go.Value.int Go.IntKind.i64 0), (Go.Value.int Go.IntKind.u64 0), (Go.Value.bool false), (Go.Value.int Go.IntKind.i64 0), (Go.Value.int Go.IntKind.i64 0), (Go.Value.int Go.IntKind.i64 0), (Go.Value.int Go.IntKind.u64 0), (Go.Value.bool false), (Go.Value.int Go.IntKind.i64 0), (Go.Value.int Go.IntKind.i64 0), (Go.Value.int Go.IntKind.i64 0), (Go.Value.int Go.IntKind.u64 0), (Go.Value.bool false), (Go.Value.int Go.IntKind.i64 0), (Go.Value.int Go.IntKind.i64 0), (Go.Value.int Go.IntKind.i64 0), (Go.Value.int Go.IntKind.u64 0), (Go.Value.int Go.IntKind.u64 0)]) 272 := ⟨by kernel_rfl, Tryd.t91, by kernel_rfl, rfl, rfl, rfl⟩
theorem ty92 : Ty Tryd.prog 92 Tryd.t92.desc 1 Go.Value.nilFunc 8 := ⟨by kernel_rfl, Tryd.t92, by kernel_rfl, rfl, rfl, rfl⟩
theorem ty93 : Ty Tryd.prog 93 Tryd.t93.desc 1 Go.Value.nilFunc 8 := ⟨by kernel_rfl, Tryd.t93, by kernel_rfl, rfl, rfl, rfl⟩
theorem ty94 : Ty Tryd.prog 94 Tryd.t94.desc 1 Go.Value.nilFunc 8 := ⟨by kernel_rfl, Tryd.t94, by kernel_rfl, rfl, rfl, rfl⟩
theorem ty95 : Ty Tryd.prog 95 Tryd.t95.desc 1 Go.Value.nilFunc 8 := ⟨by kernel_rfl, Tryd.t95, by kernel_rfl, rfl, rfl, rfl⟩
theorem ty96 : Ty Tryd.prog 96 Tryd.t96.desc 1 Go.Value.nilFunc 8 := ⟨by kernel_rfl, Tryd.t96, by kernel_rfl, rfl, rfl, rfl⟩
theorem ty97 : Ty Tryd.prog 97 Tryd.t97.desc 1 Go.Value.nilFunc 8 := ⟨by kernel_rfl, Tryd.t97, by kernel_rfl, rfl, rfl, rfl⟩
theorem ty98 : Ty Tryd.prog 98 Tryd.t98.desc 1 Go.Value.nilFunc 8 := ⟨by kernel_rfl, Tryd.t98, by kernel_rfl, rfl, rfl, rfl⟩
theorem ty99 : Ty Tryd.prog 99 Tryd.t99.desc 1 Go.Value.nilFunc 8 := ⟨by kernel_rfl, Tryd.t99, by kernel_rfl, rfl, rfl, rfl⟩
theorem ty100 : Ty Tryd.prog 100 (Go.TypeDesc.array 5 55) 25 (Go.Value.agg #[(Go.Value.bool false), (Go.Value.int Go.IntKind.i64 0), (Go.Value.int Go.IntKind.i64 0), (Go.Value.int Go.IntKind.i64 0), (Go.Value.int Go.IntKind.u64 0), (Go.Value.bool false), (Go.Value.int Go.IntKind.i64 0), (Go.Value.int Go.IntKind.i64 0), (Go.Value.int Go.IntKind.i64 0), (Go.Value.int Go.IntKind.u64 0), (Go.Value.bool false), (Go.Value.int Go.IntKind.i64 0), (Go.Value.int Go.IntKind.i64 0), (Go.Value.int Go.IntKind.i64 0), (Go.Value.int Go.IntKind.u64 0), (Go.Value.bool false), (Go.Value.int Go.IntKind.i64 0), (Go.Value.int Go.IntKind.i64 0), (Go.Value.int Go.IntKind.i64 0), (Go.Value.int Go.IntKind.u64 0), (Go.Value.bool false), (Go.Value.int Go.IntKind.i64 0), (Go.Value.int Go.IntKind.i64 0), (Go.Value.int Go.IntKind.i64 0), (Go.Value.int Go.IntKind.u64 0)]) 200 := ⟨by kernel_rfl, Tryd.t100, by kernel_rfl, rfl, rfl, rfl⟩
theorem ty101 : Ty Tryd.prog 101 Tryd.t101.desc 34 (Go.Value.agg #[(Go.Value.int Go.IntKind.i64 0), (Go.Value.int Go.IntKind.i64 0), (Go.Value.int Go.IntKind.i64 0), (Go.Value.bool false), (Go.Value.int Go.IntKind.i64 0), (Go.Value.int Go.IntKind.i64 0), (Go.Value.int Go.IntKind.i64 0), (Go.Value.int Go.IntKind.u64 0), (Go.Value.bool false), (Go.Value.int Go.IntKind.i64 0), (Go.Value.int Go.IntKind.i64 0), (Go.Value.int Go.IntKind.i64 0), (Go.Value.int Go.IntKind.u64 0), (Go.Value.bool false), (Go.Value.int Go.IntKind.i64 0), (Go.Value.int Go.IntKind.i64 0), (Go.Value.int Go.IntKind.i64 0), (Go.Value.int Go.IntKind.u64 0), (Go.Value.bool false), (Go.Value.int Go.IntKind.i64 0), (Go.Value.int Go.IntKind.i64 0), (Go.Value.int Go.IntKind.i64 0), (Go.Value.int Go.IntKind.u64 0), (Go.Value.bool false), (Go.Value.int Go.IntKind.i64 0), (Go.Value.int Go.IntKind.i64 0), (Go.Value.int Go.IntKind.i64 0), (Go.Value.int Go.IntKind.u64 0), (Go.Value.bool false), (Go.Value.int Go.IntKind.i64 0), (Go.Value.int Go.IntKind.i64 0), (Go.Value.int Go.IntKind.i64 0), (Go.Value.int Go.IntKind.u64 0), (Go.Value.int Go.IntKind.u64 0)]) 272 := ⟨by kernel_rfl, Tryd.t101, by kernel_rfl, rfl, rfl, rfl⟩
theorem ty102 : Ty Tryd.prog 102 Tryd.t101.desc 34 (Go.Value.agg #[(Go.Value.int Go.IntKind.i64 0), (Go.Value.int Go.IntKind.i64 0), (Go.Value.int Go.IntKind.i64 0), (Go.Value.bool false), (Go.Value.int Go.IntKind.i64 0), (Go.Value.int Go.IntKind.i64 0), (Go.Value.int Go.IntKind.i64 0), (Go.Value.int Go.IntKind.u64 0), (Go.Value.bool false), (Go.Value.int Go.IntKind.i64 0), (Go.Value.int Go.IntKind.i64 0), (Go.Value.int Go.IntKind.i64 0), (Go.Value.int Go.IntKind.u64 0), (Go.Value.bool false), (Go.Value.int Go.IntKind.i64 0), (Go.Value.int Go.IntKind.i64 0), (Go.Value.int Go.IntKind.i64 0), (Go.Value.int Go.IntKind.u64 0), (Go.Value.bool false), (Go.Value.int Go.IntKind.i64 0), (Go.Value.int Go.IntKind.i64 0), (Go.Value.int Go.IntKind.i64 0), (Go.Value.int Go.IntKind.u64 0), (Go.Value.bool false), (Go.Value.int Go.IntKind.i64 0), (Go.Value.int Go.IntKind.i64 0), (Go.Value.int Go.IntKind.i64 0), (Go.Value.int Go.IntKind.u64 0), (Go.Value.bool false), (Go.Value.int Go.IntKind.i64 0), (Go.Value.int Go.IntKind.i64 0), (Go.Value.int Go.IntKind.i64 0), (Go.Value.int Go.IntKind.u64 0), (Go.Value.int Go.IntKind.u64 0)]) 272 := ⟨by kernel_rfl, Tryd.t102, by kernel_rfl, rfl, rfl, rfl⟩
theorem ty103 : Ty Tryd.prog 103 Tryd.t103.desc 131 ((Tryd.t103.zero).getD undef) 1056 := ⟨by kernel_rfl, Tryd.t103, by kernel_rfl, rfl, rfl, rfl⟩
theorem ty104 : Ty Tryd.prog 104 Tryd.t103.desc 131 ((Tryd.t104.zero).getD undef) 1056 := ⟨by kernel_rfl, Tryd.t104, by kernel_rfl, rfl, rfl, rfl⟩
theorem ty105 : Ty Tryd.prog 105 Tryd.t105.desc 1 Go.Value.nilFunc 8 := ⟨by kernel_rfl, Tryd.t105, by kernel_rfl, rfl, rfl, rfl⟩
theorem ty106 : Ty Tryd.prog 106 Tryd.t106.desc 1 Go.Value.nilFunc 8 := ⟨by kernel_rfl, Tryd.t106, by kernel_rfl, rfl, rfl, rfl⟩
theorem ty107 : Ty Tryd.prog 107 Tryd.t107.desc 1 Go.Value.nilFunc 8 := ⟨by kernel_rfl, Tryd.t107, by kernel_rfl, rfl, rfl, rfl⟩
theorem ty108 : Ty Tryd.prog 108 (Go.TypeDesc.slice 9) 1 (Go.Value.slice Option.none 0 0) 24 := ⟨by kernel_rfl, Tryd.t108, by kernel_rfl, rfl, rfl, rfl⟩
theorem ty109 : Ty Tryd.prog 109 Tryd.t109.desc 1 Go.Value.nilFunc 8 := ⟨by kernel_rfl, Tryd.t109, by kernel_rfl, rfl, rfl, rfl⟩
theorem ty110 : Ty Tryd.prog 110 Tryd.t110.desc 1 Go.Value.nilFunc 8 := ⟨by kernel_rfl, Tryd.t110, by kernel_rfl, rfl, rfl, rfl⟩
theorem ty111 : Ty Tryd.prog 111 (Go.TypeDesc.slice 114) 1 (Go.Value.slice Option.none 0 0) 24 := ⟨by kernel_rfl, Tryd.t111, by kernel_rfl, rfl, rfl, rfl⟩
theorem ty112 : Ty Tryd.prog 112 Tryd.t112.desc 1 Go.Value.nilFunc 8 := ⟨by kernel_rfl, Tryd.t112, by kernel_rfl, rfl, rfl, rfl⟩
theorem ty113 : Ty Tryd.prog 113 Tryd.t113.desc 9 (Go.Value.agg #[(Go.Value.int Go.IntKind.i64 0), (Go.Value.int Go.IntKind.i64 0), (Go.Value.int Go.IntKind.i64 0), (Go.Value.int Go.IntKind.i64 0), (Go.Value.int Go.IntKind.i64 0), (Go.Value.int Go.IntKind.u64 0), (Go.Value.int Go.IntKind.u64 0), (Go.Value.slice Option.none 0 0), (Go.Value.int Go.IntKind.i64 0)]) 88 := ⟨by kernel_rfl, Tryd.t113, by kernel_rfl, rfl, rfl, rfl⟩
theorem ty114 : Ty Tryd.prog 114 Tryd.t113.desc 9 (Go.Value.agg #[(Go.Value.int Go.IntKind.i64 0), (Go.Value.int Go.IntKind.i64 0), (Go.Value.int Go.IntKind.i64 0), (Go.Value.int Go.IntKind.i64 0), (Go.Value.int Go.IntKind.i64 0), (Go.Value.int Go.IntKind.u64 0), (Go.Value.int Go.IntKind.u64 0), (Go.Value.slice Option.none 0 0), (Go.Value.int Go.IntKind.i64 0)]) 88 := ⟨by kernel_rfl, Tryd.t114, by kernel_rfl, rfl, rfl, rfl⟩
theorem ty115 : Ty Tryd.prog 115 (Go.TypeDesc.array 5 3) 5 (Go.Value.agg #[(Go.Value.int Go.IntKind.i64 0), (Go.Value.int Go.IntKind.i64 0), (Go.Value.int Go.IntKind.i64 0), (Go.Value.int Go.IntKind.i64 0), (Go.Value.int Go.IntKind.i64 0)]) 40 := ⟨by kernel_rfl, Tryd.t115, by kernel_rfl, rfl, rfl, rfl⟩
theorem ty116 : Ty Tryd.prog 116 (Go.TypeDesc.array 5 3) 5 (Go.Value.agg #[(Go.Value.int Go.IntKind.i64 0), (Go.Value.int Go.IntKind.i64 0), (Go.Value.int Go.IntKind.i64 0), (Go.Value.int Go.IntKind.i64 0), (Go.Value.int Go.IntKind.i64 0)]) 40 := ⟨by kernel_rfl, Tryd.t116, by kernel_rfl, rfl, rfl, rfl⟩
theorem ty117 : Ty Tryd.prog 117 Tryd.t117.desc 2 (Go.Value.agg #[(Go.Value.int Go.IntKind.i64 0), (Go.Value.int Go.IntKind.i64 0)]) 16 := ⟨by kernel_rfl, Tryd.t117, by kernel_rfl, rfl, rfl, rfl⟩
theorem ty118 : Ty Tryd.prog 118 Tryd.t117.desc 2 (Go.Value.agg #[(Go.Value.int Go.IntKind.i64 0), (Go.Value.int Go.IntKind.i64 0)]) 16 := ⟨by kernel_rfl, Tryd.t118, by kernel_rfl, rfl, rfl, rfl⟩
theorem ty119 : Ty Tryd.prog 119 (Go.TypeDesc.array 3 118) 6 (Go.Value.agg #[(Go.Value.int Go.IntKind.i64 0), (Go.Value.int Go.IntKind.i64 0), (Go.Value.int Go.IntKind.i64 0), (Go.Value.int Go.IntKind.i64 0), (Go.Value.int Go.IntKind.i64 0), (Go.Value.int Go.IntKind.i64 0)]) 48 := ⟨by kernel_rfl, Tryd.t119, by kernel_rfl, rfl, rfl, rfl⟩
theorem ty120 : Ty Tryd.prog 120 Tryd.t120.desc 1 (Go.Value.tuple #[(Go.Value.agg #[(Go.Value.int Go.IntKind.i64 0), (Go.Value.int Go.IntKind.i64 0), (Go.Value.int Go.IntKind.i64 0), (Go.Value.int Go.IntKind.i64 0), (Go.Value.int Go.IntKind.i64 0)]), (Go.Value.agg #[(Go.Value.int Go.IntKind.i64 0), (Go.Value.int Go.IntKind.i64 0), (Go.Value.int Go.IntKind.i64 0), (Go.Value.int Go.IntKind.i64 0), (Go.Value.int Go.IntKind.i64 0), (Go.Value.int Go.IntKind.i64 0)])]) 0 := ⟨by kernel_rfl, Tryd.t120, by kernel_rfl, rfl, rfl, rfl⟩
theorem ty121 : Ty Tryd.prog 121 Tryd.t121.desc 1 Go.Value.nilFunc 8 := ⟨by kernel_rfl, Tryd.t121, by kernel_rfl, rfl, rfl, rfl⟩
theorem ty122 : Ty Tryd.prog 122 (Go.TypeDesc.array 5 22) 5 (Go.Value.agg #[(Go.Value.int Go.IntKind.u64 0), (Go.Value.int Go.IntKind.u64 0), (Go.Value.int Go.IntKind.u64 0), (Go.Value.int Go.IntKind.u64 0), (Go.Value.int Go.IntKind.u64 0)]) 40 := ⟨by kernel_rfl, Tryd.t122, by kernel_rfl, rfl, rfl, rfl⟩
theorem ty123 : Ty Tryd.prog 123 Tryd.t123.desc 1 Go.Value.nilFunc 8 := ⟨by kernel_rfl, Tryd.t123, by kernel_rfl, rfl, rfl, rfl⟩
theorem ty124 : Ty Tryd.prog 124 (Go.TypeDesc.array 3 3) 3 (Go.Value.agg #[(Go.Value.int Go.IntKind.i64 0), (Go.Value.int Go.IntKind.i64 0), (Go.Value.int Go.IntKind.i64 0)]) 24 := ⟨by kernel_rfl, Tryd.t124, by kernel_rfl, rfl, rfl, rfl⟩
theorem ty125 : Ty Tryd.prog 125 Tryd.t125.desc 1 Go.Value.nilFunc 8 := ⟨by kernel_rfl, Tryd.t125, by kernel_rfl, rfl, rfl, rfl⟩
theorem ty126 : Ty Tryd.prog 126 Tryd.t126.desc 1 Go.Value.nilFunc 8 := ⟨by kernel_rfl, Tryd.t126, by kernel_rfl, rfl, rfl, rfl⟩
theorem ty127 : Ty Tryd.prog 127 (Go.TypeDesc.array 10 50) 50 (Go.Value.agg #[(Go.Value.bool false), (Go.Value.int Go.IntKind.i64 0), (Go.Value.int Go.IntKind.i64 0), (Go.Value.int Go.IntKind.i64 0), (Go.Value.int Go.IntKind.u64 0), (Go.Value.bool false), (Go.Value.int Go.IntKind.i64 0), (Go.Value.int Go.IntKind.i64 0), (Go.Value.int Go.IntKind.i64 0), (Go.Value.int Go.IntKind.u64 0), (Go.Value.bool false), (Go.Value.int Go.IntKind.i64 0), (Go.Value.int Go.IntKind.i64 0), (Go.Value.int Go.IntKind.i64 0), (Go.Value.int Go.IntKind.u64 0), (Go.Value.bool false), (Go.Value.int Go.IntKind.i64 0), (Go.Value.int Go.IntKind.i64 0), (Go.Value.int Go.IntKind.i64 0), (Go.Value.int Go.IntKind.u64 0), (Go.Value.bool false), (Go.Value.int Go.IntKind.i64 0), (Go.Value.int Go.IntKind.i64 0), (Go.Value.int Go.IntKind.i64 0), (Go.Value.int Go.IntKind.u64 0), (Go.Value.bool false), (Go.Value.int Go.IntKind.i64 0), (Go.Value.int Go.IntKind.i64 0), (Go.Value.int Go.IntKind.i64 0), (Go.Value.int Go.IntKind.u64 0), (Go.Value.bool false), (Go.Value.int Go.IntKind.i64 0), (Go.Value.int Go.IntKind.i64 0), (Go.Value.int Go.IntKind.i64 0), (Go.Value.int Go.IntKind.u64 0), (Go.Value.bool false), (Go.Value.int Go.IntKind.i64 0), (Go.Value.int Go.IntKind.i64 0), (Go.Value.int Go.IntKind.i64 0), (Go.Value.int Go.IntKind.u64 0), (Go.Value.bool false), (Go.Value.int Go.IntKind.i64 0), (Go.Value.int Go.IntKind.i64 0), (Go.Value.int Go.IntKind.i64 0), (Go.Value.int Go.IntKind.u64 0), (Go.Value.bool false), (Go.Value.int Go.IntKind.i64 0), (Go.Value.int Go.IntKind.i64 0), (Go.Value.int Go.IntKind.i64 0), (Go.Value.int Go.IntKind.u64 0)]) 400 := ⟨by kernel_rfl, Tryd.t127, by kernel_rfl, rfl, rfl, rfl⟩
theorem ty128 : Ty Tryd.prog 128 (Go.TypeDesc.array 8 50) 40 (Go.Value.agg #[(Go.Value.bool false), (Go.Value.int Go.IntKind.i64 0), (Go.Value.int Go.IntKind.i64 0), (Go.Value.int Go.IntKind.i64 0), (Go.Value.int Go.IntKind.u64 0), (Go.Value.bool false), (Go.Value.int Go.IntKind.i64 0), (Go.Value.int Go.IntKind.i64 0), (Go.Value.int Go.IntKind.i64 0), (Go.Value.int Go.IntKind.u64 0), (Go.Value.bool false), (Go.Value.int Go.IntKind.i64 0), (Go.Value.int Go.IntKind.i64 0), (Go.Value.int Go.IntKind.i64 0), (Go.Value.int Go.IntKind.u64 0), (Go.Value.bool false), (Go.Value.int Go.IntKind.i64 0), (Go.Value.int Go.IntKind.i64 0), (Go.Value.int Go.IntKind.i64 0), (Go.Value.int Go.IntKind.u64 0), (Go.Value.bool false), (Go.Value.int Go.IntKind.i64 0), (Go.Value.int Go.IntKind.i64 0), (Go.Value.int Go.IntKind.i64 0), (Go.Value.int Go.IntKind.u64 0), (Go.Value.bool false), (Go.Value.int Go.IntKind.i64 0), (Go.Value.int Go.IntKind.i64 0), (Go.Value.int Go.IntKind.i64 0), (Go.Value.int Go.IntKind.u64 0), (Go.Value.bool false), (Go.Value.int Go.IntKind.i64 0), (Go.Value.int Go.IntKind.i64 0), (Go.Value.int Go.IntKind.i64 0), (Go.Value.int Go.IntKind.u64 0), (Go.Value.bool false), (Go.Value.int Go.IntKind.i64 0), (Go.Value.int Go.IntKind.i64 0), (Go.Value.int Go.IntKind.i64 0), (Go.Value.int Go.IntKind.u64 0)]) 320 := ⟨by kernel_rfl, Tryd.t128, by kernel_rfl, rfl, rfl, rfl⟩
theorem ty129 : Ty Tryd.prog 129 Tryd.t129.desc 90 ((Tryd.t129.zero).getD undef) 720 := ⟨by kernel_rfl, Tryd.t129, by kernel_rfl, rfl, rfl, rfl⟩
theorem ty130 : Ty Tryd.prog 130 Tryd.t129.desc 90 ((Tryd.t130.zero).getD undef) 720 := ⟨by kernel_rfl, Tryd.t130, by kernel_rfl, rfl, rfl, rfl⟩
theorem ty131 : Ty Tryd.prog 131 Tryd.t131.desc 1 Go.Value.nilFunc 8 := ⟨by kernel_rfl, Tryd.t131, by kernel_rfl, rfl, rfl, rfl⟩
theorem ty132 : Ty Tryd.prog 132 Tryd.t132.desc 1 Go.Value.nilFunc 8 := ⟨by kernel_rfl, Tryd.t132, by kernel_rfl, rfl, rfl, rfl⟩
theorem ty133 : Ty Tryd.prog 133 Tryd.t133.desc 1 Go.Value.nilFunc 8 := ⟨by kernel_rfl, Tryd.t133, by kernel_rfl, rfl, rfl, rfl⟩
theorem ty134 : Ty Tryd.prog 134 Tryd.t134.desc 1 Go.Value.nilFunc 8 := ⟨by kernel_rfl, Tryd.t134, by kernel_rfl, rfl, rfl, rfl⟩
theorem ty135 : Ty Tryd.prog 135 Tryd.t135.desc 1 Go.Value.nilFunc 8 := ⟨by kernel_rfl, Tryd.t135, by kernel_rfl, rfl, rfl, rfl⟩
theorem ty136 : Ty Tryd.prog 136 Tryd.t136.desc 1 Go.Value.nilFunc 8 := ⟨by kernel_rfl, Tryd.t136, by kernel_rfl, rfl, rfl, rfl⟩
theorem ty137 : Ty Tryd.prog 137 Tryd.t137.desc 1 (Go.Value.tuple #[(Go.Value.slice Option.none 0 0), (Go.Value.int Go.IntKind.i64 0)]) 0 := ⟨by kernel_rfl, Tryd.t137, by kernel_rfl, rfl, rfl, rfl⟩
theorem ty138 : Ty Tryd.prog 138 Tryd.t138.desc 1 Go.Value.nilFunc 8 := ⟨by kernel_rfl, Tryd.t138, by kernel_rfl, rfl, rfl, rfl⟩
theorem ty139 : Ty Tryd.prog 139 Tryd.t139.desc 1 (Go.Value.tuple #[(Go.Value.agg #[(Go.Value.bool false), (Go.Value.int Go.IntKind.i64 0), (Go.Value.int Go.IntKind.i64 0), (Go.Value.int Go.IntKind.i64 0), (Go.Value.int Go.IntKind.u64 0)]), (Go.Value.agg #[(Go.Value.bool false), (Go.Value.int Go.IntKind.i64 0), (Go.Value.int Go.IntKind.i64 0), (Go.Value.int Go.IntKind.i64 0), (Go.Value.int Go.IntKind.u64 0)])]) 0 := ⟨by kernel_rfl, Tryd.t139, by kernel_rfl, rfl, rfl, rfl⟩
theorem ty140 : Ty Tryd.prog 140 Tryd.t140.desc 1 Go.Value.nilFunc 8 := ⟨by kernel_rfl, Tryd.t140, by kernel_rfl, rfl, rfl, rfl⟩
theorem ty141 : Ty Tryd.prog 141 Tryd.t141.desc 1 Go.Value.nilFunc 8 := ⟨by kernel_rfl, Tryd.t141, by kernel_rfl, rfl, rfl, rfl⟩
theorem ty142 : Ty Tryd.prog 142 Tryd.t142.desc 1 Go.Value.nilFunc 8 := ⟨by kernel_rfl, Tryd.t142, by kernel_rfl, rfl, rfl, rfl⟩
theorem ty143 : Ty Tryd.prog 143 Tryd.t143.desc 42 (Go.Value.agg #[(Go.Value.pointer Option.none), (Go.Value.slice Option.none 0 0), (Go.Value.int Go.IntKind.i64 0), (Go.Value.int Go.IntKind.i64 0), (Go.Value.bool false), (Go.Value.bool false), (Go.Value.int Go.IntKind.i64 0), (Go.Value.int Go.IntKind.i64 0), (Go.Value.int Go.IntKind.i64 0), (Go.Value.bool false), (Go.Value.int Go.IntKind.i64 0), (Go.Value.int Go.IntKind.i64 0), (Go.Value.int Go.IntKind.i64 0), (Go.Value.int Go.IntKind.u64 0), (Go.Value.bool false), (Go.Value.int Go.IntKind.i64 0), (Go.Value.int Go.IntKind.i64 0), (Go.Value.int Go.IntKind.i64 0), (Go.Value.int Go.IntKind.u64 0), (Go.Value.bool false), (Go.Value.int Go.IntKind.i64 0), (Go.Value.int Go.IntKind.i64 0), (Go.Value.int Go.IntKind.i64 0), (Go.Value.int Go.IntKind.u64 0), (Go.Value.bool false), (Go.Value.int Go.IntKind.i64 0), (Go.Value.int Go.IntKind.i64 0), (Go.Value.int Go.IntKind.i64 0), (Go.Value.int Go.IntKind.u64 0), (Go.Value.bool false), (Go.Value.int Go.IntKind.i64 0), (Go.Value.int Go.IntKind.i64 0), (Go.Value.int Go.IntKind.i64 0), (Go.Value.int Go.IntKind.u64 0), (Go.Value.bool false), (Go.Value.int Go.IntKind.i64 0), (Go.Value.int Go.IntKind.i64 0), (Go.Value.int Go.IntKind.i64 0), (Go.Value.int Go.IntKind.u64 0), (Go.Value.int Go.IntKind.u64 0), (Go.Value.int Go.IntKind.i64 0), (Go.Value.int Go.IntKind.u64 0)]) 344 := ⟨by kernel_rfl, Tryd.t143, by kernel_rfl, rfl, rfl, rfl⟩
theorem ty144 : Ty Tryd.prog 144 Tryd.t143.desc 42 (Go.Value.agg #[(Go.Value.pointer Option.none), (Go.Value.slice Option.none 0 0), (Go.Value.int Go.IntKind.i64 0), (Go.Value.int Go.IntKind.i64 0), (Go.Value.bool false), (Go.Value.bool false), (Go.Value.int Go.IntKind.i64 0), (Go.Value.int Go.IntKind.i64 0), (Go.Value.int Go.IntKind.i64 0), (Go.Value.bool false), (Go.Value.int Go.IntKind.i64 0), (Go.Value.int Go.IntKind.i64 0), (Go.Value.int Go.IntKind.i64 0), (Go.Value.int Go.IntKind.u64 0), (Go.Value.bool false), (Go.Value.int Go.IntKind.i64 0), (Go.Value.int Go.IntKind.i64 0), (Go.Value.int Go.IntKind.i64 0), (Go.Value.int Go.IntKind.u64 0), (Go.Value.bool false), (Go.Value.int Go.IntKind.i64 0), (Go.Value.int Go.IntKind.i64 0), (Go.Value.int Go.IntKind.i64 0), (Go.Value.int Go.IntKind.u64 0), (Go.Value.bool false), (Go.Value.int Go.IntKind.i64 0), (Go.Value.int Go.IntKind.i64 0), (Go.Value.int Go.IntKind.i64 0), (Go.Value.int Go.IntKind.u64 0), (Go.Value.bool false), (Go.Value.int Go.IntKind.i64 0), (Go.Value.int Go.IntKind.i64 0), (Go.Value.int Go.IntKind.i64 0), (Go.Value.int Go.IntKind.u64 0), (Go.Value.bool false), (Go.Value.int Go.IntKind.i64 0), (Go.Value.int Go.IntKind.i64 0), (Go.Value.int Go.IntKind.i64 0), (Go.Value.int Go.IntKind.u64 0), (Go.Value.int Go.IntKind.u64 0), (Go.Value.int Go.IntKind.i64 0), (Go.Value.int Go.IntKind.u64 0)]) 344 := ⟨by kernel_rfl, Tryd.t144, by kernel_rfl, rfl, rfl, rfl⟩
theorem ty145 : Ty Tryd.prog 145 (Go.TypeDesc.int Go.IntKind.u64) 1 (Go.Value.int Go.IntKind.u64 0) 8 := ⟨by kernel_rfl, Tryd.t145, by kernel_rfl, rfl, rfl, rfl⟩
theorem ty146 : Ty Tryd.prog 146 Tryd.t146.desc 1 Go.Value.nilFunc 8 := ⟨by kernel_rfl, Tryd.t146, by kernel_rfl, rfl, rfl, rfl⟩
theorem ty147 : Ty Tryd.prog 147 Tryd.t147.desc 1 Go.Value.nilFunc 8 := ⟨by kernel_rfl, Tryd.t147, by kernel_rfl, rfl, rfl, rfl⟩
theorem ty148 : Ty Tryd.prog 148 (Go.TypeDesc.slice 146) 1 (Go.Value.slice Option.none 0 0) 24 := ⟨by kernel_rfl, Tryd.t148, by kernel_rfl, rfl, rfl, rfl⟩
theorem ty149 : Ty Tryd.prog 149 Tryd.t149.desc 1 Go.Value.nilFunc 8 := ⟨by kernel_rfl, Tryd.t149, by kernel_rfl, rfl, rfl, rfl⟩
theorem ty150 : Ty Tryd.prog 150 Tryd.t150.desc 1 Go.Value.nilFunc 8 := ⟨by kernel_rfl, Tryd.t150, by kernel_rfl, rfl, rfl, rfl⟩
theorem ty151 : Ty Tryd.prog 151 Tryd.t151.desc 1 Go.Value.nilFunc 8 := ⟨by kernel_rfl, Tryd.t151, by kernel_rfl, rfl, rfl, rfl⟩
theorem ty152 : Ty Tryd.prog 152 (Go.TypeDesc.array 256 5) 256 ((Tryd.t152.zero).getD undef) 256 := ⟨by kernel_rfl, Tryd.t152, by kernel_rfl, rfl, rfl, rfl⟩
theorem ty153 : Ty Tryd.prog 153 Tryd.t153.desc 1 Go.Value.nilFunc 8 := ⟨by kernel_rfl, Tryd.t153, by kernel_rfl, rfl, rfl, rfl⟩
theorem ty154 : Ty Tryd.prog 154 Tryd.t154.desc 1 Go.Value.nilFunc 8 := ⟨by kernel_rfl, Tryd.t154, by kernel_rfl, rfl, rfl, rfl⟩
theorem ty155 : Ty Tryd.prog 155 (Go.TypeDesc.slice 31) 1 (Go.Value.slice Option.none 0 0) 24 := ⟨by kernel_rfl, Tryd.t155, by kernel_rfl, rfl, rfl, rfl⟩
theorem ty156 : Ty Tryd.prog 156 Tryd.t156.desc 1 Go.Value.nilFunc 8 := ⟨by kernel_rfl, Tryd.t156, by kernel_rfl, rfl, rfl, rfl⟩
theorem ty157 : Ty Tryd.prog 157 Tryd.t157.desc 1 Go.Value.nilFunc 8 := ⟨by kernel_rfl, Tryd.t157, by kernel_rfl, rfl, rfl, rfl⟩
theorem ty158 : Ty Tryd.prog 158 Tryd.t157.desc 1 Go.Value.nilFunc 8 := ⟨by kernel_rfl, Tryd.t158, by kernel_rfl, rfl, rfl, rfl⟩
theorem ty159 : Ty Tryd.prog 159 Tryd.t159.desc 1 Go.Value.nilFunc 8 := ⟨by kernel_rfl, Tryd.t159, by kernel_rfl, rfl, rfl, rfl⟩
theorem ty160 : Ty Tryd.prog 160 Tryd.t160.desc 1 Go.Value.nilFunc 8 := ⟨by kernel_rfl, Tryd.t160, by kernel_rfl, rfl, rfl, rfl⟩
theorem ty161 : Ty Tryd.prog 161 Tryd.t161.desc 4 (Go.Value.agg #[(Go.Value.bool false), (Go.Value.bool false), (Go.Value.bool false), (Go.Value.bool false)]) 4 := ⟨by kernel_rfl, Tryd.t161, by kernel_rfl, rfl, rfl, rfl⟩
theorem ty162 : Ty Tryd.prog 162 Tryd.t161.desc 4 (Go.Value.agg #[(Go.Value.bool false), (Go.Value.bool false), (Go.Value.bool false), (Go.Value.bool false)]) 4 := ⟨by kernel_rfl, Tryd.t162, by kernel_rfl, rfl, rfl, rfl⟩
theorem ty163 : Ty Tryd.prog 163 Tryd.t163.desc 1 Go.Value.nilFunc 8 := ⟨by kernel_rfl, Tryd.t163, by kernel_rfl, rfl, rfl, rfl⟩
theorem ty164 : Ty Tryd.prog 164 Tryd.t164.desc 1 Go.Value.nilFunc 8 := ⟨by kernel_rfl, Tryd.t164, by kernel_rfl, rfl, rfl, rfl⟩
theorem ty165 : Ty Tryd.prog 165 Tryd.t165.desc 1 Go.Value.nilFunc 8 := ⟨by kernel_rfl, Tryd.t165, by kernel_rfl, rfl, rfl, rfl⟩
theorem ty166 : Ty Tryd.prog 166 Tryd.t166.desc 1 (Go.Value.tuple #[(Go.Value.int Go.IntKind.u64 0), (Go.Value.int Go.IntKind.i64 0)]) 0 := ⟨by kernel_rfl, Tryd.t166, by kernel_rfl, rfl, rfl, rfl⟩
theorem ty167 : Ty Tryd.prog 167 Tryd.t167.desc 1 Go.Value.nilFunc 8 := ⟨by kernel_rfl, Tryd.t167, by kernel_rfl, rfl, rfl, rfl⟩
theorem ty168 : Ty Tryd.prog 168 Tryd.t168.desc 1 Go.Value.nilFunc 8 := ⟨by kernel_rfl, Tryd.t168, by kernel_rfl, rfl, rfl, rfl⟩
theorem ty169 : Ty Tryd.prog 169 Tryd.t169.desc 1 Go.Value.nilFunc 8 := ⟨by kernel_rfl, Tryd.t169, by kernel_rfl, rfl, rfl, rfl⟩
theorem ty170 : Ty Tryd.prog 170 (Go.TypeDesc.pointer 50) 1 (Go.Value.pointer Option.none) 8 := ⟨by kernel_rfl, Tryd.t170, by kernel_rfl, rfl, rfl, rfl⟩
theorem ty171 : Ty Tryd.prog 171 Tryd.t171.desc 1 Go.Value.nilFunc 8 := ⟨by kernel_rfl, Tryd.t171, by kernel_rfl, rfl, rfl, rfl⟩
theorem ty172 : Ty Tryd.prog 172 Tryd.t172.desc 1 Go.Value.nilFunc 8 := ⟨by kernel_rfl, Tryd.t172, by kernel_rfl, rfl, rfl, rfl⟩
theorem ty173 : Ty Tryd.prog 173 Tryd.t173.desc 1 (Go.Value.tuple #[(Go.Value.string (ByteArray.mk #[])), (Go.Value.int Go.IntKind.i64 0), (Go.Value.bool false)]) 0 := ⟨by kernel_rfl, Tryd.t173, by kernel_rfl, rfl, rfl, rfl⟩
theorem ty174 : Ty Tryd.prog 174 Tryd.t174.desc 1 Go.Value.nilFunc 8 := ⟨by kernel_rfl, Tryd.t174, by kernel_rfl, rfl, rfl, rfl⟩
theorem ty175 : Ty Tryd.prog 175 Tryd.t175.desc 1 Go.Value.nilFunc 8 := ⟨by kernel_rfl, Tryd.t175, by kernel_rfl, rfl, rfl, rfl⟩
theorem ty176 : Ty Tryd.prog 176 Tryd.t176.desc 1 Go.Value.nilFunc 8 := ⟨by kernel_rfl, Tryd.t176, by kernel_rfl, rfl, rfl, rfl⟩
theorem ty177 : Ty Tryd.prog 177 (Go.TypeDesc.slice 3) 1 (Go.Value.slice Option.none 0 0) 24 := ⟨by kernel_rfl, Tryd.t177, by kernel_rfl, rfl, rfl, rfl⟩
theorem ty178 : Ty Tryd.prog 178 Tryd.t178.desc 1 Go.Value.nilFunc 8 := ⟨by kernel_rfl, Tryd.t178, by kernel_rfl, rfl, rfl, rfl⟩
theorem ty179 : Ty Tryd.prog 179 Tryd.t179.desc 1 Go.Value.nilFunc 8 := ⟨by kernel_rfl, Tryd.t179, by kernel_rfl, rfl, rfl, rfl⟩
theorem ty180 : Ty Tryd.prog 180 Tryd.t180.desc 1 Go.Value.nilFunc 8 := ⟨by kernel_rfl, Tryd.t180, by kernel_rfl, rfl, rfl, rfl⟩
theorem ty181 : Ty Tryd.prog 181 Tryd.t181.desc 1 Go.Value.nilFunc 8 := ⟨by kernel_rfl, Tryd.t181, by kernel_rfl, rfl, rfl, rfl⟩
theorem ty182 : Ty Tryd.prog 182 (Go.TypeDesc.slice 184) 1 (Go.Value.slice Option.none 0 0) 24 := ⟨by kernel_rfl, Tryd.t182, by kernel_rfl, rfl, rfl, rfl⟩
theorem ty183 : Ty Tryd.prog 183 Tryd.t183.desc 2 (Go.Value.agg #[(Go.Value.int Go.IntKind.i64 0), (Go.Value.int Go.IntKind.i64 0)]) 16 := ⟨by kernel_rfl, Tryd.t183, by kernel_rfl, rfl, rfl, rfl⟩
theorem ty184 : Ty Tryd.prog 184 Tryd.t183.desc 2 (Go.Value.agg #[(Go.Value.int Go.IntKind.i64 0), (Go.Value.int Go.IntKind.i64 0)]) 16 := ⟨by kernel_rfl, Tryd.t184, by kernel_rfl, rfl, rfl, rfl⟩
theorem ty185 : Ty Tryd.prog 185 (Go.TypeDesc.int Go.IntKind.u32) 1 (Go.Value.int Go.IntKind.u32 0) 4 := ⟨by kernel_rfl, Tryd.t185, by kernel_rfl, rfl, rfl, rfl⟩
theorem ty186 : Ty Tryd.prog 186 Tryd.t186.desc 1 Go.Value.nilFunc 8 := ⟨by kernel_rfl, Tryd.t186, by kernel_rfl, rfl, rfl, rfl⟩
theorem ty187 : Ty Tryd.prog 187 (Go.TypeDesc.pointer 201) 1 (Go.Value.pointer Option.none) 8 := ⟨by kernel_rfl, Tryd.t187, by kernel_rfl, rfl, rfl, rfl⟩
theorem ty188 : Ty Tryd.prog 188 (Go.TypeDesc.int Go.IntKind.u64) 1 (Go.Value.int Go.IntKind.u64 0) 8 := ⟨by kernel_rfl, Tryd.t188, by kernel_rfl, rfl, rfl, rfl⟩
theorem ty189 : Ty Tryd.prog 189 Tryd.t189.desc 1 Go.Value.nilFunc 8 := ⟨by kernel_rfl, Tryd.t189, by kernel_rfl, rfl, rfl, rfl⟩
theorem ty190 : Ty Tryd.prog 190 Tryd.t190.desc 1 Go.Value.nilFunc 8 := ⟨by kernel_rfl, Tryd.t190, by kernel_rfl, rfl, rfl, rfl⟩
theorem ty191 : Ty Tryd.prog 191 Tryd.t191.desc 1 (Go.Value.tuple #[(Go.Value.agg #[(Go.Value.int Go.IntKind.i64 0), (Go.Value.int Go.IntKind.i64 0), (Go.Value.int Go.IntKind.i64 0), (Go.Value.int Go.IntKind.i64 0), (Go.Value.int Go.IntKind.u64 0), (Go.Value.int Go.IntKind.u64 0), (Go.Value.slice Option.none 0 0)]), (Go.Value.int Go.IntKind.i64 0)]) 0 := ⟨by kernel_rfl, Tryd.t191, by kernel_rfl, rfl, rfl, rfl⟩
theorem ty192 : Ty Tryd.prog 192 Tryd.t192.desc 1 Go.Value.nilFunc 8 := ⟨by kernel_rfl, Tryd.t192, by kernel_rfl, rfl, rfl, rfl⟩
theorem ty193 : Ty Tryd.prog 193 Tryd.t193.desc 1 Go.Value.nilFunc 8 := ⟨by kernel_rfl, Tryd.t193, by kernel_rfl, rfl, rfl, rfl⟩
theorem ty194 : Ty Tryd.prog 194 Tryd.t194.desc 1 Go.Value.nilFunc 8 := ⟨by kernel_rfl, Tryd.t194, by kernel_rfl, rfl, rfl, rfl⟩
theorem ty195 : Ty Tryd.prog 195 Tryd.t195.desc 1 Go.Value.nilFunc 8 := ⟨by kernel_rfl, Tryd.t195, by kernel_rfl, rfl, rfl, rfl⟩
theorem ty196 : Ty Tryd.prog 196 Tryd.t195.desc 1 Go.Value.nilFunc 8 := ⟨by kernel_rfl, Tryd.t196, by kernel_rfl, rfl, rfl, rfl⟩
theorem ty197 : Ty Tryd.prog 197 Tryd.t197.desc 1 Go.Value.nilFunc 8 := ⟨by kernel_rfl, Tryd.t197, by kernel_rfl, rfl, rfl, rfl⟩
theorem ty198 : Ty Tryd.prog 198 (Go.TypeDesc.slice 204) 1 (Go.Value.slice Option.none 0 0) 24 := ⟨by kernel_rfl, Tryd.t198, by kernel_rfl, rfl, rfl, rfl⟩
theorem ty199 : Ty Tryd.prog 199 (Go.TypeDesc.slice 207) 1 (Go.Value.slice Option.none 0 0) 24 := ⟨by kernel_rfl, Tryd.t199, by kernel_rfl, rfl, rfl, rfl⟩
theorem ty200 : Ty Tryd.prog 200 Tryd.t200.desc 3 (Go.Value.agg #[(Go.Value.slice Option.none 0 0), (Go.Value.slice Option.none 0 0), (Go.Value.int Go.IntKind.i64 0)]) 56 := ⟨by kernel_rfl, Tryd.t200, by kernel_rfl, rfl, rfl, rfl⟩
theorem ty201 : Ty Tryd.prog 201 Tryd.t200.desc 3 (Go.Value.agg #[(Go.Value.slice Option.none 0 0), (Go.Value.slice Option.none 0 0), (Go.Value.int Go.IntKind.i64 0)]) 56 := ⟨by kernel_rfl, Tryd.t201, by kernel_rfl, rfl, rfl, rfl⟩
theorem ty202 : Ty Tryd.prog 202 (Go.TypeDesc.int Go.IntKind.u16) 1 (Go.Value.int Go.IntKind.u16 0) 2 := ⟨by kernel_rfl, Tryd.t202, by kernel_rfl, rfl, rfl, rfl⟩
theorem ty203 : Ty Tryd.prog 203 Tryd.t203.desc 3 (Go.Value.agg #[(Go.Value.int Go.IntKind.u16 0), (Go.Value.int Go.IntKind.u16 0), (Go.Value.int Go.IntKind.u16 0)]) 6 := ⟨by kernel_rfl, Tryd.t203, by kernel_rfl, rfl, rfl, rfl⟩
theorem ty204 : Ty Tryd.prog 204 Tryd.t203.desc 3 (Go.Value.agg #[(Go.Value.int Go.IntKind.u16 0), (Go.Value.int Go.IntKind.u16 0), (Go.Value.int Go.IntKind.u16 0)]) 6 := ⟨by kernel_rfl, Tryd.t204, by kernel_rfl, rfl, rfl, rfl⟩
theorem ty205 : Ty Tryd.prog 205 Tryd.t205.desc 1 Go.Value.nilFunc 8 := ⟨by kernel_rfl, Tryd.t205, by kernel_rfl, rfl, rfl, rfl⟩
theorem ty206 : Ty Tryd.prog 206 Tryd.t206.desc 3 (Go.Value.agg #[(Go.Value.int Go.IntKind.u32 0), (Go.Value.int Go.IntKind.u32 0), (Go.Value.int Go.IntKind.u32 0)]) 12 := ⟨by kernel_rfl, Tryd.t206, by kernel_rfl, rfl, rfl, rfl⟩
theorem ty207 : Ty Tryd.prog 207 Tryd.t206.desc 3 (Go.Value.agg #[(Go.Value.int Go.IntKind.u32 0), (Go.Value.int Go.IntKind.u32 0), (Go.Value.int Go.IntKind.u32 0)]) 12 := ⟨by kernel_rfl, Tryd.t207, by kernel_rfl, rfl, rfl, rfl⟩
theorem ty208 : Ty Tryd.prog 208 Tryd.t208.desc 1 Go.Value.nilFunc 8 := ⟨by kernel_rfl, Tryd.t208, by kernel_rfl, rfl, rfl, rfl⟩
theorem ty209 : Ty Tryd.prog 209 Tryd.t209.desc 1 Go.Value.nilFunc 8 := ⟨by kernel_rfl, Tryd.t209, by kernel_rfl, rfl, rfl, rfl⟩
theorem ty210 : Ty Tryd.prog 210 (Go.TypeDesc.pointer 204) 1 (Go.Value.pointer Option.none) 8 := ⟨by kernel_rfl, Tryd.t210, by kernel_rfl, rfl, rfl, rfl⟩
theorem ty211 : Ty Tryd.prog 211 (Go.TypeDesc.pointer 207) 1 (Go.Value.pointer Option.none) 8 := ⟨by kernel_rfl, Tryd.t211, by kernel_rfl, rfl, rfl, rfl⟩
theorem ty212 : Ty Tryd.prog 212 Tryd.t212.desc 1 Go.Value.nilFunc 8 := ⟨by kernel_rfl, Tryd.t212, by kernel_rfl, rfl, rfl, rfl⟩
theorem ty213 : Ty Tryd.prog 213 Tryd.t213.desc 4 (Go.Value.agg #[(Go.Value.pointer Option.none), (Go.Value.pointer Option.none), (Go.Value.pointer Option.none), (Go.Value.string (ByteArray.mk #[]))]) 40 := ⟨by kernel_rfl, Tryd.t213, by kernel_rfl, rfl, rfl, rfl⟩
theorem ty214 : Ty Tryd.prog 214 Tryd.t213.desc 4 (Go.Value.agg #[(Go.Value.pointer Option.none), (Go.Value.pointer Option.none), (Go.Value.pointer Option.none), (Go.Value.string (ByteArray.mk #[]))]) 40 := ⟨by kernel_rfl, Tryd.t214, by kernel_rfl, rfl, rfl, rfl⟩
theorem ty215 : Ty Tryd.prog 215 (Go.TypeDesc.array 0 16) 0 (Go.Value.agg #[]) 0 := ⟨by kernel_rfl, Tryd.t215, by kernel_rfl, rfl, rfl, rfl⟩
theorem ty216 : Ty Tryd.prog 216 Tryd.t216.desc 0 (Go.Value.agg #[]) 0 := ⟨by kernel_rfl, Tryd.t216, by kernel_rfl, rfl, rfl, rfl⟩
theorem ty217 : Ty Tryd.prog 217 Tryd.t216.desc 0 (Go.Value.agg #[]) 0 := ⟨by kernel_rfl, Tryd.t217, by kernel_rfl, rfl, rfl, rfl⟩
theorem ty218 : Ty Tryd.prog 218 (Go.TypeDesc.int Go.IntKind.u8) 1 (Go.Value.int Go.IntKind.u8 0) 1 := ⟨by kernel_rfl, Tryd.t218, by kernel_rfl, rfl, rfl, rfl⟩
theorem ty219 : Ty Tryd.prog 219 (Go.TypeDesc.int Go.IntKind.u8) 1 (Go.Value.int Go.IntKind.u8 0) 1 := ⟨by kernel_rfl, Tryd.t219, by kernel_rfl, rfl, rfl, rfl⟩
theorem ty220 : Ty Tryd.prog 220 Tryd.t220.desc 1 Go.Value.nilFunc 8 := ⟨by kernel_rfl, Tryd.t220, by kernel_rfl, rfl, rfl, rfl⟩
theorem ty221 : Ty Tryd.prog 221 (Go.TypeDesc.pointer 5) 1 (Go.Value.pointer Option.none) 8 := ⟨by kernel_rfl, Tryd.t221, by kernel_rfl, rfl, rfl, rfl⟩
theorem ty222 : Ty Tryd.prog 222 (Go.TypeDesc.int Go.IntKind.i32) 1 (Go.Value.int Go.IntKind.i32 0) 4 := ⟨by kernel_rfl, Tryd.t222, by kernel_rfl, rfl, rfl, rfl⟩
theorem ty223 : Ty Tryd.prog 223 (Go.TypeDesc.int Go.IntKind.i32) 1 (Go.Value.int Go.IntKind.i32 0) 4 := ⟨by kernel_rfl, Tryd.t223, by kernel_rfl, rfl, rfl, rfl⟩
theorem ty224 : Ty Tryd.prog 224 Tryd.t224.desc 11 (Go.Value.agg #[(Go.Value.int Go.IntKind.u64 0), (Go.Value.int Go.IntKind.u64 0), (Go.Value.int Go.IntKind.u32 0), (Go.Value.int Go.IntKind.u8 0), (Go.Value.int Go.IntKind.u8 0), (Go.Value.int Go.IntKind.u8 0), (Go.Value.int Go.IntKind.u8 0), Go.Value.nilFunc, (Go.Value.pointer Option.none), (Go.Value.int Go.IntKind.i32 0), (Go.Value.int Go.IntKind.i32 0)]) 48 := ⟨by kernel_rfl, Tryd.t224, by kernel_rfl, rfl, rfl, rfl⟩
theorem ty225 : Ty Tryd.prog 225 Tryd.t224.desc 11 (Go.Value.agg #[(Go.Value.int Go.IntKind.u64 0), (Go.Value.int Go.IntKind.u64 0), (Go.Value.int Go.IntKind.u32 0), (Go.Value.int Go.IntKind.u8 0), (Go.Value.int Go.IntKind.u8 0), (Go.Value.int Go.IntKind.u8 0), (Go.Value.int Go.IntKind.u8 0), Go.Value.nilFunc, (Go.Value.pointer Option.none), (Go.Value.int Go.IntKind.i32 0), (Go.Value.int Go.IntKind.i32 0)]) 48 := ⟨by kernel_rfl, Tryd.t225, by kernel_rfl, rfl, rfl, rfl⟩
theorem ty226 : Ty Tryd.prog 226 Tryd.t226.desc 1 Go.Value.nilFunc 8 := ⟨by kernel_rfl, Tryd.t226, by kernel_rfl, rfl, rfl, rfl⟩
theorem ty227 : Ty Tryd.prog 227 Tryd.t227.desc 1 Go.Value.nilFunc 8 := ⟨by kernel_rfl, Tryd.t227, by kernel_rfl, rfl, rfl, rfl⟩
theorem ty228 : Ty Tryd.prog 228 Go.TypeDesc.unsafePointer 1 (Go.Value.pointer Option.none) 8 := ⟨by kernel_rfl, Tryd.t228, by kernel_rfl, rfl, rfl, rfl⟩
theorem fld7_0 : Fld Tryd.prog 7 0 0 1 false := ⟨_, _, (by kernel_rfl : Tryd.prog.underlying 7 = some Tryd.t7.desc), rfl, rfl, _, _, _, ty2, rfl⟩
theorem fld7_1 : Fld Tryd.prog 7 1 1 1 false := ⟨_, _, (by kernel_rfl : Tryd.prog.underlying 7 = some Tryd.t7.desc), rfl, rfl, _, _, _, ty3, rfl⟩
theorem fld7_2 : Fld Tryd.prog 7 2 2 1 false := ⟨_, _, (by kernel_rfl : Tryd.prog.underlying 7 = some Tryd.t7.desc), rfl, rfl, _, _, _, ty4, rfl⟩
theorem fld7_3 : Fld Tryd.prog 7 3 3 1 false := ⟨_, _, (by kernel_rfl : Tryd.prog.underlying 7 = some Tryd.t7.desc), rfl, rfl, _, _, _, ty6, rfl⟩
theorem fld8_0 : Fld Tryd.prog 8 0 0 1 false := ⟨_, _, (by kernel_rfl : Tryd.prog.underlying 8 = some Tryd.t7.desc), rfl, rfl, _, _, _, ty2, rfl⟩
theorem fld8_1 : Fld Tryd.prog 8 1 1 1 false := ⟨_, _, (by kernel_rfl : Tryd.prog.underlying 8 = some Tryd.t7.desc), rfl, rfl, _, _, _, ty3, rfl⟩
theorem fld8_2 : Fld Tryd.prog 8 2 2 1 false := ⟨_, _, (by kernel_rfl : Tryd.prog.underlying 8 = some Tryd.t7.desc), rfl, rfl, _, _, _, ty4, rfl⟩
theorem fld8_3 : Fld Tryd.prog 8 3 3 1 false := ⟨_, _, (by kernel_rfl : Tryd.prog.underlying 8 = some Tryd.t7.desc), rfl, rfl, _, _, _, ty6, rfl⟩
theorem fld13_0 : Fld Tryd.prog 13 0 0 1 false := ⟨_, _, (by kernel_rfl : Tryd.prog.underlying 13 = some Tryd.t13.desc), rfl, rfl, _, _, _, ty9, rfl⟩
theorem fld13_1 : Fld Tryd.prog 13 1 1 1 false := ⟨_, _, (by kernel_rfl : Tryd.prog.underlying 13 = some Tryd.t13.desc), rfl, rfl, _, _, _, ty12, rfl⟩
theorem fld14_0 : Fld Tryd.prog 14 0 0 1 false := ⟨_, _, (by kernel_rfl : Tryd.prog.underlying 14 = some Tryd.t13.desc), rfl, rfl, _, _, _, ty9, rfl⟩
theorem fld14_1 : Fld Tryd.prog 14 1 1 1 false := ⟨_, _, (by kernel_rfl : Tryd.prog.underlying 14 = some Tryd.t13.desc), rfl, rfl, _, _, _, ty12, rfl⟩
theorem fld18_0 : Fld Tryd.prog 18 0 0 1 false := ⟨_, _, (by kernel_rfl : Tryd.prog.underlying 18 = some Tryd.t18.desc), rfl, rfl, _, _, _, ty17, rfl⟩
theorem fld19_0 : Fld Tryd.prog 19 0 0 1 false := ⟨_, _, (by kernel_rfl : Tryd.prog.underlying 19 = some Tryd.t18.desc), rfl, rfl, _, _, _, ty17, rfl⟩
theorem fld24_0 : Fld Tryd.prog 24 0 0 1 false := ⟨_, _, (by kernel_rfl : Tryd.prog.underlying 24 = some Tryd.t24.desc), rfl, rfl, _, _, _, ty3, rfl⟩
theorem fld24_1 : Fld Tryd.prog 24 1 1 1 false := ⟨_, _, (by kernel_rfl : Tryd.prog.underlying 24 = some Tryd.t24.desc), rfl, rfl, _, _, _, ty3, rfl⟩
theorem fld24_2 : Fld Tryd.prog 24 2 2 1 false := ⟨_, _, (by kernel_rfl : Tryd.prog.underlying 24 = some Tryd.t24.desc), rfl, rfl, _, _, _, ty3, rfl⟩
theorem fld24_3 : Fld Tryd.prog 24 3 3 1 false := ⟨_, _, (by kernel_rfl : Tryd.prog.underlying 24 = some Tryd.t24.desc), rfl, rfl, _, _, _, ty3, rfl⟩
theorem fld24_4 : Fld Tryd.prog 24 4 4 1 false := ⟨_, _, (by kernel_rfl : Tryd.prog.underlying 24 = some Tryd.t24.desc), rfl, rfl, _, _, _, ty22, rfl⟩
theorem fld24_5 : Fld Tryd.prog 24 5 5 1 false := ⟨_, _, (by kernel_rfl : Tryd.prog.underlying 24 = some Tryd.t24.desc), rfl, rfl, _, _, _, ty22, rfl⟩
theorem fld24_6 : Fld Tryd.prog 24 6 6 1 false := ⟨_, _, (by kernel_rfl : Tryd.prog.underlying 24 = some Tryd.t24.desc), rfl, rfl, _, _, _, ty23, rfl⟩
theorem fld25_0 : Fld Tryd.prog 25 0 0 1 false := ⟨_, _, (by kernel_rfl : Tryd.prog.underlying 25 = some Tryd.t24.desc), rfl, rfl, _, _, _, ty3, rfl⟩
theorem fld25_1 : Fld Tryd.prog 25 1 1 1 false := ⟨_, _, (by kernel_rfl : Tryd.prog.underlying 25 = some Tryd.t24.desc), rfl, rfl, _, _, _, ty3, rfl⟩
theorem fld25_2 : Fld Tryd.prog 25 2 2 1 false := ⟨_, _, (by kernel_rfl : Tryd.prog.underlying 25 = some Tryd.t24.desc), rfl, rfl, _, _, _, ty3, rfl⟩
theorem fld25_3 : Fld Tryd.prog 25 3 3 1 false := ⟨_, _, (by kernel_rfl : Tryd.prog.underlying 25 = some Tryd.t24.desc), rfl, rfl, _, _, _, ty3, rfl⟩
theorem fld25_4 : Fld Tryd.prog 25 4 4 1 false := ⟨_, _, (by kernel_rfl : Tryd.prog.underlying 25 = some Tryd.t24.desc), rfl, rfl, _, _, _, ty22, rfl⟩
theorem fld25_5 : Fld Tryd.prog 25 5 5 1 false := ⟨_, _, (by kernel_rfl : Tryd.prog.underlying 25 = some Tryd.t24.desc), rfl, rfl, _, _, _, ty22, rfl⟩
theorem fld25_6 : Fld Tryd.prog 25 6 6 1 false := ⟨_, _, (by kernel_rfl : Tryd.prog.underlying 25 = some Tryd.t24.desc), rfl, rfl, _, _, _, ty23, rfl⟩
theorem fld31_0 : Fld Tryd.prog 31 0 0 1 false := ⟨_, _, (by kernel_rfl : Tryd.prog.underlying 31 = some Tryd.t24.desc), rfl, rfl, _, _, _, ty3, rfl⟩
theorem fld31_1 : Fld Tryd.prog 31 1 1 1 false := ⟨_, _, (by kernel_rfl : Tryd.prog.underlying 31 = some Tryd.t24.desc), rfl, rfl, _, _, _, ty3, rfl⟩
theorem fld31_2 : Fld Tryd.prog 31 2 2 1 false := ⟨_, _, (by kernel_rfl : Tryd.prog.underlying 31 = some Tryd.t24.desc), rfl, rfl, _, _, _, ty3, rfl⟩
theorem fld31_3 : Fld Tryd.prog 31 3 3 1 false := ⟨_, _, (by kernel_rfl : Tryd.prog.underlying 31 = some Tryd.t24.desc), rfl, rfl, _, _, _, ty3, rfl⟩
theorem fld31_4 : Fld Tryd.prog 31 4 4 1 false := ⟨_, _, (by kernel_rfl : Tryd.prog.underlying 31 = some Tryd.t24.desc), rfl, rfl, _, _, _, ty22, rfl⟩
theorem fld31_5 : Fld Tryd.prog 31 5 5 1 false := ⟨_, _, (by kernel_rfl : Tryd.prog.underlying 31 = some Tryd.t24.desc), rfl, rfl, _, _, _, ty22, rfl⟩
theorem fld31_6 : Fld Tryd.prog 31 6 6 1 false := ⟨_, _, (by kernel_rfl : Tryd.prog.underlying 31 = some Tryd.t24.desc), rfl, rfl, _, _, _, ty23, rfl⟩
theorem fld43_0 : Fld Tryd.prog 43 0 0 1 false := ⟨_, _, (by kernel_rfl : Tryd.prog.underlying 43 = some Tryd.t43.desc), rfl, rfl, _, _, _, ty3, rfl⟩
theorem fld43_1 : Fld Tryd.prog 43 1 1 1 false := ⟨_, _, (by kernel_rfl : Tryd.prog.underlying 43 = some Tryd.t43.desc), rfl, rfl, _, _, _, ty3, rfl⟩
theorem fld43_2 : Fld Tryd.prog 43 2 2 1 false := ⟨_, _, (by kernel_rfl : Tryd.prog.underlying 43 = some Tryd.t43.desc), rfl, rfl, _, _, _, ty3, rfl⟩
theorem fld43_3 : Fld Tryd.prog 43 3 3 1 false := ⟨_, _, (by kernel_rfl : Tryd.prog.underlying 43 = some Tryd.t43.desc), rfl, rfl, _, _, _, ty3, rfl⟩
theorem fld43_4 : Fld Tryd.prog 43 4 4 1 false := ⟨_, _, (by kernel_rfl : Tryd.prog.underlying 43 = some Tryd.t43.desc), rfl, rfl, _, _, _, ty3, rfl⟩
theorem fld44_0 : Fld Tryd.prog 44 0 0 1 false := ⟨_, _, (by kernel_rfl : Tryd.prog.underlying 44 = some Tryd.t43.desc), rfl, rfl, _, _, _, ty3, rfl⟩
theorem fld44_1 : Fld Tryd.prog 44 1 1 1 false := ⟨_, _, (by kernel_rfl : Tryd.prog.underlying 44 = some Tryd.t43.desc), rfl, rfl, _, _, _, ty3, rfl⟩
theorem fld44_2 : Fld Tryd.prog 44 2 2 1 false := ⟨_, _, (by kernel_rfl : Tryd.prog.underlying 44 = some Tryd.t43.desc), rfl, rfl, _, _, _, ty3, rfl⟩
theorem fld44_3 : Fld Tryd.prog 44 3 3 1 false := ⟨_, _, (by kernel_rfl : Tryd.prog.underlying 44 = some Tryd.t43.desc), rfl, rfl, _, _, _, ty3, rfl⟩
theorem fld44_4 : Fld Tryd.prog 44 4 4 1 false := ⟨_, _, (by kernel_rfl : Tryd.prog.underlying 44 = some Tryd.t43.desc), rfl, rfl, _, _, _, ty3, rfl⟩
theorem fld46_0 : Fld Tryd.prog 46 0 0 1 false := ⟨_, _, (by kernel_rfl : Tryd.prog.underlying 46 = some Tryd.t43.desc), rfl, rfl, _, _, _, ty3, rfl⟩
theorem fld46_1 : Fld Tryd.prog 46 1 1 1 false := ⟨_, _, (by kernel_rfl : Tryd.prog.underlying 46 = some Tryd.t43.desc), rfl, rfl, _, _, _, ty3, rfl⟩
theorem fld46_2 : Fld Tryd.prog 46 2 2 1 false := ⟨_, _, (by kernel_rfl : Tryd.prog.underlying 46 = some Tryd.t43.desc), rfl, rfl, _, _, _, ty3, rfl⟩
theorem fld46_3 : Fld Tryd.prog 46 3 3 1 false := ⟨_, _, (by kernel_rfl : Tryd.prog.underlying 46 = some Tryd.t43.desc), rfl, rfl, _, _, _, ty3, rfl⟩
theorem fld46_4 : Fld Tryd.prog 46 4 4 1 false := ⟨_, _, (by kernel_rfl : Tryd.prog.underlying 46 = some Tryd.t43.desc), rfl, rfl, _, _, _, ty3, rfl⟩
theorem fld47_0 : Fld Tryd.prog 47 0 0 1 false := ⟨_, _, (by kernel_rfl : Tryd.prog.underlying 47 = some Tryd.t47.desc), rfl, rfl, _, _, _, ty3, rfl⟩
theorem fld47_1 : Fld Tryd.prog 47 1 1 1 false := ⟨_, _, (by kernel_rfl : Tryd.prog.underlying 47 = some Tryd.t47.desc), rfl, rfl, _, _, _, ty3, rfl⟩
theorem fld48_0 : Fld Tryd.prog 48 0 0 1 false := ⟨_, _, (by kernel_rfl : Tryd.prog.underlying 48 = some Tryd.t47.desc), rfl, rfl, _, _, _, ty3, rfl⟩
theorem fld48_1 : Fld Tryd.prog 48 1 1 1 false := ⟨_, _, (by kernel_rfl : Tryd.prog.underlying 48 = some Tryd.t47.desc), rfl, rfl, _, _, _, ty3, rfl⟩
theorem fld49_0 : Fld Tryd.prog 49 0 0 1 false := ⟨_, _, (by kernel_rfl : Tryd.prog.underlying 49 = some Tryd.t49.desc), rfl, rfl, _, _, _, ty4, rfl⟩
theorem fld49_1 : Fld Tryd.prog 49 1 1 1 false := ⟨_, _, (by kernel_rfl : Tryd.prog.underlying 49 = some Tryd.t49.desc), rfl, rfl, _, _, _, ty3, rfl⟩
theorem fld49_2 : Fld Tryd.prog 49 2 2 2 true := ⟨_, _, (by kernel_rfl : Tryd.prog.underlying 49 = some Tryd.t49.desc), rfl, rfl, _, _, _, ty48, rfl⟩
theorem fld49_3 : Fld Tryd.prog 49 3 4 1 false := ⟨_, _, (by kernel_rfl : Tryd.prog.underlying 49 = some Tryd.t49.desc), rfl, rfl, _, _, _, ty22, rfl⟩
theorem fld50_0 : Fld Tryd.prog 50 0 0 1 false := ⟨_, _, (by kernel_rfl : Tryd.prog.underlying 50 = some Tryd.t49.desc), rfl, rfl, _, _, _, ty4, rfl⟩
theorem fld50_1 : Fld Tryd.prog 50 1 1 1 false := ⟨_, _, (by kernel_rfl : Tryd.prog.underlying 50 = some Tryd.t49.desc), rfl, rfl, _, _, _, ty3, rfl⟩
theorem fld50_2 : Fld Tryd.prog 50 2 2 2 true := ⟨_, _, (by kernel_rfl : Tryd.prog.underlying 50 = some Tryd.t49.desc), rfl, rfl, _, _, _, ty48, rfl⟩
theorem fld50_3 : Fld Tryd.prog 50 3 4 1 false := ⟨_, _, (by kernel_rfl : Tryd.prog.underlying 50 = some Tryd.t49.desc), rfl, rfl, _, _, _, ty22, rfl⟩
theorem fld54_0 : Fld Tryd.prog 54 0 0 1 false := ⟨_, _, (by kernel_rfl : Tryd.prog.underlying 54 = some Tryd.t54.desc), rfl, rfl, _, _, _, ty4, rfl⟩
theorem fld54_1 : Fld Tryd.prog 54 1 1 1 false := ⟨_, _, (by kernel_rfl : Tryd.prog.underlying 54 = some Tryd.t54.desc), rfl, rfl, _, _, _, ty3, rfl⟩
theorem fld54_2 : Fld Tryd.prog 54 2 2 1 false := ⟨_, _, (by kernel_rfl : Tryd.prog.underlying 54 = some Tryd.t54.desc), rfl, rfl, _, _, _, ty3, rfl⟩
theorem fld54_3 : Fld Tryd.prog 54 3 3 1 false := ⟨_, _, (by kernel_rfl : Tryd.prog.underlying 54 = some Tryd.t54.desc), rfl, rfl, _, _, _, ty3, rfl⟩
theorem fld54_4 : Fld Tryd.prog 54 4 4 1 false := ⟨_, _, (by kernel_rfl : Tryd.prog.underlying 54 = some Tryd.t54.desc), rfl, rfl, _, _, _, ty22, rfl⟩
theorem fld55_0 : Fld Tryd.prog 55 0 0 1 false := ⟨_, _, (by kernel_rfl : Tryd.prog.underlying 55 = some Tryd.t54.desc), rfl, rfl, _, _, _, ty4, rfl⟩
theorem fld55_1 : Fld Tryd.prog 55 1 1 1 false := ⟨_, _, (by kernel_rfl : Tryd.prog.underlying 55 = some Tryd.t54.desc), rfl, rfl, _, _, _, ty3, rfl⟩
theorem fld55_2 : Fld Tryd.prog 55 2 2 1 false := ⟨_, _, (by kernel_rfl : Tryd.prog.underlying 55 = some Tryd.t54.desc), rfl, rfl, _, _, _, ty3, rfl⟩
theorem fld55_3 : Fld Tryd.prog 55 3 3 1 false := ⟨_, _, (by kernel_rfl : Tryd.prog.underlying 55 = some Tryd.t54.desc), rfl, rfl, _, _, _, ty3, rfl⟩
theorem fld55_4 : Fld Tryd.prog 55 4 4 1 false := ⟨_, _, (by kernel_rfl : Tryd.prog.underlying 55 = some Tryd.t54.desc), rfl, rfl, _, _, _, ty22, rfl⟩
theorem fld59_0 : Fld Tryd.prog 59 0 0 90 true := ⟨_, _, (by kernel_rfl : Tryd.prog.underlying 59 = some Tryd.t59.desc), rfl, rfl, _, _, _, ty58, rfl⟩
theorem fld60_0 : Fld Tryd.prog 60 0 0 90 true := ⟨_, _, (by kernel_rfl : Tryd.prog.underlying 60 = some Tryd.t59.desc), rfl, rfl, _, _, _, ty58, rfl⟩
theorem fld61_0 : Fld Tryd.prog 61 0 0 1 false := ⟨_, _, (by kernel_rfl : Tryd.prog.underlying 61 = some Tryd.t61.desc), rfl, rfl, _, _, _, ty4, rfl⟩
theorem fld61_1 : Fld Tryd.prog 61 1 1 1 false := ⟨_, _, (by kernel_rfl : Tryd.prog.underlying 61 = some Tryd.t61.desc), rfl, rfl, _, _, _, ty3, rfl⟩
theorem fld61_2 : Fld Tryd.prog 61 2 2 5 true := ⟨_, _, (by kernel_rfl : Tryd.prog.underlying 61 = some Tryd.t61.desc), rfl, rfl, _, _, _, ty55, rfl⟩
theorem fld62_0 : Fld Tryd.prog 62 0 0 1 false := ⟨_, _, (by kernel_rfl : Tryd.prog.underlying 62 = some Tryd.t61.desc), rfl, rfl, _, _, _, ty4, rfl⟩
theorem fld62_1 : Fld Tryd.prog 62 1 1 1 false := ⟨_, _, (by kernel_rfl : Tryd.prog.underlying 62 = some Tryd.t61.desc), rfl, rfl, _, _, _, ty3, rfl⟩
theorem fld62_2 : Fld Tryd.prog 62 2 2 5 true := ⟨_, _, (by kernel_rfl : Tryd.prog.underlying 62 = some Tryd.t61.desc), rfl, rfl, _, _, _, ty55, rfl⟩
theorem fld83_0 : Fld Tryd.prog 83 0 0 1 false := ⟨_, _, (by kernel_rfl : Tryd.prog.underlying 83 = some Tryd.t83.desc), rfl, rfl, _, _, _, ty81, rfl⟩
theorem fld83_1 : Fld Tryd.prog 83 1 1 1 false := ⟨_, _, (by kernel_rfl : Tryd.prog.underlying 83 = some Tryd.t83.desc), rfl, rfl, _, _, _, ty4, rfl⟩
theorem fld84_0 : Fld Tryd.prog 84 0 0 1 false := ⟨_, _, (by kernel_rfl : Tryd.prog.underlying 84 = some Tryd.t83.desc), rfl, rfl, _, _, _, ty81, rfl⟩
theorem fld84_1 : Fld Tryd.prog 84 1 1 1 false := ⟨_, _, (by kernel_rfl : Tryd.prog.underlying 84 = some Tryd.t83.desc), rfl, rfl, _, _, _, ty4, rfl⟩
theorem fld90_0 : Fld Tryd.prog 90 0 0 1 false := ⟨_, _, (by kernel_rfl : Tryd.prog.underlying 90 = some Tryd.t90.desc), rfl, rfl, _, _, _, ty3, rfl⟩
theorem fld90_1 : Fld Tryd.prog 90 1 1 1 false := ⟨_, _, (by kernel_rfl : Tryd.prog.underlying 90 = some Tryd.t90.desc), rfl, rfl, _, _, _, ty3, rfl⟩
theorem fld90_2 : Fld Tryd.prog 90 2 2 1 false := ⟨_, _, (by kernel_rfl : Tryd.prog.underlying 90 = some Tryd.t90.desc), rfl, rfl, _, _, _, ty3, rfl⟩
theorem fld90_3 : Fld Tryd.prog 90 3 3 25 true := ⟨_, _, (by kernel_rfl : Tryd.prog.underlying 90 = some Tryd.t90.desc), rfl, rfl, _, _, _, ty78, rfl⟩
theorem fld90_4 : Fld Tryd.prog 90 4 28 5 true := ⟨_, _, (by kernel_rfl : Tryd.prog.underlying 90 = some Tryd.t90.desc), rfl, rfl, _, _, _, ty50, rfl⟩
theorem fld90_5 : Fld Tryd.prog 90 5 33 1 false := ⟨_, _, (by kernel_rfl : Tryd.prog.underlying 90 = some Tryd.t90.desc), rfl, rfl, _, _, _, ty22, rfl⟩
theorem fld91_0 : Fld Tryd.prog 91 0 0 1 false := ⟨_, _, (by kernel_rfl : Tryd.prog.underlying 91 = some Tryd.t90.desc), rfl, rfl, _, _, _, ty3, rfl⟩
theorem fld91_1 : Fld Tryd.prog 91 1 1 1 false := ⟨_, _, (by kernel_rfl : Tryd.prog.underlying 91 = some Tryd.t90.desc), rfl, rfl, _, _, _, ty3, rfl⟩
theorem fld91_2 : Fld Tryd.prog 91 2 2 1 false := ⟨_, _, (by kernel_rfl : Tryd.prog.underlying 91 = some Tryd.t90.desc), rfl, rfl, _, _, _, ty3, rfl⟩
theorem fld91_3 : Fld Tryd.prog 91 3 3 25 true := ⟨_, _, (by kernel_rfl : Tryd.prog.underlying 91 = some Tryd.t90.desc), rfl, rfl, _, _, _, ty78, rfl⟩
theorem fld91_4 : Fld Tryd.prog 91 4 28 5 true := ⟨_, _, (by kernel_rfl : Tryd.prog.underlying 91 = some Tryd.t90.desc), rfl, rfl, _, _, _, ty50, rfl⟩
theorem fld91_5 : Fld Tryd.prog 91 5 33 1 false := ⟨_, _, (by kernel_rfl : Tryd.prog.underlying 91 = some Tryd.t90.desc), rfl, rfl, _, _, _, ty22, rfl⟩
theorem fld101_0 : Fld Tryd.prog 101 0 0 1 false := ⟨_, _, (by kernel_rfl : Tryd.prog.underlying 101 = some Tryd.t101.desc), rfl, rfl, _, _, _, ty3, rfl⟩
theorem fld101_1 : Fld Tryd.prog 101 1 1 1 false := ⟨_, _, (by kernel_rfl : Tryd.prog.underlying 101 = some Tryd.t101.desc), rfl, rfl, _, _, _, ty3, rfl⟩
theorem fld101_2 : Fld Tryd.prog 101 2 2 1 false := ⟨_, _, (by kernel_rfl : Tryd.prog.underlying 101 = some Tryd.t101.desc), rfl, rfl, _, _, _, ty3, rfl⟩
theorem fld101_3 : Fld Tryd.prog 101 3 3 25 true := ⟨_, _, (by kernel_rfl : Tryd.prog.underlying 101 = some Tryd.t101.desc), rfl, rfl, _, _, _, ty100, rfl⟩
theorem fld101_4 : Fld Tryd.prog 101 4 28 5 true := ⟨_, _, (by kernel_rfl : Tryd.prog.underlying 101 = some Tryd.t101.desc), rfl, rfl, _, _, _, ty55, rfl⟩
theorem fld101_5 : Fld Tryd.prog 101 5 33 1 false := ⟨_, _, (by kernel_rfl : Tryd.prog.underlying 101 = some Tryd.t101.desc), rfl, rfl, _, _, _, ty22, rfl⟩
theorem fld102_0 : Fld Tryd.prog 102 0 0 1 false := ⟨_, _, (by kernel_rfl : Tryd.prog.underlying 102 = some Tryd.t101.desc), rfl, rfl, _, _, _, ty3, rfl⟩
theorem fld102_1 : Fld Tryd.prog 102 1 1 1 false := ⟨_, _, (by kernel_rfl : Tryd.prog.underlying 102 = some Tryd.t101.desc), rfl, rfl, _, _, _, ty3, rfl⟩
theorem fld102_2 : Fld Tryd.prog 102 2 2 1 false := ⟨_, _, (by kernel_rfl : Tryd.prog.underlying 102 = some Tryd.t101.desc), rfl, rfl, _, _, _, ty3, rfl⟩
theorem fld102_3 : Fld Tryd.prog 102 3 3 25 true := ⟨_, _, (by kernel_rfl : Tryd.prog.underlying 102 = some Tryd.t101.desc), rfl, rfl, _, _, _, ty100, rfl⟩
theorem fld102_4 : Fld Tryd.prog 102 4 28 5 true := ⟨_, _, (by kernel_rfl : Tryd.prog.underlying 102 = some Tryd.t101.desc), rfl, rfl, _, _, _, ty55, rfl⟩
theorem fld102_5 : Fld Tryd.prog 102 5 33 1 false := ⟨_, _, (by kernel_rfl : Tryd.prog.underlying 102 = some Tryd.t101.desc), rfl, rfl, _, _, _, ty22, rfl⟩
theorem fld103_0 : Fld Tryd.prog 103 0 0 90 true := ⟨_, _, (by kernel_rfl : Tryd.prog.underlying 103 = some Tryd.t103.desc), rfl, rfl, _, _, _, ty60, rfl⟩
theorem fld103_1 : Fld Tryd.prog 103 1 90 1 false := ⟨_, _, (by kernel_rfl : Tryd.prog.underlying 103 = some Tryd.t103.desc), rfl, rfl, _, _, _, ty36, rfl⟩
theorem fld103_2 : Fld Tryd.prog 103 2 91 1 false := ⟨_, _, (by kernel_rfl : Tryd.prog.underlying 103 = some Tryd.t103.desc), rfl, rfl, _, _, _, ty3, rfl⟩
theorem fld103_3 : Fld Tryd.prog 103 3 92 1 false := ⟨_, _, (by kernel_rfl : Tryd.prog.underlying 103 = some Tryd.t103.desc), rfl, rfl, _, _, _, ty3, rfl⟩
theorem fld103_4 : Fld Tryd.prog 103 4 93 1 false := ⟨_, _, (by kernel_rfl : Tryd.prog.underlying 103 = some Tryd.t103.desc), rfl, rfl, _, _, _, ty4, rfl⟩
theorem fld103_5 : Fld Tryd.prog 103 5 94 1 false := ⟨_, _, (by kernel_rfl : Tryd.prog.underlying 103 = some Tryd.t103.desc), rfl, rfl, _, _, _, ty4, rfl⟩
theorem fld103_6 : Fld Tryd.prog 103 6 95 34 true := ⟨_, _, (by kernel_rfl : Tryd.prog.underlying 103 = some Tryd.t103.desc), rfl, rfl, _, _, _, ty102, rfl⟩
theorem fld103_7 : Fld Tryd.prog 103 7 129 1 false := ⟨_, _, (by kernel_rfl : Tryd.prog.underlying 103 = some Tryd.t103.desc), rfl, rfl, _, _, _, ty3, rfl⟩
theorem fld103_8 : Fld Tryd.prog 103 8 130 1 false := ⟨_, _, (by kernel_rfl : Tryd.prog.underlying 103 = some Tryd.t103.desc), rfl, rfl, _, _, _, ty22, rfl⟩
theorem fld104_0 : Fld Tryd.prog 104 0 0 90 true := ⟨_, _, (by kernel_rfl : Tryd.prog.underlying 104 = some Tryd.t103.desc), rfl, rfl, _, _, _, ty60, rfl⟩
theorem fld104_1 : Fld Tryd.prog 104 1 90 1 false := ⟨_, _, (by kernel_rfl : Tryd.prog.underlying 104 = some Tryd.t103.desc), rfl, rfl, _, _, _, ty36, rfl⟩
theorem fld104_2 : Fld Tryd.prog 104 2 91 1 false := ⟨_, _, (by kernel_rfl : Tryd.prog.underlying 104 = some Tryd.t103.desc), rfl, rfl, _, _, _, ty3, rfl⟩
theorem fld104_3 : Fld Tryd.prog 104 3 92 1 false := ⟨_, _, (by kernel_rfl : Tryd.prog.underlying 104 = some Tryd.t103.desc), rfl, rfl, _, _, _, ty3, rfl⟩
theorem fld104_4 : Fld Tryd.prog 104 4 93 1 false := ⟨_, _, (by kernel_rfl : Tryd.prog.underlying 104 = some Tryd.t103.desc), rfl, rfl, _, _, _, ty4, rfl⟩
theorem fld104_5 : Fld Tryd.prog 104 5 94 1 false := ⟨_, _, (by kernel_rfl : Tryd.prog.underlying 104 = some Tryd.t103.desc), rfl, rfl, _, _, _, ty4, rfl⟩
theorem fld104_6 : Fld Tryd.prog 104 6 95 34 true := ⟨_, _, (by kernel_rfl : Tryd.prog.underlying 104 = some Tryd.t103.desc), rfl, rfl, _, _, _, ty102, rfl⟩
theorem fld104_7 : Fld Tryd.prog 104 7 129 1 false := ⟨_, _, (by kernel_rfl : Tryd.prog.underlying 104 = some Tryd.t103.desc), rfl, rfl, _, _, _, ty3, rfl⟩
theorem fld104_8 : Fld Tryd.prog 104 8 130 1 false := ⟨_, _, (by kernel_rfl : Tryd.prog.underlying 104 = some Tryd.t103.desc), rfl, rfl, _, _, _, ty22, rfl⟩
theorem fld113_0 : Fld Tryd.prog 113 0 0 1 false := ⟨_, _, (by kernel_rfl : Tryd.prog.underlying 113 = some Tryd.t113.desc), rfl, rfl, _, _, _, ty3, rfl⟩
theorem fld113_1 : Fld Tryd.prog 113 1 1 7 true := ⟨_, _, (by kernel_rfl : Tryd.prog.underlying 113 = some Tryd.t113.desc), rfl, rfl, _, _, _, ty31, rfl⟩
theorem fld113_2 : Fld Tryd.prog 113 2 8 1 false := ⟨_, _, (by kernel_rfl : Tryd.prog.underlying 113 = some Tryd.t113.desc), rfl, rfl, _, _, _, ty29, rfl⟩
theorem fld114_0 : Fld Tryd.prog 114 0 0 1 false := ⟨_, _, (by kernel_rfl : Tryd.prog.underlying 114 = some Tryd.t113.desc), rfl, rfl, _, _, _, ty3, rfl⟩
theorem fld114_1 : Fld Tryd.prog 114 1 1 7 true := ⟨_, _, (by kernel_rfl : Tryd.prog.underlying 114 = some Tryd.t113.desc), rfl, rfl, _, _, _, ty31, rfl⟩
theorem fld114_2 : Fld Tryd.prog 114 2 8 1 false := ⟨_, _, (by kernel_rfl : Tryd.prog.underlying 114 = some Tryd.t113.desc), rfl, rfl, _, _, _, ty29, rfl⟩
theorem fld117_0 : Fld Tryd.prog 117 0 0 1 false := ⟨_, _, (by kernel_rfl : Tryd.prog.underlying 117 = some Tryd.t117.desc), rfl, rfl, _, _, _, ty3, rfl⟩
theorem fld117_1 : Fld Tryd.prog 117 1 1 1 false := ⟨_, _, (by kernel_rfl : Tryd.prog.underlying 117 = some Tryd.t117.desc), rfl, rfl, _, _, _, ty3, rfl⟩
theorem fld118_0 : Fld Tryd.prog 118 0 0 1 false := ⟨_, _, (by kernel_rfl : Tryd.prog.underlying 118 = some Tryd.t117.desc), rfl, rfl, _, _, _, ty3, rfl⟩
theorem fld118_1 : Fld Tryd.prog 118 1 1 1 false := ⟨_, _, (by kernel_rfl : Tryd.prog.underlying 118 = some Tryd.t117.desc), rfl, rfl, _, _, _, ty3, rfl⟩
theorem fld129_0 : Fld Tryd.prog 129 0 0 50 true := ⟨_, _, (by kernel_rfl : Tryd.prog.underlying 129 = some Tryd.t129.desc), rfl, rfl, _, _, _, ty127, rfl⟩
theorem fld129_1 : Fld Tryd.prog 129 1 50 40 true := ⟨_, _, (by kernel_rfl : Tryd.prog.underlying 129 = some Tryd.t129.desc), rfl, rfl, _, _, _, ty128, rfl⟩
theorem fld130_0 : Fld Tryd.prog 130 0 0 50 true := ⟨_, _, (by kernel_rfl : Tryd.prog.underlying 130 = some Tryd.t129.desc), rfl, rfl, _, _, _, ty127, rfl⟩
theorem fld130_1 : Fld Tryd.prog 130 1 50 40 true := ⟨_, _, (by kernel_rfl : Tryd.prog.underlying 130 = some Tryd.t129.desc), rfl, rfl, _, _, _, ty128, rfl⟩
theorem fld143_0 : Fld Tryd.prog 143 0 0 1 false := ⟨_, _, (by kernel_rfl : Tryd.prog.underlying 143 = some Tryd.t143.desc), rfl, rfl, _, _, _, ty37, rfl⟩
theorem fld143_1 : Fld Tryd.prog 143 1 1 1 false := ⟨_, _, (by kernel_rfl : Tryd.prog.underlying 143 = some Tryd.t143.desc), rfl, rfl, _, _, _, ty81, rfl⟩
theorem fld143_2 : Fld Tryd.prog 143 2 2 1 false := ⟨_, _, (by kernel_rfl : Tryd.prog.underlying 143 = some Tryd.t143.desc), rfl, rfl, _, _, _, ty3, rfl⟩
theorem fld143_3 : Fld Tryd.prog 143 3 3 1 false := ⟨_, _, (by kernel_rfl : Tryd.prog.underlying 143 = some Tryd.t143.desc), rfl, rfl, _, _, _, ty3, rfl⟩
theorem fld143_4 : Fld Tryd.prog 143 4 4 1 false := ⟨_, _, (by kernel_rfl : Tryd.prog.underlying 143 = some Tryd.t143.desc), rfl, rfl, _, _, _, ty4, rfl⟩
theorem fld143_5 : Fld Tryd.prog 143 5 5 1 false := ⟨_, _, (by kernel_rfl : Tryd.prog.underlying 143 = some Tryd.t143.desc), rfl, rfl, _, _, _, ty4, rfl⟩
theorem fld143_6 : Fld Tryd.prog 143 6 6 34 true := ⟨_, _, (by kernel_rfl : Tryd.prog.underlying 143 = some Tryd.t143.desc), rfl, rfl, _, _, _, ty91, rfl⟩
theorem fld143_7 : Fld Tryd.prog 143 7 40 1 false := ⟨_, _, (by kernel_rfl : Tryd.prog.underlying 143 = some Tryd.t143.desc), rfl, rfl, _, _, _, ty29, rfl⟩
theorem fld143_8 : Fld Tryd.prog 143 8 41 1 false := ⟨_, _, (by kernel_rfl : Tryd.prog.underlying 143 = some Tryd.t143.desc), rfl, rfl, _, _, _, ty22, rfl⟩
theorem fld144_0 : Fld Tryd.prog 144 0 0 1 false := ⟨_, _, (by kernel_rfl : Tryd.prog.underlying 144 = some Tryd.t143.desc), rfl, rfl, _, _, _, ty37, rfl⟩
theorem fld144_1 : Fld Tryd.prog 144 1 1 1 false := ⟨_, _, (by kernel_rfl : Tryd.prog.underlying 144 = some Tryd.t143.desc), rfl, rfl, _, _, _, ty81, rfl⟩
theorem fld144_2 : Fld Tryd.prog 144 2 2 1 false := ⟨_, _, (by kernel_rfl : Tryd.prog.underlying 144 = some Tryd.t143.desc), rfl, rfl, _, _, _, ty3, rfl⟩
theorem fld144_3 : Fld Tryd.prog 144 3 3 1 false := ⟨_, _, (by kernel_rfl : Tryd.prog.underlying 144 = some Tryd.t143.desc), rfl, rfl, _, _, _, ty3, rfl⟩
theorem fld144_4 : Fld Tryd.prog 144 4 4 1 false := ⟨_, _, (by kernel_rfl : Tryd.prog.underlying 144 = some Tryd.t143.desc), rfl, rfl, _, _, _, ty4, rfl⟩
theorem fld144_5 : Fld Tryd.prog 144 5 5 1 false := ⟨_, _, (by kernel_rfl : Tryd.prog.underlying 144 = some Tryd.t143.desc), rfl, rfl, _, _, _, ty4, rfl⟩
theorem fld144_6 : Fld Tryd.prog 144 6 6 34 true := ⟨_, _, (by kernel_rfl : Tryd.prog.underlying 144 = some Tryd.t143.desc), rfl, rfl, _, _, _, ty91, rfl⟩
theorem fld144_7 : Fld Tryd.prog 144 7 40 1 false := ⟨_, _, (by kernel_rfl : Tryd.prog.underlying 144 = some Tryd.t143.desc), rfl, rfl, _, _, _, ty29, rfl⟩
theorem fld144_8 : Fld Tryd.prog 144 8 41 1 false := ⟨_, _, (by kernel_rfl : Tryd.prog.underlying 144 = some Tryd.t143.desc), rfl, rfl, _, _, _, ty22, rfl⟩
theorem fld161_0 : Fld Tryd.prog 161 0 0 1 false := ⟨_, _, (by kernel_rfl : Tryd.prog.underlying 161 = some Tryd.t161.desc), rfl, rfl, _, _, _, ty4, rfl⟩
theorem fld161_1 : Fld Tryd.prog 161 1 1 1 false := ⟨_, _, (by kernel_rfl : Tryd.prog.underlying 161 = some Tryd.t161.desc), rfl, rfl, _, _, _, ty4, rfl⟩
theorem fld161_2 : Fld Tryd.prog 161 2 2 1 false := ⟨_, _, (by kernel_rfl : Tryd.prog.underlying 161 = some Tryd.t161.desc), rfl, rfl, _, _, _, ty4, rfl⟩
theorem fld161_3 : Fld Tryd.prog 161 3 3 1 false := ⟨_, _, (by kernel_rfl : Tryd.prog.underlying 161 = some Tryd.t161.desc), rfl, rfl, _, _, _, ty4, rfl⟩
theorem fld162_0 : Fld Tryd.prog 162 0 0 1 false := ⟨_, _, (by kernel_rfl : Tryd.prog.underlying 162 = some Tryd.t161.desc), rfl, rfl, _, _, _, ty4, rfl⟩
theorem fld162_1 : Fld Tryd.prog 162 1 1 1 false := ⟨_, _, (by kernel_rfl : Tryd.prog.underlying 162 = some Tryd.t161.desc), rfl, rfl, _, _, _, ty4, rfl⟩
theorem fld162_2 : Fld Tryd.prog 162 2 2 1 false := ⟨_, _, (by kernel_rfl : Tryd.prog.underlying 162 = some Tryd.t161.desc), rfl, rfl, _, _, _, ty4, rfl⟩
theorem fld162_3 : Fld Tryd.prog 162 3 3 1 false := ⟨_, _, (by kernel_rfl : Tryd.prog.underlying 162 = some Tryd.t161.desc), rfl, rfl, _, _, _, ty4, rfl⟩
theorem fld183_0 : Fld Tryd.prog 183 0 0 1 false := ⟨_, _, (by kernel_rfl : Tryd.prog.underlying 183 = some Tryd.t183.desc), rfl, rfl, _, _, _, ty3, rfl⟩
theorem fld183_1 : Fld Tryd.prog 183 1 1 1 false := ⟨_, _, (by kernel_rfl : Tryd.prog.underlying 183 = some Tryd.t183.desc), rfl, rfl, _, _, _, ty3, rfl⟩
theorem fld184_0 : Fld Tryd.prog 184 0 0 1 false := ⟨_, _, (by kernel_rfl : Tryd.prog.underlying 184 = some Tryd.t183.desc), rfl, rfl, _, _, _, ty3, rfl⟩
theorem fld184_1 : Fld Tryd.prog 184 1 1 1 false := ⟨_, _, (by kernel_rfl : Tryd.prog.underlying 184 = some Tryd.t183.desc), rfl, rfl, _, _, _, ty3, rfl⟩
theorem fld200_0 : Fld Tryd.prog 200 0 0 1 false := ⟨_, _, (by kernel_rfl : Tryd.prog.underlying 200 = some Tryd.t200.desc), rfl, rfl, _, _, _, ty198, rfl⟩
theorem fld200_1 : Fld Tryd.prog 200 1 1 1 false := ⟨_, _, (by kernel_rfl : Tryd.prog.underlying 200 = some Tryd.t200.desc), rfl, rfl, _, _, _, ty199, rfl⟩
theorem fld200_2 : Fld Tryd.prog 200 2 2 1 false := ⟨_, _, (by kernel_rfl : Tryd.prog.underlying 200 = some Tryd.t200.desc), rfl, rfl, _, _, _, ty3, rfl⟩
theorem fld201_0 : Fld Tryd.prog 201 0 0 1 false := ⟨_, _, (by kernel_rfl : Tryd.prog.underlying 201 = some Tryd.t200.desc), rfl, rfl, _, _, _, ty198, rfl⟩
theorem fld201_1 : Fld Tryd.prog 201 1 1 1 false := ⟨_, _, (by kernel_rfl : Tryd.prog.underlying 201 = some Tryd.t200.desc), rfl, rfl, _, _, _, ty199, rfl⟩
theorem fld201_2 : Fld Tryd.prog 201 2 2 1 false := ⟨_, _, (by kernel_rfl : Tryd.prog.underlying 201 = some Tryd.t200.desc), rfl, rfl, _, _, _, ty3, rfl⟩
theorem fld203_0 : Fld Tryd.prog 203 0 0 1 false := ⟨_, _, (by kernel_rfl : Tryd.prog.underlying 203 = some Tryd.t203.desc), rfl, rfl, _, _, _, ty202, rfl⟩
theorem fld203_1 : Fld Tryd.prog 203 1 1 1 false := ⟨_, _, (by kernel_rfl : Tryd.prog.underlying 203 = some Tryd.t203.desc), rfl, rfl, _, _, _, ty202, rfl⟩
theorem fld203_2 : Fld Tryd.prog 203 2 2 1 false := ⟨_, _, (by kernel_rfl : Tryd.prog.underlying 203 = some Tryd.t203.desc), rfl, rfl, _, _, _, ty202, rfl⟩
theorem fld204_0 : Fld Tryd.prog 204 0 0 1 false := ⟨_, _, (by kernel_rfl : Tryd.prog.underlying 204 = some Tryd.t203.desc), rfl, rfl, _, _, _, ty202, rfl⟩
theorem fld204_1 : Fld Tryd.prog 204 1 1 1 false := ⟨_, _, (by kernel_rfl : Tryd.prog.underlying 204 = some Tryd.t203.desc), rfl, rfl, _, _, _, ty202, rfl⟩
theorem fld204_2 : Fld Tryd.prog 204 2 2 1 false := ⟨_, _, (by kernel_rfl : Tryd.prog.underlying 204 = some Tryd.t203.desc), rfl, rfl, _, _, _, ty202, rfl⟩
theorem fld206_0 : Fld Tryd.prog 206 0 0 1 false := ⟨_, _, (by kernel_rfl : Tryd.prog.underlying 206 = some Tryd.t206.desc), rfl, rfl, _, _, _, ty185, rfl⟩
theorem fld206_1 : Fld Tryd.prog 206 1 1 1 false := ⟨_, _, (by kernel_rfl : Tryd.prog.underlying 206 = some Tryd.t206.desc), rfl, rfl, _, _, _, ty185, rfl⟩
theorem fld206_2 : Fld Tryd.prog 206 2 2 1 false := ⟨_, _, (by kernel_rfl : Tryd.prog.underlying 206 = some Tryd.t206.desc), rfl, rfl, _, _, _, ty185, rfl⟩
theorem fld207_0 : Fld Tryd.prog 207 0 0 1 false := ⟨_, _, (by kernel_rfl : Tryd.prog.underlying 207 = some Tryd.t206.desc), rfl, rfl, _, _, _, ty185, rfl⟩
theorem fld207_1 : Fld Tryd.prog 207 1 1 1 false := ⟨_, _, (by kernel_rfl : Tryd.prog.underlying 207 = some Tryd.t206.desc), rfl, rfl, _, _, _, ty185, rfl⟩
theorem fld207_2 : Fld Tryd.prog 207 2 2 1 false := ⟨_, _, (by kernel_rfl : Tryd.prog.underlying 207 = some Tryd.t206.desc), rfl, rfl, _, _, _, ty185, rfl⟩
theorem fld213_0 : Fld Tryd.prog 213 0 0 1 false := ⟨_, _, (by kernel_rfl : Tryd.prog.underlying 213 = some Tryd.t213.desc), rfl, rfl, _, _, _, ty17, rfl⟩
theorem fld213_1 : Fld Tryd.prog 213 1 1 1 false := ⟨_, _, (by kernel_rfl : Tryd.prog.underlying 213 = some Tryd.t213.desc), rfl, rfl, _, _, _, ty17, rfl⟩
theorem fld213_2 : Fld Tryd.prog 213 2 2 1 false := ⟨_, _, (by kernel_rfl : Tryd.prog.underlying 213 = some Tryd.t213.desc), rfl, rfl, _, _, _, ty17, rfl⟩
theorem fld213_3 : Fld Tryd.prog 213 3 3 1 false := ⟨_, _, (by kernel_rfl : Tryd.prog.underlying 213 = some Tryd.t213.desc), rfl, rfl, _, _, _, ty9, rfl⟩
theorem fld214_0 : Fld Tryd.prog 214 0 0 1 false := ⟨_, _, (by kernel_rfl : Tryd.prog.underlying 214 = some Tryd.t213.desc), rfl, rfl, _, _, _, ty17, rfl⟩
theorem fld214_1 : Fld Tryd.prog 214 1 1 1 false := ⟨_, _, (by kernel_rfl : Tryd.prog.underlying 214 = some Tryd.t213.desc), rfl, rfl, _, _, _, ty17, rfl⟩
theorem fld214_2 : Fld Tryd.prog 214 2 2 1 false := ⟨_, _, (by kernel_rfl : Tryd.prog.underlying 214 = some Tryd.t213.desc), rfl, rfl, _, _, _, ty17, rfl⟩
theorem fld214_3 : Fld Tryd.prog 214 3 3 1 false := ⟨_, _, (by kernel_rfl : Tryd.prog.underlying 214 = some Tryd.t213.desc), rfl, rfl, _, _, _, ty9, rfl⟩
theorem fld216_0 : Fld Tryd.prog 216 0 0 0 true := ⟨_, _, (by kernel_rfl : Tryd.prog.underlying 216 = some Tryd.t216.desc), rfl, rfl, _, _, _, ty215, rfl⟩
theorem fld217_0 : Fld Tryd.prog 217 0 0 0 true := ⟨_, _, (by kernel_rfl : Tryd.prog.underlying 217 = some Tryd.t216.desc), rfl, rfl, _, _, _, ty215, rfl⟩
theorem fld224_0 : Fld Tryd.prog 224 0 0 1 false := ⟨_, _, (by kernel_rfl : Tryd.prog.underlying 224 = some Tryd.t224.desc), rfl, rfl, _, _, _, ty12, rfl⟩
theorem fld224_1 : Fld Tryd.prog 224 1 1 1 false := ⟨_, _, (by kernel_rfl : Tryd.prog.underlying 224 = some Tryd.t224.desc), rfl, rfl, _, _, _, ty12, rfl⟩
theorem fld224_2 : Fld Tryd.prog 224 2 2 1 false := ⟨_, _, (by kernel_rfl : Tryd.prog.underlying 224 = some Tryd.t224.desc), rfl, rfl, _, _, _, ty185, rfl⟩
theorem fld224_3 : Fld Tryd.prog 224 3 3 1 false := ⟨_, _, (by kernel_rfl : Tryd.prog.underlying 224 = some Tryd.t224.desc), rfl, rfl, _, _, _, ty218, rfl⟩
theorem fld224_4 : Fld Tryd.prog 224 4 4 1 false := ⟨_, _, (by kernel_rfl : Tryd.prog.underlying 224 = some Tryd.t224.desc), rfl, rfl, _, _, _, ty5, rfl⟩
theorem fld224_5 : Fld Tryd.prog 224 5 5 1 false := ⟨_, _, (by kernel_rfl : Tryd.prog.underlying 224 = some Tryd.t224.desc), rfl, rfl, _, _, _, ty5, rfl⟩
theorem fld224_6 : Fld Tryd.prog 224 6 6 1 false := ⟨_, _, (by kernel_rfl : Tryd.prog.underlying 224 = some Tryd.t224.desc), rfl, rfl, _, _, _, ty219, rfl⟩
theorem fld224_7 : Fld Tryd.prog 224 7 7 1 false := ⟨_, _, (by kernel_rfl : Tryd.prog.underlying 224 = some Tryd.t224.desc), rfl, rfl, _, _, _, ty220, rfl⟩
theorem fld224_8 : Fld Tryd.prog 224 8 8 1 false := ⟨_, _, (by kernel_rfl : Tryd.prog.underlying 224 = some Tryd.t224.desc), rfl, rfl, _, _, _, ty221, rfl⟩
theorem fld224_9 : Fld Tryd.prog 224 9 9 1 false := ⟨_, _, (by kernel_rfl : Tryd.prog.underlying 224 = some Tryd.t224.desc), rfl, rfl, _, _, _, ty222, rfl⟩
theorem fld224_10 : Fld Tryd.prog 224 10 10 1 false := ⟨_, _, (by kernel_rfl : Tryd.prog.underlying 224 = some Tryd.t224.desc), rfl, rfl, _, _, _, ty223, rfl⟩
theorem fld225_0 : Fld Tryd.prog 225 0 0 1 false := ⟨_, _, (by kernel_rfl : Tryd.prog.underlying 225 = some Tryd.t224.desc), rfl, rfl, _, _, _, ty12, rfl⟩
theorem fld225_1 : Fld Tryd.prog 225 1 1 1 false := ⟨_, _, (by kernel_rfl : Tryd.prog.underlying 225 = some Tryd.t224.desc), rfl, rfl, _, _, _, ty12, rfl⟩
theorem fld225_2 : Fld Tryd.prog 225 2 2 1 false := ⟨_, _, (by kernel_rfl : Tryd.prog.underlying 225 = some Tryd.t224.desc), rfl, rfl, _, _, _, ty185, rfl⟩
theorem fld225_3 : Fld Tryd.prog 225 3 3 1 false := ⟨_, _, (by kernel_rfl : Tryd.prog.underlying 225 = some Tryd.t224.desc), rfl, rfl, _, _, _, ty218, rfl⟩
theorem fld225_4 : Fld Tryd.prog 225 4 4 1 false := ⟨_, _, (by kernel_rfl : Tryd.prog.underlying 225 = some Tryd.t224.desc), rfl, rfl, _, _, _, ty5, rfl⟩
theorem fld225_5 : Fld Tryd.prog 225 5 5 1 false := ⟨_, _, (by kernel_rfl : Tryd.prog.underlying 225 = some Tryd.t224.desc), rfl, rfl, _, _, _, ty5, rfl⟩
theorem fld225_6 : Fld Tryd.prog 225 6 6 1 false := ⟨_, _, (by kernel_rfl : Tryd.prog.underlying 225 = some Tryd.t224.desc), rfl, rfl, _, _, _, ty219, rfl⟩
theorem fld225_7 : Fld Tryd.prog 225 7 7 1 false := ⟨_, _, (by kernel_rfl : Tryd.prog.underlying 225 = some Tryd.t224.desc), rfl, rfl, _, _, _, ty220, rfl⟩
theorem fld225_8 : Fld Tryd.prog 225 8 8 1 false := ⟨_, _, (by kernel_rfl : Tryd.prog.underlying 225 = some Tryd.t224.desc), rfl, rfl, _, _, _, ty221, rfl⟩
theorem fld225_9 : Fld Tryd.prog 225 9 9 1 false := ⟨_, _, (by kernel_rfl : Tryd.prog.underlying 225 = some Tryd.t224.desc), rfl, rfl, _, _, _, ty222, rfl⟩
theorem fld225_10 : Fld Tryd.prog 225 10 10 1 false := ⟨_, _, (by kernel_rfl : Tryd.prog.underlying 225 = some Tryd.t224.desc), rfl, rfl, _, _, _, ty223, rfl⟩
theorem pl7 : StructPl Tryd.prog 7 [(0, 1), (1, 1), (2, 1), (3, 1)] := ⟨_, (by kernel_rfl : Tryd.prog.underlying 7 = some Tryd.t7.desc), fun _ => by kernel_rfl⟩
theorem pl8 : StructPl Tryd.prog 8 [(0, 1), (1, 1), (2, 1), (3, 1)] := ⟨_, (by kernel_rfl : Tryd.prog.underlying 8 = some Tryd.t7.desc), fun _ => by kernel_rfl⟩
theorem pl13 : StructPl Tryd.prog 13 [(0, 1), (1, 1)] := ⟨_, (by kernel_rfl : Tryd.prog.underlying 13 = some Tryd.t13.desc), fun _ => by kernel_rfl⟩
theorem pl14 : StructPl Tryd.prog 14 [(0, 1), (1, 1)] := ⟨_, (by kernel_rfl : Tryd.prog.underlying 14 = some Tryd.t13.desc), fun _ => by kernel_rfl⟩
theorem pl18 : StructPl Tryd.prog 18 [(0, 1)] := ⟨_, (by kernel_rfl : Tryd.prog.underlying 18 = some Tryd.t18.desc), fun _ => by kernel_rfl⟩
theorem pl19 : StructPl Tryd.prog 19 [(0, 1)] := ⟨_, (by kernel_rfl : Tryd.prog.underlying 19 = some Tryd.t18.desc), fun _ => by kernel_rfl⟩
theorem pl24 : StructPl Tryd.prog 24 [(0, 1), (1, 1), (2, 1), (3, 1), (4, 1), (5, 1), (6, 1)] := ⟨_, (by kernel_rfl : Tryd.prog.underlying 24 = some Tryd.t24.desc), fun _ => by kernel_rfl⟩
theorem pl25 : StructPl Tryd.prog 25 [(0, 1), (1, 1), (2, 1), (3, 1), (4, 1), (5, 1), (6, 1)] := ⟨_, (by kernel_rfl : Tryd.prog.underlying 25 = some Tryd.t24.desc), fun _ => by kernel_rfl⟩
theorem pl31 : StructPl Tryd.prog 31 [(0, 1), (1, 1), (2, 1), (3, 1), (4, 1), (5, 1), (6, 1)] := ⟨_, (by kernel_rfl : Tryd.prog.underlying 31 = some Tryd.t24.desc), fun _ => by kernel_rfl⟩
theorem pl43 : StructPl Tryd.prog 43 [(0, 1), (1, 1), (2, 1), (3, 1), (4, 1)] := ⟨_, (by kernel_rfl : Tryd.prog.underlying 43 = some Tryd.t43.desc), fun _ => by kernel_rfl⟩
theorem pl44 : StructPl Tryd.prog 44 [(0, 1), (1, 1), (2, 1), (3, 1), (4, 1)] := ⟨_, (by kernel_rfl : Tryd.prog.underlying 44 = some Tryd.t43.desc), fun _ => by kernel_rfl⟩
theorem pl46 : StructPl Tryd.prog 46 [(0, 1), (1, 1), (2, 1), (3, 1), (4, 1)] := ⟨_, (by kernel_rfl : Tryd.prog.underlying 46 = some Tryd.t43.desc), fun _ => by kernel_rfl⟩
theorem pl47 : StructPl Tryd.prog 47 [(0, 1), (1, 1)] := ⟨_, (by kernel_rfl : Tryd.prog.underlying 47 = some Tryd.t47.desc), fun _ => by kernel_rfl⟩
theorem pl48 : StructPl Tryd.prog 48 [(0, 1), (1, 1)] := ⟨_, (by kernel_rfl : Tryd.prog.underlying 48 = some Tryd.t47.desc), fun _ => by kernel_rfl⟩
theorem pl49 : StructPl Tryd.prog 49 [(0, 1), (1, 1), (2, 2), (4, 1)] := ⟨_, (by kernel_rfl : Tryd.prog.underlying 49 = some Tryd.t49.desc), fun _ => by kernel_rfl⟩
theorem pl50 : StructPl Tryd.prog 50 [(0, 1), (1, 1), (2, 2), (4, 1)] := ⟨_, (by kernel_rfl : Tryd.prog.underlying 50 = some Tryd.t49.desc), fun _ => by kernel_rfl⟩
theorem pl54 : StructPl Tryd.prog 54 [(0, 1), (1, 1), (2, 1), (3, 1), (4, 1)] := ⟨_, (by kernel_rfl : Tryd.prog.underlying 54 = some Tryd.t54.desc), fun _ => by kernel_rfl⟩
theorem pl55 : StructPl Tryd.prog 55 [(0, 1), (1, 1), (2, 1), (3, 1), (4, 1)] := ⟨_, (by kernel_rfl : Tryd.prog.underlying 55 = some Tryd.t54.desc), fun _ => by kernel_rfl⟩
theorem pl59 : StructPl Tryd.prog 59 [(0, 90)] := ⟨_, (by kernel_rfl : Tryd.prog.underlying 59 = some Tryd.t59.desc), fun _ => by kernel_rfl⟩
theorem pl60 : StructPl Tryd.prog 60 [(0, 90)] := ⟨_, (by kernel_rfl : Tryd.prog.underlying 60 = some Tryd.t59.desc), fun _ => by kernel_rfl⟩
theorem pl61 : StructPl Tryd.prog 61 [(0, 1), (1, 1), (2, 5)] := ⟨_, (by kernel_rfl : Tryd.prog.underlying 61 = some Tryd.t61.desc), fun _ => by kernel_rfl⟩
theorem pl62 : StructPl Tryd.prog 62 [(0, 1), (1, 1), (2, 5)] := ⟨_, (by kernel_rfl : Tryd.prog.underlying 62 = some Tryd.t61.desc), fun _ => by kernel_rfl⟩
theorem pl83 : StructPl Tryd.prog 83 [(0, 1), (1, 1)] := ⟨_, (by kernel_rfl : Tryd.prog.underlying 83 = some Tryd.t83.desc), fun _ => by kernel_rfl⟩
theorem pl84 : StructPl Tryd.prog 84 [(0, 1), (1, 1)] := ⟨_, (by kernel_rfl : Tryd.prog.underlying 84 = some Tryd.t83.desc), fun _ => by kernel_rfl⟩
theorem pl90 : StructPl Tryd.prog 90 [(0, 1), (1, 1), (2, 1), (3, 25), (28, 5), (33, 1)] := ⟨_, (by kernel_rfl : Tryd.prog.underlying 90 = some Tryd.t90.desc), fun _ => by kernel_rfl⟩
theorem pl91 : StructPl Tryd.prog 91 [(0, 1), (1, 1), (2, 1), (3, 25), (28, 5), (33, 1)] := ⟨_, (by kernel_rfl : Tryd.prog.underlying 91 = some Tryd.t90.desc), fun _ => by kernel_rfl⟩
theorem pl101 : StructPl Tryd.prog 101 [(0, 1), (1, 1), (2, 1), (3, 25), (28, 5), (33, 1)] := ⟨_, (by kernel_rfl : Tryd.prog.underlying 101 = some Tryd.t101.desc), fun _ => by kernel_rfl⟩
theorem pl102 : StructPl Tryd.prog 102 [(0, 1), (1, 1), (2, 1), (3, 25), (28, 5), (33, 1)] := ⟨_, (by kernel_rfl : Tryd.prog.underlying 102 = some Tryd.t101.desc), fun _ => by kernel_rfl⟩
theorem pl103 : StructPl Tryd.prog 103 [(0, 90), (90, 1), (91, 1), (92, 1), (93, 1), (94, 1), (95, 34), (129, 1), (130, 1)] := ⟨_, (by kernel_rfl : Tryd.prog.underlying 103 = some Tryd.t103.desc), fun _ => by kernel_rfl⟩
theorem pl104 : StructPl Tryd.prog 104 [(0, 90), (90, 1), (91, 1), (92, 1), (93, 1), (94, 1), (95, 34), (129, 1), (130, 1)] := ⟨_, (by kernel_rfl : Tryd.prog.underlying 104 = some Tryd.t103.desc), fun _ => by kernel_rfl⟩
theorem pl113 : StructPl Tryd.prog 113 [(0, 1), (1, 7), (8, 1)] := ⟨_, (by kernel_rfl : Tryd.prog.underlying 113 = some Tryd.t113.desc), fun _ => by kernel_rfl⟩
theorem pl114 : StructPl Tryd.prog 114 [(0, 1), (1, 7), (8, 1)] := ⟨_, (by kernel_rfl : Tryd.prog.underlying 114 = some Tryd.t113.desc), fun _ => by kernel_rfl⟩
theorem pl117 : StructPl Tryd.prog 117 [(0, 1), (1, 1)] := ⟨_, (by kernel_rfl : Tryd.prog.underlying 117 = some Tryd.t117.desc), fun _ => by kernel_rfl⟩
theorem pl118 : StructPl Tryd.prog 118 [(0, 1), (1, 1)] := ⟨_, (by kernel_rfl : Tryd.prog.underlying 118 = some Tryd.t117.desc), fun _ => by kernel_rfl⟩
theorem pl129 : StructPl Tryd.prog 129 [(0, 50), (50, 40)] := ⟨_, (by kernel_rfl : Tryd.prog.underlying 129 = some Tryd.t129.desc), fun _ => by kernel_rfl⟩
theorem pl130 : StructPl Tryd.prog 130 [(0, 50), (50, 40)] := ⟨_, (by kernel_rfl : Tryd.prog.underlying 130 = some Tryd.t129.desc), fun _ => by kernel_rfl⟩
theorem pl143 : StructPl Tryd.prog 143 [(0, 1), (1, 1), (2, 1), (3, 1), (4, 1), (5, 1), (6, 34), (40, 1), (41, 1)] := ⟨_, (by kernel_rfl : Tryd.prog.underlying 143 = some Tryd.t143.desc), fun _ => by kernel_rfl⟩
theorem pl144 : StructPl Tryd.prog 144 [(0, 1), (1, 1), (2, 1), (3, 1), (4, 1), (5, 1), (6, 34), (40, 1), (41, 1)] := ⟨_, (by kernel_rfl : Tryd.prog.underlying 144 = some Tryd.t143.desc), fun _ => by kernel_rfl⟩
theorem pl161 : StructPl Tryd.prog 161 [(0, 1), (1, 1), (2, 1), (3, 1)] := ⟨_, (by kernel_rfl : Tryd.prog.underlying 161 = some Tryd.t161.desc), fun _ => by kernel_rfl⟩
theorem pl162 : StructPl Tryd.prog 162 [(0, 1), (1, 1), (2, 1), (3, 1)] := ⟨_, (by kernel_rfl : Tryd.prog.underlying 162 = some Tryd.t161.desc), fun _ => by kernel_rfl⟩
theorem pl183 : StructPl Tryd.prog 183 [(0, 1), (1, 1)] := ⟨_, (by kernel_rfl : Tryd.prog.underlying 183 = some Tryd.t183.desc), fun _ => by kernel_rfl⟩
theorem pl184 : StructPl Tryd.prog 184 [(0, 1), (1, 1)] := ⟨_, (by kernel_rfl : Tryd.prog.underlying 184 = some Tryd.t183.desc), fun _ => by kernel_rfl⟩
theorem pl200 : StructPl Tryd.prog 200 [(0, 1), (1, 1), (2, 1)] := ⟨_, (by kernel_rfl : Tryd.prog.underlying 200 = some Tryd.t200.desc), fun _ => by kernel_rfl⟩
theorem pl201 : StructPl Tryd.prog 201 [(0, 1), (1, 1), (2, 1)] := ⟨_, (by kernel_rfl : Tryd.prog.underlying 201 = some Tryd.t200.desc), fun _ => by kernel_rfl⟩
theorem pl203 : StructPl Tryd.prog 203 [(0, 1), (1, 1), (2, 1)] := ⟨_, (by kernel_rfl : Tryd.prog.underlying 203 = some Tryd.t203.desc), fun _ => by kernel_rfl⟩
theorem pl204 : StructPl Tryd.prog 204 [(0, 1), (1, 1), (2, 1)] := ⟨_, (by kernel_rfl : Tryd.prog.underlying 204 = some Tryd.t203.desc), fun _ => by kernel_rfl⟩
theorem pl206 : StructPl Tryd.prog 206 [(0, 1), (1, 1), (2, 1)] := ⟨_, (by kernel_rfl : Tryd.prog.underlying 206 = some Tryd.t206.desc), fun _ => by kernel_rfl⟩
theorem pl207 : StructPl Tryd.prog 207 [(0, 1), (1, 1), (2, 1)] := ⟨_, (by kernel_rfl : Tryd.prog.underlying 207 = some Tryd.t206.desc), fun _ => by kernel_rfl⟩
theorem pl213 : StructPl Tryd.prog 213 [(0, 1), (1, 1), (2, 1), (3, 1)] := ⟨_, (by kernel_rfl : Tryd.prog.underlying 213 = some Tryd.t213.desc), fun _ => by kernel_rfl⟩
theorem pl214 : StructPl Tryd.prog 214 [(0, 1), (1, 1), (2, 1), (3, 1)] := ⟨_, (by kernel_rfl : Tryd.prog.underlying 214 = some Tryd.t213.desc), fun _ => by kernel_rfl⟩
theorem pl216 : StructPl Tryd.prog 216 [(0, 0)] := ⟨_, (by kernel_rfl : Tryd.prog.underlying 216 = some Tryd.t216.desc), fun _ => by kernel_rfl⟩
theorem pl217 : StructPl Tryd.prog 217 [(0, 0)] := ⟨_, (by kernel_rfl : Tryd.prog.underlying 217 = some Tryd.t216.desc), fun _ => by kernel_rfl⟩
theorem pl224 : StructPl Tryd.prog 224 [(0, 1), (1, 1), (2, 1), (3, 1), (4, 1), (5, 1), (6, 1), (7, 1), (8, 1), (9, 1), (10, 1)] := ⟨_, (by kernel_rfl : Tryd.prog.underlying 224 = some Tryd.t224.desc), fun _ => by kernel_rfl⟩
theorem pl225 : StructPl Tryd.prog 225 [(0, 1), (1, 1), (2, 1), (3, 1), (4, 1), (5, 1), (6, 1), (7, 1), (8, 1), (9, 1), (10, 1)] := ⟨_, (by kernel_rfl : Tryd.prog.underlying 225 = some Tryd.t224.desc), fun _ => by kernel_rfl⟩
end Go.Proofs.YtkhkagjbeilbgaaDoor

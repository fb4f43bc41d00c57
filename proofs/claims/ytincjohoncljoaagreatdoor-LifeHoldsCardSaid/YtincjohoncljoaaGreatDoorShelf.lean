/-
  DERIVED: THE SHELF's CONTRACTS AT THIS DUMP, IN PLAIN WORDS (tools/lay-plain.mjs out of 'TryzShelf.lean', which tools/lay-shelf.mjs wrote): THE SAME DECLARATIONS UNDER THE SAME NAMES: 'import', 'namespace', 'open', 'def', 'theorem' AND NOTHING ELSE: no command of the shelf's: FOR A HAND-IN. Each laying: the table of numbers ('.._ren') and one theorem, a field a fact of the dump's own or the kernel's comparison; each contract: ONE APPLICATION.
-/
import Derived.Shelf.Small.Bits
import Derived.Shelf.Small.Wraps
import Derived.Shelf.SlSortCmp.Whole1
import Derived.Shelf.Sort.Plain
import Derived.Shelf.Slices.In.SortNone
import Derived.Test.YtincjohoncljoaaGreatDoorProg
namespace Go.Proofs
open Go.Shelf
def Tryz.lays125_ren : Go.Shelf.Ren := ⟨fun | 125 => 227 | 128 => 326 | 129 => 327 | n => n, fun | 46 => 357 | 3 => 3 | 51 => 476 | 53 => 30 | 4 => 4 | 5 => 5 | 9 => 9 | n => n, fun | n => n⟩
theorem Tryz.lays125 : Go.Proofs.Lays.n125 Tryz.prog Tryz.lays125_ren := {
  mixed := by kernel_rfl
  f125 := Tryz.func227.trans (congrArg some (by kernel_rfl))
  f128 := Tryz.func326.trans (congrArg some (by kernel_rfl))
  f129 := Tryz.func327.trans (congrArg some (by kernel_rfl))
  t3 := Tryz.underlying3
  a3 := Tryz.isAgg3
  z3 := Tryz.sizeOf3
  v3 := Tryz.zeroValue3
  t4 := Tryz.underlying4
  a4 := Tryz.isAgg4
  z4 := Tryz.sizeOf4
  v4 := Tryz.zeroValue4
  t5 := Tryz.underlying5
  a5 := Tryz.isAgg5
  z5 := Tryz.sizeOf5
  v5 := Tryz.zeroValue5
  t9 := Tryz.underlying9
  a9 := Tryz.isAgg9
  z9 := Tryz.sizeOf9
  v9 := Tryz.zeroValue9
  t46 := Tryz.underlying357
  a46 := Tryz.isAgg357
  z46 := Tryz.sizeOf357
  v46 := Tryz.zeroValue357
  t51 := Tryz.underlying476
  a51 := Tryz.isAgg476
  z51 := Tryz.sizeOf476
  v51 := Tryz.zeroValue476
  t53 := Tryz.underlying30
  a53 := Tryz.isAgg30
  z53 := Tryz.sizeOf30
  v53 := Tryz.zeroValue30 }
def Tryz.lays122_ren : Go.Shelf.Ren := ⟨fun | 122 => 313 | 215 => 387 | n => n, fun | 3 => 3 | 4 => 4 | n => n, fun | n => n⟩
theorem Tryz.lays122 : Go.Proofs.Lays.n122 Tryz.prog Tryz.lays122_ren := {
  mixed := by kernel_rfl
  f122 := Tryz.func313.trans (congrArg some (by kernel_rfl))
  f215 := Tryz.func387.trans (congrArg some (by kernel_rfl))
  t3 := Tryz.underlying3
  a3 := Tryz.isAgg3
  z3 := Tryz.sizeOf3
  v3 := Tryz.zeroValue3
  t4 := Tryz.underlying4
  a4 := Tryz.isAgg4
  z4 := Tryz.sizeOf4
  v4 := Tryz.zeroValue4 }
def Tryz.lays189_ren : Go.Shelf.Ren := ⟨fun | 189 => 174 | 125 => 227 | 257 => 262 | 128 => 326 | 129 => 327 | 294 => 348 | 295 => 349 | 296 => 350 | 297 => 351 | 298 => 352 | 299 => 353 | 216 => 354 | 300 => 355 | 301 => 356 | 328 => 403 | 329 => 390 | 330 => 391 | 331 => 404 | 332 => 405 | 215 => 387 | 343 => 431 | n => n, fun | 28 => 63 | 3 => 3 | 46 => 357 | 0 => 0 | 51 => 476 | 53 => 30 | 4 => 4 | 183 => 469 | 182 => 468 | 131 => 124 | 5 => 5 | 9 => 9 | 218 => 544 | 222 => 546 | 228 => 574 | 229 => 120 | n => n, fun | n => n⟩
theorem Tryz.lays189 : Go.Proofs.Lays.n189 Tryz.prog Tryz.lays189_ren := {
  mixed := by kernel_rfl
  f125 := Tryz.func227.trans (congrArg some (by kernel_rfl))
  f128 := Tryz.func326.trans (congrArg some (by kernel_rfl))
  f129 := Tryz.func327.trans (congrArg some (by kernel_rfl))
  f189 := Tryz.func174.trans (congrArg some (by kernel_rfl))
  f215 := Tryz.func387.trans (congrArg some (by kernel_rfl))
  f216 := Tryz.func354.trans (congrArg some (by kernel_rfl))
  f257 := Tryz.func262.trans (congrArg some (by kernel_rfl))
  f294 := Tryz.func348.trans (congrArg some (by kernel_rfl))
  f295 := Tryz.func349.trans (congrArg some (by kernel_rfl))
  f296 := Tryz.func350.trans (congrArg some (by kernel_rfl))
  f297 := Tryz.func351.trans (congrArg some (by kernel_rfl))
  f298 := Tryz.func352.trans (congrArg some (by kernel_rfl))
  f299 := Tryz.func353.trans (congrArg some (by kernel_rfl))
  f300 := Tryz.func355.trans (congrArg some (by kernel_rfl))
  f301 := Tryz.func356.trans (congrArg some (by kernel_rfl))
  f328 := Tryz.func403.trans (congrArg some (by kernel_rfl))
  f329 := Tryz.func390.trans (congrArg some (by kernel_rfl))
  f330 := Tryz.func391.trans (congrArg some (by kernel_rfl))
  f331 := Tryz.func404.trans (congrArg some (by kernel_rfl))
  f332 := Tryz.func405.trans (congrArg some (by kernel_rfl))
  f343 := Tryz.func431.trans (congrArg some (by kernel_rfl))
  t0 := Tryz.underlying0
  a0 := Tryz.isAgg0
  z0 := Tryz.sizeOf0
  v0 := Tryz.zeroValue0
  t3 := Tryz.underlying3
  a3 := Tryz.isAgg3
  z3 := Tryz.sizeOf3
  v3 := Tryz.zeroValue3
  t4 := Tryz.underlying4
  a4 := Tryz.isAgg4
  z4 := Tryz.sizeOf4
  v4 := Tryz.zeroValue4
  t5 := Tryz.underlying5
  a5 := Tryz.isAgg5
  z5 := Tryz.sizeOf5
  v5 := Tryz.zeroValue5
  t9 := Tryz.underlying9
  a9 := Tryz.isAgg9
  z9 := Tryz.sizeOf9
  v9 := Tryz.zeroValue9
  t28 := Tryz.underlying63
  a28 := Tryz.isAgg63
  z28 := Tryz.sizeOf63
  v28 := Tryz.zeroValue63
  t46 := Tryz.underlying357
  a46 := Tryz.isAgg357
  z46 := Tryz.sizeOf357
  v46 := Tryz.zeroValue357
  t51 := Tryz.underlying476
  a51 := Tryz.isAgg476
  z51 := Tryz.sizeOf476
  v51 := Tryz.zeroValue476
  t53 := Tryz.underlying30
  a53 := Tryz.isAgg30
  z53 := Tryz.sizeOf30
  v53 := Tryz.zeroValue30
  t131 := Tryz.underlying124
  a131 := Tryz.isAgg124
  z131 := Tryz.sizeOf124
  v131 := Tryz.zeroValue124
  t182 := Tryz.underlying468
  a182 := Tryz.isAgg468
  z182 := Tryz.sizeOf468
  v182 := Tryz.zeroValue468
  t183 := Tryz.underlying469
  a183 := Tryz.isAgg469
  z183 := Tryz.sizeOf469
  v183 := Tryz.zeroValue469
  t218 := Tryz.underlying544
  a218 := Tryz.isAgg544
  z218 := Tryz.sizeOf544
  v218 := Tryz.zeroValue544
  t222 := Tryz.underlying546
  a222 := Tryz.isAgg546
  z222 := Tryz.sizeOf546
  v222 := Tryz.zeroValue546
  t228 := Tryz.underlying574
  a228 := Tryz.isAgg574
  z228 := Tryz.sizeOf574
  v228 := Tryz.zeroValue574
  t229 := Tryz.underlying120
  a229 := Tryz.isAgg120
  z229 := Tryz.sizeOf120
  v229 := Tryz.zeroValue120 }
def Tryz.laysSlF6_f311_ren : Go.Shelf.Ren := ⟨fun | 6 => 311 | 15 => 227 | 14 => 386 | 28 => 326 | 29 => 327 | 20 => 420 | 21 => 421 | 22 => 422 | 23 => 423 | 24 => 424 | 25 => 425 | 26 => 426 | 27 => 427 | 46 => 448 | 47 => 390 | 48 => 391 | 49 => 449 | 50 => 450 | 57 => 457 | n => n, fun | 22 => 84 | 24 => 30 | 25 => 461 | 3 => 3 | 39 => 357 | 0 => 0 | 53 => 476 | 55 => 30 | 4 => 4 | 46 => 469 | 45 => 468 | 50 => 124 | 5 => 5 | 9 => 9 | 66 => 544 | 70 => 546 | 76 => 574 | 77 => 120 | n => n, fun | n => n⟩
theorem Tryz.laysSlF6_f311 : Go.Proofs.SlLaysF.n6 Tryz.prog Tryz.laysSlF6_f311_ren := {
  mixed := by kernel_rfl
  f6 := ⟨Tryz.f311.name, by decide, Tryz.func311.trans (congrArg some (by kernel_rfl))⟩
  f14 := ⟨Tryz.f386.name, by decide, Tryz.func386.trans (congrArg some (by kernel_rfl))⟩
  f15 := Tryz.func227.trans (congrArg some (by kernel_rfl))
  f20 := ⟨Tryz.f420.name, by decide, Tryz.func420.trans (congrArg some (by kernel_rfl))⟩
  f21 := ⟨Tryz.f421.name, by decide, Tryz.func421.trans (congrArg some (by kernel_rfl))⟩
  f22 := ⟨Tryz.f422.name, by decide, Tryz.func422.trans (congrArg some (by kernel_rfl))⟩
  f23 := ⟨Tryz.f423.name, by decide, Tryz.func423.trans (congrArg some (by kernel_rfl))⟩
  f24 := ⟨Tryz.f424.name, by decide, Tryz.func424.trans (congrArg some (by kernel_rfl))⟩
  f25 := ⟨Tryz.f425.name, by decide, Tryz.func425.trans (congrArg some (by kernel_rfl))⟩
  f26 := ⟨Tryz.f426.name, by decide, Tryz.func426.trans (congrArg some (by kernel_rfl))⟩
  f27 := ⟨Tryz.f427.name, by decide, Tryz.func427.trans (congrArg some (by kernel_rfl))⟩
  f28 := Tryz.func326.trans (congrArg some (by kernel_rfl))
  f29 := Tryz.func327.trans (congrArg some (by kernel_rfl))
  f46 := ⟨Tryz.f448.name, by decide, Tryz.func448.trans (congrArg some (by kernel_rfl))⟩
  f47 := Tryz.func390.trans (congrArg some (by kernel_rfl))
  f48 := Tryz.func391.trans (congrArg some (by kernel_rfl))
  f49 := ⟨Tryz.f449.name, by decide, Tryz.func449.trans (congrArg some (by kernel_rfl))⟩
  f50 := ⟨Tryz.f450.name, by decide, Tryz.func450.trans (congrArg some (by kernel_rfl))⟩
  f57 := ⟨Tryz.f457.name, by decide, Tryz.func457.trans (congrArg some (by kernel_rfl))⟩
  t0 := Tryz.underlying0
  a0 := Tryz.isAgg0
  z0 := Tryz.sizeOf0
  v0 := Tryz.zeroValue0
  t3 := Tryz.underlying3
  a3 := Tryz.isAgg3
  z3 := Tryz.sizeOf3
  v3 := Tryz.zeroValue3
  t4 := Tryz.underlying4
  a4 := Tryz.isAgg4
  z4 := Tryz.sizeOf4
  v4 := Tryz.zeroValue4
  t5 := Tryz.underlying5
  a5 := Tryz.isAgg5
  z5 := Tryz.sizeOf5
  v5 := Tryz.zeroValue5
  t9 := Tryz.underlying9
  a9 := Tryz.isAgg9
  z9 := Tryz.sizeOf9
  v9 := Tryz.zeroValue9
  t22 := Tryz.underlying84
  a22 := Tryz.isAgg84
  z22 := Tryz.sizeOf84
  v22 := Tryz.zeroValue84
  a24 := Tryz.isAgg30
  z24 := Tryz.sizeOf30
  t25 := Tryz.underlying461
  a25 := Tryz.isAgg461
  z25 := Tryz.sizeOf461
  v25 := Tryz.zeroValue461
  t39 := Tryz.underlying357
  a39 := Tryz.isAgg357
  z39 := Tryz.sizeOf357
  v39 := Tryz.zeroValue357
  t45 := Tryz.underlying468
  a45 := Tryz.isAgg468
  z45 := Tryz.sizeOf468
  v45 := Tryz.zeroValue468
  t46 := Tryz.underlying469
  a46 := Tryz.isAgg469
  z46 := Tryz.sizeOf469
  v46 := Tryz.zeroValue469
  t50 := Tryz.underlying124
  a50 := Tryz.isAgg124
  z50 := Tryz.sizeOf124
  v50 := Tryz.zeroValue124
  t53 := Tryz.underlying476
  a53 := Tryz.isAgg476
  z53 := Tryz.sizeOf476
  v53 := Tryz.zeroValue476
  t55 := Tryz.underlying30
  a55 := Tryz.isAgg30
  z55 := Tryz.sizeOf30
  v55 := Tryz.zeroValue30
  t66 := Tryz.underlying544
  a66 := Tryz.isAgg544
  z66 := Tryz.sizeOf544
  v66 := Tryz.zeroValue544
  t70 := Tryz.underlying546
  a70 := Tryz.isAgg546
  z70 := Tryz.sizeOf546
  v70 := Tryz.zeroValue546
  t76 := Tryz.underlying574
  a76 := Tryz.isAgg574
  z76 := Tryz.sizeOf574
  v76 := Tryz.zeroValue574
  t77 := Tryz.underlying120
  a77 := Tryz.isAgg120
  z77 := Tryz.sizeOf120
  v77 := Tryz.zeroValue120 }
def Tryz.laysSlF6_f363_ren : Go.Shelf.Ren := ⟨fun | 6 => 363 | 15 => 227 | 14 => 412 | 28 => 326 | 29 => 327 | 20 => 434 | 21 => 435 | 22 => 436 | 23 => 437 | 24 => 438 | 25 => 439 | 26 => 440 | 27 => 441 | 46 => 453 | 47 => 390 | 48 => 391 | 49 => 454 | 50 => 455 | 57 => 458 | n => n, fun | 22 => 63 | 24 => 3 | 25 => 460 | 3 => 3 | 39 => 357 | 0 => 0 | 53 => 476 | 55 => 30 | 4 => 4 | 46 => 469 | 45 => 468 | 50 => 124 | 5 => 5 | 9 => 9 | 66 => 544 | 70 => 546 | 76 => 574 | 77 => 120 | n => n, fun | n => n⟩
theorem Tryz.laysSlF6_f363 : Go.Proofs.SlLaysF.n6 Tryz.prog Tryz.laysSlF6_f363_ren := {
  mixed := by kernel_rfl
  f6 := ⟨Tryz.f363.name, by decide, Tryz.func363.trans (congrArg some (by kernel_rfl))⟩
  f14 := ⟨Tryz.f412.name, by decide, Tryz.func412.trans (congrArg some (by kernel_rfl))⟩
  f15 := Tryz.func227.trans (congrArg some (by kernel_rfl))
  f20 := ⟨Tryz.f434.name, by decide, Tryz.func434.trans (congrArg some (by kernel_rfl))⟩
  f21 := ⟨Tryz.f435.name, by decide, Tryz.func435.trans (congrArg some (by kernel_rfl))⟩
  f22 := ⟨Tryz.f436.name, by decide, Tryz.func436.trans (congrArg some (by kernel_rfl))⟩
  f23 := ⟨Tryz.f437.name, by decide, Tryz.func437.trans (congrArg some (by kernel_rfl))⟩
  f24 := ⟨Tryz.f438.name, by decide, Tryz.func438.trans (congrArg some (by kernel_rfl))⟩
  f25 := ⟨Tryz.f439.name, by decide, Tryz.func439.trans (congrArg some (by kernel_rfl))⟩
  f26 := ⟨Tryz.f440.name, by decide, Tryz.func440.trans (congrArg some (by kernel_rfl))⟩
  f27 := ⟨Tryz.f441.name, by decide, Tryz.func441.trans (congrArg some (by kernel_rfl))⟩
  f28 := Tryz.func326.trans (congrArg some (by kernel_rfl))
  f29 := Tryz.func327.trans (congrArg some (by kernel_rfl))
  f46 := ⟨Tryz.f453.name, by decide, Tryz.func453.trans (congrArg some (by kernel_rfl))⟩
  f47 := Tryz.func390.trans (congrArg some (by kernel_rfl))
  f48 := Tryz.func391.trans (congrArg some (by kernel_rfl))
  f49 := ⟨Tryz.f454.name, by decide, Tryz.func454.trans (congrArg some (by kernel_rfl))⟩
  f50 := ⟨Tryz.f455.name, by decide, Tryz.func455.trans (congrArg some (by kernel_rfl))⟩
  f57 := ⟨Tryz.f458.name, by decide, Tryz.func458.trans (congrArg some (by kernel_rfl))⟩
  t0 := Tryz.underlying0
  a0 := Tryz.isAgg0
  z0 := Tryz.sizeOf0
  v0 := Tryz.zeroValue0
  t3 := Tryz.underlying3
  a3 := Tryz.isAgg3
  z3 := Tryz.sizeOf3
  v3 := Tryz.zeroValue3
  t4 := Tryz.underlying4
  a4 := Tryz.isAgg4
  z4 := Tryz.sizeOf4
  v4 := Tryz.zeroValue4
  t5 := Tryz.underlying5
  a5 := Tryz.isAgg5
  z5 := Tryz.sizeOf5
  v5 := Tryz.zeroValue5
  t9 := Tryz.underlying9
  a9 := Tryz.isAgg9
  z9 := Tryz.sizeOf9
  v9 := Tryz.zeroValue9
  t22 := Tryz.underlying63
  a22 := Tryz.isAgg63
  z22 := Tryz.sizeOf63
  v22 := Tryz.zeroValue63
  a24 := Tryz.isAgg3
  z24 := Tryz.sizeOf3
  t25 := Tryz.underlying460
  a25 := Tryz.isAgg460
  z25 := Tryz.sizeOf460
  v25 := Tryz.zeroValue460
  t39 := Tryz.underlying357
  a39 := Tryz.isAgg357
  z39 := Tryz.sizeOf357
  v39 := Tryz.zeroValue357
  t45 := Tryz.underlying468
  a45 := Tryz.isAgg468
  z45 := Tryz.sizeOf468
  v45 := Tryz.zeroValue468
  t46 := Tryz.underlying469
  a46 := Tryz.isAgg469
  z46 := Tryz.sizeOf469
  v46 := Tryz.zeroValue469
  t50 := Tryz.underlying124
  a50 := Tryz.isAgg124
  z50 := Tryz.sizeOf124
  v50 := Tryz.zeroValue124
  t53 := Tryz.underlying476
  a53 := Tryz.isAgg476
  z53 := Tryz.sizeOf476
  v53 := Tryz.zeroValue476
  t55 := Tryz.underlying30
  a55 := Tryz.isAgg30
  z55 := Tryz.sizeOf30
  v55 := Tryz.zeroValue30
  t66 := Tryz.underlying544
  a66 := Tryz.isAgg544
  z66 := Tryz.sizeOf544
  v66 := Tryz.zeroValue544
  t70 := Tryz.underlying546
  a70 := Tryz.isAgg546
  z70 := Tryz.sizeOf546
  v70 := Tryz.zeroValue546
  t76 := Tryz.underlying574
  a76 := Tryz.isAgg574
  z76 := Tryz.sizeOf574
  v76 := Tryz.zeroValue574
  t77 := Tryz.underlying120
  a77 := Tryz.isAgg120
  z77 := Tryz.sizeOf120
  v77 := Tryz.zeroValue120 }
/-- bits.Len: "Len returns the minimum number of bits required to represent x; the result is 0 for x == 0.": IT RETURNS 'Lib.bitLen x'; the world is as it was. (A uint has 64 bits in the model.) ITS CALLEE bits.Len64 IS MET BY ITS OWN CONTRACT OFF THE SHELF (lay that first). (LAID: no walk: one application.) -/
theorem Tryz.bits_Len (x : Int) (w : World) (h0 : 0 ≤ x) (h1 : x ≤ 18446744073709551615) :
    Calls Tryz.prog 227 #[.int .u64 x] w fun e w' => e = .returned (.int .i64 (Lib.bitLen x.toNat)) ∧ w' = w := Any.bits_Len Tryz.lays125 x w h0 h1
open Go.RowKit in
/-- cmp.Compare at int: "Compare returns -1 if x is less than y, 0 if x equals y, +1 if x is greater than y.": IT RETURNS 'Lib.compareInt x y'; the world is as it was. (LAID: no walk: one application.) -/
theorem Tryz.cmp_Compare_int (x y : Int) (w : World) :
    Calls Tryz.prog 313 #[.int .i64 x, .int .i64 y] w fun e w' => e = .returned (.int .i64 (Lib.compareInt x y)) ∧ w' = w := Any.cmp_Compare_int Tryz.lays122 x y w
open Go.Sort Go.RowKit in
theorem Tryz.slices_Sort_int (blk off cap : Nat) (zs : List Int) (w : World) (hH : Holds (Value.int .i64) w blk off zs.toArray) (hblk : blk < w.heap.size) (hsz : zs.length < 4611686018427387904) :
    Calls Tryz.prog 174 #[.slice (some ⟨blk, off, none⟩) zs.length cap] w fun e w' =>
      e = .returned (.tuple #[]) ∧ ∃ n os, w' = grow (putRow (Value.int .i64) (Sort.ahead w n) blk off (zs.mergeSort fun x y => decide (x ≤ y)).toArray) os := Any.slices_Sort_int Tryz.lays189 blk off cap zs w hH hblk hsz
open Go.RowKit Go.Sort in
/-- .. and plain. (LAID: no walk: one application.) -/
theorem Tryz.slices_Sort_int_none (p : Option Addr) (cap : Nat) (w : World) :
    Calls Tryz.prog 174 #[.slice p 0 cap] w fun e w' => e = .returned (.tuple #[]) ∧ w' = w := Any.slices_Sort_int_none Tryz.lays189 p cap w
open Go.RowKit Go.Lib Go.Sort in
/-- **slices.SortFunc, IN THE DOCUMENTATION's OWN TERMS: A PERMUTATION OF WHAT THE ROW HELD, SORTED BY 'cmp(a, b) < 0'.** Which of two equals comes first is left open ("The sort is not guaranteed to be stable"). (LAID AT THE INSTANCE 'slices.SortFunc[[]uint64,uint64]': no walk: one application.) -/
theorem Tryz.slices_SortFunc_f311 {α : Type} [Inhabited α] (enc : α → Value) (h1 : OneCell enc) (cf : α → α → Int) (hO : SWO (ltOf cf)) (g : Nat) (cb : Array Value) (blk off cap : Nat) (d : Array α) (w : World) (eg : ∀ args w, (callFunc g args).run Tryz.prog w = .ok (.enter g args) w) (hcmp : CmpLays1 Tryz.prog g cb enc cf blk off d.size w) (hH : Holds enc w blk off d) (hblk : blk < w.heap.size) (hsz : d.size < 4611686018427387904) :
    Calls Tryz.prog 311 #[.slice (some ⟨blk, off, none⟩) d.size cap, .func (.func g) #[] cb] w fun e w' =>
      e = .returned (.tuple #[]) ∧ ∃ d' n os, PermIn 0 d.size d d' ∧ SortedIn (ltOf cf) 0 d.size d' ∧ w' = sortWorld enc w blk off n d' os := Any.slices_SortFunc Tryz.laysSlF6_f311 enc h1 cf hO g cb blk off cap d w eg hcmp hH hblk hsz
open Go.RowKit Go.Lib Go.Sort in
/-- **slices.SortFunc, IN THE DOCUMENTATION's OWN TERMS: A PERMUTATION OF WHAT THE ROW HELD, SORTED BY 'cmp(a, b) < 0'.** Which of two equals comes first is left open ("The sort is not guaranteed to be stable"). (LAID AT THE INSTANCE 'slices.SortFunc[[]int,int]': no walk: one application.) -/
theorem Tryz.slices_SortFunc_f363 {α : Type} [Inhabited α] (enc : α → Value) (h1 : OneCell enc) (cf : α → α → Int) (hO : SWO (ltOf cf)) (g : Nat) (cb : Array Value) (blk off cap : Nat) (d : Array α) (w : World) (eg : ∀ args w, (callFunc g args).run Tryz.prog w = .ok (.enter g args) w) (hcmp : CmpLays1 Tryz.prog g cb enc cf blk off d.size w) (hH : Holds enc w blk off d) (hblk : blk < w.heap.size) (hsz : d.size < 4611686018427387904) :
    Calls Tryz.prog 363 #[.slice (some ⟨blk, off, none⟩) d.size cap, .func (.func g) #[] cb] w fun e w' =>
      e = .returned (.tuple #[]) ∧ ∃ d' n os, PermIn 0 d.size d d' ∧ SortedIn (ltOf cf) 0 d.size d' ∧ w' = sortWorld enc w blk off n d' os := Any.slices_SortFunc Tryz.laysSlF6_f363 enc h1 cf hO g cb blk off cap d w eg hcmp hH hblk hsz
end Go.Proofs

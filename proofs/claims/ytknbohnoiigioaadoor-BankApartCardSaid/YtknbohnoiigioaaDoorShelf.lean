/-
  DERIVED: THE SHELF's CONTRACTS AT THIS DUMP, IN PLAIN WORDS (tools/lay-plain.mjs out of 'TrydShelf.lean', which tools/lay-shelf.mjs wrote): THE SAME DECLARATIONS UNDER THE SAME NAMES: 'import', 'namespace', 'open', 'def', 'theorem' AND NOTHING ELSE: no command of the shelf's: FOR A HAND-IN. Each laying: the table of numbers ('.._ren') and one theorem, a field a fact of the dump's own or the kernel's comparison; each contract: ONE APPLICATION.
-/
import Derived.Shelf.Small.Bits
import Derived.Shelf.Small.Wraps
import Derived.Shelf.SlSortCmp.Whole1
import Derived.Shelf.Sort.Plain
import Derived.Shelf.Slices.In.SortNone
import Derived.Test.YtknbohnoiigioaaDoorProg
namespace Go.Proofs
open Go.Shelf
def Tryd.lays125_ren : Go.Shelf.Ren := ⟨fun | 125 => 81 | 128 => 102 | 129 => 103 | n => n, fun | 46 => 126 | 3 => 3 | 51 => 150 | 53 => 22 | 4 => 4 | 5 => 5 | 9 => 9 | n => n, fun | n => n⟩
theorem Tryd.lays125 : Go.Proofs.Lays.n125 Tryd.prog Tryd.lays125_ren := {
  mixed := by kernel_rfl
  f125 := Tryd.func81.trans (congrArg some (by kernel_rfl))
  f128 := Tryd.func102.trans (congrArg some (by kernel_rfl))
  f129 := Tryd.func103.trans (congrArg some (by kernel_rfl))
  t3 := Tryd.underlying3
  a3 := Tryd.isAgg3
  z3 := Tryd.sizeOf3
  v3 := Tryd.zeroValue3
  t4 := Tryd.underlying4
  a4 := Tryd.isAgg4
  z4 := Tryd.sizeOf4
  v4 := Tryd.zeroValue4
  t5 := Tryd.underlying5
  a5 := Tryd.isAgg5
  z5 := Tryd.sizeOf5
  v5 := Tryd.zeroValue5
  t9 := Tryd.underlying9
  a9 := Tryd.isAgg9
  z9 := Tryd.sizeOf9
  v9 := Tryd.zeroValue9
  t46 := Tryd.underlying126
  a46 := Tryd.isAgg126
  z46 := Tryd.sizeOf126
  v46 := Tryd.zeroValue126
  t51 := Tryd.underlying150
  a51 := Tryd.isAgg150
  z51 := Tryd.sizeOf150
  v51 := Tryd.zeroValue150
  t53 := Tryd.underlying22
  a53 := Tryd.isAgg22
  z53 := Tryd.sizeOf22
  v53 := Tryd.zeroValue22 }
def Tryd.lays122_ren : Go.Shelf.Ren := ⟨fun | 122 => 77 | 215 => 92 | n => n, fun | 3 => 3 | 4 => 4 | n => n, fun | n => n⟩
theorem Tryd.lays122 : Go.Proofs.Lays.n122 Tryd.prog Tryd.lays122_ren := {
  mixed := by kernel_rfl
  f122 := Tryd.func77.trans (congrArg some (by kernel_rfl))
  f215 := Tryd.func92.trans (congrArg some (by kernel_rfl))
  t3 := Tryd.underlying3
  a3 := Tryd.isAgg3
  z3 := Tryd.sizeOf3
  v3 := Tryd.zeroValue3
  t4 := Tryd.underlying4
  a4 := Tryd.isAgg4
  z4 := Tryd.sizeOf4
  v4 := Tryd.zeroValue4 }
def Tryd.lays189_ren : Go.Shelf.Ren := ⟨fun | 189 => 64 | 125 => 81 | 257 => 80 | 128 => 102 | 129 => 103 | 294 => 93 | 295 => 94 | 296 => 95 | 297 => 96 | 298 => 97 | 299 => 98 | 216 => 99 | 300 => 100 | 301 => 101 | 328 => 116 | 329 => 117 | 330 => 118 | 331 => 119 | 332 => 120 | 215 => 92 | 343 => 125 | n => n, fun | 28 => 35 | 3 => 3 | 46 => 126 | 0 => 0 | 51 => 150 | 53 => 22 | 4 => 4 | 183 => 143 | 182 => 142 | 131 => 124 | 5 => 5 | 9 => 9 | 218 => 159 | 222 => 161 | 228 => 168 | 229 => 169 | n => n, fun | n => n⟩
theorem Tryd.lays189 : Go.Proofs.Lays.n189 Tryd.prog Tryd.lays189_ren := {
  mixed := by kernel_rfl
  f125 := Tryd.func81.trans (congrArg some (by kernel_rfl))
  f128 := Tryd.func102.trans (congrArg some (by kernel_rfl))
  f129 := Tryd.func103.trans (congrArg some (by kernel_rfl))
  f189 := Tryd.func64.trans (congrArg some (by kernel_rfl))
  f215 := Tryd.func92.trans (congrArg some (by kernel_rfl))
  f216 := Tryd.func99.trans (congrArg some (by kernel_rfl))
  f257 := Tryd.func80.trans (congrArg some (by kernel_rfl))
  f294 := Tryd.func93.trans (congrArg some (by kernel_rfl))
  f295 := Tryd.func94.trans (congrArg some (by kernel_rfl))
  f296 := Tryd.func95.trans (congrArg some (by kernel_rfl))
  f297 := Tryd.func96.trans (congrArg some (by kernel_rfl))
  f298 := Tryd.func97.trans (congrArg some (by kernel_rfl))
  f299 := Tryd.func98.trans (congrArg some (by kernel_rfl))
  f300 := Tryd.func100.trans (congrArg some (by kernel_rfl))
  f301 := Tryd.func101.trans (congrArg some (by kernel_rfl))
  f328 := Tryd.func116.trans (congrArg some (by kernel_rfl))
  f329 := Tryd.func117.trans (congrArg some (by kernel_rfl))
  f330 := Tryd.func118.trans (congrArg some (by kernel_rfl))
  f331 := Tryd.func119.trans (congrArg some (by kernel_rfl))
  f332 := Tryd.func120.trans (congrArg some (by kernel_rfl))
  f343 := Tryd.func125.trans (congrArg some (by kernel_rfl))
  t0 := Tryd.underlying0
  a0 := Tryd.isAgg0
  z0 := Tryd.sizeOf0
  v0 := Tryd.zeroValue0
  t3 := Tryd.underlying3
  a3 := Tryd.isAgg3
  z3 := Tryd.sizeOf3
  v3 := Tryd.zeroValue3
  t4 := Tryd.underlying4
  a4 := Tryd.isAgg4
  z4 := Tryd.sizeOf4
  v4 := Tryd.zeroValue4
  t5 := Tryd.underlying5
  a5 := Tryd.isAgg5
  z5 := Tryd.sizeOf5
  v5 := Tryd.zeroValue5
  t9 := Tryd.underlying9
  a9 := Tryd.isAgg9
  z9 := Tryd.sizeOf9
  v9 := Tryd.zeroValue9
  t28 := Tryd.underlying35
  a28 := Tryd.isAgg35
  z28 := Tryd.sizeOf35
  v28 := Tryd.zeroValue35
  t46 := Tryd.underlying126
  a46 := Tryd.isAgg126
  z46 := Tryd.sizeOf126
  v46 := Tryd.zeroValue126
  t51 := Tryd.underlying150
  a51 := Tryd.isAgg150
  z51 := Tryd.sizeOf150
  v51 := Tryd.zeroValue150
  t53 := Tryd.underlying22
  a53 := Tryd.isAgg22
  z53 := Tryd.sizeOf22
  v53 := Tryd.zeroValue22
  t131 := Tryd.underlying124
  a131 := Tryd.isAgg124
  z131 := Tryd.sizeOf124
  v131 := Tryd.zeroValue124
  t182 := Tryd.underlying142
  a182 := Tryd.isAgg142
  z182 := Tryd.sizeOf142
  v182 := Tryd.zeroValue142
  t183 := Tryd.underlying143
  a183 := Tryd.isAgg143
  z183 := Tryd.sizeOf143
  v183 := Tryd.zeroValue143
  t218 := Tryd.underlying159
  a218 := Tryd.isAgg159
  z218 := Tryd.sizeOf159
  v218 := Tryd.zeroValue159
  t222 := Tryd.underlying161
  a222 := Tryd.isAgg161
  z222 := Tryd.sizeOf161
  v222 := Tryd.zeroValue161
  t228 := Tryd.underlying168
  a228 := Tryd.isAgg168
  z228 := Tryd.sizeOf168
  v228 := Tryd.zeroValue168
  t229 := Tryd.underlying169
  a229 := Tryd.isAgg169
  z229 := Tryd.sizeOf169
  v229 := Tryd.zeroValue169 }
def Tryd.laysSlF6_f75_ren : Go.Shelf.Ren := ⟨fun | 6 => 75 | 15 => 81 | 14 => 91 | 28 => 102 | 29 => 103 | 20 => 108 | 21 => 109 | 22 => 110 | 23 => 111 | 24 => 112 | 25 => 113 | 26 => 114 | 27 => 115 | 46 => 122 | 47 => 117 | 48 => 118 | 49 => 123 | 50 => 124 | 57 => 128 | n => n, fun | 22 => 35 | 24 => 3 | 25 => 134 | 3 => 3 | 39 => 126 | 0 => 0 | 53 => 150 | 55 => 22 | 4 => 4 | 46 => 143 | 45 => 142 | 50 => 124 | 5 => 5 | 9 => 9 | 66 => 159 | 70 => 161 | 76 => 168 | 77 => 169 | n => n, fun | n => n⟩
theorem Tryd.laysSlF6_f75 : Go.Proofs.SlLaysF.n6 Tryd.prog Tryd.laysSlF6_f75_ren := {
  mixed := by kernel_rfl
  f6 := ⟨Tryd.f75.name, by decide, Tryd.func75.trans (congrArg some (by kernel_rfl))⟩
  f14 := ⟨Tryd.f91.name, by decide, Tryd.func91.trans (congrArg some (by kernel_rfl))⟩
  f15 := Tryd.func81.trans (congrArg some (by kernel_rfl))
  f20 := ⟨Tryd.f108.name, by decide, Tryd.func108.trans (congrArg some (by kernel_rfl))⟩
  f21 := ⟨Tryd.f109.name, by decide, Tryd.func109.trans (congrArg some (by kernel_rfl))⟩
  f22 := ⟨Tryd.f110.name, by decide, Tryd.func110.trans (congrArg some (by kernel_rfl))⟩
  f23 := ⟨Tryd.f111.name, by decide, Tryd.func111.trans (congrArg some (by kernel_rfl))⟩
  f24 := ⟨Tryd.f112.name, by decide, Tryd.func112.trans (congrArg some (by kernel_rfl))⟩
  f25 := ⟨Tryd.f113.name, by decide, Tryd.func113.trans (congrArg some (by kernel_rfl))⟩
  f26 := ⟨Tryd.f114.name, by decide, Tryd.func114.trans (congrArg some (by kernel_rfl))⟩
  f27 := ⟨Tryd.f115.name, by decide, Tryd.func115.trans (congrArg some (by kernel_rfl))⟩
  f28 := Tryd.func102.trans (congrArg some (by kernel_rfl))
  f29 := Tryd.func103.trans (congrArg some (by kernel_rfl))
  f46 := ⟨Tryd.f122.name, by decide, Tryd.func122.trans (congrArg some (by kernel_rfl))⟩
  f47 := Tryd.func117.trans (congrArg some (by kernel_rfl))
  f48 := Tryd.func118.trans (congrArg some (by kernel_rfl))
  f49 := ⟨Tryd.f123.name, by decide, Tryd.func123.trans (congrArg some (by kernel_rfl))⟩
  f50 := ⟨Tryd.f124.name, by decide, Tryd.func124.trans (congrArg some (by kernel_rfl))⟩
  f57 := ⟨Tryd.f128.name, by decide, Tryd.func128.trans (congrArg some (by kernel_rfl))⟩
  t0 := Tryd.underlying0
  a0 := Tryd.isAgg0
  z0 := Tryd.sizeOf0
  v0 := Tryd.zeroValue0
  t3 := Tryd.underlying3
  a3 := Tryd.isAgg3
  z3 := Tryd.sizeOf3
  v3 := Tryd.zeroValue3
  t4 := Tryd.underlying4
  a4 := Tryd.isAgg4
  z4 := Tryd.sizeOf4
  v4 := Tryd.zeroValue4
  t5 := Tryd.underlying5
  a5 := Tryd.isAgg5
  z5 := Tryd.sizeOf5
  v5 := Tryd.zeroValue5
  t9 := Tryd.underlying9
  a9 := Tryd.isAgg9
  z9 := Tryd.sizeOf9
  v9 := Tryd.zeroValue9
  t22 := Tryd.underlying35
  a22 := Tryd.isAgg35
  z22 := Tryd.sizeOf35
  v22 := Tryd.zeroValue35
  a24 := Tryd.isAgg3
  z24 := Tryd.sizeOf3
  t25 := Tryd.underlying134
  a25 := Tryd.isAgg134
  z25 := Tryd.sizeOf134
  v25 := Tryd.zeroValue134
  t39 := Tryd.underlying126
  a39 := Tryd.isAgg126
  z39 := Tryd.sizeOf126
  v39 := Tryd.zeroValue126
  t45 := Tryd.underlying142
  a45 := Tryd.isAgg142
  z45 := Tryd.sizeOf142
  v45 := Tryd.zeroValue142
  t46 := Tryd.underlying143
  a46 := Tryd.isAgg143
  z46 := Tryd.sizeOf143
  v46 := Tryd.zeroValue143
  t50 := Tryd.underlying124
  a50 := Tryd.isAgg124
  z50 := Tryd.sizeOf124
  v50 := Tryd.zeroValue124
  t53 := Tryd.underlying150
  a53 := Tryd.isAgg150
  z53 := Tryd.sizeOf150
  v53 := Tryd.zeroValue150
  t55 := Tryd.underlying22
  a55 := Tryd.isAgg22
  z55 := Tryd.sizeOf22
  v55 := Tryd.zeroValue22
  t66 := Tryd.underlying159
  a66 := Tryd.isAgg159
  z66 := Tryd.sizeOf159
  v66 := Tryd.zeroValue159
  t70 := Tryd.underlying161
  a70 := Tryd.isAgg161
  z70 := Tryd.sizeOf161
  v70 := Tryd.zeroValue161
  t76 := Tryd.underlying168
  a76 := Tryd.isAgg168
  z76 := Tryd.sizeOf168
  v76 := Tryd.zeroValue168
  t77 := Tryd.underlying169
  a77 := Tryd.isAgg169
  z77 := Tryd.sizeOf169
  v77 := Tryd.zeroValue169 }
/-- bits.Len: "Len returns the minimum number of bits required to represent x; the result is 0 for x == 0.": IT RETURNS 'Lib.bitLen x'; the world is as it was. (A uint has 64 bits in the model.) ITS CALLEE bits.Len64 IS MET BY ITS OWN CONTRACT OFF THE SHELF (lay that first). (LAID: no walk: one application.) -/
theorem Tryd.bits_Len (x : Int) (w : World) (h0 : 0 ≤ x) (h1 : x ≤ 18446744073709551615) :
    Calls Tryd.prog 81 #[.int .u64 x] w fun e w' => e = .returned (.int .i64 (Lib.bitLen x.toNat)) ∧ w' = w := Any.bits_Len Tryd.lays125 x w h0 h1
open Go.RowKit in
/-- cmp.Compare at int: "Compare returns -1 if x is less than y, 0 if x equals y, +1 if x is greater than y.": IT RETURNS 'Lib.compareInt x y'; the world is as it was. (LAID: no walk: one application.) -/
theorem Tryd.cmp_Compare_int (x y : Int) (w : World) :
    Calls Tryd.prog 77 #[.int .i64 x, .int .i64 y] w fun e w' => e = .returned (.int .i64 (Lib.compareInt x y)) ∧ w' = w := Any.cmp_Compare_int Tryd.lays122 x y w
open Go.Sort Go.RowKit in
theorem Tryd.slices_Sort_int (blk off cap : Nat) (zs : List Int) (w : World) (hH : Holds (Value.int .i64) w blk off zs.toArray) (hblk : blk < w.heap.size) (hsz : zs.length < 4611686018427387904) :
    Calls Tryd.prog 64 #[.slice (some ⟨blk, off, none⟩) zs.length cap] w fun e w' =>
      e = .returned (.tuple #[]) ∧ ∃ n os, w' = grow (putRow (Value.int .i64) (Sort.ahead w n) blk off (zs.mergeSort fun x y => decide (x ≤ y)).toArray) os := Any.slices_Sort_int Tryd.lays189 blk off cap zs w hH hblk hsz
open Go.RowKit Go.Sort in
/-- .. and plain. (LAID: no walk: one application.) -/
theorem Tryd.slices_Sort_int_none (p : Option Addr) (cap : Nat) (w : World) :
    Calls Tryd.prog 64 #[.slice p 0 cap] w fun e w' => e = .returned (.tuple #[]) ∧ w' = w := Any.slices_Sort_int_none Tryd.lays189 p cap w
open Go.RowKit Go.Lib Go.Sort in
/-- **slices.SortFunc, IN THE DOCUMENTATION's OWN TERMS: A PERMUTATION OF WHAT THE ROW HELD, SORTED BY 'cmp(a, b) < 0'.** Which of two equals comes first is left open ("The sort is not guaranteed to be stable"). (LAID AT THE INSTANCE 'slices.SortFunc[[]int,int]': no walk: one application.) -/
theorem Tryd.slices_SortFunc {α : Type} [Inhabited α] (enc : α → Value) (h1 : OneCell enc) (cf : α → α → Int) (hO : SWO (ltOf cf)) (g : Nat) (cb : Array Value) (blk off cap : Nat) (d : Array α) (w : World) (eg : ∀ args w, (callFunc g args).run Tryd.prog w = .ok (.enter g args) w) (hcmp : CmpLays1 Tryd.prog g cb enc cf blk off d.size w) (hH : Holds enc w blk off d) (hblk : blk < w.heap.size) (hsz : d.size < 4611686018427387904) :
    Calls Tryd.prog 75 #[.slice (some ⟨blk, off, none⟩) d.size cap, .func (.func g) #[] cb] w fun e w' =>
      e = .returned (.tuple #[]) ∧ ∃ d' n os, PermIn 0 d.size d d' ∧ SortedIn (ltOf cf) 0 d.size d' ∧ w' = sortWorld enc w blk off n d' os := Any.slices_SortFunc Tryd.laysSlF6_f75 enc h1 cf hO g cb blk off cap d w eg hcmp hH hblk hsz
end Go.Proofs

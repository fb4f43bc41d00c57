/-
  DERIVED: THE SHELF's CONTRACTS AT THIS DUMP, IN PLAIN WORDS (tools/lay-plain.mjs out of 'TrydShelf.lean', which tools/lay-shelf.mjs wrote): THE SAME DECLARATIONS UNDER THE SAME NAMES: 'import', 'namespace', 'open', 'def', 'theorem' AND NOTHING ELSE: no command of the shelf's: FOR A HAND-IN. Each laying: the table of numbers ('.._ren') and one theorem, a field a fact of the dump's own or the kernel's comparison; each contract: ONE APPLICATION.
-/
import Derived.Shelf.Small.Bits
import Derived.Shelf.Small.Wraps
import Derived.Shelf.SlSortCmp.Whole1
import Derived.Shelf.Strings.Fields
import Derived.Test.YtkcaakkaioingaaDoorProg
namespace Go.Proofs
open Go.Shelf
def Tryd.lays125_ren : Go.Shelf.Ren := ⟨fun | 125 => 155 | 128 => 173 | 129 => 174 | n => n, fun | 46 => 202 | 3 => 3 | 51 => 239 | 53 => 28 | 4 => 4 | 5 => 5 | 9 => 9 | n => n, fun | n => n⟩
theorem Tryd.lays125 : Go.Proofs.Lays.n125 Tryd.prog Tryd.lays125_ren := {
  mixed := by kernel_rfl
  f125 := Tryd.func155.trans (congrArg some (by kernel_rfl))
  f128 := Tryd.func173.trans (congrArg some (by kernel_rfl))
  f129 := Tryd.func174.trans (congrArg some (by kernel_rfl))
  t3 := Tryd.underlying3
  a3 := Tryd.isAgg3
  z3 := Tryd.sizeOf3
  v3 := Tryd.zeroValue3
  t4 := Tryd.underlying4
  a4 := Tryd.isAgg4
  z4 := Tryd.sizeOf4
  v4 := Tryd.zeroValue4
  t5 := Tryd.underlying5
  a5 := Tryd.isAgg5
  z5 := Tryd.sizeOf5
  v5 := Tryd.zeroValue5
  t9 := Tryd.underlying9
  a9 := Tryd.isAgg9
  z9 := Tryd.sizeOf9
  v9 := Tryd.zeroValue9
  t46 := Tryd.underlying202
  a46 := Tryd.isAgg202
  z46 := Tryd.sizeOf202
  v46 := Tryd.zeroValue202
  t51 := Tryd.underlying239
  a51 := Tryd.isAgg239
  z51 := Tryd.sizeOf239
  v51 := Tryd.zeroValue239
  t53 := Tryd.underlying28
  a53 := Tryd.isAgg28
  z53 := Tryd.sizeOf28
  v53 := Tryd.zeroValue28 }
def Tryd.lays122_ren : Go.Shelf.Ren := ⟨fun | 122 => 139 | 215 => 156 | n => n, fun | 3 => 3 | 4 => 4 | n => n, fun | n => n⟩
theorem Tryd.lays122 : Go.Proofs.Lays.n122 Tryd.prog Tryd.lays122_ren := {
  mixed := by kernel_rfl
  f122 := Tryd.func139.trans (congrArg some (by kernel_rfl))
  f215 := Tryd.func156.trans (congrArg some (by kernel_rfl))
  t3 := Tryd.underlying3
  a3 := Tryd.isAgg3
  z3 := Tryd.sizeOf3
  v3 := Tryd.zeroValue3
  t4 := Tryd.underlying4
  a4 := Tryd.isAgg4
  z4 := Tryd.sizeOf4
  v4 := Tryd.zeroValue4 }
def Tryd.lays157_ren : Go.Shelf.Ren := ⟨fun | 157 => 115 | 229 => 145 | 199 => 146 | 261 => 159 | 311 => 177 | 312 => 178 | n => n, fun | 9 => 9 | 31 => 199 | 3 => 3 | 5 => 5 | 4 => 4 | 119 => 225 | 0 => 0 | 40 => 227 | 152 => 236 | 21 => 21 | 154 => 238 | 51 => 239 | 141 => 241 | 196 => 256 | 193 => 253 | 198 => 259 | 49 => 257 | 194 => 254 | 201 => 262 | 226 => 270 | 46 => 202 | 227 => 271 | n => n, fun | 0 => 0 | 6 => 1 | n => n⟩
theorem Tryd.lays157 : Go.Proofs.Lays.n157 Tryd.prog Tryd.lays157_ren := {
  mixed := by kernel_rfl
  f157 := Tryd.func115.trans (congrArg some (by kernel_rfl))
  f199 := Tryd.func146.trans (congrArg some (by kernel_rfl))
  f229 := Tryd.func145.trans (congrArg some (by kernel_rfl))
  f261 := Tryd.func159.trans (congrArg some (by kernel_rfl))
  f311 := Tryd.func177.trans (congrArg some (by kernel_rfl))
  f312 := Tryd.func178.trans (congrArg some (by kernel_rfl))
  t0 := Tryd.underlying0
  a0 := Tryd.isAgg0
  z0 := Tryd.sizeOf0
  v0 := Tryd.zeroValue0
  t3 := Tryd.underlying3
  a3 := Tryd.isAgg3
  z3 := Tryd.sizeOf3
  v3 := Tryd.zeroValue3
  t4 := Tryd.underlying4
  a4 := Tryd.isAgg4
  z4 := Tryd.sizeOf4
  v4 := Tryd.zeroValue4
  t5 := Tryd.underlying5
  a5 := Tryd.isAgg5
  z5 := Tryd.sizeOf5
  v5 := Tryd.zeroValue5
  t9 := Tryd.underlying9
  a9 := Tryd.isAgg9
  z9 := Tryd.sizeOf9
  v9 := Tryd.zeroValue9
  t21 := Tryd.underlying21
  a21 := Tryd.isAgg21
  z21 := Tryd.sizeOf21
  v21 := Tryd.zeroValue21
  t31 := Tryd.underlying199
  a31 := Tryd.isAgg199
  z31 := Tryd.sizeOf199
  v31 := Tryd.zeroValue199
  t40 := Tryd.underlying227
  a40 := Tryd.isAgg227
  z40 := Tryd.sizeOf227
  v40 := Tryd.zeroValue227
  t46 := Tryd.underlying202
  a46 := Tryd.isAgg202
  z46 := Tryd.sizeOf202
  v46 := Tryd.zeroValue202
  t49 := Tryd.underlying257
  a49 := Tryd.isAgg257
  z49 := Tryd.sizeOf257
  v49 := Tryd.zeroValue257
  t51 := Tryd.underlying239
  a51 := Tryd.isAgg239
  z51 := Tryd.sizeOf239
  v51 := Tryd.zeroValue239
  t119 := Tryd.underlying225
  a119 := Tryd.isAgg225
  z119 := Tryd.sizeOf225
  t141 := Tryd.underlying241
  a141 := Tryd.isAgg241
  z141 := Tryd.sizeOf241
  v141 := Tryd.zeroValue241
  t152 := Tryd.underlying236
  a152 := Tryd.isAgg236
  z152 := Tryd.sizeOf236
  v152 := Tryd.zeroValue236
  t154 := Tryd.underlying238
  a154 := Tryd.isAgg238
  z154 := Tryd.sizeOf238
  v154 := Tryd.zeroValue238
  t193 := Tryd.underlying253
  a193 := Tryd.isAgg253
  z193 := Tryd.sizeOf253
  v193 := Tryd.zeroValue253
  t194 := Tryd.underlying254
  a194 := Tryd.isAgg254
  z194 := Tryd.sizeOf254
  v194 := Tryd.zeroValue254
  t196 := Tryd.underlying256
  a196 := Tryd.isAgg256
  z196 := Tryd.sizeOf256
  v196 := Tryd.zeroValue256
  t198 := Tryd.underlying259
  a198 := Tryd.isAgg259
  z198 := Tryd.sizeOf259
  v198 := Tryd.zeroValue259
  t201 := Tryd.underlying262
  a201 := Tryd.isAgg262
  z201 := Tryd.sizeOf262
  v201 := Tryd.zeroValue262
  t226 := Tryd.underlying270
  a226 := Tryd.isAgg270
  z226 := Tryd.sizeOf270
  v226 := Tryd.zeroValue270
  t227 := Tryd.underlying271
  a227 := Tryd.isAgg271
  z227 := Tryd.sizeOf271
  v227 := Tryd.zeroValue271
  g0 := by kernel_rfl
  g6 := by kernel_rfl }
def Tryd.laysSlF6_f137_ren : Go.Shelf.Ren := ⟨fun | 6 => 137 | 15 => 155 | 14 => 154 | 28 => 173 | 29 => 174 | 20 => 165 | 21 => 166 | 22 => 167 | 23 => 168 | 24 => 169 | 25 => 170 | 26 => 171 | 27 => 172 | 46 => 180 | 47 => 181 | 48 => 182 | 49 => 183 | 50 => 184 | 57 => 186 | n => n, fun | 22 => 58 | 24 => 3 | 25 => 220 | 3 => 3 | 39 => 202 | 0 => 0 | 53 => 239 | 55 => 28 | 4 => 4 | 46 => 245 | 45 => 244 | 50 => 213 | 5 => 5 | 9 => 9 | 66 => 265 | 70 => 267 | 76 => 272 | 77 => 273 | n => n, fun | n => n⟩
theorem Tryd.laysSlF6_f137 : Go.Proofs.SlLaysF.n6 Tryd.prog Tryd.laysSlF6_f137_ren := {
  mixed := by kernel_rfl
  f6 := ⟨Tryd.f137.name, by decide, Tryd.func137.trans (congrArg some (by kernel_rfl))⟩
  f14 := ⟨Tryd.f154.name, by decide, Tryd.func154.trans (congrArg some (by kernel_rfl))⟩
  f15 := Tryd.func155.trans (congrArg some (by kernel_rfl))
  f20 := ⟨Tryd.f165.name, by decide, Tryd.func165.trans (congrArg some (by kernel_rfl))⟩
  f21 := ⟨Tryd.f166.name, by decide, Tryd.func166.trans (congrArg some (by kernel_rfl))⟩
  f22 := ⟨Tryd.f167.name, by decide, Tryd.func167.trans (congrArg some (by kernel_rfl))⟩
  f23 := ⟨Tryd.f168.name, by decide, Tryd.func168.trans (congrArg some (by kernel_rfl))⟩
  f24 := ⟨Tryd.f169.name, by decide, Tryd.func169.trans (congrArg some (by kernel_rfl))⟩
  f25 := ⟨Tryd.f170.name, by decide, Tryd.func170.trans (congrArg some (by kernel_rfl))⟩
  f26 := ⟨Tryd.f171.name, by decide, Tryd.func171.trans (congrArg some (by kernel_rfl))⟩
  f27 := ⟨Tryd.f172.name, by decide, Tryd.func172.trans (congrArg some (by kernel_rfl))⟩
  f28 := Tryd.func173.trans (congrArg some (by kernel_rfl))
  f29 := Tryd.func174.trans (congrArg some (by kernel_rfl))
  f46 := ⟨Tryd.f180.name, by decide, Tryd.func180.trans (congrArg some (by kernel_rfl))⟩
  f47 := Tryd.func181.trans (congrArg some (by kernel_rfl))
  f48 := Tryd.func182.trans (congrArg some (by kernel_rfl))
  f49 := ⟨Tryd.f183.name, by decide, Tryd.func183.trans (congrArg some (by kernel_rfl))⟩
  f50 := ⟨Tryd.f184.name, by decide, Tryd.func184.trans (congrArg some (by kernel_rfl))⟩
  f57 := ⟨Tryd.f186.name, by decide, Tryd.func186.trans (congrArg some (by kernel_rfl))⟩
  t0 := Tryd.underlying0
  a0 := Tryd.isAgg0
  z0 := Tryd.sizeOf0
  v0 := Tryd.zeroValue0
  t3 := Tryd.underlying3
  a3 := Tryd.isAgg3
  z3 := Tryd.sizeOf3
  v3 := Tryd.zeroValue3
  t4 := Tryd.underlying4
  a4 := Tryd.isAgg4
  z4 := Tryd.sizeOf4
  v4 := Tryd.zeroValue4
  t5 := Tryd.underlying5
  a5 := Tryd.isAgg5
  z5 := Tryd.sizeOf5
  v5 := Tryd.zeroValue5
  t9 := Tryd.underlying9
  a9 := Tryd.isAgg9
  z9 := Tryd.sizeOf9
  v9 := Tryd.zeroValue9
  t22 := Tryd.underlying58
  a22 := Tryd.isAgg58
  z22 := Tryd.sizeOf58
  v22 := Tryd.zeroValue58
  a24 := Tryd.isAgg3
  z24 := Tryd.sizeOf3
  t25 := Tryd.underlying220
  a25 := Tryd.isAgg220
  z25 := Tryd.sizeOf220
  v25 := Tryd.zeroValue220
  t39 := Tryd.underlying202
  a39 := Tryd.isAgg202
  z39 := Tryd.sizeOf202
  v39 := Tryd.zeroValue202
  t45 := Tryd.underlying244
  a45 := Tryd.isAgg244
  z45 := Tryd.sizeOf244
  v45 := Tryd.zeroValue244
  t46 := Tryd.underlying245
  a46 := Tryd.isAgg245
  z46 := Tryd.sizeOf245
  v46 := Tryd.zeroValue245
  t50 := Tryd.underlying213
  a50 := Tryd.isAgg213
  z50 := Tryd.sizeOf213
  v50 := Tryd.zeroValue213
  t53 := Tryd.underlying239
  a53 := Tryd.isAgg239
  z53 := Tryd.sizeOf239
  v53 := Tryd.zeroValue239
  t55 := Tryd.underlying28
  a55 := Tryd.isAgg28
  z55 := Tryd.sizeOf28
  v55 := Tryd.zeroValue28
  t66 := Tryd.underlying265
  a66 := Tryd.isAgg265
  z66 := Tryd.sizeOf265
  v66 := Tryd.zeroValue265
  t70 := Tryd.underlying267
  a70 := Tryd.isAgg267
  z70 := Tryd.sizeOf267
  v70 := Tryd.zeroValue267
  t76 := Tryd.underlying272
  a76 := Tryd.isAgg272
  z76 := Tryd.sizeOf272
  v76 := Tryd.zeroValue272
  t77 := Tryd.underlying273
  a77 := Tryd.isAgg273
  z77 := Tryd.sizeOf273
  v77 := Tryd.zeroValue273 }
/-- bits.Len: "Len returns the minimum number of bits required to represent x; the result is 0 for x == 0.": IT RETURNS 'Lib.bitLen x'; the world is as it was. (A uint has 64 bits in the model.) ITS CALLEE bits.Len64 IS MET BY ITS OWN CONTRACT OFF THE SHELF (lay that first). (LAID: no walk: one application.) -/
theorem Tryd.bits_Len (x : Int) (w : World) (h0 : 0 ≤ x) (h1 : x ≤ 18446744073709551615) :
    Calls Tryd.prog 155 #[.int .u64 x] w fun e w' => e = .returned (.int .i64 (Lib.bitLen x.toNat)) ∧ w' = w := Any.bits_Len Tryd.lays125 x w h0 h1
open Go.RowKit in
/-- cmp.Compare at int: "Compare returns -1 if x is less than y, 0 if x equals y, +1 if x is greater than y.": IT RETURNS 'Lib.compareInt x y'; the world is as it was. (LAID: no walk: one application.) -/
theorem Tryd.cmp_Compare_int (x y : Int) (w : World) :
    Calls Tryd.prog 139 #[.int .i64 x, .int .i64 y] w fun e w' => e = .returned (.int .i64 (Lib.compareInt x y)) ∧ w' = w := Any.cmp_Compare_int Tryd.lays122 x y w
open Go.RowKit Go.Lib in
/-- strings.Fields, the table by 'Lib.TabIs' (as strings.TrimSpace's contract). 'hg': the table's number, by its name: at a dump 'by kernel_rfl'. (LAID: no walk: one application.) -/
theorem Tryd.strings_Fields (s : ByteArray) (w : World) (hs : s.size < 4294967281) (hascii : ∀ (j : Nat) b, s.data.toList[j]? = some b → b.toNat < 128) (htab : Lib.TabIs Tryd.prog w "strings.asciiSpace" .u8 Lib.asciiSpaceTab) :
    Calls Tryd.prog 115 #[.string s] w fun e w' =>
      e = .returned (.slice (some ⟨w.heap.size, 0, none⟩) (Lib.fields s.data.toList).length (Lib.fields s.data.toList).length) ∧ w' = w.alloc (.cells ((Lib.fields s.data.toList).map fun l => Value.string ⟨l.toArray⟩).toArray 9) := Any.strings_Fields Tryd.lays157 (by kernel_rfl) (by kernel_rfl) s w hs hascii htab
open Go.RowKit Go.Lib Go.Sort in
/-- **slices.SortFunc, IN THE DOCUMENTATION's OWN TERMS: A PERMUTATION OF WHAT THE ROW HELD, SORTED BY 'cmp(a, b) < 0'.** Which of two equals comes first is left open ("The sort is not guaranteed to be stable"). (LAID AT THE INSTANCE 'slices.SortFunc[[]int,int]': no walk: one application.) -/
theorem Tryd.slices_SortFunc {α : Type} [Inhabited α] (enc : α → Value) (h1 : OneCell enc) (cf : α → α → Int) (hO : SWO (ltOf cf)) (g : Nat) (cb : Array Value) (blk off cap : Nat) (d : Array α) (w : World) (eg : ∀ args w, (callFunc g args).run Tryd.prog w = .ok (.enter g args) w) (hcmp : CmpLays1 Tryd.prog g cb enc cf blk off d.size w) (hH : Holds enc w blk off d) (hblk : blk < w.heap.size) (hsz : d.size < 4611686018427387904) :
    Calls Tryd.prog 137 #[.slice (some ⟨blk, off, none⟩) d.size cap, .func (.func g) #[] cb] w fun e w' =>
      e = .returned (.tuple #[]) ∧ ∃ d' n os, PermIn 0 d.size d d' ∧ SortedIn (ltOf cf) 0 d.size d' ∧ w' = sortWorld enc w blk off n d' os := Any.slices_SortFunc Tryd.laysSlF6_f137 enc h1 cf hO g cb blk off cap d w eg hcmp hH hblk hsz
end Go.Proofs

/-
  DERIVED: THE SHELF's CONTRACTS AT THIS DUMP, IN PLAIN WORDS (tools/lay-plain.mjs out of 'TrydShelf.lean', which tools/lay-shelf.mjs wrote): THE SAME DECLARATIONS UNDER THE SAME NAMES: 'import', 'namespace', 'open', 'def', 'theorem' AND NOTHING ELSE: no command of the shelf's: FOR A HAND-IN. Each laying: the table of numbers ('.._ren') and one theorem, a field a fact of the dump's own or the kernel's comparison; each contract: ONE APPLICATION.
-/
import Derived.Shelf.Strings.Fields
import Derived.Test.YtkhkagjbeilbgaaDoorProg
namespace Go.Proofs
open Go.Shelf
def Tryd.lays157_ren : Go.Shelf.Ren := ⟨fun | 157 => 55 | 229 => 87 | 199 => 88 | 261 => 112 | 311 => 124 | 312 => 125 | n => n, fun | 9 => 9 | 31 => 108 | 3 => 3 | 5 => 5 | 4 => 4 | 119 => 152 | 0 => 0 | 40 => 154 | 152 => 182 | 21 => 21 | 154 => 184 | 51 => 185 | 141 => 187 | 196 => 201 | 193 => 198 | 198 => 204 | 49 => 202 | 194 => 199 | 201 => 207 | 226 => 210 | 46 => 188 | 227 => 211 | n => n, fun | 0 => 0 | 6 => 1 | n => n⟩
theorem Tryd.lays157 : Go.Proofs.Lays.n157 Tryd.prog Tryd.lays157_ren := {
  mixed := by kernel_rfl
  f157 := Tryd.func55.trans (congrArg some (by kernel_rfl))
  f199 := Tryd.func88.trans (congrArg some (by kernel_rfl))
  f229 := Tryd.func87.trans (congrArg some (by kernel_rfl))
  f261 := Tryd.func112.trans (congrArg some (by kernel_rfl))
  f311 := Tryd.func124.trans (congrArg some (by kernel_rfl))
  f312 := Tryd.func125.trans (congrArg some (by kernel_rfl))
  t0 := Tryd.underlying0
  a0 := Tryd.isAgg0
  z0 := Tryd.sizeOf0
  v0 := Tryd.zeroValue0
  t3 := Tryd.underlying3
  a3 := Tryd.isAgg3
  z3 := Tryd.sizeOf3
  v3 := Tryd.zeroValue3
  t4 := Tryd.underlying4
  a4 := Tryd.isAgg4
  z4 := Tryd.sizeOf4
  v4 := Tryd.zeroValue4
  t5 := Tryd.underlying5
  a5 := Tryd.isAgg5
  z5 := Tryd.sizeOf5
  v5 := Tryd.zeroValue5
  t9 := Tryd.underlying9
  a9 := Tryd.isAgg9
  z9 := Tryd.sizeOf9
  v9 := Tryd.zeroValue9
  t21 := Tryd.underlying21
  a21 := Tryd.isAgg21
  z21 := Tryd.sizeOf21
  v21 := Tryd.zeroValue21
  t31 := Tryd.underlying108
  a31 := Tryd.isAgg108
  z31 := Tryd.sizeOf108
  v31 := Tryd.zeroValue108
  t40 := Tryd.underlying154
  a40 := Tryd.isAgg154
  z40 := Tryd.sizeOf154
  v40 := Tryd.zeroValue154
  t46 := Tryd.underlying188
  a46 := Tryd.isAgg188
  z46 := Tryd.sizeOf188
  v46 := Tryd.zeroValue188
  t49 := Tryd.underlying202
  a49 := Tryd.isAgg202
  z49 := Tryd.sizeOf202
  v49 := Tryd.zeroValue202
  t51 := Tryd.underlying185
  a51 := Tryd.isAgg185
  z51 := Tryd.sizeOf185
  v51 := Tryd.zeroValue185
  t119 := Tryd.underlying152
  a119 := Tryd.isAgg152
  z119 := Tryd.sizeOf152
  t141 := Tryd.underlying187
  a141 := Tryd.isAgg187
  z141 := Tryd.sizeOf187
  v141 := Tryd.zeroValue187
  t152 := Tryd.underlying182
  a152 := Tryd.isAgg182
  z152 := Tryd.sizeOf182
  v152 := Tryd.zeroValue182
  t154 := Tryd.underlying184
  a154 := Tryd.isAgg184
  z154 := Tryd.sizeOf184
  v154 := Tryd.zeroValue184
  t193 := Tryd.underlying198
  a193 := Tryd.isAgg198
  z193 := Tryd.sizeOf198
  v193 := Tryd.zeroValue198
  t194 := Tryd.underlying199
  a194 := Tryd.isAgg199
  z194 := Tryd.sizeOf199
  v194 := Tryd.zeroValue199
  t196 := Tryd.underlying201
  a196 := Tryd.isAgg201
  z196 := Tryd.sizeOf201
  v196 := Tryd.zeroValue201
  t198 := Tryd.underlying204
  a198 := Tryd.isAgg204
  z198 := Tryd.sizeOf204
  v198 := Tryd.zeroValue204
  t201 := Tryd.underlying207
  a201 := Tryd.isAgg207
  z201 := Tryd.sizeOf207
  v201 := Tryd.zeroValue207
  t226 := Tryd.underlying210
  a226 := Tryd.isAgg210
  z226 := Tryd.sizeOf210
  v226 := Tryd.zeroValue210
  t227 := Tryd.underlying211
  a227 := Tryd.isAgg211
  z227 := Tryd.sizeOf211
  v227 := Tryd.zeroValue211
  g0 := by kernel_rfl
  g6 := by kernel_rfl }
open Go.RowKit Go.Lib in
/-- strings.Fields, the table by 'Lib.TabIs' (as strings.TrimSpace's contract). 'hg': the table's number, by its name: at a dump 'by kernel_rfl'. (LAID: no walk: one application.) -/
theorem Tryd.strings_Fields (s : ByteArray) (w : World) (hs : s.size < 4294967281) (hascii : ∀ (j : Nat) b, s.data.toList[j]? = some b → b.toNat < 128) (htab : Lib.TabIs Tryd.prog w "strings.asciiSpace" .u8 Lib.asciiSpaceTab) :
    Calls Tryd.prog 55 #[.string s] w fun e w' =>
      e = .returned (.slice (some ⟨w.heap.size, 0, none⟩) (Lib.fields s.data.toList).length (Lib.fields s.data.toList).length) ∧ w' = w.alloc (.cells ((Lib.fields s.data.toList).map fun l => Value.string ⟨l.toArray⟩).toArray 9) := Any.strings_Fields Tryd.lays157 (by kernel_rfl) (by kernel_rfl) s w hs hascii htab
end Go.Proofs

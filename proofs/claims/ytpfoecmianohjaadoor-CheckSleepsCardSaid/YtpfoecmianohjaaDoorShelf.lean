/-
  DERIVED: THE SHELF's CONTRACTS AT THIS DUMP, IN PLAIN WORDS (tools/lay-plain.mjs out of 'TrydShelf.lean', which tools/lay-shelf.mjs wrote): THE SAME DECLARATIONS UNDER THE SAME NAMES: 'import', 'namespace', 'open', 'def', 'theorem' AND NOTHING ELSE: no command of the shelf's: FOR A HAND-IN. Each laying: the table of numbers ('.._ren') and one theorem, a field a fact of the dump's own or the kernel's comparison; each contract: ONE APPLICATION.
-/
import Derived.Shelf.Strings.Fields
import Derived.Test.YtpfoecmianohjaaDoorProg
namespace Go.Proofs
open Go.Shelf
def Tryd.lays157_ren : Go.Shelf.Ren := ⟨fun | 157 => 45 | 229 => 61 | 199 => 62 | 261 => 72 | 311 => 74 | 312 => 75 | n => n, fun | 9 => 9 | 31 => 77 | 3 => 3 | 5 => 5 | 4 => 4 | 119 => 94 | 0 => 0 | 40 => 96 | 152 => 106 | 21 => 21 | 154 => 108 | 51 => 109 | 141 => 111 | 196 => 115 | 193 => 112 | 198 => 118 | 49 => 116 | 194 => 113 | 201 => 121 | 226 => 123 | 46 => 70 | 227 => 124 | n => n, fun | 0 => 0 | 6 => 1 | n => n⟩
theorem Tryd.lays157 : Go.Proofs.Lays.n157 Tryd.prog Tryd.lays157_ren := {
  mixed := by kernel_rfl
  f157 := Tryd.func45.trans (congrArg some (by kernel_rfl))
  f199 := Tryd.func62.trans (congrArg some (by kernel_rfl))
  f229 := Tryd.func61.trans (congrArg some (by kernel_rfl))
  f261 := Tryd.func72.trans (congrArg some (by kernel_rfl))
  f311 := Tryd.func74.trans (congrArg some (by kernel_rfl))
  f312 := Tryd.func75.trans (congrArg some (by kernel_rfl))
  t0 := Tryd.underlying0
  a0 := Tryd.isAgg0
  z0 := Tryd.sizeOf0
  v0 := Tryd.zeroValue0
  t3 := Tryd.underlying3
  a3 := Tryd.isAgg3
  z3 := Tryd.sizeOf3
  v3 := Tryd.zeroValue3
  t4 := Tryd.underlying4
  a4 := Tryd.isAgg4
  z4 := Tryd.sizeOf4
  v4 := Tryd.zeroValue4
  t5 := Tryd.underlying5
  a5 := Tryd.isAgg5
  z5 := Tryd.sizeOf5
  v5 := Tryd.zeroValue5
  t9 := Tryd.underlying9
  a9 := Tryd.isAgg9
  z9 := Tryd.sizeOf9
  v9 := Tryd.zeroValue9
  t21 := Tryd.underlying21
  a21 := Tryd.isAgg21
  z21 := Tryd.sizeOf21
  v21 := Tryd.zeroValue21
  t31 := Tryd.underlying77
  a31 := Tryd.isAgg77
  z31 := Tryd.sizeOf77
  v31 := Tryd.zeroValue77
  t40 := Tryd.underlying96
  a40 := Tryd.isAgg96
  z40 := Tryd.sizeOf96
  v40 := Tryd.zeroValue96
  t46 := Tryd.underlying70
  a46 := Tryd.isAgg70
  z46 := Tryd.sizeOf70
  v46 := Tryd.zeroValue70
  t49 := Tryd.underlying116
  a49 := Tryd.isAgg116
  z49 := Tryd.sizeOf116
  v49 := Tryd.zeroValue116
  t51 := Tryd.underlying109
  a51 := Tryd.isAgg109
  z51 := Tryd.sizeOf109
  v51 := Tryd.zeroValue109
  t119 := Tryd.underlying94
  a119 := Tryd.isAgg94
  z119 := Tryd.sizeOf94
  t141 := Tryd.underlying111
  a141 := Tryd.isAgg111
  z141 := Tryd.sizeOf111
  v141 := Tryd.zeroValue111
  t152 := Tryd.underlying106
  a152 := Tryd.isAgg106
  z152 := Tryd.sizeOf106
  v152 := Tryd.zeroValue106
  t154 := Tryd.underlying108
  a154 := Tryd.isAgg108
  z154 := Tryd.sizeOf108
  v154 := Tryd.zeroValue108
  t193 := Tryd.underlying112
  a193 := Tryd.isAgg112
  z193 := Tryd.sizeOf112
  v193 := Tryd.zeroValue112
  t194 := Tryd.underlying113
  a194 := Tryd.isAgg113
  z194 := Tryd.sizeOf113
  v194 := Tryd.zeroValue113
  t196 := Tryd.underlying115
  a196 := Tryd.isAgg115
  z196 := Tryd.sizeOf115
  v196 := Tryd.zeroValue115
  t198 := Tryd.underlying118
  a198 := Tryd.isAgg118
  z198 := Tryd.sizeOf118
  v198 := Tryd.zeroValue118
  t201 := Tryd.underlying121
  a201 := Tryd.isAgg121
  z201 := Tryd.sizeOf121
  v201 := Tryd.zeroValue121
  t226 := Tryd.underlying123
  a226 := Tryd.isAgg123
  z226 := Tryd.sizeOf123
  v226 := Tryd.zeroValue123
  t227 := Tryd.underlying124
  a227 := Tryd.isAgg124
  z227 := Tryd.sizeOf124
  v227 := Tryd.zeroValue124
  g0 := by kernel_rfl
  g6 := by kernel_rfl }
open Go.RowKit Go.Lib in
/-- strings.Fields, the table by 'Lib.TabIs' (as strings.TrimSpace's contract). 'hg': the table's number, by its name: at a dump 'by kernel_rfl'. (LAID: no walk: one application.) -/
theorem Tryd.strings_Fields (s : ByteArray) (w : World) (hs : s.size < 4294967281) (hascii : ∀ (j : Nat) b, s.data.toList[j]? = some b → b.toNat < 128) (htab : Lib.TabIs Tryd.prog w "strings.asciiSpace" .u8 Lib.asciiSpaceTab) :
    Calls Tryd.prog 45 #[.string s] w fun e w' =>
      e = .returned (.slice (some ⟨w.heap.size, 0, none⟩) (Lib.fields s.data.toList).length (Lib.fields s.data.toList).length) ∧ w' = w.alloc (.cells ((Lib.fields s.data.toList).map fun l => Value.string ⟨l.toArray⟩).toArray 9) := Any.strings_Fields Tryd.lays157 (by kernel_rfl) (by kernel_rfl) s w hs hascii htab
end Go.Proofs

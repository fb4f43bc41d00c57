/-
  DERIVED: THE SHELF's CONTRACTS AT THIS DUMP, IN PLAIN WORDS (tools/lay-plain.mjs out of 'TrydShelf.lean', which tools/lay-shelf.mjs wrote): THE SAME DECLARATIONS UNDER THE SAME NAMES: 'import', 'namespace', 'open', 'def', 'theorem' AND NOTHING ELSE: no command of the shelf's: FOR A HAND-IN. Each laying: the table of numbers ('.._ren') and one theorem, a field a fact of the dump's own or the kernel's comparison; each contract: ONE APPLICATION.
-/
import Derived.Shelf.Strings.Fields
import Derived.Test.YtcmfldfeakmdoaaDoorProg
namespace Go.Proofs
open Go.Shelf
def Tryd.lays157_ren : Go.Shelf.Ren := ⟨fun | 157 => 67 | 229 => 79 | 199 => 80 | 261 => 85 | 311 => 91 | 312 => 92 | n => n, fun | 9 => 9 | 31 => 123 | 3 => 3 | 5 => 5 | 4 => 4 | 119 => 136 | 0 => 0 | 40 => 138 | 152 => 144 | 21 => 21 | 154 => 146 | 51 => 147 | 141 => 149 | 196 => 155 | 193 => 152 | 198 => 158 | 49 => 156 | 194 => 153 | 201 => 161 | 226 => 164 | 46 => 126 | 227 => 165 | n => n, fun | 0 => 0 | 6 => 1 | n => n⟩
theorem Tryd.lays157 : Go.Proofs.Lays.n157 Tryd.prog Tryd.lays157_ren := {
  mixed := by kernel_rfl
  f157 := Tryd.func67.trans (congrArg some (by kernel_rfl))
  f199 := Tryd.func80.trans (congrArg some (by kernel_rfl))
  f229 := Tryd.func79.trans (congrArg some (by kernel_rfl))
  f261 := Tryd.func85.trans (congrArg some (by kernel_rfl))
  f311 := Tryd.func91.trans (congrArg some (by kernel_rfl))
  f312 := Tryd.func92.trans (congrArg some (by kernel_rfl))
  t0 := Tryd.underlying0
  a0 := Tryd.isAgg0
  z0 := Tryd.sizeOf0
  v0 := Tryd.zeroValue0
  t3 := Tryd.underlying3
  a3 := Tryd.isAgg3
  z3 := Tryd.sizeOf3
  v3 := Tryd.zeroValue3
  t4 := Tryd.underlying4
  a4 := Tryd.isAgg4
  z4 := Tryd.sizeOf4
  v4 := Tryd.zeroValue4
  t5 := Tryd.underlying5
  a5 := Tryd.isAgg5
  z5 := Tryd.sizeOf5
  v5 := Tryd.zeroValue5
  t9 := Tryd.underlying9
  a9 := Tryd.isAgg9
  z9 := Tryd.sizeOf9
  v9 := Tryd.zeroValue9
  t21 := Tryd.underlying21
  a21 := Tryd.isAgg21
  z21 := Tryd.sizeOf21
  v21 := Tryd.zeroValue21
  t31 := Tryd.underlying123
  a31 := Tryd.isAgg123
  z31 := Tryd.sizeOf123
  v31 := Tryd.zeroValue123
  t40 := Tryd.underlying138
  a40 := Tryd.isAgg138
  z40 := Tryd.sizeOf138
  v40 := Tryd.zeroValue138
  t46 := Tryd.underlying126
  a46 := Tryd.isAgg126
  z46 := Tryd.sizeOf126
  v46 := Tryd.zeroValue126
  t49 := Tryd.underlying156
  a49 := Tryd.isAgg156
  z49 := Tryd.sizeOf156
  v49 := Tryd.zeroValue156
  t51 := Tryd.underlying147
  a51 := Tryd.isAgg147
  z51 := Tryd.sizeOf147
  v51 := Tryd.zeroValue147
  t119 := Tryd.underlying136
  a119 := Tryd.isAgg136
  z119 := Tryd.sizeOf136
  t141 := Tryd.underlying149
  a141 := Tryd.isAgg149
  z141 := Tryd.sizeOf149
  v141 := Tryd.zeroValue149
  t152 := Tryd.underlying144
  a152 := Tryd.isAgg144
  z152 := Tryd.sizeOf144
  v152 := Tryd.zeroValue144
  t154 := Tryd.underlying146
  a154 := Tryd.isAgg146
  z154 := Tryd.sizeOf146
  v154 := Tryd.zeroValue146
  t193 := Tryd.underlying152
  a193 := Tryd.isAgg152
  z193 := Tryd.sizeOf152
  v193 := Tryd.zeroValue152
  t194 := Tryd.underlying153
  a194 := Tryd.isAgg153
  z194 := Tryd.sizeOf153
  v194 := Tryd.zeroValue153
  t196 := Tryd.underlying155
  a196 := Tryd.isAgg155
  z196 := Tryd.sizeOf155
  v196 := Tryd.zeroValue155
  t198 := Tryd.underlying158
  a198 := Tryd.isAgg158
  z198 := Tryd.sizeOf158
  v198 := Tryd.zeroValue158
  t201 := Tryd.underlying161
  a201 := Tryd.isAgg161
  z201 := Tryd.sizeOf161
  v201 := Tryd.zeroValue161
  t226 := Tryd.underlying164
  a226 := Tryd.isAgg164
  z226 := Tryd.sizeOf164
  v226 := Tryd.zeroValue164
  t227 := Tryd.underlying165
  a227 := Tryd.isAgg165
  z227 := Tryd.sizeOf165
  v227 := Tryd.zeroValue165
  g0 := by kernel_rfl
  g6 := by kernel_rfl }
open Go.RowKit Go.Lib in
/-- strings.Fields, the table by 'Lib.TabIs' (as strings.TrimSpace's contract). 'hg': the table's number, by its name: at a dump 'by kernel_rfl'. (LAID: no walk: one application.) -/
theorem Tryd.strings_Fields (s : ByteArray) (w : World) (hs : s.size < 4294967281) (hascii : ∀ (j : Nat) b, s.data.toList[j]? = some b → b.toNat < 128) (htab : Lib.TabIs Tryd.prog w "strings.asciiSpace" .u8 Lib.asciiSpaceTab) :
    Calls Tryd.prog 67 #[.string s] w fun e w' =>
      e = .returned (.slice (some ⟨w.heap.size, 0, none⟩) (Lib.fields s.data.toList).length (Lib.fields s.data.toList).length) ∧ w' = w.alloc (.cells ((Lib.fields s.data.toList).map fun l => Value.string ⟨l.toArray⟩).toArray 9) := Any.strings_Fields Tryd.lays157 (by kernel_rfl) (by kernel_rfl) s w hs hascii htab
end Go.Proofs

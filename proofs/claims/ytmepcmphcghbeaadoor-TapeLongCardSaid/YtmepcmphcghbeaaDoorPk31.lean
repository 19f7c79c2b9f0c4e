/- Texts of the abstract walk, of the contracts and of the plain laws, packed (part 31 of 48): Ls. Conditions: none. -/
import Derived.Test.YtmepcmphcghbeaaDoorPk30
import Derived.Shelf.LaysM
import Derived.Shelf.LaysC
import Derived.Shelf.Small.Strs
import Derived.Shelf.Strings.SplitShaped
import Derived.Test.YtmepcmphcghbeaaDoorProg
namespace Go.Proofs.YtmepcmphcghbeaaDoor
open Go Go.Shelf
set_option linter.unnecessarySimpa false
def Tryd.lays137_ren : Go.Shelf.Ren := ⟨fun | 137 => 24 | 217 => 41 | 266 => 55 | n => n, fun | 9 => 9 | 5 => 5 | 3 => 3 | n => n, fun | n => n⟩
theorem Tryd.lays137 : Go.Proofs.Lays.n137 Tryd.prog Tryd.lays137_ren := {
  mixed := by kernel_rfl
  f137 := Tryd.func24.trans (congrArg some (by kernel_rfl))
  f217 := Tryd.func41.trans (congrArg some (by kernel_rfl))
  f266 := Tryd.func55.trans (congrArg some (by kernel_rfl))
  t3 := Tryd.underlying3
  a3 := Tryd.isAgg3
  z3 := Tryd.sizeOf3
  v3 := Tryd.zeroValue3
  t5 := Tryd.underlying5
  a5 := Tryd.isAgg5
  z5 := Tryd.sizeOf5
  v5 := Tryd.zeroValue5
  t9 := Tryd.underlying9
  a9 := Tryd.isAgg9
  z9 := Tryd.sizeOf9
  v9 := Tryd.zeroValue9 }
open Go.RowKit in
theorem Tryd.strings_IndexByte (s : ByteArray) (c : Int) (w : World) :
    Calls Tryd.prog 24 #[.string s, .int .u8 c] w fun e w' => e = .returned (.int .i64 (Lib.indexByte s.data.toList c.toNat.toUInt8)) ∧ w' = w := Any.strings_IndexByte Tryd.lays137 s c w
def Tryd.laysM157_ren : Go.Shelf.Ren := ⟨fun | 157 => 60 | 229 => 70 | 199 => 71 | 261 => 82 | 311 => 91 | 312 => 92 | n => n, fun | 9 => 9 | 31 => 65 | 3 => 3 | 5 => 5 | 4 => 4 | 119 => 98 | 0 => 0 | 40 => 100 | 152 => 115 | 21 => 21 | 154 => 117 | 51 => 112 | 141 => 119 | 196 => 132 | 193 => 129 | 198 => 135 | 49 => 133 | 194 => 130 | 201 => 138 | 226 => 145 | 46 => 52 | 227 => 146 | n => n, fun | 0 => 2 | 6 => 3 | n => n⟩
theorem Tryd.laysM157 : Go.Proofs.LaysM.n157 Tryd.prog Tryd.laysM157_ren := {
  mixed := by kernel_rfl
  f157 := Tryd.func60.trans (congrArg some (by kernel_rfl))
  f199 := Tryd.func71.trans (congrArg some (by kernel_rfl))
  f229 := Tryd.func70.trans (congrArg some (by kernel_rfl))
  f261 := Tryd.func82.trans (congrArg some (by kernel_rfl))
  f311 := Tryd.func91.trans (congrArg some (by kernel_rfl))
  f312 := Tryd.func92.trans (congrArg some (by kernel_rfl))
  t0 := Tryd.underlying0
  a0 := Tryd.isAgg0
  z0 := Tryd.sizeOf0
  v0 := Tryd.zeroValue0
  t3 := Tryd.underlying3
  a3 := Tryd.isAgg3
  z3 := Tryd.sizeOf3
  v3 := Tryd.zeroValue3
  t4 := Tryd.underlying4
  a4 := Tryd.isAgg4
  z4 := Tryd.sizeOf4
  v4 := Tryd.zeroValue4
  t5 := Tryd.underlying5
  a5 := Tryd.isAgg5
  z5 := Tryd.sizeOf5
  v5 := Tryd.zeroValue5
  t9 := Tryd.underlying9
  a9 := Tryd.isAgg9
  z9 := Tryd.sizeOf9
  v9 := Tryd.zeroValue9
  t21 := Tryd.underlying21
  a21 := Tryd.isAgg21
  z21 := Tryd.sizeOf21
  v21 := Tryd.zeroValue21
  t31 := Tryd.underlying65
  a31 := Tryd.isAgg65
  z31 := Tryd.sizeOf65
  v31 := Tryd.zeroValue65
  t40 := Tryd.underlying100
  a40 := Tryd.isAgg100
  z40 := Tryd.sizeOf100
  v40 := Tryd.zeroValue100
  t46 := Tryd.underlying52
  a46 := Tryd.isAgg52
  z46 := Tryd.sizeOf52
  v46 := Tryd.zeroValue52
  t49 := Tryd.underlying133
  a49 := Tryd.isAgg133
  z49 := Tryd.sizeOf133
  v49 := Tryd.zeroValue133
  t51 := Tryd.underlying112
  a51 := Tryd.isAgg112
  z51 := Tryd.sizeOf112
  v51 := Tryd.zeroValue112
  t119 := Tryd.underlying98
  a119 := Tryd.isAgg98
  z119 := Tryd.sizeOf98
  t141 := Tryd.underlying119
  a141 := Tryd.isAgg119
  z141 := Tryd.sizeOf119
  v141 := Tryd.zeroValue119
  t152 := Tryd.underlying115
  a152 := Tryd.isAgg115
  z152 := Tryd.sizeOf115
  v152 := Tryd.zeroValue115
  t154 := Tryd.underlying117
  a154 := Tryd.isAgg117
  z154 := Tryd.sizeOf117
  v154 := Tryd.zeroValue117
  t193 := Tryd.underlying129
  a193 := Tryd.isAgg129
  z193 := Tryd.sizeOf129
  v193 := Tryd.zeroValue129
  t194 := Tryd.underlying130
  a194 := Tryd.isAgg130
  z194 := Tryd.sizeOf130
  v194 := Tryd.zeroValue130
  t196 := Tryd.underlying132
  a196 := Tryd.isAgg132
  z196 := Tryd.sizeOf132
  v196 := Tryd.zeroValue132
  t198 := Tryd.underlying135
  a198 := Tryd.isAgg135
  z198 := Tryd.sizeOf135
  v198 := Tryd.zeroValue135
  t201 := Tryd.underlying138
  a201 := Tryd.isAgg138
  z201 := Tryd.sizeOf138
  v201 := Tryd.zeroValue138
  t226 := Tryd.underlying145
  a226 := Tryd.isAgg145
  z226 := Tryd.sizeOf145
  v226 := Tryd.zeroValue145
  t227 := Tryd.underlying146
  a227 := Tryd.isAgg146
  z227 := Tryd.sizeOf146
  v227 := Tryd.zeroValue146
  g0 := by kernel_rfl
  g6 := by kernel_rfl
  i0 := by kernel_rfl
  i3 := by kernel_rfl
  i4 := by kernel_rfl
  i5 := by kernel_rfl
  i9 := by kernel_rfl
  i21 := by kernel_rfl
  i31 := by kernel_rfl
  i40 := by kernel_rfl
  i46 := by kernel_rfl
  i49 := by kernel_rfl
  i51 := by kernel_rfl
  i141 := by kernel_rfl
  i152 := by kernel_rfl
  i154 := by kernel_rfl
  i193 := by kernel_rfl
  i194 := by kernel_rfl
  i196 := by kernel_rfl
  i198 := by kernel_rfl
  i201 := by kernel_rfl
  i226 := by kernel_rfl
  i227 := by kernel_rfl
  m0 := by kernel_rfl
  m6 := by kernel_rfl }
open Go.RowKit Go.Lib in
theorem Tryd.strings_Fields_laid (s : ByteArray) (w : World) (hs : s.size < 4294967281) (hascii : ∀ (j : Nat) b, s.data.toList[j]? = some b → b.toNat < 128) (htab : Lib.TabIs Tryd.prog w "strings.asciiSpace" .u8 Lib.asciiSpaceTab) :
    Calls Tryd.prog 60 #[.string s] w fun e w' =>
      e = .returned (.slice (some ⟨w.heap.size, 0, none⟩) (Lib.fields s.data.toList).length (Lib.fields s.data.toList).length) ∧ w' = w.alloc (.cells ((Lib.fields s.data.toList).map fun l => Value.string ⟨l.toArray⟩).toArray 9) := Any.strings_Fields_laid Tryd.laysM157 s w hs hascii htab
end Go.Proofs.YtmepcmphcghbeaaDoor

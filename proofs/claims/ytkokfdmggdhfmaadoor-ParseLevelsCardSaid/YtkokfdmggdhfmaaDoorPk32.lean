/- Texts of the abstract walk, of the contracts and of the plain laws, packed (part 32 of 44): Fx. Conditions: none. -/
import Derived.Test.YtkokfdmggdhfmaaDoorPk31
import Derived.Test.YtkokfdmggdhfmaaDoorProg
namespace Go.Proofs.YtkokfdmggdhfmaaDoor
open Go
theorem ti3 : tinf Tryd.prog 3 = some (false, 1) := by kernel_rfl
theorem ti4 : tinf Tryd.prog 4 = some (false, 1) := by kernel_rfl
theorem ti5 : tinf Tryd.prog 5 = some (false, 1) := by kernel_rfl
theorem ti9 : tinf Tryd.prog 9 = some (false, 1) := by kernel_rfl
theorem ti23 : tinf Tryd.prog 23 = some (false, 1) := by kernel_rfl
theorem ti25 : tinf Tryd.prog 25 = some (true, 3) := by kernel_rfl
theorem ti26 : tinf Tryd.prog 26 = some (false, 1) := by kernel_rfl
theorem ti36 : tinf Tryd.prog 36 = some (false, 1) := by kernel_rfl
theorem ti38 : tinf Tryd.prog 38 = some (true, 2) := by kernel_rfl
theorem ti40 : tinf Tryd.prog 40 = some (true, 9) := by kernel_rfl
theorem ti45 : tinf Tryd.prog 45 = some (false, 1) := by kernel_rfl
theorem ti58 : tinf Tryd.prog 58 = some (true, 4) := by kernel_rfl
theorem ti91 : tinf Tryd.prog 91 = some (false, 1) := by kernel_rfl
theorem ti92 : tinf Tryd.prog 92 = some (false, 1) := by kernel_rfl
theorem ti97 : tinf Tryd.prog 97 = some (false, 1) := by kernel_rfl
theorem ti102 : tinf Tryd.prog 102 = some (true, 11) := by kernel_rfl
theorem ti127 : tinf Tryd.prog 127 = some (true, 2) := by kernel_rfl
theorem ti128 : tinf Tryd.prog 128 = some (false, 1) := by kernel_rfl
theorem ti130 : tinf Tryd.prog 130 = some (false, 1) := by kernel_rfl
theorem ti138 : tinf Tryd.prog 138 = some (false, 1) := by kernel_rfl
theorem ti146 : tinf Tryd.prog 146 = some (false, 1) := by kernel_rfl
theorem ti147 : tinf Tryd.prog 147 = some (false, 1) := by kernel_rfl
theorem ti150 : tinf Tryd.prog 150 = some (false, 1) := by kernel_rfl
theorem ti155 : tinf Tryd.prog 155 = some (true, 3) := by kernel_rfl
theorem fo25_0 : fieldOff Tryd.prog 25 0 = some 0 := by kernel_rfl
theorem fo25_1 : fieldOff Tryd.prog 25 1 = some 1 := by kernel_rfl
theorem fo25_2 : fieldOff Tryd.prog 25 2 = some 2 := by kernel_rfl
theorem fo38_0 : fieldOff Tryd.prog 38 0 = some 0 := by kernel_rfl
theorem fo38_1 : fieldOff Tryd.prog 38 1 = some 1 := by kernel_rfl
theorem fo40_0 : fieldOff Tryd.prog 40 0 = some 0 := by kernel_rfl
theorem fo40_1 : fieldOff Tryd.prog 40 1 = some 1 := by kernel_rfl
theorem fo40_2 : fieldOff Tryd.prog 40 2 = some 2 := by kernel_rfl
theorem fo40_3 : fieldOff Tryd.prog 40 3 = some 3 := by kernel_rfl
theorem fo40_4 : fieldOff Tryd.prog 40 4 = some 6 := by kernel_rfl
theorem fo40_5 : fieldOff Tryd.prog 40 5 = some 7 := by kernel_rfl
theorem fo52_0 : fieldOff Tryd.prog 52 0 = some 0 := by kernel_rfl
theorem fo52_1 : fieldOff Tryd.prog 52 1 = some 1 := by kernel_rfl
theorem fo58_0 : fieldOff Tryd.prog 58 0 = some 0 := by kernel_rfl
theorem fo58_1 : fieldOff Tryd.prog 58 1 = some 1 := by kernel_rfl
theorem fo58_2 : fieldOff Tryd.prog 58 2 = some 2 := by kernel_rfl
theorem fo65_0 : fieldOff Tryd.prog 65 0 = some 0 := by kernel_rfl
theorem fo65_1 : fieldOff Tryd.prog 65 1 = some 1 := by kernel_rfl
theorem fo65_2 : fieldOff Tryd.prog 65 2 = some 2 := by kernel_rfl
theorem fo65_3 : fieldOff Tryd.prog 65 3 = some 3 := by kernel_rfl
theorem fo76_0 : fieldOff Tryd.prog 76 0 = some 0 := by kernel_rfl
theorem fo76_1 : fieldOff Tryd.prog 76 1 = some 1 := by kernel_rfl
theorem fo78_0 : fieldOff Tryd.prog 78 0 = some 0 := by kernel_rfl
theorem fo78_1 : fieldOff Tryd.prog 78 1 = some 2 := by kernel_rfl
theorem fo78_2 : fieldOff Tryd.prog 78 2 = some 3 := by kernel_rfl
theorem fo94_0 : fieldOff Tryd.prog 94 0 = some 0 := by kernel_rfl
theorem fo94_1 : fieldOff Tryd.prog 94 1 = some 1 := by kernel_rfl
theorem fo102_0 : fieldOff Tryd.prog 102 0 = some 0 := by kernel_rfl
theorem fo102_1 : fieldOff Tryd.prog 102 1 = some 9 := by kernel_rfl
theorem fo127_0 : fieldOff Tryd.prog 127 0 = some 0 := by kernel_rfl
theorem fo127_1 : fieldOff Tryd.prog 127 1 = some 1 := by kernel_rfl
theorem fo149_0 : fieldOff Tryd.prog 149 0 = some 0 := by kernel_rfl
theorem fo149_1 : fieldOff Tryd.prog 149 1 = some 1 := by kernel_rfl
theorem fo149_2 : fieldOff Tryd.prog 149 2 = some 2 := by kernel_rfl
theorem fo152_0 : fieldOff Tryd.prog 152 0 = some 0 := by kernel_rfl
theorem fo152_1 : fieldOff Tryd.prog 152 1 = some 1 := by kernel_rfl
theorem fo152_2 : fieldOff Tryd.prog 152 2 = some 2 := by kernel_rfl
theorem fo155_0 : fieldOff Tryd.prog 155 0 = some 0 := by kernel_rfl
theorem fo155_1 : fieldOff Tryd.prog 155 1 = some 1 := by kernel_rfl
theorem fo155_2 : fieldOff Tryd.prog 155 2 = some 2 := by kernel_rfl
theorem ft102_0 : fieldTy Tryd.prog 102 0 = some (40, 0) := by kernel_rfl
theorem es23 : elemSz Tryd.prog 23 = some 3 := by kernel_rfl
theorem es36 : elemSz Tryd.prog 36 = some 9 := by kernel_rfl
theorem es45 : elemSz Tryd.prog 45 = some 4 := by kernel_rfl
theorem es68 : elemSz Tryd.prog 68 = some 1 := by kernel_rfl
theorem es92 : elemSz Tryd.prog 92 = some 1 := by kernel_rfl
theorem es125 : elemSz Tryd.prog 125 = some 2 := by kernel_rfl
theorem es146 : elemSz Tryd.prog 146 = some 3 := by kernel_rfl
theorem es147 : elemSz Tryd.prog 147 = some 3 := by kernel_rfl
theorem es114 : elemSz Tryd.prog 114 = none := by kernel_rfl
theorem es137 : elemSz Tryd.prog 137 = none := by kernel_rfl
theorem es166 : elemSz Tryd.prog 166 = none := by kernel_rfl
theorem es167 : elemSz Tryd.prog 167 = none := by kernel_rfl
theorem es177 : elemSz Tryd.prog 177 = none := by kernel_rfl
theorem es178 : elemSz Tryd.prog 178 = none := by kernel_rfl
theorem ar114 : arrSz Tryd.prog 114 = some (256, 1) := by kernel_rfl
theorem ar137 : arrSz Tryd.prog 137 = some (24, 1) := by kernel_rfl
theorem ar166 : arrSz Tryd.prog 166 = some (20, 1) := by kernel_rfl
theorem ar167 : arrSz Tryd.prog 167 = some (65, 1) := by kernel_rfl
theorem ar177 : arrSz Tryd.prog 177 = some (32, 1) := by kernel_rfl
theorem ar178 : arrSz Tryd.prog 178 = some (64, 1) := by kernel_rfl
theorem ei23 : elemInf Tryd.prog 23 = some (25, 3, 40) := by kernel_rfl
theorem ei36 : elemInf Tryd.prog 36 = some (40, 9, 112) := by kernel_rfl
theorem ei45 : elemInf Tryd.prog 45 = some (58, 4, 40) := by kernel_rfl
theorem ei68 : elemInf Tryd.prog 68 = some (9, 1, 16) := by kernel_rfl
theorem ei92 : elemInf Tryd.prog 92 = some (5, 1, 1) := by kernel_rfl
theorem ei125 : elemInf Tryd.prog 125 = some (127, 2, 16) := by kernel_rfl
theorem ia5 : isArrT Tryd.prog 5 = false := by kernel_rfl
theorem ia9 : isArrT Tryd.prog 9 = false := by kernel_rfl
theorem ia25 : isArrT Tryd.prog 25 = false := by kernel_rfl
theorem ia40 : isArrT Tryd.prog 40 = false := by kernel_rfl
theorem ia58 : isArrT Tryd.prog 58 = false := by kernel_rfl
theorem ia127 : isArrT Tryd.prog 127 = false := by kernel_rfl
theorem zc25 : zeroC Tryd.prog 25 = some [.int .i64 0, .int .i64 0, .slice none 0 0] := by kernel_rfl
theorem zc38 : zeroC Tryd.prog 38 = some [.int .i64 0, .int .i64 0] := by kernel_rfl
theorem zc40 : zeroC Tryd.prog 40 = some [.int .i64 0, .string ByteArray.empty, .int .i64 0, .int .i64 0, .int .i64 0, .slice none 0 0, .slice none 0 0, .int .i64 0, .int .i64 0] := by kernel_rfl
theorem zc52 : zeroC Tryd.prog 52 = some [.string ByteArray.empty, .bool false] := by kernel_rfl
theorem zc58 : zeroC Tryd.prog 58 = some [.int .i64 0, .string ByteArray.empty, .int .i64 0, .int .i64 0] := by kernel_rfl
theorem zc65 : zeroC Tryd.prog 65 = some [.slice none 0 0, .int .i64 0, .int .i64 0, .int .i64 0] := by kernel_rfl
theorem zc76 : zeroC Tryd.prog 76 = some [.slice none 0 0, .int .i64 0] := by kernel_rfl
theorem zc78 : zeroC Tryd.prog 78 = some [.slice none 0 0, .int .i64 0, .int .i64 0, .int .i64 0] := by kernel_rfl
theorem zc94 : zeroC Tryd.prog 94 = some [.pointer none, .slice none 0 0] := by kernel_rfl
theorem zc102 : zeroC Tryd.prog 102 = some [.int .i64 0, .string ByteArray.empty, .int .i64 0, .int .i64 0, .int .i64 0, .slice none 0 0, .slice none 0 0, .int .i64 0, .int .i64 0, .int .i64 0, .int .i64 0] := by kernel_rfl
theorem zc127 : zeroC Tryd.prog 127 = some [.int .i64 0, .int .i64 0] := by kernel_rfl
theorem zc137 : zeroC Tryd.prog 137 = some [.int .u8 0, .int .u8 0, .int .u8 0, .int .u8 0, .int .u8 0, .int .u8 0, .int .u8 0, .int .u8 0, .int .u8 0, .int .u8 0, .int .u8 0, .int .u8 0, .int .u8 0, .int .u8 0, .int .u8 0, .int .u8 0, .int .u8 0, .int .u8 0, .int .u8 0, .int .u8 0, .int .u8 0, .int .u8 0, .int .u8 0, .int .u8 0] := by kernel_rfl
theorem zc155 : zeroC Tryd.prog 155 = some [.int .u32 0, .int .u32 0, .int .u32 0] := by kernel_rfl
theorem zc162 : zeroC Tryd.prog 162 = some [.string ByteArray.empty, .string ByteArray.empty, .nilIface] := by kernel_rfl
theorem zc167 : zeroC Tryd.prog 167 = some [.int .u8 0, .int .u8 0, .int .u8 0, .int .u8 0, .int .u8 0, .int .u8 0, .int .u8 0, .int .u8 0, .int .u8 0, .int .u8 0, .int .u8 0, .int .u8 0, .int .u8 0, .int .u8 0, .int .u8 0, .int .u8 0, .int .u8 0, .int .u8 0, .int .u8 0, .int .u8 0, .int .u8 0, .int .u8 0, .int .u8 0, .int .u8 0, .int .u8 0, .int .u8 0, .int .u8 0, .int .u8 0, .int .u8 0, .int .u8 0, .int .u8 0, .int .u8 0, .int .u8 0, .int .u8 0, .int .u8 0, .int .u8 0, .int .u8 0, .int .u8 0, .int .u8 0, .int .u8 0, .int .u8 0, .int .u8 0, .int .u8 0, .int .u8 0, .int .u8 0, .int .u8 0, .int .u8 0, .int .u8 0, .int .u8 0, .int .u8 0, .int .u8 0, .int .u8 0, .int .u8 0, .int .u8 0, .int .u8 0, .int .u8 0, .int .u8 0, .int .u8 0, .int .u8 0, .int .u8 0, .int .u8 0, .int .u8 0, .int .u8 0, .int .u8 0, .int .u8 0] := by kernel_rfl
theorem zc175 : zeroC Tryd.prog 175 = some [.string ByteArray.empty] := by kernel_rfl
theorem pc25 : placesC Tryd.prog 25 = some [(0, 1), (1, 1), (2, 1)] := by kernel_rfl
theorem pc38 : placesC Tryd.prog 38 = some [(0, 1), (1, 1)] := by kernel_rfl
theorem pc40 : placesC Tryd.prog 40 = some [(0, 1), (1, 1), (2, 1), (3, 3), (6, 1), (7, 2)] := by kernel_rfl
theorem pc52 : placesC Tryd.prog 52 = some [(0, 1), (1, 1)] := by kernel_rfl
theorem pc58 : placesC Tryd.prog 58 = some [(0, 1), (1, 1), (2, 2)] := by kernel_rfl
theorem pc65 : placesC Tryd.prog 65 = some [(0, 1), (1, 1), (2, 1), (3, 1)] := by kernel_rfl
theorem pc76 : placesC Tryd.prog 76 = some [(0, 1), (1, 1)] := by kernel_rfl
theorem pc78 : placesC Tryd.prog 78 = some [(0, 2), (2, 1), (3, 1)] := by kernel_rfl
theorem pc102 : placesC Tryd.prog 102 = some [(0, 9), (9, 2)] := by kernel_rfl
theorem pc127 : placesC Tryd.prog 127 = some [(0, 1), (1, 1)] := by kernel_rfl
theorem pc162 : placesC Tryd.prog 162 = some [(0, 1), (1, 1), (2, 1)] := by kernel_rfl
theorem pc175 : placesC Tryd.prog 175 = some [(0, 1)] := by kernel_rfl
theorem is9 : isStrT Tryd.prog 9 = true := by kernel_rfl
theorem iT9 : intT Tryd.prog 9 = none := by kernel_rfl
theorem iT2 : intT Tryd.prog 2 = some .i64 := by kernel_rfl
theorem iT3 : intT Tryd.prog 3 = some .i64 := by kernel_rfl
theorem iT5 : intT Tryd.prog 5 = some .u8 := by kernel_rfl
theorem iT21 : intT Tryd.prog 21 = some .i32 := by kernel_rfl
theorem iT128 : intT Tryd.prog 128 = some .u32 := by kernel_rfl
theorem iT138 : intT Tryd.prog 138 = some .u64 := by kernel_rfl
theorem iT150 : intT Tryd.prog 150 = some .u16 := by kernel_rfl
theorem iT159 : intT Tryd.prog 159 = some .u64 := by kernel_rfl
theorem bt4 : isBoolT Tryd.prog 4 = true := by kernel_rfl
theorem i2t38 : isI2T Tryd.prog 38 = true := by kernel_rfl
theorem if97 : Program.isIface Tryd.prog 97 = true := by kernel_rfl
theorem pt91 : isPtrT Tryd.prog 91 = true := by kernel_rfl
theorem ln9 : lenT Tryd.prog 9 = some false := by kernel_rfl
theorem ln23 : lenT Tryd.prog 23 = some true := by kernel_rfl
theorem ln36 : lenT Tryd.prog 36 = some true := by kernel_rfl
theorem ln45 : lenT Tryd.prog 45 = some true := by kernel_rfl
theorem ln68 : lenT Tryd.prog 68 = some true := by kernel_rfl
theorem ln92 : lenT Tryd.prog 92 = some true := by kernel_rfl
theorem ln125 : lenT Tryd.prog 125 = some true := by kernel_rfl
theorem ln146 : lenT Tryd.prog 146 = some true := by kernel_rfl
theorem ln147 : lenT Tryd.prog 147 = some true := by kernel_rfl
theorem mixed : Tryd.prog.follows .mixedOrders = true := by kernel_rfl
attribute [go_sem] ti3 ti4 ti5 ti9 ti23 ti25 ti26 ti36 ti38 ti40 ti45 ti58 ti91 ti92 ti97 ti102 ti127 ti128 ti130 ti138 ti146 ti147 ti150 ti155 fo25_0 fo25_1 fo25_2 fo38_0 fo38_1 fo40_0 fo40_1 fo40_2 fo40_3 fo40_4 fo40_5 fo52_0 fo52_1 fo58_0 fo58_1 fo58_2 fo65_0 fo65_1 fo65_2 fo65_3 fo76_0 fo76_1 fo78_0 fo78_1 fo78_2 fo94_0 fo94_1 fo102_0 fo102_1 fo127_0 fo127_1 fo149_0 fo149_1 fo149_2 fo152_0 fo152_1 fo152_2 fo155_0 fo155_1 fo155_2 ft102_0 es23 es36 es45 es68 es92 es125 es146 es147 es114 es137 es166 es167 es177 es178 ar114 ar137 ar166 ar167 ar177 ar178 ei23 ei36 ei45 ei68 ei92 ei125 ia5 ia9 ia25 ia40 ia58 ia127 zc25 zc38 zc40 zc52 zc58 zc65 zc76 zc78 zc94 zc102 zc127 zc137 zc155 zc162 zc167 zc175 pc25 pc38 pc40 pc52 pc58 pc65 pc76 pc78 pc102 pc127 pc162 pc175 is9 iT9 iT2 iT3 iT5 iT21 iT128 iT138 iT150 iT159 bt4 i2t38 if97 pt91 ln9 ln23 ln36 ln45 ln68 ln92 ln125 ln146 ln147
end Go.Proofs.YtkokfdmggdhfmaaDoor

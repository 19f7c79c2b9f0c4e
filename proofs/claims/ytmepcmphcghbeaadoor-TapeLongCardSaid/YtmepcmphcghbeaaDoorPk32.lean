/- Texts of the abstract walk, of the contracts and of the plain laws, packed (part 32 of 48): Fx. Conditions: none. -/
import Derived.Test.YtmepcmphcghbeaaDoorPk31
import Derived.Test.YtmepcmphcghbeaaDoorProg
namespace Go.Proofs.YtmepcmphcghbeaaDoor
open Go
set_option linter.unnecessarySimpa false
theorem ti3 : tinf Tryd.prog 3 = some (false, 1) := by kernel_rfl
theorem ti4 : tinf Tryd.prog 4 = some (false, 1) := by kernel_rfl
theorem ti5 : tinf Tryd.prog 5 = some (false, 1) := by kernel_rfl
theorem ti9 : tinf Tryd.prog 9 = some (false, 1) := by kernel_rfl
theorem ti28 : tinf Tryd.prog 28 = some (true, 3) := by kernel_rfl
theorem ti30 : tinf Tryd.prog 30 = some (true, 9) := by kernel_rfl
theorem ti50 : tinf Tryd.prog 50 = some (false, 1) := by kernel_rfl
theorem ti73 : tinf Tryd.prog 73 = some (false, 1) := by kernel_rfl
theorem ti77 : tinf Tryd.prog 77 = some (false, 1) := by kernel_rfl
theorem ti85 : tinf Tryd.prog 85 = some (false, 1) := by kernel_rfl
theorem ti112 : tinf Tryd.prog 112 = some (false, 1) := by kernel_rfl
theorem ti117 : tinf Tryd.prog 117 = some (true, 2) := by kernel_rfl
theorem ti119 : tinf Tryd.prog 119 = some (false, 1) := by kernel_rfl
theorem ti129 : tinf Tryd.prog 129 = some (false, 1) := by kernel_rfl
theorem ti130 : tinf Tryd.prog 130 = some (false, 1) := by kernel_rfl
theorem ti133 : tinf Tryd.prog 133 = some (false, 1) := by kernel_rfl
theorem ti138 : tinf Tryd.prog 138 = some (true, 3) := by kernel_rfl
theorem fo28_0 : fieldOff Tryd.prog 28 0 = some 0 := by kernel_rfl
theorem fo28_1 : fieldOff Tryd.prog 28 1 = some 1 := by kernel_rfl
theorem fo28_2 : fieldOff Tryd.prog 28 2 = some 2 := by kernel_rfl
theorem fo30_0 : fieldOff Tryd.prog 30 0 = some 0 := by kernel_rfl
theorem fo30_1 : fieldOff Tryd.prog 30 1 = some 1 := by kernel_rfl
theorem fo30_2 : fieldOff Tryd.prog 30 2 = some 2 := by kernel_rfl
theorem fo30_3 : fieldOff Tryd.prog 30 3 = some 3 := by kernel_rfl
theorem fo30_4 : fieldOff Tryd.prog 30 4 = some 4 := by kernel_rfl
theorem fo30_5 : fieldOff Tryd.prog 30 5 = some 5 := by kernel_rfl
theorem fo30_6 : fieldOff Tryd.prog 30 6 = some 6 := by kernel_rfl
theorem fo57_0 : fieldOff Tryd.prog 57 0 = some 0 := by kernel_rfl
theorem fo57_1 : fieldOff Tryd.prog 57 1 = some 1 := by kernel_rfl
theorem fo59_0 : fieldOff Tryd.prog 59 0 = some 0 := by kernel_rfl
theorem fo59_1 : fieldOff Tryd.prog 59 1 = some 2 := by kernel_rfl
theorem fo75_0 : fieldOff Tryd.prog 75 0 = some 0 := by kernel_rfl
theorem fo75_1 : fieldOff Tryd.prog 75 1 = some 1 := by kernel_rfl
theorem fo117_0 : fieldOff Tryd.prog 117 0 = some 0 := by kernel_rfl
theorem fo117_1 : fieldOff Tryd.prog 117 1 = some 1 := by kernel_rfl
theorem fo132_0 : fieldOff Tryd.prog 132 0 = some 0 := by kernel_rfl
theorem fo132_1 : fieldOff Tryd.prog 132 1 = some 1 := by kernel_rfl
theorem fo132_2 : fieldOff Tryd.prog 132 2 = some 2 := by kernel_rfl
theorem fo135_0 : fieldOff Tryd.prog 135 0 = some 0 := by kernel_rfl
theorem fo135_1 : fieldOff Tryd.prog 135 1 = some 1 := by kernel_rfl
theorem fo135_2 : fieldOff Tryd.prog 135 2 = some 2 := by kernel_rfl
theorem fo138_0 : fieldOff Tryd.prog 138 0 = some 0 := by kernel_rfl
theorem fo138_1 : fieldOff Tryd.prog 138 1 = some 1 := by kernel_rfl
theorem fo138_2 : fieldOff Tryd.prog 138 2 = some 2 := by kernel_rfl
theorem es39 : elemSz Tryd.prog 39 = some 9 := by kernel_rfl
theorem es50 : elemSz Tryd.prog 50 = some 1 := by kernel_rfl
theorem es65 : elemSz Tryd.prog 65 = some 1 := by kernel_rfl
theorem es115 : elemSz Tryd.prog 115 = some 2 := by kernel_rfl
theorem es129 : elemSz Tryd.prog 129 = some 3 := by kernel_rfl
theorem es130 : elemSz Tryd.prog 130 = some 3 := by kernel_rfl
theorem es61 : elemSz Tryd.prog 61 = none := by kernel_rfl
theorem es62 : elemSz Tryd.prog 62 = none := by kernel_rfl
theorem es67 : elemSz Tryd.prog 67 = none := by kernel_rfl
theorem es98 : elemSz Tryd.prog 98 = none := by kernel_rfl
theorem es101 : elemSz Tryd.prog 101 = none := by kernel_rfl
theorem es121 : elemSz Tryd.prog 121 = none := by kernel_rfl
theorem es122 : elemSz Tryd.prog 122 = none := by kernel_rfl
theorem es147 : elemSz Tryd.prog 147 = none := by kernel_rfl
theorem es148 : elemSz Tryd.prog 148 = none := by kernel_rfl
theorem ar61 : arrSz Tryd.prog 61 = some (2, 1) := by kernel_rfl
theorem ar62 : arrSz Tryd.prog 62 = some (8, 2) := by kernel_rfl
theorem ar67 : arrSz Tryd.prog 67 = some (3, 1) := by kernel_rfl
theorem ar98 : arrSz Tryd.prog 98 = some (256, 1) := by kernel_rfl
theorem ar101 : arrSz Tryd.prog 101 = some (24, 1) := by kernel_rfl
theorem ar121 : arrSz Tryd.prog 121 = some (20, 1) := by kernel_rfl
theorem ar122 : arrSz Tryd.prog 122 = some (65, 1) := by kernel_rfl
theorem ar147 : arrSz Tryd.prog 147 = some (32, 1) := by kernel_rfl
theorem ar148 : arrSz Tryd.prog 148 = some (64, 1) := by kernel_rfl
theorem ei39 : elemInf Tryd.prog 39 = some (30, 9, 88) := by kernel_rfl
theorem ei50 : elemInf Tryd.prog 50 = some (5, 1, 1) := by kernel_rfl
theorem ei65 : elemInf Tryd.prog 65 = some (9, 1, 16) := by kernel_rfl
theorem ei115 : elemInf Tryd.prog 115 = some (117, 2, 16) := by kernel_rfl
theorem ia5 : isArrT Tryd.prog 5 = false := by kernel_rfl
theorem ia9 : isArrT Tryd.prog 9 = false := by kernel_rfl
theorem ia30 : isArrT Tryd.prog 30 = false := by kernel_rfl
theorem ia117 : isArrT Tryd.prog 117 = false := by kernel_rfl
theorem zc28 : zeroC Tryd.prog 28 = some [.int .i64 0, .int .i64 0, .int .i64 0] := by kernel_rfl
theorem zc30 : zeroC Tryd.prog 30 = some [.int .i64 0, .string ByteArray.empty, .int .i64 0, .int .i64 0, .string ByteArray.empty, .int .i64 0, .int .i64 0, .int .i64 0, .int .i64 0] := by kernel_rfl
theorem zc57 : zeroC Tryd.prog 57 = some [.string ByteArray.empty, .bool false] := by kernel_rfl
theorem zc59 : zeroC Tryd.prog 59 = some [.string ByteArray.empty, .bool false, .int .i64 0, .string ByteArray.empty, .int .i64 0, .int .i64 0, .string ByteArray.empty, .int .i64 0, .int .i64 0, .int .i64 0, .int .i64 0] := by kernel_rfl
theorem zc67 : zeroC Tryd.prog 67 = some [.int .i64 0, .int .i64 0, .int .i64 0] := by kernel_rfl
theorem zc75 : zeroC Tryd.prog 75 = some [.pointer none, .slice none 0 0] := by kernel_rfl
theorem zc101 : zeroC Tryd.prog 101 = some [.int .u8 0, .int .u8 0, .int .u8 0, .int .u8 0, .int .u8 0, .int .u8 0, .int .u8 0, .int .u8 0, .int .u8 0, .int .u8 0, .int .u8 0, .int .u8 0, .int .u8 0, .int .u8 0, .int .u8 0, .int .u8 0, .int .u8 0, .int .u8 0, .int .u8 0, .int .u8 0, .int .u8 0, .int .u8 0, .int .u8 0, .int .u8 0] := by kernel_rfl
theorem zc117 : zeroC Tryd.prog 117 = some [.int .i64 0, .int .i64 0] := by kernel_rfl
theorem zc122 : zeroC Tryd.prog 122 = some [.int .u8 0, .int .u8 0, .int .u8 0, .int .u8 0, .int .u8 0, .int .u8 0, .int .u8 0, .int .u8 0, .int .u8 0, .int .u8 0, .int .u8 0, .int .u8 0, .int .u8 0, .int .u8 0, .int .u8 0, .int .u8 0, .int .u8 0, .int .u8 0, .int .u8 0, .int .u8 0, .int .u8 0, .int .u8 0, .int .u8 0, .int .u8 0, .int .u8 0, .int .u8 0, .int .u8 0, .int .u8 0, .int .u8 0, .int .u8 0, .int .u8 0, .int .u8 0, .int .u8 0, .int .u8 0, .int .u8 0, .int .u8 0, .int .u8 0, .int .u8 0, .int .u8 0, .int .u8 0, .int .u8 0, .int .u8 0, .int .u8 0, .int .u8 0, .int .u8 0, .int .u8 0, .int .u8 0, .int .u8 0, .int .u8 0, .int .u8 0, .int .u8 0, .int .u8 0, .int .u8 0, .int .u8 0, .int .u8 0, .int .u8 0, .int .u8 0, .int .u8 0, .int .u8 0, .int .u8 0, .int .u8 0, .int .u8 0, .int .u8 0, .int .u8 0, .int .u8 0] := by kernel_rfl
theorem zc127 : zeroC Tryd.prog 127 = some [.string ByteArray.empty, .string ByteArray.empty, .nilIface] := by kernel_rfl
theorem zc138 : zeroC Tryd.prog 138 = some [.int .u32 0, .int .u32 0, .int .u32 0] := by kernel_rfl
theorem zc144 : zeroC Tryd.prog 144 = some [.string ByteArray.empty] := by kernel_rfl
theorem pc28 : placesC Tryd.prog 28 = some [(0, 1), (1, 1), (2, 1)] := by kernel_rfl
theorem pc30 : placesC Tryd.prog 30 = some [(0, 1), (1, 1), (2, 1), (3, 1), (4, 1), (5, 1), (6, 3)] := by kernel_rfl
theorem pc57 : placesC Tryd.prog 57 = some [(0, 1), (1, 1)] := by kernel_rfl
theorem pc59 : placesC Tryd.prog 59 = some [(0, 2), (2, 9)] := by kernel_rfl
theorem pc117 : placesC Tryd.prog 117 = some [(0, 1), (1, 1)] := by kernel_rfl
theorem pc127 : placesC Tryd.prog 127 = some [(0, 1), (1, 1), (2, 1)] := by kernel_rfl
theorem pc144 : placesC Tryd.prog 144 = some [(0, 1)] := by kernel_rfl
theorem is9 : isStrT Tryd.prog 9 = true := by kernel_rfl
theorem iT2 : intT Tryd.prog 2 = some .i64 := by kernel_rfl
theorem iT3 : intT Tryd.prog 3 = some .i64 := by kernel_rfl
theorem iT5 : intT Tryd.prog 5 = some .u8 := by kernel_rfl
theorem iT21 : intT Tryd.prog 21 = some .i32 := by kernel_rfl
theorem iT52 : intT Tryd.prog 52 = some .u64 := by kernel_rfl
theorem iT85 : intT Tryd.prog 85 = some .u64 := by kernel_rfl
theorem iT112 : intT Tryd.prog 112 = some .u32 := by kernel_rfl
theorem iT133 : intT Tryd.prog 133 = some .u16 := by kernel_rfl
theorem by50 : isByT Tryd.prog 50 = true := by kernel_rfl
theorem bt4 : isBoolT Tryd.prog 4 = true := by kernel_rfl
theorem i2t28 : isI2T Tryd.prog 28 = true := by kernel_rfl
theorem i2t30 : isI2T Tryd.prog 30 = true := by kernel_rfl
theorem if77 : Program.isIface Tryd.prog 77 = true := by kernel_rfl
theorem pt73 : isPtrT Tryd.prog 73 = true := by kernel_rfl
theorem ln9 : lenT Tryd.prog 9 = some false := by kernel_rfl
theorem ln39 : lenT Tryd.prog 39 = some true := by kernel_rfl
theorem ln50 : lenT Tryd.prog 50 = some true := by kernel_rfl
theorem ln65 : lenT Tryd.prog 65 = some true := by kernel_rfl
theorem ln115 : lenT Tryd.prog 115 = some true := by kernel_rfl
theorem ln129 : lenT Tryd.prog 129 = some true := by kernel_rfl
theorem ln130 : lenT Tryd.prog 130 = some true := by kernel_rfl
theorem mixed : Tryd.prog.follows .mixedOrders = true := by kernel_rfl
theorem eqt28 (a0 : Int) (a1 : Int) (a2 : Int) (b0 : Int) (b1 : Int) (b2 : Int) : eqT Tryd.prog 6 28 [.v (.int .i64 a0), .v (.int .i64 a1), .v (.int .i64 a2)] [.v (.int .i64 b0), .v (.int .i64 b1), .v (.int .i64 b2)] = some ((a0 == b0) && ((a1 == b1) && (a2 == b2))) :=
  (show _ = some ((a0 == b0) && ((a1 == b1) && ((a2 == b2) && true))) by kernel_rfl).trans (by simp only [Bool.and_true])
theorem eqt30 (a0 : Int) (a1 : ByteArray) (a2 : Int) (a3 : Int) (a4 : ByteArray) (a5 : Int) (a6 : Int) (a7 : Int) (a8 : Int) (b0 : Int) (b1 : ByteArray) (b2 : Int) (b3 : Int) (b4 : ByteArray) (b5 : Int) (b6 : Int) (b7 : Int) (b8 : Int) : eqT Tryd.prog 6 30 [.v (.int .i64 a0), .v (.string a1), .v (.int .i64 a2), .v (.int .i64 a3), .v (.string a4), .v (.int .i64 a5), .v (.int .i64 a6), .v (.int .i64 a7), .v (.int .i64 a8)] [.v (.int .i64 b0), .v (.string b1), .v (.int .i64 b2), .v (.int .i64 b3), .v (.string b4), .v (.int .i64 b5), .v (.int .i64 b6), .v (.int .i64 b7), .v (.int .i64 b8)] = some ((a0 == b0) && ((a1.toList == b1.toList) && ((a2 == b2) && ((a3 == b3) && ((a4.toList == b4.toList) && ((a5 == b5) && ((a6 == b6) && ((a7 == b7) && (a8 == b8))))))))) :=
  (show _ = some ((a0 == b0) && ((a1.toList == b1.toList) && ((a2 == b2) && ((a3 == b3) && ((a4.toList == b4.toList) && ((a5 == b5) && (((a6 == b6) && ((a7 == b7) && ((a8 == b8) && true))) && true))))))) by kernel_rfl).trans (by simp only [Bool.and_true])
attribute [go_sem] ti3 ti4 ti5 ti9 ti28 ti30 ti50 ti73 ti77 ti85 ti112 ti117 ti119 ti129 ti130 ti133 ti138 fo28_0 fo28_1 fo28_2 fo30_0 fo30_1 fo30_2 fo30_3 fo30_4 fo30_5 fo30_6 fo57_0 fo57_1 fo59_0 fo59_1 fo75_0 fo75_1 fo117_0 fo117_1 fo132_0 fo132_1 fo132_2 fo135_0 fo135_1 fo135_2 fo138_0 fo138_1 fo138_2 es39 es50 es65 es115 es129 es130 es61 es62 es67 es98 es101 es121 es122 es147 es148 ar61 ar62 ar67 ar98 ar101 ar121 ar122 ar147 ar148 ei39 ei50 ei65 ei115 ia5 ia9 ia30 ia117 zc28 zc30 zc57 zc59 zc67 zc75 zc101 zc117 zc122 zc127 zc138 zc144 pc28 pc30 pc57 pc59 pc117 pc127 pc144 is9 iT2 iT3 iT5 iT21 iT52 iT85 iT112 iT133 by50 bt4 i2t28 i2t30 if77 pt73 ln9 ln39 ln50 ln65 ln115 ln129 ln130
end Go.Proofs.YtmepcmphcghbeaaDoor

/- Texts of the abstract walk, of the contracts and of the plain laws, packed (part 30 of 39): Fx. Conditions: none. -/
import Derived.Test.YtnlonnnhofagaaaDoorPk29
import Derived.Test.YtnlonnnhofagaaaDoorProg
namespace Go.Proofs.YtnlonnnhofagaaaDoor
open Go
theorem ti3 : tinf Tryd.prog 3 = some (false, 1) := by kernel_rfl
theorem ti4 : tinf Tryd.prog 4 = some (false, 1) := by kernel_rfl
theorem ti5 : tinf Tryd.prog 5 = some (false, 1) := by kernel_rfl
theorem ti9 : tinf Tryd.prog 9 = some (false, 1) := by kernel_rfl
theorem ti22 : tinf Tryd.prog 22 = some (false, 1) := by kernel_rfl
theorem ti26 : tinf Tryd.prog 26 = some (false, 1) := by kernel_rfl
theorem ti28 : tinf Tryd.prog 28 = some (true, 3) := by kernel_rfl
theorem ti29 : tinf Tryd.prog 29 = some (false, 1) := by kernel_rfl
theorem ti84 : tinf Tryd.prog 84 = some (false, 1) := by kernel_rfl
theorem ti85 : tinf Tryd.prog 85 = some (false, 1) := by kernel_rfl
theorem ti90 : tinf Tryd.prog 90 = some (false, 1) := by kernel_rfl
theorem ti112 : tinf Tryd.prog 112 = some (true, 2) := by kernel_rfl
theorem ti113 : tinf Tryd.prog 113 = some (false, 1) := by kernel_rfl
theorem ti115 : tinf Tryd.prog 115 = some (false, 1) := by kernel_rfl
theorem ti117 : tinf Tryd.prog 117 = some (false, 1) := by kernel_rfl
theorem ti128 : tinf Tryd.prog 128 = some (false, 1) := by kernel_rfl
theorem ti129 : tinf Tryd.prog 129 = some (false, 1) := by kernel_rfl
theorem ti132 : tinf Tryd.prog 132 = some (false, 1) := by kernel_rfl
theorem ti137 : tinf Tryd.prog 137 = some (true, 3) := by kernel_rfl
theorem fo28_0 : fieldOff Tryd.prog 28 0 = some 0 := by kernel_rfl
theorem fo28_1 : fieldOff Tryd.prog 28 1 = some 1 := by kernel_rfl
theorem fo28_2 : fieldOff Tryd.prog 28 2 = some 2 := by kernel_rfl
theorem fo51_0 : fieldOff Tryd.prog 51 0 = some 0 := by kernel_rfl
theorem fo51_1 : fieldOff Tryd.prog 51 1 = some 1 := by kernel_rfl
theorem fo56_0 : fieldOff Tryd.prog 56 0 = some 0 := by kernel_rfl
theorem fo56_1 : fieldOff Tryd.prog 56 1 = some 1 := by kernel_rfl
theorem fo56_2 : fieldOff Tryd.prog 56 2 = some 2 := by kernel_rfl
theorem fo56_3 : fieldOff Tryd.prog 56 3 = some 3 := by kernel_rfl
theorem fo64_0 : fieldOff Tryd.prog 64 0 = some 0 := by kernel_rfl
theorem fo64_1 : fieldOff Tryd.prog 64 1 = some 1 := by kernel_rfl
theorem fo87_0 : fieldOff Tryd.prog 87 0 = some 0 := by kernel_rfl
theorem fo87_1 : fieldOff Tryd.prog 87 1 = some 1 := by kernel_rfl
theorem fo112_0 : fieldOff Tryd.prog 112 0 = some 0 := by kernel_rfl
theorem fo112_1 : fieldOff Tryd.prog 112 1 = some 1 := by kernel_rfl
theorem fo131_0 : fieldOff Tryd.prog 131 0 = some 0 := by kernel_rfl
theorem fo131_1 : fieldOff Tryd.prog 131 1 = some 1 := by kernel_rfl
theorem fo131_2 : fieldOff Tryd.prog 131 2 = some 2 := by kernel_rfl
theorem fo134_0 : fieldOff Tryd.prog 134 0 = some 0 := by kernel_rfl
theorem fo134_1 : fieldOff Tryd.prog 134 1 = some 1 := by kernel_rfl
theorem fo134_2 : fieldOff Tryd.prog 134 2 = some 2 := by kernel_rfl
theorem fo137_0 : fieldOff Tryd.prog 137 0 = some 0 := by kernel_rfl
theorem fo137_1 : fieldOff Tryd.prog 137 1 = some 1 := by kernel_rfl
theorem fo137_2 : fieldOff Tryd.prog 137 2 = some 2 := by kernel_rfl
theorem es22 : elemSz Tryd.prog 22 = some 4 := by kernel_rfl
theorem es26 : elemSz Tryd.prog 26 = some 3 := by kernel_rfl
theorem es38 : elemSz Tryd.prog 38 = some 1 := by kernel_rfl
theorem es72 : elemSz Tryd.prog 72 = some 1 := by kernel_rfl
theorem es85 : elemSz Tryd.prog 85 = some 1 := by kernel_rfl
theorem es110 : elemSz Tryd.prog 110 = some 2 := by kernel_rfl
theorem es128 : elemSz Tryd.prog 128 = some 3 := by kernel_rfl
theorem es129 : elemSz Tryd.prog 129 = some 3 := by kernel_rfl
theorem es23 : elemSz Tryd.prog 23 = none := by kernel_rfl
theorem es102 : elemSz Tryd.prog 102 = none := by kernel_rfl
theorem es116 : elemSz Tryd.prog 116 = none := by kernel_rfl
theorem es141 : elemSz Tryd.prog 141 = none := by kernel_rfl
theorem es142 : elemSz Tryd.prog 142 = none := by kernel_rfl
theorem es158 : elemSz Tryd.prog 158 = none := by kernel_rfl
theorem es159 : elemSz Tryd.prog 159 = none := by kernel_rfl
theorem ar23 : arrSz Tryd.prog 23 = some (2, 1) := by kernel_rfl
theorem ar102 : arrSz Tryd.prog 102 = some (256, 1) := by kernel_rfl
theorem ar116 : arrSz Tryd.prog 116 = some (24, 1) := by kernel_rfl
theorem ar141 : arrSz Tryd.prog 141 = some (20, 1) := by kernel_rfl
theorem ar142 : arrSz Tryd.prog 142 = some (65, 1) := by kernel_rfl
theorem ar158 : arrSz Tryd.prog 158 = some (32, 1) := by kernel_rfl
theorem ar159 : arrSz Tryd.prog 159 = some (64, 1) := by kernel_rfl
theorem ei22 : elemInf Tryd.prog 22 = some (51, 4, 40) := by kernel_rfl
theorem ei26 : elemInf Tryd.prog 26 = some (28, 3, 40) := by kernel_rfl
theorem ei38 : elemInf Tryd.prog 38 = some (3, 1, 8) := by kernel_rfl
theorem ei72 : elemInf Tryd.prog 72 = some (9, 1, 16) := by kernel_rfl
theorem ei85 : elemInf Tryd.prog 85 = some (5, 1, 1) := by kernel_rfl
theorem ei110 : elemInf Tryd.prog 110 = some (112, 2, 16) := by kernel_rfl
theorem ia3 : isArrT Tryd.prog 3 = false := by kernel_rfl
theorem ia5 : isArrT Tryd.prog 5 = false := by kernel_rfl
theorem ia9 : isArrT Tryd.prog 9 = false := by kernel_rfl
theorem ia28 : isArrT Tryd.prog 28 = false := by kernel_rfl
theorem ia51 : isArrT Tryd.prog 51 = false := by kernel_rfl
theorem ia112 : isArrT Tryd.prog 112 = false := by kernel_rfl
theorem zc28 : zeroC Tryd.prog 28 = some [.int .i64 0, .int .i64 0, .slice none 0 0] := by kernel_rfl
theorem zc49 : zeroC Tryd.prog 49 = some [.int .i64 0, .int .i64 0] := by kernel_rfl
theorem zc51 : zeroC Tryd.prog 51 = some [.int .i64 0, .string ByteArray.empty, .int .i64 0, .int .i64 0] := by kernel_rfl
theorem zc56 : zeroC Tryd.prog 56 = some [.slice none 0 0, .int .i64 0, .int .i64 0, .int .i64 0] := by kernel_rfl
theorem zc64 : zeroC Tryd.prog 64 = some [.string ByteArray.empty, .bool false] := by kernel_rfl
theorem zc87 : zeroC Tryd.prog 87 = some [.pointer none, .slice none 0 0] := by kernel_rfl
theorem zc112 : zeroC Tryd.prog 112 = some [.int .i64 0, .int .i64 0] := by kernel_rfl
theorem zc116 : zeroC Tryd.prog 116 = some [.int .u8 0, .int .u8 0, .int .u8 0, .int .u8 0, .int .u8 0, .int .u8 0, .int .u8 0, .int .u8 0, .int .u8 0, .int .u8 0, .int .u8 0, .int .u8 0, .int .u8 0, .int .u8 0, .int .u8 0, .int .u8 0, .int .u8 0, .int .u8 0, .int .u8 0, .int .u8 0, .int .u8 0, .int .u8 0, .int .u8 0, .int .u8 0] := by kernel_rfl
theorem zc137 : zeroC Tryd.prog 137 = some [.int .u32 0, .int .u32 0, .int .u32 0] := by kernel_rfl
theorem zc142 : zeroC Tryd.prog 142 = some [.int .u8 0, .int .u8 0, .int .u8 0, .int .u8 0, .int .u8 0, .int .u8 0, .int .u8 0, .int .u8 0, .int .u8 0, .int .u8 0, .int .u8 0, .int .u8 0, .int .u8 0, .int .u8 0, .int .u8 0, .int .u8 0, .int .u8 0, .int .u8 0, .int .u8 0, .int .u8 0, .int .u8 0, .int .u8 0, .int .u8 0, .int .u8 0, .int .u8 0, .int .u8 0, .int .u8 0, .int .u8 0, .int .u8 0, .int .u8 0, .int .u8 0, .int .u8 0, .int .u8 0, .int .u8 0, .int .u8 0, .int .u8 0, .int .u8 0, .int .u8 0, .int .u8 0, .int .u8 0, .int .u8 0, .int .u8 0, .int .u8 0, .int .u8 0, .int .u8 0, .int .u8 0, .int .u8 0, .int .u8 0, .int .u8 0, .int .u8 0, .int .u8 0, .int .u8 0, .int .u8 0, .int .u8 0, .int .u8 0, .int .u8 0, .int .u8 0, .int .u8 0, .int .u8 0, .int .u8 0, .int .u8 0, .int .u8 0, .int .u8 0, .int .u8 0, .int .u8 0] := by kernel_rfl
theorem zc149 : zeroC Tryd.prog 149 = some [.string ByteArray.empty, .string ByteArray.empty, .nilIface] := by kernel_rfl
theorem zc157 : zeroC Tryd.prog 157 = some [.string ByteArray.empty] := by kernel_rfl
theorem pc28 : placesC Tryd.prog 28 = some [(0, 1), (1, 1), (2, 1)] := by kernel_rfl
theorem pc49 : placesC Tryd.prog 49 = some [(0, 1), (1, 1)] := by kernel_rfl
theorem pc51 : placesC Tryd.prog 51 = some [(0, 1), (1, 1), (2, 2)] := by kernel_rfl
theorem pc56 : placesC Tryd.prog 56 = some [(0, 1), (1, 1), (2, 1), (3, 1)] := by kernel_rfl
theorem pc64 : placesC Tryd.prog 64 = some [(0, 1), (1, 1)] := by kernel_rfl
theorem pc112 : placesC Tryd.prog 112 = some [(0, 1), (1, 1)] := by kernel_rfl
theorem pc149 : placesC Tryd.prog 149 = some [(0, 1), (1, 1), (2, 1)] := by kernel_rfl
theorem pc157 : placesC Tryd.prog 157 = some [(0, 1)] := by kernel_rfl
theorem is9 : isStrT Tryd.prog 9 = true := by kernel_rfl
theorem iT9 : intT Tryd.prog 9 = none := by kernel_rfl
theorem iT2 : intT Tryd.prog 2 = some .i64 := by kernel_rfl
theorem iT3 : intT Tryd.prog 3 = some .i64 := by kernel_rfl
theorem iT5 : intT Tryd.prog 5 = some .u8 := by kernel_rfl
theorem iT21 : intT Tryd.prog 21 = some .i32 := by kernel_rfl
theorem iT113 : intT Tryd.prog 113 = some .u32 := by kernel_rfl
theorem iT117 : intT Tryd.prog 117 = some .u64 := by kernel_rfl
theorem iT132 : intT Tryd.prog 132 = some .u16 := by kernel_rfl
theorem iT143 : intT Tryd.prog 143 = some .u64 := by kernel_rfl
theorem bt4 : isBoolT Tryd.prog 4 = true := by kernel_rfl
theorem pt84 : isPtrT Tryd.prog 84 = true := by kernel_rfl
theorem ln9 : lenT Tryd.prog 9 = some false := by kernel_rfl
theorem ln22 : lenT Tryd.prog 22 = some true := by kernel_rfl
theorem ln26 : lenT Tryd.prog 26 = some true := by kernel_rfl
theorem ln38 : lenT Tryd.prog 38 = some true := by kernel_rfl
theorem ln72 : lenT Tryd.prog 72 = some true := by kernel_rfl
theorem ln85 : lenT Tryd.prog 85 = some true := by kernel_rfl
theorem ln110 : lenT Tryd.prog 110 = some true := by kernel_rfl
theorem ln128 : lenT Tryd.prog 128 = some true := by kernel_rfl
theorem ln129 : lenT Tryd.prog 129 = some true := by kernel_rfl
theorem mixed : Tryd.prog.follows .mixedOrders = true := by kernel_rfl
attribute [go_sem] ti3 ti4 ti5 ti9 ti22 ti26 ti28 ti29 ti84 ti85 ti90 ti112 ti113 ti115 ti117 ti128 ti129 ti132 ti137 fo28_0 fo28_1 fo28_2 fo51_0 fo51_1 fo56_0 fo56_1 fo56_2 fo56_3 fo64_0 fo64_1 fo87_0 fo87_1 fo112_0 fo112_1 fo131_0 fo131_1 fo131_2 fo134_0 fo134_1 fo134_2 fo137_0 fo137_1 fo137_2 es22 es26 es38 es72 es85 es110 es128 es129 es23 es102 es116 es141 es142 es158 es159 ar23 ar102 ar116 ar141 ar142 ar158 ar159 ei22 ei26 ei38 ei72 ei85 ei110 ia3 ia5 ia9 ia28 ia51 ia112 zc28 zc49 zc51 zc56 zc64 zc87 zc112 zc116 zc137 zc142 zc149 zc157 pc28 pc49 pc51 pc56 pc64 pc112 pc149 pc157 is9 iT9 iT2 iT3 iT5 iT21 iT113 iT117 iT132 iT143 bt4 pt84 ln9 ln22 ln26 ln38 ln72 ln85 ln110 ln128 ln129
end Go.Proofs.YtnlonnnhofagaaaDoor

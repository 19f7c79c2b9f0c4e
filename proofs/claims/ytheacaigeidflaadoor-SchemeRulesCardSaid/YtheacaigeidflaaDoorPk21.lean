/- Texts of the abstract walk, of the contracts and of the plain laws, packed (part 21 of 44): Fx. Conditions: none. -/
import Derived.Test.YtheacaigeidflaaDoorPk20
import Derived.Test.YtheacaigeidflaaDoorProg
namespace Go.Proofs.YtheacaigeidflaaDoor
open Go
theorem ti3 : tinf Tryd.prog 3 = some (false, 1) := by kernel_rfl
theorem ti5 : tinf Tryd.prog 5 = some (false, 1) := by kernel_rfl
theorem ti9 : tinf Tryd.prog 9 = some (false, 1) := by kernel_rfl
theorem ti22 : tinf Tryd.prog 22 = some (false, 1) := by kernel_rfl
theorem ti23 : tinf Tryd.prog 23 = some (false, 1) := by kernel_rfl
theorem ti25 : tinf Tryd.prog 25 = some (true, 3) := by kernel_rfl
theorem ti27 : tinf Tryd.prog 27 = some (true, 4) := by kernel_rfl
theorem ti31 : tinf Tryd.prog 31 = some (true, 4) := by kernel_rfl
theorem ti66 : tinf Tryd.prog 66 = some (true, 4) := by kernel_rfl
theorem ti78 : tinf Tryd.prog 78 = some (false, 1) := by kernel_rfl
theorem ti79 : tinf Tryd.prog 79 = some (false, 1) := by kernel_rfl
theorem ti91 : tinf Tryd.prog 91 = some (false, 1) := by kernel_rfl
theorem ti115 : tinf Tryd.prog 115 = some (false, 1) := by kernel_rfl
theorem fo25_0 : fieldOff Tryd.prog 25 0 = some 0 := by kernel_rfl
theorem fo25_1 : fieldOff Tryd.prog 25 1 = some 1 := by kernel_rfl
theorem fo25_2 : fieldOff Tryd.prog 25 2 = some 2 := by kernel_rfl
theorem fo27_0 : fieldOff Tryd.prog 27 0 = some 0 := by kernel_rfl
theorem fo27_1 : fieldOff Tryd.prog 27 1 = some 1 := by kernel_rfl
theorem fo31_0 : fieldOff Tryd.prog 31 0 = some 0 := by kernel_rfl
theorem fo31_1 : fieldOff Tryd.prog 31 1 = some 1 := by kernel_rfl
theorem fo66_0 : fieldOff Tryd.prog 66 0 = some 0 := by kernel_rfl
theorem fo66_1 : fieldOff Tryd.prog 66 1 = some 1 := by kernel_rfl
theorem fo81_0 : fieldOff Tryd.prog 81 0 = some 0 := by kernel_rfl
theorem fo81_1 : fieldOff Tryd.prog 81 1 = some 1 := by kernel_rfl
theorem es22 : elemSz Tryd.prog 22 = some 1 := by kernel_rfl
theorem es23 : elemSz Tryd.prog 23 = some 3 := by kernel_rfl
theorem es62 : elemSz Tryd.prog 62 = some 4 := by kernel_rfl
theorem es79 : elemSz Tryd.prog 79 = some 1 := by kernel_rfl
theorem es109 : elemSz Tryd.prog 109 = some 1 := by kernel_rfl
theorem es114 : elemSz Tryd.prog 114 = none := by kernel_rfl
theorem es121 : elemSz Tryd.prog 121 = none := by kernel_rfl
theorem es123 : elemSz Tryd.prog 123 = none := by kernel_rfl
theorem es128 : elemSz Tryd.prog 128 = none := by kernel_rfl
theorem es129 : elemSz Tryd.prog 129 = none := by kernel_rfl
theorem ar114 : arrSz Tryd.prog 114 = some (24, 1) := by kernel_rfl
theorem ar121 : arrSz Tryd.prog 121 = some (20, 1) := by kernel_rfl
theorem ar123 : arrSz Tryd.prog 123 = some (65, 1) := by kernel_rfl
theorem ar128 : arrSz Tryd.prog 128 = some (32, 1) := by kernel_rfl
theorem ar129 : arrSz Tryd.prog 129 = some (64, 1) := by kernel_rfl
theorem ei22 : elemInf Tryd.prog 22 = some (3, 1, 8) := by kernel_rfl
theorem ei23 : elemInf Tryd.prog 23 = some (25, 3, 40) := by kernel_rfl
theorem ei62 : elemInf Tryd.prog 62 = some (66, 4, 48) := by kernel_rfl
theorem ei79 : elemInf Tryd.prog 79 = some (5, 1, 1) := by kernel_rfl
theorem ei109 : elemInf Tryd.prog 109 = some (9, 1, 16) := by kernel_rfl
theorem ia3 : isArrT Tryd.prog 3 = false := by kernel_rfl
theorem ia5 : isArrT Tryd.prog 5 = false := by kernel_rfl
theorem ia9 : isArrT Tryd.prog 9 = false := by kernel_rfl
theorem ia25 : isArrT Tryd.prog 25 = false := by kernel_rfl
theorem ia66 : isArrT Tryd.prog 66 = false := by kernel_rfl
theorem zc22 : zeroC Tryd.prog 22 = some [.slice none 0 0] := by kernel_rfl
theorem zc25 : zeroC Tryd.prog 25 = some [.int .i64 0, .int .i64 0, .slice none 0 0] := by kernel_rfl
theorem zc27 : zeroC Tryd.prog 27 = some [.slice none 0 0, .int .i64 0, .int .i64 0, .slice none 0 0] := by kernel_rfl
theorem zc31 : zeroC Tryd.prog 31 = some [.slice none 0 0, .int .i64 0, .int .i64 0, .slice none 0 0] := by kernel_rfl
theorem zc66 : zeroC Tryd.prog 66 = some [.int .i64 0, .int .i64 0, .int .i64 0, .slice none 0 0] := by kernel_rfl
theorem zc81 : zeroC Tryd.prog 81 = some [.pointer none, .slice none 0 0] := by kernel_rfl
theorem zc91 : zeroC Tryd.prog 91 = some [.map none] := by kernel_rfl
theorem zc114 : zeroC Tryd.prog 114 = some [.int .u8 0, .int .u8 0, .int .u8 0, .int .u8 0, .int .u8 0, .int .u8 0, .int .u8 0, .int .u8 0, .int .u8 0, .int .u8 0, .int .u8 0, .int .u8 0, .int .u8 0, .int .u8 0, .int .u8 0, .int .u8 0, .int .u8 0, .int .u8 0, .int .u8 0, .int .u8 0, .int .u8 0, .int .u8 0, .int .u8 0, .int .u8 0] := by kernel_rfl
theorem zc123 : zeroC Tryd.prog 123 = some [.int .u8 0, .int .u8 0, .int .u8 0, .int .u8 0, .int .u8 0, .int .u8 0, .int .u8 0, .int .u8 0, .int .u8 0, .int .u8 0, .int .u8 0, .int .u8 0, .int .u8 0, .int .u8 0, .int .u8 0, .int .u8 0, .int .u8 0, .int .u8 0, .int .u8 0, .int .u8 0, .int .u8 0, .int .u8 0, .int .u8 0, .int .u8 0, .int .u8 0, .int .u8 0, .int .u8 0, .int .u8 0, .int .u8 0, .int .u8 0, .int .u8 0, .int .u8 0, .int .u8 0, .int .u8 0, .int .u8 0, .int .u8 0, .int .u8 0, .int .u8 0, .int .u8 0, .int .u8 0, .int .u8 0, .int .u8 0, .int .u8 0, .int .u8 0, .int .u8 0, .int .u8 0, .int .u8 0, .int .u8 0, .int .u8 0, .int .u8 0, .int .u8 0, .int .u8 0, .int .u8 0, .int .u8 0, .int .u8 0, .int .u8 0, .int .u8 0, .int .u8 0, .int .u8 0, .int .u8 0, .int .u8 0, .int .u8 0, .int .u8 0, .int .u8 0, .int .u8 0] := by kernel_rfl
theorem pc25 : placesC Tryd.prog 25 = some [(0, 1), (1, 1), (2, 1)] := by kernel_rfl
theorem pc27 : placesC Tryd.prog 27 = some [(0, 1), (1, 3)] := by kernel_rfl
theorem pc31 : placesC Tryd.prog 31 = some [(0, 1), (1, 3)] := by kernel_rfl
theorem pc66 : placesC Tryd.prog 66 = some [(0, 1), (1, 3)] := by kernel_rfl
theorem mz73 : mapZ Tryd.prog 73 = some (.agg #[.int .i64 0, .int .i64 0, .slice none 0 0]) := by kernel_rfl
theorem mz91 : mapZ Tryd.prog 91 = some (.int .i64 0) := by kernel_rfl
theorem is9 : isStrT Tryd.prog 9 = true := by kernel_rfl
theorem iT9 : intT Tryd.prog 9 = none := by kernel_rfl
theorem iT2 : intT Tryd.prog 2 = some .i64 := by kernel_rfl
theorem iT3 : intT Tryd.prog 3 = some .i64 := by kernel_rfl
theorem iT5 : intT Tryd.prog 5 = some .u8 := by kernel_rfl
theorem iT21 : intT Tryd.prog 21 = some .i32 := by kernel_rfl
theorem iT115 : intT Tryd.prog 115 = some .u64 := by kernel_rfl
theorem iT122 : intT Tryd.prog 122 = some .u32 := by kernel_rfl
theorem iT124 : intT Tryd.prog 124 = some .u64 := by kernel_rfl
theorem bt4 : isBoolT Tryd.prog 4 = true := by kernel_rfl
theorem pt78 : isPtrT Tryd.prog 78 = true := by kernel_rfl
theorem ln9 : lenT Tryd.prog 9 = some false := by kernel_rfl
theorem ln22 : lenT Tryd.prog 22 = some true := by kernel_rfl
theorem ln23 : lenT Tryd.prog 23 = some true := by kernel_rfl
theorem ln62 : lenT Tryd.prog 62 = some true := by kernel_rfl
theorem ln79 : lenT Tryd.prog 79 = some true := by kernel_rfl
theorem ln109 : lenT Tryd.prog 109 = some true := by kernel_rfl
theorem mixed : Tryd.prog.follows .mixedOrders = true := by kernel_rfl
attribute [go_sem] ti3 ti5 ti9 ti22 ti23 ti25 ti27 ti31 ti66 ti78 ti79 ti91 ti115 fo25_0 fo25_1 fo25_2 fo27_0 fo27_1 fo31_0 fo31_1 fo66_0 fo66_1 fo81_0 fo81_1 es22 es23 es62 es79 es109 es114 es121 es123 es128 es129 ar114 ar121 ar123 ar128 ar129 ei22 ei23 ei62 ei79 ei109 ia3 ia5 ia9 ia25 ia66 zc22 zc25 zc27 zc31 zc66 zc81 zc91 zc114 zc123 pc25 pc27 pc31 pc66 mz73 mz91 is9 iT9 iT2 iT3 iT5 iT21 iT115 iT122 iT124 bt4 pt78 ln9 ln22 ln23 ln62 ln79 ln109
end Go.Proofs.YtheacaigeidflaaDoor

/- Texts of the abstract walk, of the contracts and of the plain laws, packed (part 21 of 43): Fx. Conditions: none. -/
import Derived.Test.YtjjjckjebkmnjaaPk20
import Derived.Test.YtjjjckjebkmnjaaProg
namespace Go.Proofs.Ytjjjckjebkmnjaa
open Go
theorem ti3 : tinf Try.prog 3 = some (false, 1) := by kernel_rfl
theorem ti4 : tinf Try.prog 4 = some (false, 1) := by kernel_rfl
theorem ti25 : tinf Try.prog 25 = some (false, 1) := by kernel_rfl
theorem ti28 : tinf Try.prog 28 = some (false, 1) := by kernel_rfl
theorem ti30 : tinf Try.prog 30 = some (true, 3) := by kernel_rfl
theorem ti34 : tinf Try.prog 34 = some (true, 8) := by kernel_rfl
theorem ti40 : tinf Try.prog 40 = some (false, 1) := by kernel_rfl
theorem ti41 : tinf Try.prog 41 = some (false, 1) := by kernel_rfl
theorem ti42 : tinf Try.prog 42 = some (false, 1) := by kernel_rfl
theorem ti44 : tinf Try.prog 44 = some (true, 2) := by kernel_rfl
theorem ti49 : tinf Try.prog 49 = some (false, 1) := by kernel_rfl
theorem ti58 : tinf Try.prog 58 = some (true, 4) := by kernel_rfl
theorem ti61 : tinf Try.prog 61 = some (true, 2) := by kernel_rfl
theorem ti81 : tinf Try.prog 81 = some (false, 1) := by kernel_rfl
theorem ti84 : tinf Try.prog 84 = some (false, 1) := by kernel_rfl
theorem ti90 : tinf Try.prog 90 = some (true, 2) := by kernel_rfl
theorem ti103 : tinf Try.prog 103 = some (false, 1) := by kernel_rfl
theorem ti104 : tinf Try.prog 104 = some (false, 1) := by kernel_rfl
theorem ti105 : tinf Try.prog 105 = some (false, 1) := by kernel_rfl
theorem ti106 : tinf Try.prog 106 = some (false, 1) := by kernel_rfl
theorem ti116 : tinf Try.prog 116 = some (false, 1) := by kernel_rfl
theorem ti128 : tinf Try.prog 128 = some (true, 4) := by kernel_rfl
theorem ti135 : tinf Try.prog 135 = some (true, 3) := by kernel_rfl
theorem ti157 : tinf Try.prog 157 = some (false, 1) := by kernel_rfl
theorem fo30_0 : fieldOff Try.prog 30 0 = some 0 := by kernel_rfl
theorem fo30_1 : fieldOff Try.prog 30 1 = some 1 := by kernel_rfl
theorem fo30_2 : fieldOff Try.prog 30 2 = some 2 := by kernel_rfl
theorem fo34_0 : fieldOff Try.prog 34 0 = some 0 := by kernel_rfl
theorem fo34_1 : fieldOff Try.prog 34 1 = some 3 := by kernel_rfl
theorem fo44_0 : fieldOff Try.prog 44 0 = some 0 := by kernel_rfl
theorem fo44_1 : fieldOff Try.prog 44 1 = some 1 := by kernel_rfl
theorem fo58_0 : fieldOff Try.prog 58 0 = some 0 := by kernel_rfl
theorem fo58_1 : fieldOff Try.prog 58 1 = some 3 := by kernel_rfl
theorem fo61_0 : fieldOff Try.prog 61 0 = some 0 := by kernel_rfl
theorem fo61_1 : fieldOff Try.prog 61 1 = some 1 := by kernel_rfl
theorem fo87_0 : fieldOff Try.prog 87 0 = some 0 := by kernel_rfl
theorem fo89_0 : fieldOff Try.prog 89 0 = some 0 := by kernel_rfl
theorem fo89_1 : fieldOff Try.prog 89 1 = some 1 := by kernel_rfl
theorem fo89_2 : fieldOff Try.prog 89 2 = some 2 := by kernel_rfl
theorem fo89_3 : fieldOff Try.prog 89 3 = some 3 := by kernel_rfl
theorem fo89_4 : fieldOff Try.prog 89 4 = some 4 := by kernel_rfl
theorem fo108_0 : fieldOff Try.prog 108 0 = some 0 := by kernel_rfl
theorem fo108_1 : fieldOff Try.prog 108 1 = some 1 := by kernel_rfl
theorem fo108_2 : fieldOff Try.prog 108 2 = some 2 := by kernel_rfl
theorem fo108_3 : fieldOff Try.prog 108 3 = some 3 := by kernel_rfl
theorem fo108_4 : fieldOff Try.prog 108 4 = some 4 := by kernel_rfl
theorem fo108_5 : fieldOff Try.prog 108 5 = some 5 := by kernel_rfl
theorem fo115_0 : fieldOff Try.prog 115 0 = some 0 := by kernel_rfl
theorem fo115_1 : fieldOff Try.prog 115 1 = some 1 := by kernel_rfl
theorem fo115_2 : fieldOff Try.prog 115 2 = some 2 := by kernel_rfl
theorem fo115_3 : fieldOff Try.prog 115 3 = some 3 := by kernel_rfl
theorem fo118_0 : fieldOff Try.prog 118 0 = some 0 := by kernel_rfl
theorem fo118_1 : fieldOff Try.prog 118 1 = some 1 := by kernel_rfl
theorem fo128_0 : fieldOff Try.prog 128 0 = some 0 := by kernel_rfl
theorem fo128_2 : fieldOff Try.prog 128 2 = some 2 := by kernel_rfl
theorem fo128_3 : fieldOff Try.prog 128 3 = some 3 := by kernel_rfl
theorem fo135_0 : fieldOff Try.prog 135 0 = some 0 := by kernel_rfl
theorem fo135_1 : fieldOff Try.prog 135 1 = some 1 := by kernel_rfl
theorem fo135_2 : fieldOff Try.prog 135 2 = some 2 := by kernel_rfl
theorem es22 : elemSz Try.prog 22 = some 8 := by kernel_rfl
theorem es28 : elemSz Try.prog 28 = some 3 := by kernel_rfl
theorem es40 : elemSz Try.prog 40 = some 4 := by kernel_rfl
theorem es41 : elemSz Try.prog 41 = some 1 := by kernel_rfl
theorem es42 : elemSz Try.prog 42 = some 1 := by kernel_rfl
theorem es49 : elemSz Try.prog 49 = some 2 := by kernel_rfl
theorem es91 : elemSz Try.prog 91 = some 2 := by kernel_rfl
theorem es116 : elemSz Try.prog 116 = some 4 := by kernel_rfl
theorem es137 : elemSz Try.prog 137 = some 3 := by kernel_rfl
theorem es90 : elemSz Try.prog 90 = none := by kernel_rfl
theorem ar90 : arrSz Try.prog 90 = some (2, 1) := by kernel_rfl
theorem ei22 : elemInf Try.prog 22 = some (34, 8, 96) := by kernel_rfl
theorem ei28 : elemInf Try.prog 28 = some (30, 3, 40) := by kernel_rfl
theorem ei40 : elemInf Try.prog 40 = some (58, 4, 64) := by kernel_rfl
theorem ei41 : elemInf Try.prog 41 = some (3, 1, 8) := by kernel_rfl
theorem ei42 : elemInf Try.prog 42 = some (3, 1, 8) := by kernel_rfl
theorem ei49 : elemInf Try.prog 49 = some (61, 2, 16) := by kernel_rfl
theorem ei91 : elemInf Try.prog 91 = some (90, 2, 16) := by kernel_rfl
theorem ei116 : elemInf Try.prog 116 = some (128, 4, 48) := by kernel_rfl
theorem ei137 : elemInf Try.prog 137 = some (135, 3, 40) := by kernel_rfl
theorem ia3 : isArrT Try.prog 3 = false := by kernel_rfl
theorem ia30 : isArrT Try.prog 30 = false := by kernel_rfl
theorem ia34 : isArrT Try.prog 34 = false := by kernel_rfl
theorem ia58 : isArrT Try.prog 58 = false := by kernel_rfl
theorem ia61 : isArrT Try.prog 61 = false := by kernel_rfl
theorem ia90 : isArrT Try.prog 90 = true := by kernel_rfl
theorem ia128 : isArrT Try.prog 128 = false := by kernel_rfl
theorem ia135 : isArrT Try.prog 135 = true := by kernel_rfl
theorem zc3 : zeroC Try.prog 3 = some [.int .i64 0] := by kernel_rfl
theorem zc30 : zeroC Try.prog 30 = some [.int .i64 0, .int .i64 0, .slice none 0 0] := by kernel_rfl
theorem zc34 : zeroC Try.prog 34 = some [.int .i64 0, .int .i64 0, .slice none 0 0, .int .i64 0, .int .i64 0, .slice none 0 0, .int .i64 0, .int .i64 0] := by kernel_rfl
theorem zc41 : zeroC Try.prog 41 = some [.slice none 0 0] := by kernel_rfl
theorem zc44 : zeroC Try.prog 44 = some [.slice none 0 0, .slice none 0 0] := by kernel_rfl
theorem zc58 : zeroC Try.prog 58 = some [.int .i64 0, .int .i64 0, .slice none 0 0, .slice none 0 0] := by kernel_rfl
theorem zc61 : zeroC Try.prog 61 = some [.pointer none, .int .i64 0] := by kernel_rfl
theorem zc89 : zeroC Try.prog 89 = some [.int .i64 0, .pointer none, .pointer none, .slice none 0 0, .bool false] := by kernel_rfl
theorem zc90 : zeroC Try.prog 90 = some [.int .i64 0, .int .i64 0] := by kernel_rfl
theorem zc103 : zeroC Try.prog 103 = some [.pointer none] := by kernel_rfl
theorem zc108 : zeroC Try.prog 108 = some [.map none, .map none, .map none, .map none, .int .i64 0, .bool false] := by kernel_rfl
theorem zc115 : zeroC Try.prog 115 = some [.slice none 0 0, .slice none 0 0, .int .i64 0, .int .i64 0] := by kernel_rfl
theorem zc118 : zeroC Try.prog 118 = some [.slice none 0 0, .map none] := by kernel_rfl
theorem zc128 : zeroC Try.prog 128 = some [.int .i64 0, .int .i64 0, .int .i64 0, .slice none 0 0] := by kernel_rfl
theorem zc135 : zeroC Try.prog 135 = some [.int .i64 0, .slice none 0 0, .int .i64 0] := by kernel_rfl
theorem zc157 : zeroC Try.prog 157 = some [.int .u64 0] := by kernel_rfl
theorem pc30 : placesC Try.prog 30 = some [(0, 1), (1, 1), (2, 1)] := by kernel_rfl
theorem pc44 : placesC Try.prog 44 = some [(0, 1), (1, 1)] := by kernel_rfl
theorem pc58 : placesC Try.prog 58 = some [(0, 3), (3, 1)] := by kernel_rfl
theorem pc61 : placesC Try.prog 61 = some [(0, 1), (1, 1)] := by kernel_rfl
theorem pc89 : placesC Try.prog 89 = some [(0, 1), (1, 1), (2, 1), (3, 1), (4, 1)] := by kernel_rfl
theorem pc90 : placesC Try.prog 90 = some [(0, 1), (1, 1)] := by kernel_rfl
theorem pc108 : placesC Try.prog 108 = some [(0, 1), (1, 1), (2, 1), (3, 1), (4, 1), (5, 1)] := by kernel_rfl
theorem pc115 : placesC Try.prog 115 = some [(0, 1), (1, 1), (2, 1), (3, 1)] := by kernel_rfl
theorem pc118 : placesC Try.prog 118 = some [(0, 1), (1, 1)] := by kernel_rfl
theorem pc128 : placesC Try.prog 128 = some [(0, 1), (1, 1), (2, 1), (3, 1)] := by kernel_rfl
theorem pc135 : placesC Try.prog 135 = some [(0, 1), (1, 1), (2, 1)] := by kernel_rfl
theorem mz104 : mapZ Try.prog 104 = some (.int .i64 0) := by kernel_rfl
theorem mz105 : mapZ Try.prog 105 = some (.int .i64 0) := by kernel_rfl
theorem mz106 : mapZ Try.prog 106 = some (.bool false) := by kernel_rfl
theorem is9 : isStrT Try.prog 9 = true := by kernel_rfl
theorem iT3 : intT Try.prog 3 = some .i64 := by kernel_rfl
theorem iT5 : intT Try.prog 5 = some .u8 := by kernel_rfl
theorem iT145 : intT Try.prog 145 = some .u64 := by kernel_rfl
theorem iT154 : intT Try.prog 154 = some .u32 := by kernel_rfl
theorem iT156 : intT Try.prog 156 = some .u64 := by kernel_rfl
theorem iT157 : intT Try.prog 157 = some .u64 := by kernel_rfl
theorem bt4 : isBoolT Try.prog 4 = true := by kernel_rfl
theorem pt25 : isPtrT Try.prog 25 = true := by kernel_rfl
theorem pt81 : isPtrT Try.prog 81 = true := by kernel_rfl
theorem pt84 : isPtrT Try.prog 84 = true := by kernel_rfl
theorem ln22 : lenT Try.prog 22 = some true := by kernel_rfl
theorem ln28 : lenT Try.prog 28 = some true := by kernel_rfl
theorem ln40 : lenT Try.prog 40 = some true := by kernel_rfl
theorem ln41 : lenT Try.prog 41 = some true := by kernel_rfl
theorem ln42 : lenT Try.prog 42 = some true := by kernel_rfl
theorem ln49 : lenT Try.prog 49 = some true := by kernel_rfl
theorem ln91 : lenT Try.prog 91 = some true := by kernel_rfl
theorem ln116 : lenT Try.prog 116 = some true := by kernel_rfl
theorem ln137 : lenT Try.prog 137 = some true := by kernel_rfl
theorem mixed : Try.prog.follows .mixedOrders = true := by kernel_rfl
attribute [go_sem] ti3 ti4 ti25 ti28 ti30 ti34 ti40 ti41 ti42 ti44 ti49 ti58 ti61 ti81 ti84 ti90 ti103 ti104 ti105 ti106 ti116 ti128 ti135 ti157 fo30_0 fo30_1 fo30_2 fo34_0 fo34_1 fo44_0 fo44_1 fo58_0 fo58_1 fo61_0 fo61_1 fo87_0 fo89_0 fo89_1 fo89_2 fo89_3 fo89_4 fo108_0 fo108_1 fo108_2 fo108_3 fo108_4 fo108_5 fo115_0 fo115_1 fo115_2 fo115_3 fo118_0 fo118_1 fo128_0 fo128_2 fo128_3 fo135_0 fo135_1 fo135_2 es22 es28 es40 es41 es42 es49 es91 es116 es137 es90 ar90 ei22 ei28 ei40 ei41 ei42 ei49 ei91 ei116 ei137 ia3 ia30 ia34 ia58 ia61 ia90 ia128 ia135 zc3 zc30 zc34 zc41 zc44 zc58 zc61 zc89 zc90 zc103 zc108 zc115 zc118 zc128 zc135 zc157 pc30 pc44 pc58 pc61 pc89 pc90 pc108 pc115 pc118 pc128 pc135 mz104 mz105 mz106 is9 iT3 iT5 iT145 iT154 iT156 iT157 bt4 pt25 pt81 pt84 ln22 ln28 ln40 ln41 ln42 ln49 ln91 ln116 ln137
end Go.Proofs.Ytjjjckjebkmnjaa

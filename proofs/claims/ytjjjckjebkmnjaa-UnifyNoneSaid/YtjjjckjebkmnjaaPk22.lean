/- Texts of the abstract walk, of the contracts and of the plain laws, packed (part 22 of 41): Fx. Conditions: none. -/
import Derived.Test.YtjjjckjebkmnjaaPk21
import Derived.Test.YtjjjckjebkmnjaaProg
namespace Go.Proofs.Ytjjjckjebkmnjaa
open Go
theorem ti3 : tinf Try.prog 3 = some (false, 1) := by kernel_rfl
theorem ti4 : tinf Try.prog 4 = some (false, 1) := by kernel_rfl
theorem ti25 : tinf Try.prog 25 = some (false, 1) := by kernel_rfl
theorem ti28 : tinf Try.prog 28 = some (false, 1) := by kernel_rfl
theorem ti30 : tinf Try.prog 30 = some (true, 3) := by kernel_rfl
theorem ti34 : tinf Try.prog 34 = some (true, 8) := by kernel_rfl
theorem ti41 : tinf Try.prog 41 = some (false, 1) := by kernel_rfl
theorem ti61 : tinf Try.prog 61 = some (true, 2) := by kernel_rfl
theorem ti81 : tinf Try.prog 81 = some (false, 1) := by kernel_rfl
theorem ti84 : tinf Try.prog 84 = some (false, 1) := by kernel_rfl
theorem ti90 : tinf Try.prog 90 = some (true, 2) := by kernel_rfl
theorem ti104 : tinf Try.prog 104 = some (false, 1) := by kernel_rfl
theorem ti116 : tinf Try.prog 116 = some (false, 1) := by kernel_rfl
theorem ti128 : tinf Try.prog 128 = some (true, 4) := by kernel_rfl
theorem fo30_0 : fieldOff Try.prog 30 0 = some 0 := by kernel_rfl
theorem fo30_1 : fieldOff Try.prog 30 1 = some 1 := by kernel_rfl
theorem fo30_2 : fieldOff Try.prog 30 2 = some 2 := by kernel_rfl
theorem fo34_0 : fieldOff Try.prog 34 0 = some 0 := by kernel_rfl
theorem fo34_1 : fieldOff Try.prog 34 1 = some 3 := by kernel_rfl
theorem fo61_0 : fieldOff Try.prog 61 0 = some 0 := by kernel_rfl
theorem fo61_1 : fieldOff Try.prog 61 1 = some 1 := by kernel_rfl
theorem fo87_0 : fieldOff Try.prog 87 0 = some 0 := by kernel_rfl
theorem fo89_0 : fieldOff Try.prog 89 0 = some 0 := by kernel_rfl
theorem fo89_1 : fieldOff Try.prog 89 1 = some 1 := by kernel_rfl
theorem fo89_2 : fieldOff Try.prog 89 2 = some 2 := by kernel_rfl
theorem fo89_3 : fieldOff Try.prog 89 3 = some 3 := by kernel_rfl
theorem fo89_4 : fieldOff Try.prog 89 4 = some 4 := by kernel_rfl
theorem fo115_0 : fieldOff Try.prog 115 0 = some 0 := by kernel_rfl
theorem fo115_1 : fieldOff Try.prog 115 1 = some 1 := by kernel_rfl
theorem fo115_2 : fieldOff Try.prog 115 2 = some 2 := by kernel_rfl
theorem fo115_3 : fieldOff Try.prog 115 3 = some 3 := by kernel_rfl
theorem fo118_0 : fieldOff Try.prog 118 0 = some 0 := by kernel_rfl
theorem fo118_1 : fieldOff Try.prog 118 1 = some 1 := by kernel_rfl
theorem fo128_0 : fieldOff Try.prog 128 0 = some 0 := by kernel_rfl
theorem fo128_2 : fieldOff Try.prog 128 2 = some 2 := by kernel_rfl
theorem fo128_3 : fieldOff Try.prog 128 3 = some 3 := by kernel_rfl
theorem es22 : elemSz Try.prog 22 = some 8 := by kernel_rfl
theorem es28 : elemSz Try.prog 28 = some 3 := by kernel_rfl
theorem es41 : elemSz Try.prog 41 = some 1 := by kernel_rfl
theorem es91 : elemSz Try.prog 91 = some 2 := by kernel_rfl
theorem es116 : elemSz Try.prog 116 = some 4 := by kernel_rfl
theorem es90 : elemSz Try.prog 90 = none := by kernel_rfl
theorem ar90 : arrSz Try.prog 90 = some (2, 1) := by kernel_rfl
theorem ei28 : elemInf Try.prog 28 = some (30, 3, 40) := by kernel_rfl
theorem ei41 : elemInf Try.prog 41 = some (3, 1, 8) := by kernel_rfl
theorem ei91 : elemInf Try.prog 91 = some (90, 2, 16) := by kernel_rfl
theorem ei116 : elemInf Try.prog 116 = some (128, 4, 48) := by kernel_rfl
theorem ia3 : isArrT Try.prog 3 = false := by kernel_rfl
theorem ia30 : isArrT Try.prog 30 = false := by kernel_rfl
theorem ia90 : isArrT Try.prog 90 = true := by kernel_rfl
theorem ia128 : isArrT Try.prog 128 = false := by kernel_rfl
theorem zc30 : zeroC Try.prog 30 = some [.int .i64 0, .int .i64 0, .slice none 0 0] := by kernel_rfl
theorem zc34 : zeroC Try.prog 34 = some [.int .i64 0, .int .i64 0, .slice none 0 0, .int .i64 0, .int .i64 0, .slice none 0 0, .int .i64 0, .int .i64 0] := by kernel_rfl
theorem zc61 : zeroC Try.prog 61 = some [.pointer none, .int .i64 0] := by kernel_rfl
theorem zc89 : zeroC Try.prog 89 = some [.int .i64 0, .pointer none, .pointer none, .slice none 0 0, .bool false] := by kernel_rfl
theorem zc90 : zeroC Try.prog 90 = some [.int .i64 0, .int .i64 0] := by kernel_rfl
theorem zc115 : zeroC Try.prog 115 = some [.slice none 0 0, .slice none 0 0, .int .i64 0, .int .i64 0] := by kernel_rfl
theorem zc118 : zeroC Try.prog 118 = some [.slice none 0 0, .map none] := by kernel_rfl
theorem zc128 : zeroC Try.prog 128 = some [.int .i64 0, .int .i64 0, .int .i64 0, .slice none 0 0] := by kernel_rfl
theorem pc30 : placesC Try.prog 30 = some [(0, 1), (1, 1), (2, 1)] := by kernel_rfl
theorem pc61 : placesC Try.prog 61 = some [(0, 1), (1, 1)] := by kernel_rfl
theorem pc89 : placesC Try.prog 89 = some [(0, 1), (1, 1), (2, 1), (3, 1), (4, 1)] := by kernel_rfl
theorem pc90 : placesC Try.prog 90 = some [(0, 1), (1, 1)] := by kernel_rfl
theorem pc115 : placesC Try.prog 115 = some [(0, 1), (1, 1), (2, 1), (3, 1)] := by kernel_rfl
theorem pc118 : placesC Try.prog 118 = some [(0, 1), (1, 1)] := by kernel_rfl
theorem pc128 : placesC Try.prog 128 = some [(0, 1), (1, 1), (2, 1), (3, 1)] := by kernel_rfl
theorem mz104 : mapZ Try.prog 104 = some (.int .i64 0) := by kernel_rfl
theorem pt25 : isPtrT Try.prog 25 = true := by kernel_rfl
theorem pt81 : isPtrT Try.prog 81 = true := by kernel_rfl
theorem pt84 : isPtrT Try.prog 84 = true := by kernel_rfl
theorem ln22 : lenT Try.prog 22 = some true := by kernel_rfl
theorem ln28 : lenT Try.prog 28 = some true := by kernel_rfl
theorem ln41 : lenT Try.prog 41 = some true := by kernel_rfl
theorem ln49 : lenT Try.prog 49 = some true := by kernel_rfl
theorem ln91 : lenT Try.prog 91 = some true := by kernel_rfl
theorem ln116 : lenT Try.prog 116 = some true := by kernel_rfl
theorem mixed : Try.prog.follows .mixedOrders = true := by kernel_rfl
end Go.Proofs.Ytjjjckjebkmnjaa

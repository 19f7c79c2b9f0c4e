/- Texts of the abstract walk, of the contracts and of the plain laws, packed (part 22 of 45): Fx. Conditions: none. -/
import Derived.Test.YtohdoloalolpfaaPk21
import Derived.Test.YtohdoloalolpfaaProg
namespace Go.Proofs.Ytohdoloalolpfaa
open Go
theorem ti3 : tinf Try.prog 3 = some (false, 1) := by kernel_rfl
theorem ti4 : tinf Try.prog 4 = some (false, 1) := by kernel_rfl
theorem ti5 : tinf Try.prog 5 = some (false, 1) := by kernel_rfl
theorem ti22 : tinf Try.prog 22 = some (false, 1) := by kernel_rfl
theorem ti25 : tinf Try.prog 25 = some (false, 1) := by kernel_rfl
theorem ti28 : tinf Try.prog 28 = some (false, 1) := by kernel_rfl
theorem ti32 : tinf Try.prog 32 = some (true, 3) := by kernel_rfl
theorem ti67 : tinf Try.prog 67 = some (false, 1) := by kernel_rfl
theorem ti73 : tinf Try.prog 73 = some (true, 8) := by kernel_rfl
theorem ti87 : tinf Try.prog 87 = some (true, 4) := by kernel_rfl
theorem ti88 : tinf Try.prog 88 = some (false, 1) := by kernel_rfl
theorem ti89 : tinf Try.prog 89 = some (false, 1) := by kernel_rfl
theorem ti113 : tinf Try.prog 113 = some (false, 1) := by kernel_rfl
theorem ti120 : tinf Try.prog 120 = some (true, 2) := by kernel_rfl
theorem fo32_0 : fieldOff Try.prog 32 0 = some 0 := by kernel_rfl
theorem fo32_1 : fieldOff Try.prog 32 1 = some 1 := by kernel_rfl
theorem fo32_2 : fieldOff Try.prog 32 2 = some 2 := by kernel_rfl
theorem fo73_0 : fieldOff Try.prog 73 0 = some 0 := by kernel_rfl
theorem fo73_1 : fieldOff Try.prog 73 1 = some 3 := by kernel_rfl
theorem fo87_0 : fieldOff Try.prog 87 0 = some 0 := by kernel_rfl
theorem fo87_2 : fieldOff Try.prog 87 2 = some 2 := by kernel_rfl
theorem fo87_3 : fieldOff Try.prog 87 3 = some 3 := by kernel_rfl
theorem fo91_0 : fieldOff Try.prog 91 0 = some 0 := by kernel_rfl
theorem fo91_1 : fieldOff Try.prog 91 1 = some 1 := by kernel_rfl
theorem fo117_0 : fieldOff Try.prog 117 0 = some 0 := by kernel_rfl
theorem fo119_0 : fieldOff Try.prog 119 0 = some 0 := by kernel_rfl
theorem fo119_1 : fieldOff Try.prog 119 1 = some 1 := by kernel_rfl
theorem fo119_2 : fieldOff Try.prog 119 2 = some 2 := by kernel_rfl
theorem fo119_3 : fieldOff Try.prog 119 3 = some 3 := by kernel_rfl
theorem fo119_4 : fieldOff Try.prog 119 4 = some 4 := by kernel_rfl
theorem fo125_0 : fieldOff Try.prog 125 0 = some 0 := by kernel_rfl
theorem fo125_1 : fieldOff Try.prog 125 1 = some 1 := by kernel_rfl
theorem fo137_0 : fieldOff Try.prog 137 0 = some 0 := by kernel_rfl
theorem fo137_1 : fieldOff Try.prog 137 1 = some 1 := by kernel_rfl
theorem fo137_2 : fieldOff Try.prog 137 2 = some 2 := by kernel_rfl
theorem fo137_3 : fieldOff Try.prog 137 3 = some 3 := by kernel_rfl
theorem es22 : elemSz Try.prog 22 = some 3 := by kernel_rfl
theorem es28 : elemSz Try.prog 28 = some 1 := by kernel_rfl
theorem es61 : elemSz Try.prog 61 = some 8 := by kernel_rfl
theorem es77 : elemSz Try.prog 77 = some 1 := by kernel_rfl
theorem es88 : elemSz Try.prog 88 = some 4 := by kernel_rfl
theorem es121 : elemSz Try.prog 121 = some 2 := by kernel_rfl
theorem ar120 : arrSz Try.prog 120 = some (2, 1) := by kernel_rfl
theorem ei22 : elemInf Try.prog 22 = some (32, 3, 40) := by kernel_rfl
theorem ei28 : elemInf Try.prog 28 = some (3, 1, 8) := by kernel_rfl
theorem ei61 : elemInf Try.prog 61 = some (73, 8, 96) := by kernel_rfl
theorem ei88 : elemInf Try.prog 88 = some (87, 4, 48) := by kernel_rfl
theorem ei121 : elemInf Try.prog 121 = some (120, 2, 16) := by kernel_rfl
theorem ia3 : isArrT Try.prog 3 = false := by kernel_rfl
theorem ia32 : isArrT Try.prog 32 = false := by kernel_rfl
theorem ia73 : isArrT Try.prog 73 = false := by kernel_rfl
theorem ia87 : isArrT Try.prog 87 = false := by kernel_rfl
theorem ia120 : isArrT Try.prog 120 = true := by kernel_rfl
theorem zc32 : zeroC Try.prog 32 = some [.int .i64 0, .int .i64 0, .slice none 0 0] := by kernel_rfl
theorem zc73 : zeroC Try.prog 73 = some [.int .i64 0, .int .i64 0, .slice none 0 0, .int .i64 0, .int .i64 0, .slice none 0 0, .int .i64 0, .int .i64 0] := by kernel_rfl
theorem zc87 : zeroC Try.prog 87 = some [.int .i64 0, .int .i64 0, .int .i64 0, .slice none 0 0] := by kernel_rfl
theorem zc91 : zeroC Try.prog 91 = some [.slice none 0 0, .map none] := by kernel_rfl
theorem zc119 : zeroC Try.prog 119 = some [.int .i64 0, .pointer none, .pointer none, .slice none 0 0, .bool false] := by kernel_rfl
theorem zc120 : zeroC Try.prog 120 = some [.int .i64 0, .int .i64 0] := by kernel_rfl
theorem zc125 : zeroC Try.prog 125 = some [.pointer none, .int .i64 0] := by kernel_rfl
theorem zc137 : zeroC Try.prog 137 = some [.slice none 0 0, .slice none 0 0, .int .i64 0, .int .i64 0] := by kernel_rfl
theorem pc32 : placesC Try.prog 32 = some [(0, 1), (1, 1), (2, 1)] := by kernel_rfl
theorem pc87 : placesC Try.prog 87 = some [(0, 1), (1, 1), (2, 1), (3, 1)] := by kernel_rfl
theorem pc91 : placesC Try.prog 91 = some [(0, 1), (1, 1)] := by kernel_rfl
theorem pc119 : placesC Try.prog 119 = some [(0, 1), (1, 1), (2, 1), (3, 1), (4, 1)] := by kernel_rfl
theorem pc120 : placesC Try.prog 120 = some [(0, 1), (1, 1)] := by kernel_rfl
theorem pc125 : placesC Try.prog 125 = some [(0, 1), (1, 1)] := by kernel_rfl
theorem pc137 : placesC Try.prog 137 = some [(0, 1), (1, 1), (2, 1), (3, 1)] := by kernel_rfl
theorem mz89 : mapZ Try.prog 89 = some (.int .i64 0) := by kernel_rfl
theorem iT3 : intT Try.prog 3 = some .i64 := by kernel_rfl
theorem iT5 : intT Try.prog 5 = some .u8 := by kernel_rfl
theorem pt25 : isPtrT Try.prog 25 = true := by kernel_rfl
theorem pt67 : isPtrT Try.prog 67 = true := by kernel_rfl
theorem pt113 : isPtrT Try.prog 113 = true := by kernel_rfl
theorem ln22 : lenT Try.prog 22 = some true := by kernel_rfl
theorem ln28 : lenT Try.prog 28 = some true := by kernel_rfl
theorem ln61 : lenT Try.prog 61 = some true := by kernel_rfl
theorem ln77 : lenT Try.prog 77 = some true := by kernel_rfl
theorem ln88 : lenT Try.prog 88 = some true := by kernel_rfl
theorem ln121 : lenT Try.prog 121 = some true := by kernel_rfl
theorem mixed : Try.prog.follows .mixedOrders = true := by kernel_rfl
end Go.Proofs.Ytohdoloalolpfaa

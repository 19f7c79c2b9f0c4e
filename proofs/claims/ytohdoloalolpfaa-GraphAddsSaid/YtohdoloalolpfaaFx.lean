/- Closed facts on the types of this translation, each by the kernel. Conditions: none. By a program of this workplace. -/
import Derived.Test.YtohdoloalolpfaaTy
import Derived.Test.YtohdoloalolpfaaProg
namespace Go.Proofs.Ytohdoloalolpfaa
open Go
theorem ti3 : tinf Try.prog 3 = some (false, 1) := by kernel_rfl
theorem ti4 : tinf Try.prog 4 = some (false, 1) := by kernel_rfl
theorem ti5 : tinf Try.prog 5 = some (false, 1) := by kernel_rfl
theorem ti22 : tinf Try.prog 22 = some (false, 1) := by kernel_rfl
theorem ti25 : tinf Try.prog 25 = some (false, 1) := by kernel_rfl
theorem ti27 : tinf Try.prog 27 = some (false, 1) := by kernel_rfl
theorem ti28 : tinf Try.prog 28 = some (false, 1) := by kernel_rfl
theorem ti32 : tinf Try.prog 32 = some (true, 3) := by kernel_rfl
theorem ti38 : tinf Try.prog 38 = some (true, 4) := by kernel_rfl
theorem ti67 : tinf Try.prog 67 = some (false, 1) := by kernel_rfl
theorem ti73 : tinf Try.prog 73 = some (true, 8) := by kernel_rfl
theorem ti82 : tinf Try.prog 82 = some (false, 1) := by kernel_rfl
theorem ti87 : tinf Try.prog 87 = some (true, 4) := by kernel_rfl
theorem ti88 : tinf Try.prog 88 = some (false, 1) := by kernel_rfl
theorem ti89 : tinf Try.prog 89 = some (false, 1) := by kernel_rfl
theorem ti98 : tinf Try.prog 98 = some (false, 1) := by kernel_rfl
theorem ti109 : tinf Try.prog 109 = some (false, 1) := by kernel_rfl
theorem ti111 : tinf Try.prog 111 = some (true, 2) := by kernel_rfl
theorem ti113 : tinf Try.prog 113 = some (false, 1) := by kernel_rfl
theorem ti120 : tinf Try.prog 120 = some (true, 2) := by kernel_rfl
theorem ti147 : tinf Try.prog 147 = some (true, 6) := by kernel_rfl
theorem ti161 : tinf Try.prog 161 = some (false, 1) := by kernel_rfl
theorem ti166 : tinf Try.prog 166 = some (false, 1) := by kernel_rfl
theorem fo32_0 : fieldOff Try.prog 32 0 = some 0 := by kernel_rfl
theorem fo32_1 : fieldOff Try.prog 32 1 = some 1 := by kernel_rfl
theorem fo32_2 : fieldOff Try.prog 32 2 = some 2 := by kernel_rfl
theorem fo38_0 : fieldOff Try.prog 38 0 = some 0 := by kernel_rfl
theorem fo38_1 : fieldOff Try.prog 38 1 = some 3 := by kernel_rfl
theorem fo73_0 : fieldOff Try.prog 73 0 = some 0 := by kernel_rfl
theorem fo73_1 : fieldOff Try.prog 73 1 = some 3 := by kernel_rfl
theorem fo87_0 : fieldOff Try.prog 87 0 = some 0 := by kernel_rfl
theorem fo87_1 : fieldOff Try.prog 87 1 = some 1 := by kernel_rfl
theorem fo87_2 : fieldOff Try.prog 87 2 = some 2 := by kernel_rfl
theorem fo87_3 : fieldOff Try.prog 87 3 = some 3 := by kernel_rfl
theorem fo91_0 : fieldOff Try.prog 91 0 = some 0 := by kernel_rfl
theorem fo91_1 : fieldOff Try.prog 91 1 = some 1 := by kernel_rfl
theorem fo103_0 : fieldOff Try.prog 103 0 = some 0 := by kernel_rfl
theorem fo103_1 : fieldOff Try.prog 103 1 = some 1 := by kernel_rfl
theorem fo111_0 : fieldOff Try.prog 111 0 = some 0 := by kernel_rfl
theorem fo111_1 : fieldOff Try.prog 111 1 = some 1 := by kernel_rfl
theorem fo117_0 : fieldOff Try.prog 117 0 = some 0 := by kernel_rfl
theorem fo119_0 : fieldOff Try.prog 119 0 = some 0 := by kernel_rfl
theorem fo119_1 : fieldOff Try.prog 119 1 = some 1 := by kernel_rfl
theorem fo119_2 : fieldOff Try.prog 119 2 = some 2 := by kernel_rfl
theorem fo119_3 : fieldOff Try.prog 119 3 = some 3 := by kernel_rfl
theorem fo119_4 : fieldOff Try.prog 119 4 = some 4 := by kernel_rfl
theorem fo125_0 : fieldOff Try.prog 125 0 = some 0 := by kernel_rfl
theorem fo125_1 : fieldOff Try.prog 125 1 = some 1 := by kernel_rfl
theorem fo137_0 : fieldOff Try.prog 137 0 = some 0 := by kernel_rfl
theorem fo137_1 : fieldOff Try.prog 137 1 = some 1 := by kernel_rfl
theorem fo137_2 : fieldOff Try.prog 137 2 = some 2 := by kernel_rfl
theorem fo137_3 : fieldOff Try.prog 137 3 = some 3 := by kernel_rfl
theorem fo147_0 : fieldOff Try.prog 147 0 = some 0 := by kernel_rfl
theorem fo147_1 : fieldOff Try.prog 147 1 = some 3 := by kernel_rfl
theorem fo163_0 : fieldOff Try.prog 163 0 = some 0 := by kernel_rfl
theorem fo163_1 : fieldOff Try.prog 163 1 = some 1 := by kernel_rfl
theorem es22 : elemSz Try.prog 22 = some 3 := by kernel_rfl
theorem es27 : elemSz Try.prog 27 = some 4 := by kernel_rfl
theorem es28 : elemSz Try.prog 28 = some 1 := by kernel_rfl
theorem es53 : elemSz Try.prog 53 = some 4 := by kernel_rfl
theorem es61 : elemSz Try.prog 61 = some 8 := by kernel_rfl
theorem es77 : elemSz Try.prog 77 = some 1 := by kernel_rfl
theorem es88 : elemSz Try.prog 88 = some 4 := by kernel_rfl
theorem es109 : elemSz Try.prog 109 = some 1 := by kernel_rfl
theorem es121 : elemSz Try.prog 121 = some 2 := by kernel_rfl
theorem es145 : elemSz Try.prog 145 = some 6 := by kernel_rfl
theorem es120 : elemSz Try.prog 120 = none := by kernel_rfl
theorem ar120 : arrSz Try.prog 120 = some (2, 1) := by kernel_rfl
theorem ei22 : elemInf Try.prog 22 = some (32, 3, 40) := by kernel_rfl
theorem ei27 : elemInf Try.prog 27 = some (38, 4, 64) := by kernel_rfl
theorem ei28 : elemInf Try.prog 28 = some (3, 1, 8) := by kernel_rfl
theorem ei53 : elemInf Try.prog 53 = some (103, 4, 48) := by kernel_rfl
theorem ei61 : elemInf Try.prog 61 = some (73, 8, 96) := by kernel_rfl
theorem ei88 : elemInf Try.prog 88 = some (87, 4, 48) := by kernel_rfl
theorem ei109 : elemInf Try.prog 109 = some (3, 1, 8) := by kernel_rfl
theorem ei121 : elemInf Try.prog 121 = some (120, 2, 16) := by kernel_rfl
theorem ei145 : elemInf Try.prog 145 = some (147, 6, 80) := by kernel_rfl
theorem ia3 : isArrT Try.prog 3 = false := by kernel_rfl
theorem ia32 : isArrT Try.prog 32 = false := by kernel_rfl
theorem ia38 : isArrT Try.prog 38 = false := by kernel_rfl
theorem ia73 : isArrT Try.prog 73 = false := by kernel_rfl
theorem ia87 : isArrT Try.prog 87 = false := by kernel_rfl
theorem ia103 : isArrT Try.prog 103 = false := by kernel_rfl
theorem ia120 : isArrT Try.prog 120 = true := by kernel_rfl
theorem ia147 : isArrT Try.prog 147 = false := by kernel_rfl
theorem zc3 : zeroC Try.prog 3 = some [.int .i64 0] := by kernel_rfl
theorem zc28 : zeroC Try.prog 28 = some [.slice none 0 0] := by kernel_rfl
theorem zc32 : zeroC Try.prog 32 = some [.int .i64 0, .int .i64 0, .slice none 0 0] := by kernel_rfl
theorem zc38 : zeroC Try.prog 38 = some [.int .i64 0, .int .i64 0, .slice none 0 0, .slice none 0 0] := by kernel_rfl
theorem zc73 : zeroC Try.prog 73 = some [.int .i64 0, .int .i64 0, .slice none 0 0, .int .i64 0, .int .i64 0, .slice none 0 0, .int .i64 0, .int .i64 0] := by kernel_rfl
theorem zc82 : zeroC Try.prog 82 = some [.nilFunc] := by kernel_rfl
theorem zc87 : zeroC Try.prog 87 = some [.int .i64 0, .int .i64 0, .int .i64 0, .slice none 0 0] := by kernel_rfl
theorem zc89 : zeroC Try.prog 89 = some [.map none] := by kernel_rfl
theorem zc91 : zeroC Try.prog 91 = some [.slice none 0 0, .map none] := by kernel_rfl
theorem zc103 : zeroC Try.prog 103 = some [.int .i64 0, .int .i64 0, .int .i64 0, .slice none 0 0] := by kernel_rfl
theorem zc111 : zeroC Try.prog 111 = some [.slice none 0 0, .slice none 0 0] := by kernel_rfl
theorem zc119 : zeroC Try.prog 119 = some [.int .i64 0, .pointer none, .pointer none, .slice none 0 0, .bool false] := by kernel_rfl
theorem zc120 : zeroC Try.prog 120 = some [.int .i64 0, .int .i64 0] := by kernel_rfl
theorem zc125 : zeroC Try.prog 125 = some [.pointer none, .int .i64 0] := by kernel_rfl
theorem zc137 : zeroC Try.prog 137 = some [.slice none 0 0, .slice none 0 0, .int .i64 0, .int .i64 0] := by kernel_rfl
theorem zc147 : zeroC Try.prog 147 = some [.int .i64 0, .int .i64 0, .slice none 0 0, .int .i64 0, .int .i64 0, .slice none 0 0] := by kernel_rfl
theorem zc163 : zeroC Try.prog 163 = some [.map none, .slice none 0 0] := by kernel_rfl
theorem zc166 : zeroC Try.prog 166 = some [.int .u64 0] := by kernel_rfl
theorem pc32 : placesC Try.prog 32 = some [(0, 1), (1, 1), (2, 1)] := by kernel_rfl
theorem pc38 : placesC Try.prog 38 = some [(0, 3), (3, 1)] := by kernel_rfl
theorem pc87 : placesC Try.prog 87 = some [(0, 1), (1, 1), (2, 1), (3, 1)] := by kernel_rfl
theorem pc91 : placesC Try.prog 91 = some [(0, 1), (1, 1)] := by kernel_rfl
theorem pc103 : placesC Try.prog 103 = some [(0, 1), (1, 3)] := by kernel_rfl
theorem pc111 : placesC Try.prog 111 = some [(0, 1), (1, 1)] := by kernel_rfl
theorem pc119 : placesC Try.prog 119 = some [(0, 1), (1, 1), (2, 1), (3, 1), (4, 1)] := by kernel_rfl
theorem pc120 : placesC Try.prog 120 = some [(0, 1), (1, 1)] := by kernel_rfl
theorem pc125 : placesC Try.prog 125 = some [(0, 1), (1, 1)] := by kernel_rfl
theorem pc137 : placesC Try.prog 137 = some [(0, 1), (1, 1), (2, 1), (3, 1)] := by kernel_rfl
theorem pc147 : placesC Try.prog 147 = some [(0, 3), (3, 3)] := by kernel_rfl
theorem pc163 : placesC Try.prog 163 = some [(0, 1), (1, 1)] := by kernel_rfl
theorem mz89 : mapZ Try.prog 89 = some (.int .i64 0) := by kernel_rfl
theorem mz98 : mapZ Try.prog 98 = some (.agg #[.int .i64 0, .int .i64 0, .slice none 0 0]) := by kernel_rfl
theorem is9 : isStrT Try.prog 9 = true := by kernel_rfl
theorem bt4 : isBoolT Try.prog 4 = true := by kernel_rfl
theorem pt25 : isPtrT Try.prog 25 = true := by kernel_rfl
theorem pt67 : isPtrT Try.prog 67 = true := by kernel_rfl
theorem pt113 : isPtrT Try.prog 113 = true := by kernel_rfl
theorem ln22 : lenT Try.prog 22 = some true := by kernel_rfl
theorem ln27 : lenT Try.prog 27 = some true := by kernel_rfl
theorem ln28 : lenT Try.prog 28 = some true := by kernel_rfl
theorem ln53 : lenT Try.prog 53 = some true := by kernel_rfl
theorem ln61 : lenT Try.prog 61 = some true := by kernel_rfl
theorem ln77 : lenT Try.prog 77 = some true := by kernel_rfl
theorem ln88 : lenT Try.prog 88 = some true := by kernel_rfl
theorem ln109 : lenT Try.prog 109 = some true := by kernel_rfl
theorem ln121 : lenT Try.prog 121 = some true := by kernel_rfl
theorem ln145 : lenT Try.prog 145 = some true := by kernel_rfl
theorem mixed : Try.prog.follows .mixedOrders = true := by kernel_rfl
theorem tyF : tinf Try.prog 3 = some (false, 1) ∧ tinf Try.prog 4 = some (false, 1) ∧ tinf Try.prog 5 = some (false, 1) ∧ tinf Try.prog 22 = some (false, 1) ∧ tinf Try.prog 25 = some (false, 1) ∧ tinf Try.prog 27 = some (false, 1) ∧ tinf Try.prog 28 = some (false, 1) ∧ tinf Try.prog 32 = some (true, 3) ∧ tinf Try.prog 38 = some (true, 4) ∧ tinf Try.prog 67 = some (false, 1) ∧ tinf Try.prog 73 = some (true, 8) ∧ tinf Try.prog 82 = some (false, 1) ∧ tinf Try.prog 87 = some (true, 4) ∧ tinf Try.prog 88 = some (false, 1) ∧ tinf Try.prog 89 = some (false, 1) ∧ tinf Try.prog 98 = some (false, 1) ∧ tinf Try.prog 109 = some (false, 1) ∧ tinf Try.prog 111 = some (true, 2) ∧ tinf Try.prog 113 = some (false, 1) ∧ tinf Try.prog 120 = some (true, 2) ∧ tinf Try.prog 147 = some (true, 6) ∧ tinf Try.prog 161 = some (false, 1) ∧ tinf Try.prog 166 = some (false, 1) ∧ fieldOff Try.prog 32 0 = some 0 ∧ fieldOff Try.prog 32 1 = some 1 ∧ fieldOff Try.prog 32 2 = some 2 ∧ fieldOff Try.prog 38 0 = some 0 ∧ fieldOff Try.prog 38 1 = some 3 ∧ fieldOff Try.prog 73 0 = some 0 ∧ fieldOff Try.prog 73 1 = some 3 ∧ fieldOff Try.prog 87 0 = some 0 ∧ fieldOff Try.prog 87 1 = some 1 ∧ fieldOff Try.prog 87 2 = some 2 ∧ fieldOff Try.prog 87 3 = some 3 ∧ fieldOff Try.prog 91 0 = some 0 ∧ fieldOff Try.prog 91 1 = some 1 ∧ fieldOff Try.prog 103 0 = some 0 ∧ fieldOff Try.prog 103 1 = some 1 ∧ fieldOff Try.prog 111 0 = some 0 ∧ fieldOff Try.prog 111 1 = some 1 ∧ fieldOff Try.prog 117 0 = some 0 ∧ fieldOff Try.prog 119 0 = some 0 ∧ fieldOff Try.prog 119 1 = some 1 ∧ fieldOff Try.prog 119 2 = some 2 ∧ fieldOff Try.prog 119 3 = some 3 ∧ fieldOff Try.prog 119 4 = some 4 ∧ fieldOff Try.prog 125 0 = some 0 ∧ fieldOff Try.prog 125 1 = some 1 ∧ fieldOff Try.prog 137 0 = some 0 ∧ fieldOff Try.prog 137 1 = some 1 ∧ fieldOff Try.prog 137 2 = some 2 ∧ fieldOff Try.prog 137 3 = some 3 ∧ fieldOff Try.prog 147 0 = some 0 ∧ fieldOff Try.prog 147 1 = some 3 ∧ fieldOff Try.prog 163 0 = some 0 ∧ fieldOff Try.prog 163 1 = some 1 ∧ elemSz Try.prog 22 = some 3 ∧ elemSz Try.prog 27 = some 4 ∧ elemSz Try.prog 28 = some 1 ∧ elemSz Try.prog 53 = some 4 ∧ elemSz Try.prog 61 = some 8 ∧ elemSz Try.prog 77 = some 1 ∧ elemSz Try.prog 88 = some 4 ∧ elemSz Try.prog 109 = some 1 ∧ elemSz Try.prog 121 = some 2 ∧ elemSz Try.prog 145 = some 6 ∧ elemSz Try.prog 120 = none ∧ arrSz Try.prog 120 = some (2, 1) ∧ elemInf Try.prog 22 = some (32, 3, 40) ∧ elemInf Try.prog 27 = some (38, 4, 64) ∧ elemInf Try.prog 28 = some (3, 1, 8) ∧ elemInf Try.prog 53 = some (103, 4, 48) ∧ elemInf Try.prog 61 = some (73, 8, 96) ∧ elemInf Try.prog 88 = some (87, 4, 48) ∧ elemInf Try.prog 109 = some (3, 1, 8) ∧ elemInf Try.prog 121 = some (120, 2, 16) ∧ elemInf Try.prog 145 = some (147, 6, 80) ∧ isArrT Try.prog 3 = false ∧ isArrT Try.prog 32 = false ∧ isArrT Try.prog 38 = false ∧ isArrT Try.prog 73 = false ∧ isArrT Try.prog 87 = false ∧ isArrT Try.prog 103 = false ∧ isArrT Try.prog 120 = true ∧ isArrT Try.prog 147 = false ∧ zeroC Try.prog 3 = some [.int .i64 0] ∧ zeroC Try.prog 28 = some [.slice none 0 0] ∧ zeroC Try.prog 32 = some [.int .i64 0, .int .i64 0, .slice none 0 0] ∧ zeroC Try.prog 38 = some [.int .i64 0, .int .i64 0, .slice none 0 0, .slice none 0 0] ∧ zeroC Try.prog 73 = some [.int .i64 0, .int .i64 0, .slice none 0 0, .int .i64 0, .int .i64 0, .slice none 0 0, .int .i64 0, .int .i64 0] ∧ zeroC Try.prog 82 = some [.nilFunc] ∧ zeroC Try.prog 87 = some [.int .i64 0, .int .i64 0, .int .i64 0, .slice none 0 0] ∧ zeroC Try.prog 89 = some [.map none] ∧ zeroC Try.prog 91 = some [.slice none 0 0, .map none] ∧ zeroC Try.prog 103 = some [.int .i64 0, .int .i64 0, .int .i64 0, .slice none 0 0] ∧ zeroC Try.prog 111 = some [.slice none 0 0, .slice none 0 0] ∧ zeroC Try.prog 119 = some [.int .i64 0, .pointer none, .pointer none, .slice none 0 0, .bool false] ∧ zeroC Try.prog 120 = some [.int .i64 0, .int .i64 0] ∧ zeroC Try.prog 125 = some [.pointer none, .int .i64 0] ∧ zeroC Try.prog 137 = some [.slice none 0 0, .slice none 0 0, .int .i64 0, .int .i64 0] ∧ zeroC Try.prog 147 = some [.int .i64 0, .int .i64 0, .slice none 0 0, .int .i64 0, .int .i64 0, .slice none 0 0] ∧ zeroC Try.prog 163 = some [.map none, .slice none 0 0] ∧ zeroC Try.prog 166 = some [.int .u64 0] ∧ placesC Try.prog 32 = some [(0, 1), (1, 1), (2, 1)] ∧ placesC Try.prog 38 = some [(0, 3), (3, 1)] ∧ placesC Try.prog 87 = some [(0, 1), (1, 1), (2, 1), (3, 1)] ∧ placesC Try.prog 91 = some [(0, 1), (1, 1)] ∧ placesC Try.prog 103 = some [(0, 1), (1, 3)] ∧ placesC Try.prog 111 = some [(0, 1), (1, 1)] ∧ placesC Try.prog 119 = some [(0, 1), (1, 1), (2, 1), (3, 1), (4, 1)] ∧ placesC Try.prog 120 = some [(0, 1), (1, 1)] ∧ placesC Try.prog 125 = some [(0, 1), (1, 1)] ∧ placesC Try.prog 137 = some [(0, 1), (1, 1), (2, 1), (3, 1)] ∧ placesC Try.prog 147 = some [(0, 3), (3, 3)] ∧ placesC Try.prog 163 = some [(0, 1), (1, 1)] ∧ mapZ Try.prog 89 = some (.int .i64 0) ∧ mapZ Try.prog 98 = some (.agg #[.int .i64 0, .int .i64 0, .slice none 0 0]) ∧ isStrT Try.prog 9 = true ∧ isBoolT Try.prog 4 = true ∧ isPtrT Try.prog 25 = true ∧ isPtrT Try.prog 67 = true ∧ isPtrT Try.prog 113 = true ∧ lenT Try.prog 22 = some true ∧ lenT Try.prog 27 = some true ∧ lenT Try.prog 28 = some true ∧ lenT Try.prog 53 = some true ∧ lenT Try.prog 61 = some true ∧ lenT Try.prog 77 = some true ∧ lenT Try.prog 88 = some true ∧ lenT Try.prog 109 = some true ∧ lenT Try.prog 121 = some true ∧ lenT Try.prog 145 = some true :=
  ⟨ti3, ti4, ti5, ti22, ti25, ti27, ti28, ti32, ti38, ti67, ti73, ti82, ti87, ti88, ti89, ti98, ti109, ti111, ti113, ti120, ti147, ti161, ti166, fo32_0, fo32_1, fo32_2, fo38_0, fo38_1, fo73_0, fo73_1, fo87_0, fo87_1, fo87_2, fo87_3, fo91_0, fo91_1, fo103_0, fo103_1, fo111_0, fo111_1, fo117_0, fo119_0, fo119_1, fo119_2, fo119_3, fo119_4, fo125_0, fo125_1, fo137_0, fo137_1, fo137_2, fo137_3, fo147_0, fo147_1, fo163_0, fo163_1, es22, es27, es28, es53, es61, es77, es88, es109, es121, es145, es120, ar120, ei22, ei27, ei28, ei53, ei61, ei88, ei109, ei121, ei145, ia3, ia32, ia38, ia73, ia87, ia103, ia120, ia147, zc3, zc28, zc32, zc38, zc73, zc82, zc87, zc89, zc91, zc103, zc111, zc119, zc120, zc125, zc137, zc147, zc163, zc166, pc32, pc38, pc87, pc91, pc103, pc111, pc119, pc120, pc125, pc137, pc147, pc163, mz89, mz98, is9, bt4, pt25, pt67, pt113, ln22, ln27, ln28, ln53, ln61, ln77, ln88, ln109, ln121, ln145⟩
end Go.Proofs.Ytohdoloalolpfaa

/- Texts of the abstract walk, of the contracts and of the plain laws, packed (part 21 of 50): Fx. Conditions: none. -/
import Derived.Test.YtjjjckjebkmnjaaGreatPk20
import Derived.Test.YtjjjckjebkmnjaaGreatProg
set_option linter.unusedVariables false
set_option linter.unusedSimpArgs false
namespace Go.Proofs.YtjjjckjebkmnjaaGreat
open Go
theorem ti3:zdk Tryz.prog 3=some (false,1):=by kernel_rfl
theorem ti4:zdk Tryz.prog 4=some (false,1):=by kernel_rfl
theorem ti26:zdk Tryz.prog 26=some (false,1):=by kernel_rfl
theorem ti29:zdk Tryz.prog 29=some (false,1):=by kernel_rfl
theorem ti30:zdk Tryz.prog 30=some (false,1):=by kernel_rfl
theorem ti31:zdk Tryz.prog 31=some (false,1):=by kernel_rfl
theorem ti33:zdk Tryz.prog 33=some (true,2):=by kernel_rfl
theorem ti45:zdk Tryz.prog 45=some (false,1):=by kernel_rfl
theorem ti47:zdk Tryz.prog 47=some (true,3):=by kernel_rfl
theorem ti51:zdk Tryz.prog 51=some (true,8):=by kernel_rfl
theorem ti69:zdk Tryz.prog 69=some (true,2):=by kernel_rfl
theorem ti73:zdk Tryz.prog 73=some (true,4):=by kernel_rfl
theorem ti75:zdk Tryz.prog 75=some (false,1):=by kernel_rfl
theorem ti77:zdk Tryz.prog 77=some (false,1):=by kernel_rfl
theorem ti78:zdk Tryz.prog 78=some (false,1):=by kernel_rfl
theorem ti79:zdk Tryz.prog 79=some (false,1):=by kernel_rfl
theorem ti84:zdk Tryz.prog 84=some (true,2):=by kernel_rfl
theorem ti90:zdk Tryz.prog 90=some (false,1):=by kernel_rfl
theorem ti93:zdk Tryz.prog 93=some (false,1):=by kernel_rfl
theorem ti108:zdk Tryz.prog 108=some (false,1):=by kernel_rfl
theorem ti112:zdk Tryz.prog 112=some (false,1):=by kernel_rfl
theorem ti124:zdk Tryz.prog 124=some (true,3):=by kernel_rfl
theorem ti133:zdk Tryz.prog 133=some (true,4):=by kernel_rfl
theorem ti155:zdk Tryz.prog 155=some (false,1):=by kernel_rfl
theorem fo33_0:zaS Tryz.prog 33 0=some 0:=by kernel_rfl
theorem fo33_1:zaS Tryz.prog 33 1=some 1:=by kernel_rfl
theorem fo47_0:zaS Tryz.prog 47 0=some 0:=by kernel_rfl
theorem fo47_1:zaS Tryz.prog 47 1=some 1:=by kernel_rfl
theorem fo47_2:zaS Tryz.prog 47 2=some 2:=by kernel_rfl
theorem fo51_0:zaS Tryz.prog 51 0=some 0:=by kernel_rfl
theorem fo51_1:zaS Tryz.prog 51 1=some 3:=by kernel_rfl
theorem fo73_0:zaS Tryz.prog 73 0=some 0:=by kernel_rfl
theorem fo73_1:zaS Tryz.prog 73 1=some 3:=by kernel_rfl
theorem fo81_0:zaS Tryz.prog 81 0=some 0:=by kernel_rfl
theorem fo81_1:zaS Tryz.prog 81 1=some 1:=by kernel_rfl
theorem fo81_2:zaS Tryz.prog 81 2=some 2:=by kernel_rfl
theorem fo81_3:zaS Tryz.prog 81 3=some 3:=by kernel_rfl
theorem fo81_4:zaS Tryz.prog 81 4=some 4:=by kernel_rfl
theorem fo81_5:zaS Tryz.prog 81 5=some 5:=by kernel_rfl
theorem fo84_0:zaS Tryz.prog 84 0=some 0:=by kernel_rfl
theorem fo84_1:zaS Tryz.prog 84 1=some 1:=by kernel_rfl
theorem fo96_0:zaS Tryz.prog 96 0=some 0:=by kernel_rfl
theorem fo98_0:zaS Tryz.prog 98 0=some 0:=by kernel_rfl
theorem fo98_1:zaS Tryz.prog 98 1=some 1:=by kernel_rfl
theorem fo98_2:zaS Tryz.prog 98 2=some 2:=by kernel_rfl
theorem fo98_3:zaS Tryz.prog 98 3=some 3:=by kernel_rfl
theorem fo98_4:zaS Tryz.prog 98 4=some 4:=by kernel_rfl
theorem fo111_0:zaS Tryz.prog 111 0=some 0:=by kernel_rfl
theorem fo111_1:zaS Tryz.prog 111 1=some 1:=by kernel_rfl
theorem fo111_2:zaS Tryz.prog 111 2=some 2:=by kernel_rfl
theorem fo111_3:zaS Tryz.prog 111 3=some 3:=by kernel_rfl
theorem fo114_0:zaS Tryz.prog 114 0=some 0:=by kernel_rfl
theorem fo114_1:zaS Tryz.prog 114 1=some 1:=by kernel_rfl
theorem fo124_0:zaS Tryz.prog 124 0=some 0:=by kernel_rfl
theorem fo124_1:zaS Tryz.prog 124 1=some 1:=by kernel_rfl
theorem fo124_2:zaS Tryz.prog 124 2=some 2:=by kernel_rfl
theorem fo133_0:zaS Tryz.prog 133 0=some 0:=by kernel_rfl
theorem fo133_2:zaS Tryz.prog 133 2=some 2:=by kernel_rfl
theorem fo133_3:zaS Tryz.prog 133 3=some 3:=by kernel_rfl
theorem es22:zb1 Tryz.prog 22=some 8:=by kernel_rfl
theorem es29:zb1 Tryz.prog 29=some 4:=by kernel_rfl
theorem es30:zb1 Tryz.prog 30=some 1:=by kernel_rfl
theorem es31:zb1 Tryz.prog 31=some 1:=by kernel_rfl
theorem es45:zb1 Tryz.prog 45=some 3:=by kernel_rfl
theorem es66:zb1 Tryz.prog 66=some 2:=by kernel_rfl
theorem es108:zb1 Tryz.prog 108=some 2:=by kernel_rfl
theorem es112:zb1 Tryz.prog 112=some 4:=by kernel_rfl
theorem es126:zb1 Tryz.prog 126=some 3:=by kernel_rfl
theorem es69:zb1 Tryz.prog 69=none:=by kernel_rfl
theorem ar69:arrSz Tryz.prog 69=some (2,1):=by kernel_rfl
theorem ei22:zbx Tryz.prog 22=some (51,8,96):=by kernel_rfl
theorem ei29:zbx Tryz.prog 29=some (73,4,64):=by kernel_rfl
theorem ei30:zbx Tryz.prog 30=some (3,1,8):=by kernel_rfl
theorem ei31:zbx Tryz.prog 31=some (3,1,8):=by kernel_rfl
theorem ei45:zbx Tryz.prog 45=some (47,3,40):=by kernel_rfl
theorem ei66:zbx Tryz.prog 66=some (69,2,16):=by kernel_rfl
theorem ei108:zbx Tryz.prog 108=some (84,2,16):=by kernel_rfl
theorem ei112:zbx Tryz.prog 112=some (133,4,48):=by kernel_rfl
theorem ei126:zbx Tryz.prog 126=some (124,3,40):=by kernel_rfl
theorem ia3:zdM Tryz.prog 3=false:=by kernel_rfl
theorem ia47:zdM Tryz.prog 47=false:=by kernel_rfl
theorem ia51:zdM Tryz.prog 51=false:=by kernel_rfl
theorem ia69:zdM Tryz.prog 69=true:=by kernel_rfl
theorem ia73:zdM Tryz.prog 73=false:=by kernel_rfl
theorem ia84:zdM Tryz.prog 84=false:=by kernel_rfl
theorem ia124:zdM Tryz.prog 124=true:=by kernel_rfl
theorem ia133:zdM Tryz.prog 133=false:=by kernel_rfl
theorem zc3:zcf Tryz.prog 3=some [.int .i64 0]:=by kernel_rfl
theorem zc30:zcf Tryz.prog 30=some [.slice none 0 0]:=by kernel_rfl
theorem zc33:zcf Tryz.prog 33=some [.slice none 0 0,.slice none 0 0]:=by kernel_rfl
theorem zc47:zcf Tryz.prog 47=some [.int .i64 0,.int .i64 0,.slice none 0 0]:=by kernel_rfl
theorem zc69:zcf Tryz.prog 69=some [.int .i64 0,.int .i64 0]:=by kernel_rfl
theorem zc73:zcf Tryz.prog 73=some [.int .i64 0,.int .i64 0,.slice none 0 0,.slice none 0 0]:=by kernel_rfl
theorem zc75:zcf Tryz.prog 75=some [.pointer none]:=by kernel_rfl
theorem zc81:zcf Tryz.prog 81=some [.map none,.map none,.map none,.map none,.int .i64 0,.bool false]:=by kernel_rfl
theorem zc84:zcf Tryz.prog 84=some [.pointer none,.int .i64 0]:=by kernel_rfl
theorem zc98:zcf Tryz.prog 98=some [.int .i64 0,.pointer none,.pointer none,.slice none 0 0,.bool false]:=by kernel_rfl
theorem zc111:zcf Tryz.prog 111=some [.slice none 0 0,.slice none 0 0,.int .i64 0,.int .i64 0]:=by kernel_rfl
theorem zc114:zcf Tryz.prog 114=some [.slice none 0 0,.map none]:=by kernel_rfl
theorem zc124:zcf Tryz.prog 124=some [.int .i64 0,.slice none 0 0,.int .i64 0]:=by kernel_rfl
theorem zc133:zcf Tryz.prog 133=some [.int .i64 0,.int .i64 0,.int .i64 0,.slice none 0 0]:=by kernel_rfl
theorem zc155:zcf Tryz.prog 155=some [.int .u64 0]:=by kernel_rfl
theorem pc33:zb4 Tryz.prog 33=some [(0,1),(1,1)]:=by kernel_rfl
theorem pc47:zb4 Tryz.prog 47=some [(0,1),(1,1),(2,1)]:=by kernel_rfl
theorem pc69:zb4 Tryz.prog 69=some [(0,1),(1,1)]:=by kernel_rfl
theorem pc73:zb4 Tryz.prog 73=some [(0,3),(3,1)]:=by kernel_rfl
theorem pc81:zb4 Tryz.prog 81=some [(0,1),(1,1),(2,1),(3,1),(4,1),(5,1)]:=by kernel_rfl
theorem pc84:zb4 Tryz.prog 84=some [(0,1),(1,1)]:=by kernel_rfl
theorem pc98:zb4 Tryz.prog 98=some [(0,1),(1,1),(2,1),(3,1),(4,1)]:=by kernel_rfl
theorem pc111:zb4 Tryz.prog 111=some [(0,1),(1,1),(2,1),(3,1)]:=by kernel_rfl
theorem pc114:zb4 Tryz.prog 114=some [(0,1),(1,1)]:=by kernel_rfl
theorem pc124:zb4 Tryz.prog 124=some [(0,1),(1,1),(2,1)]:=by kernel_rfl
theorem pc133:zb4 Tryz.prog 133=some [(0,1),(1,1),(2,1),(3,1)]:=by kernel_rfl
theorem mz77:mapZ Tryz.prog 77=some (.int .i64 0):=by kernel_rfl
theorem mz78:mapZ Tryz.prog 78=some (.bool false):=by kernel_rfl
theorem mz79:mapZ Tryz.prog 79=some (.int .i64 0):=by kernel_rfl
theorem is9:zgl Tryz.prog 9=true:=by kernel_rfl
theorem iT3:intT Tryz.prog 3=some .i64:=by kernel_rfl
theorem iT5:intT Tryz.prog 5=some .u8:=by kernel_rfl
theorem iT143:intT Tryz.prog 143=some .u64:=by kernel_rfl
theorem iT152:intT Tryz.prog 152=some .u32:=by kernel_rfl
theorem iT154:intT Tryz.prog 154=some .u64:=by kernel_rfl
theorem iT155:intT Tryz.prog 155=some .u64:=by kernel_rfl
theorem bt4:zfY Tryz.prog 4=true:=by kernel_rfl
theorem pt26:ze0 Tryz.prog 26=true:=by kernel_rfl
theorem pt90:ze0 Tryz.prog 90=true:=by kernel_rfl
theorem pt93:ze0 Tryz.prog 93=true:=by kernel_rfl
theorem ln22:zf5 Tryz.prog 22=some true:=by kernel_rfl
theorem ln29:zf5 Tryz.prog 29=some true:=by kernel_rfl
theorem ln30:zf5 Tryz.prog 30=some true:=by kernel_rfl
theorem ln31:zf5 Tryz.prog 31=some true:=by kernel_rfl
theorem ln45:zf5 Tryz.prog 45=some true:=by kernel_rfl
theorem ln66:zf5 Tryz.prog 66=some true:=by kernel_rfl
theorem ln108:zf5 Tryz.prog 108=some true:=by kernel_rfl
theorem ln112:zf5 Tryz.prog 112=some true:=by kernel_rfl
theorem ln126:zf5 Tryz.prog 126=some true:=by kernel_rfl
theorem mixed:Tryz.prog.follows .mixedOrders=true:=by kernel_rfl
attribute [go_sem] ti3 ti4 ti26 ti29 ti30 ti31 ti33 ti45 ti47 ti51 ti69 ti73 ti75 ti77 ti78 ti79 ti84 ti90 ti93 ti108 ti112 ti124 ti133 ti155 fo33_0 fo33_1 fo47_0 fo47_1 fo47_2 fo51_0 fo51_1 fo73_0 fo73_1 fo81_0 fo81_1 fo81_2 fo81_3 fo81_4 fo81_5 fo84_0 fo84_1 fo96_0 fo98_0 fo98_1 fo98_2 fo98_3 fo98_4 fo111_0 fo111_1 fo111_2 fo111_3 fo114_0 fo114_1 fo124_0 fo124_1 fo124_2 fo133_0 fo133_2 fo133_3 es22 es29 es30 es31 es45 es66 es108 es112 es126 es69 ar69 ei22 ei29 ei30 ei31 ei45 ei66 ei108 ei112 ei126 ia3 ia47 ia51 ia69 ia73 ia84 ia124 ia133 zc3 zc30 zc33 zc47 zc69 zc73 zc75 zc81 zc84 zc98 zc111 zc114 zc124 zc133 zc155 pc33 pc47 pc69 pc73 pc81 pc84 pc98 pc111 pc114 pc124 pc133 mz77 mz78 mz79 is9 iT3 iT5 iT143 iT152 iT154 iT155 bt4 pt26 pt90 pt93 ln22 ln29 ln30 ln31 ln45 ln66 ln108 ln112 ln126
end Go.Proofs.YtjjjckjebkmnjaaGreat

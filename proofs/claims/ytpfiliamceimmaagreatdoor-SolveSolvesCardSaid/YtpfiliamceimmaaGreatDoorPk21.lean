/- packed, part 21 of 48. Conditions: none. -/
import Derived.Test.YtpfiliamceimmaaGreatDoorPk20
import Derived.Test.YtpfiliamceimmaaGreatDoorProg
set_option linter.unusedVariables false
set_option linter.unusedSimpArgs false
namespace Go.Proofs.YtpfiliamceimmaaGreatDoor
open Go
theorem ti3:zcD Tryz.prog 3=some (false,1):=by kernel_rfl
theorem ti4:zcD Tryz.prog 4=some (false,1):=by kernel_rfl
theorem ti5:zcD Tryz.prog 5=some (false,1):=by kernel_rfl
theorem ti9:zcD Tryz.prog 9=some (false,1):=by kernel_rfl
theorem ti23:zcD Tryz.prog 23=some (false,1):=by kernel_rfl
theorem ti26:zcD Tryz.prog 26=some (false,1):=by kernel_rfl
theorem zeh:zcD Tryz.prog 28=some (true,3):=by kernel_rfl
theorem ti30:zcD Tryz.prog 30=some (true,2):=by kernel_rfl
theorem ti32:zcD Tryz.prog 32=some (true,8):=by kernel_rfl
theorem ti43:zcD Tryz.prog 43=some (true,4):=by kernel_rfl
theorem ti54:zcD Tryz.prog 54=some (false,1):=by kernel_rfl
theorem ti67:zcD Tryz.prog 67=some (false,1):=by kernel_rfl
theorem ti68:zcD Tryz.prog 68=some (false,1):=by kernel_rfl
theorem ti70:zcD Tryz.prog 70=some (true,2):=by kernel_rfl
theorem ti77:zcD Tryz.prog 77=some (false,1):=by kernel_rfl
theorem ti88:zcD Tryz.prog 88=some (false,1):=by kernel_rfl
theorem ti108:zcD Tryz.prog 108=some (true,2):=by kernel_rfl
theorem ti112:zcD Tryz.prog 112=some (true,4):=by kernel_rfl
theorem ti124:zcD Tryz.prog 124=some (false,1):=by kernel_rfl
theorem ti125:zcD Tryz.prog 125=some (false,1):=by kernel_rfl
theorem ti129:zcD Tryz.prog 129=some (false,1):=by kernel_rfl
theorem ti130:zcD Tryz.prog 130=some (false,1):=by kernel_rfl
theorem ti131:zcD Tryz.prog 131=some (false,1):=by kernel_rfl
theorem ti132:zcD Tryz.prog 132=some (false,1):=by kernel_rfl
theorem ti138:zcD Tryz.prog 138=some (true,2):=by kernel_rfl
theorem ti139:zcD Tryz.prog 139=some (false,1):=by kernel_rfl
theorem ti167:zcD Tryz.prog 167=some (false,1):=by kernel_rfl
theorem ti171:zcD Tryz.prog 171=some (false,1):=by kernel_rfl
theorem ti174:zcD Tryz.prog 174=some (false,1):=by kernel_rfl
theorem ti194:zcD Tryz.prog 194=some (true,4):=by kernel_rfl
theorem ti198:zcD Tryz.prog 198=some (true,3):=by kernel_rfl
theorem ti223:zcD Tryz.prog 223=some (false,1):=by kernel_rfl
theorem ti228:zcD Tryz.prog 228=some (false,1):=by kernel_rfl
theorem fo28_0:zau Tryz.prog 28 0=some 0:=by kernel_rfl
theorem fo28_1:zau Tryz.prog 28 1=some 1:=by kernel_rfl
theorem fo28_2:zau Tryz.prog 28 2=some 2:=by kernel_rfl
theorem fo32_0:zau Tryz.prog 32 0=some 0:=by kernel_rfl
theorem fo32_1:zau Tryz.prog 32 1=some 3:=by kernel_rfl
theorem fo32_2:zau Tryz.prog 32 2=some 6:=by kernel_rfl
theorem fo43_0:zau Tryz.prog 43 0=some 0:=by kernel_rfl
theorem fo43_1:zau Tryz.prog 43 1=some 1:=by kernel_rfl
theorem fo70_0:zau Tryz.prog 70 0=some 0:=by kernel_rfl
theorem fo70_1:zau Tryz.prog 70 1=some 1:=by kernel_rfl
theorem fo112_0:zau Tryz.prog 112 0=some 0:=by kernel_rfl
theorem fo112_1:zau Tryz.prog 112 1=some 3:=by kernel_rfl
theorem fo123_0:zau Tryz.prog 123 0=some 0:=by kernel_rfl
theorem fo127_0:zau Tryz.prog 127 0=some 0:=by kernel_rfl
theorem fo127_1:zau Tryz.prog 127 1=some 1:=by kernel_rfl
theorem fo127_2:zau Tryz.prog 127 2=some 2:=by kernel_rfl
theorem fo127_3:zau Tryz.prog 127 3=some 3:=by kernel_rfl
theorem fo127_4:zau Tryz.prog 127 4=some 4:=by kernel_rfl
theorem fo134_0:zau Tryz.prog 134 0=some 0:=by kernel_rfl
theorem fo134_1:zau Tryz.prog 134 1=some 1:=by kernel_rfl
theorem fo134_2:zau Tryz.prog 134 2=some 2:=by kernel_rfl
theorem fo134_3:zau Tryz.prog 134 3=some 3:=by kernel_rfl
theorem fo134_4:zau Tryz.prog 134 4=some 4:=by kernel_rfl
theorem fo134_5:zau Tryz.prog 134 5=some 5:=by kernel_rfl
theorem fo138_0:zau Tryz.prog 138 0=some 0:=by kernel_rfl
theorem fo138_1:zau Tryz.prog 138 1=some 1:=by kernel_rfl
theorem fo141_0:zau Tryz.prog 141 0=some 0:=by kernel_rfl
theorem fo169_0:zau Tryz.prog 169 0=some 0:=by kernel_rfl
theorem fo169_1:zau Tryz.prog 169 1=some 1:=by kernel_rfl
theorem fo176_0:zau Tryz.prog 176 0=some 0:=by kernel_rfl
theorem fo176_1:zau Tryz.prog 176 1=some 1:=by kernel_rfl
theorem fo184_0:zau Tryz.prog 184 0=some 0:=by kernel_rfl
theorem fo184_1:zau Tryz.prog 184 1=some 1:=by kernel_rfl
theorem fo184_2:zau Tryz.prog 184 2=some 2:=by kernel_rfl
theorem fo184_3:zau Tryz.prog 184 3=some 3:=by kernel_rfl
theorem fo194_0:zau Tryz.prog 194 0=some 0:=by kernel_rfl
theorem fo194_2:zau Tryz.prog 194 2=some 2:=by kernel_rfl
theorem fo194_3:zau Tryz.prog 194 3=some 3:=by kernel_rfl
theorem fo198_0:zau Tryz.prog 198 0=some 0:=by kernel_rfl
theorem fo198_1:zau Tryz.prog 198 1=some 1:=by kernel_rfl
theorem fo198_2:zau Tryz.prog 198 2=some 2:=by kernel_rfl
theorem es22:zaW Tryz.prog 22=some 8:=by kernel_rfl
theorem es23:zaW Tryz.prog 23=some 1:=by kernel_rfl
theorem es26:zaW Tryz.prog 26=some 3:=by kernel_rfl
theorem es33:zaW Tryz.prog 33=some 4:=by kernel_rfl
theorem es54:zaW Tryz.prog 54=some 1:=by kernel_rfl
theorem es67:zaW Tryz.prog 67=some 4:=by kernel_rfl
theorem es68:zaW Tryz.prog 68=some 1:=by kernel_rfl
theorem es105:zaW Tryz.prog 105=some 2:=by kernel_rfl
theorem es155:zaW Tryz.prog 155=some 1:=by kernel_rfl
theorem es167:zaW Tryz.prog 167=some 4:=by kernel_rfl
theorem es171:zaW Tryz.prog 171=some 2:=by kernel_rfl
theorem es200:zaW Tryz.prog 200=some 3:=by kernel_rfl
theorem es108:zaW Tryz.prog 108=none:=by kernel_rfl
theorem es224:zaW Tryz.prog 224=none:=by kernel_rfl
theorem es235:zaW Tryz.prog 235=none:=by kernel_rfl
theorem es236:zaW Tryz.prog 236=none:=by kernel_rfl
theorem es240:zaW Tryz.prog 240=none:=by kernel_rfl
theorem es241:zaW Tryz.prog 241=none:=by kernel_rfl
theorem ar108:zgy Tryz.prog 108=some (2,1):=by kernel_rfl
theorem ar224:zgy Tryz.prog 224=some (24,1):=by kernel_rfl
theorem ar235:zgy Tryz.prog 235=some (20,1):=by kernel_rfl
theorem ar236:zgy Tryz.prog 236=some (65,1):=by kernel_rfl
theorem ar240:zgy Tryz.prog 240=some (32,1):=by kernel_rfl
theorem ar241:zgy Tryz.prog 241=some (64,1):=by kernel_rfl
theorem ei22:zaO Tryz.prog 22=some (32,8,96):=by kernel_rfl
theorem ei23:zaO Tryz.prog 23=some (5,1,1):=by kernel_rfl
theorem ei26:zaO Tryz.prog 26=some (28,3,40):=by kernel_rfl
theorem ei33:zaO Tryz.prog 33=some (43,4,48):=by kernel_rfl
theorem ei54:zaO Tryz.prog 54=some (3,1,8):=by kernel_rfl
theorem ei67:zaO Tryz.prog 67=some (112,4,64):=by kernel_rfl
theorem ei68:zaO Tryz.prog 68=some (3,1,8):=by kernel_rfl
theorem ei105:zaO Tryz.prog 105=some (108,2,16):=by kernel_rfl
theorem ei155:zaO Tryz.prog 155=some (9,1,16):=by kernel_rfl
theorem ei167:zaO Tryz.prog 167=some (194,4,48):=by kernel_rfl
theorem ei171:zaO Tryz.prog 171=some (138,2,16):=by kernel_rfl
theorem ei200:zaO Tryz.prog 200=some (198,3,40):=by kernel_rfl
theorem ia3:zcU Tryz.prog 3=false:=by kernel_rfl
theorem ia5:zcU Tryz.prog 5=false:=by kernel_rfl
theorem ia9:zcU Tryz.prog 9=false:=by kernel_rfl
theorem ia28:zcU Tryz.prog 28=false:=by kernel_rfl
theorem ia32:zcU Tryz.prog 32=false:=by kernel_rfl
theorem ia43:zcU Tryz.prog 43=false:=by kernel_rfl
theorem ia108:zcU Tryz.prog 108=true:=by kernel_rfl
theorem ia112:zcU Tryz.prog 112=false:=by kernel_rfl
theorem ia138:zcU Tryz.prog 138=false:=by kernel_rfl
theorem ia194:zcU Tryz.prog 194=false:=by kernel_rfl
theorem ia198:zcU Tryz.prog 198=true:=by kernel_rfl
theorem zc3:zbk Tryz.prog 3=some [.int .i64 0]:=by kernel_rfl
theorem zc4:zbk Tryz.prog 4=some [.bool false]:=by kernel_rfl
theorem zc28:zbk Tryz.prog 28=some [.int .i64 0,.int .i64 0,.slice none 0 0]:=by kernel_rfl
theorem zc30:zbk Tryz.prog 30=some [.int .i64 0,.int .i64 0]:=by kernel_rfl
theorem zc32:zbk Tryz.prog 32=some [.int .i64 0,.int .i64 0,.slice none 0 0,.int .i64 0,.int .i64 0,.slice none 0 0,.int .i64 0,.int .i64 0]:=by kernel_rfl
theorem zc43:zbk Tryz.prog 43=some [.int .i64 0,.int .i64 0,.int .i64 0,.slice none 0 0]:=by kernel_rfl
theorem zc54:zbk Tryz.prog 54=some [.slice none 0 0]:=by kernel_rfl
theorem zc70:zbk Tryz.prog 70=some [.slice none 0 0,.slice none 0 0]:=by kernel_rfl
theorem zc88:zbk Tryz.prog 88=some [.map none]:=by kernel_rfl
theorem zc108:zbk Tryz.prog 108=some [.int .i64 0,.int .i64 0]:=by kernel_rfl
theorem zc112:zbk Tryz.prog 112=some [.int .i64 0,.int .i64 0,.slice none 0 0,.slice none 0 0]:=by kernel_rfl
theorem zc127:zbk Tryz.prog 127=some [.int .i64 0,.pointer none,.pointer none,.slice none 0 0,.bool false]:=by kernel_rfl
theorem zc129:zbk Tryz.prog 129=some [.pointer none]:=by kernel_rfl
theorem zc130:zbk Tryz.prog 130=some [.map none]:=by kernel_rfl
theorem zc134:zbk Tryz.prog 134=some [.map none,.map none,.map none,.map none,.int .i64 0,.bool false]:=by kernel_rfl
theorem zc138:zbk Tryz.prog 138=some [.pointer none,.int .i64 0]:=by kernel_rfl
theorem zc141:zbk Tryz.prog 141=some [.map none]:=by kernel_rfl
theorem zc169:zbk Tryz.prog 169=some [.slice none 0 0,.map none]:=by kernel_rfl
theorem zc176:zbk Tryz.prog 176=some [.pointer none,.slice none 0 0]:=by kernel_rfl
theorem zc184:zbk Tryz.prog 184=some [.slice none 0 0,.slice none 0 0,.int .i64 0,.int .i64 0]:=by kernel_rfl
theorem zc194:zbk Tryz.prog 194=some [.int .i64 0,.int .i64 0,.int .i64 0,.slice none 0 0]:=by kernel_rfl
theorem zc198:zbk Tryz.prog 198=some [.int .i64 0,.slice none 0 0,.int .i64 0]:=by kernel_rfl
theorem zc224:zbk Tryz.prog 224=some [.int .u8 0,.int .u8 0,.int .u8 0,.int .u8 0,.int .u8 0,.int .u8 0,.int .u8 0,.int .u8 0,.int .u8 0,.int .u8 0,.int .u8 0,.int .u8 0,.int .u8 0,.int .u8 0,.int .u8 0,.int .u8 0,.int .u8 0,.int .u8 0,.int .u8 0,.int .u8 0,.int .u8 0,.int .u8 0,.int .u8 0,.int .u8 0]:=by kernel_rfl
theorem zc228:zbk Tryz.prog 228=some [.int .u64 0]:=by kernel_rfl
theorem zc236:zbk Tryz.prog 236=some [.int .u8 0,.int .u8 0,.int .u8 0,.int .u8 0,.int .u8 0,.int .u8 0,.int .u8 0,.int .u8 0,.int .u8 0,.int .u8 0,.int .u8 0,.int .u8 0,.int .u8 0,.int .u8 0,.int .u8 0,.int .u8 0,.int .u8 0,.int .u8 0,.int .u8 0,.int .u8 0,.int .u8 0,.int .u8 0,.int .u8 0,.int .u8 0,.int .u8 0,.int .u8 0,.int .u8 0,.int .u8 0,.int .u8 0,.int .u8 0,.int .u8 0,.int .u8 0,.int .u8 0,.int .u8 0,.int .u8 0,.int .u8 0,.int .u8 0,.int .u8 0,.int .u8 0,.int .u8 0,.int .u8 0,.int .u8 0,.int .u8 0,.int .u8 0,.int .u8 0,.int .u8 0,.int .u8 0,.int .u8 0,.int .u8 0,.int .u8 0,.int .u8 0,.int .u8 0,.int .u8 0,.int .u8 0,.int .u8 0,.int .u8 0,.int .u8 0,.int .u8 0,.int .u8 0,.int .u8 0,.int .u8 0,.int .u8 0,.int .u8 0,.int .u8 0,.int .u8 0]:=by kernel_rfl
theorem pc28:zbq Tryz.prog 28=some [(0,1),(1,1),(2,1)]:=by kernel_rfl
theorem pc30:zbq Tryz.prog 30=some [(0,1),(1,1)]:=by kernel_rfl
theorem pc32:zbq Tryz.prog 32=some [(0,3),(3,3),(6,2)]:=by kernel_rfl
theorem pc43:zbq Tryz.prog 43=some [(0,1),(1,3)]:=by kernel_rfl
theorem pc70:zbq Tryz.prog 70=some [(0,1),(1,1)]:=by kernel_rfl
theorem pc108:zbq Tryz.prog 108=some [(0,1),(1,1)]:=by kernel_rfl
theorem pc112:zbq Tryz.prog 112=some [(0,3),(3,1)]:=by kernel_rfl
theorem pc127:zbq Tryz.prog 127=some [(0,1),(1,1),(2,1),(3,1),(4,1)]:=by kernel_rfl
theorem pc134:zbq Tryz.prog 134=some [(0,1),(1,1),(2,1),(3,1),(4,1),(5,1)]:=by kernel_rfl
theorem pc138:zbq Tryz.prog 138=some [(0,1),(1,1)]:=by kernel_rfl
theorem pc141:zbq Tryz.prog 141=some [(0,1)]:=by kernel_rfl
theorem pc169:zbq Tryz.prog 169=some [(0,1),(1,1)]:=by kernel_rfl
theorem pc184:zbq Tryz.prog 184=some [(0,1),(1,1),(2,1),(3,1)]:=by kernel_rfl
theorem pc194:zbq Tryz.prog 194=some [(0,1),(1,1),(2,1),(3,1)]:=by kernel_rfl
theorem pc198:zbq Tryz.prog 198=some [(0,1),(1,1),(2,1)]:=by kernel_rfl
theorem mz88:mapZ Tryz.prog 88=some (.agg #[.int .i64 0,.int .i64 0,.slice none 0 0]):=by kernel_rfl
theorem mz130:mapZ Tryz.prog 130=some (.int .i64 0):=by kernel_rfl
theorem mz131:mapZ Tryz.prog 131=some (.int .i64 0):=by kernel_rfl
theorem mz132:mapZ Tryz.prog 132=some (.bool false):=by kernel_rfl
theorem is9:zgj Tryz.prog 9=true:=by kernel_rfl
theorem iT2:intT Tryz.prog 2=some .i64:=by kernel_rfl
theorem iT3:intT Tryz.prog 3=some .i64:=by kernel_rfl
theorem iT5:intT Tryz.prog 5=some .u8:=by kernel_rfl
theorem iT21:intT Tryz.prog 21=some .i32:=by kernel_rfl
theorem iT207:intT Tryz.prog 207=some .u64:=by kernel_rfl
theorem iT221:intT Tryz.prog 221=some .u32:=by kernel_rfl
theorem iT223:intT Tryz.prog 223=some .u64:=by kernel_rfl
theorem iT228:intT Tryz.prog 228=some .u64:=by kernel_rfl
theorem bt4:zgd Tryz.prog 4=true:=by kernel_rfl
theorem i2t30:isI2T Tryz.prog 30=true:=by kernel_rfl
theorem pt77:zdV Tryz.prog 77=true:=by kernel_rfl
theorem pt124:zdV Tryz.prog 124=true:=by kernel_rfl
theorem pt125:zdV Tryz.prog 125=true:=by kernel_rfl
theorem pt174:zdV Tryz.prog 174=true:=by kernel_rfl
theorem ln9:ze3 Tryz.prog 9=some false:=by kernel_rfl
theorem ln22:ze3 Tryz.prog 22=some true:=by kernel_rfl
theorem ln23:ze3 Tryz.prog 23=some true:=by kernel_rfl
theorem ln26:ze3 Tryz.prog 26=some true:=by kernel_rfl
theorem ln33:ze3 Tryz.prog 33=some true:=by kernel_rfl
theorem ln54:ze3 Tryz.prog 54=some true:=by kernel_rfl
theorem ln67:ze3 Tryz.prog 67=some true:=by kernel_rfl
theorem ln68:ze3 Tryz.prog 68=some true:=by kernel_rfl
theorem ln105:ze3 Tryz.prog 105=some true:=by kernel_rfl
theorem ln155:ze3 Tryz.prog 155=some true:=by kernel_rfl
theorem ln167:ze3 Tryz.prog 167=some true:=by kernel_rfl
theorem ln171:ze3 Tryz.prog 171=some true:=by kernel_rfl
theorem ln200:ze3 Tryz.prog 200=some true:=by kernel_rfl
theorem mixed:Tryz.prog.follows .mixedOrders=true:=by kernel_rfl
attribute [go_sem] ti3 ti4 ti5 ti9 ti23 ti26 zeh ti30 ti32 ti43 ti54 ti67 ti68 ti70 ti77 ti88 ti108 ti112 ti124 ti125 ti129 ti130 ti131 ti132 ti138 ti139 ti167 ti171 ti174 ti194 ti198 ti223 ti228 fo28_0 fo28_1 fo28_2 fo32_0 fo32_1 fo32_2 fo43_0 fo43_1 fo70_0 fo70_1 fo112_0 fo112_1 fo123_0 fo127_0 fo127_1 fo127_2 fo127_3 fo127_4 fo134_0 fo134_1 fo134_2 fo134_3 fo134_4 fo134_5 fo138_0 fo138_1 fo141_0 fo169_0 fo169_1 fo176_0 fo176_1 fo184_0 fo184_1 fo184_2 fo184_3 fo194_0 fo194_2 fo194_3 fo198_0 fo198_1 fo198_2 es22 es23 es26 es33 es54 es67 es68 es105 es155 es167 es171 es200 es108 es224 es235 es236 es240 es241 ar108 ar224 ar235 ar236 ar240 ar241 ei22 ei23 ei26 ei33 ei54 ei67 ei68 ei105 ei155 ei167 ei171 ei200 ia3 ia5 ia9 ia28 ia32 ia43 ia108 ia112 ia138 ia194 ia198 zc3 zc4 zc28 zc30 zc32 zc43 zc54 zc70 zc88 zc108 zc112 zc127 zc129 zc130 zc134 zc138 zc141 zc169 zc176 zc184 zc194 zc198 zc224 zc228 zc236 pc28 pc30 pc32 pc43 pc70 pc108 pc112 pc127 pc134 pc138 pc141 pc169 pc184 pc194 pc198 mz88 mz130 mz131 mz132 is9 iT2 iT3 iT5 iT21 iT207 iT221 iT223 iT228 bt4 i2t30 pt77 pt124 pt125 pt174 ln9 ln22 ln23 ln26 ln33 ln54 ln67 ln68 ln105 ln155 ln167 ln171 ln200
end Go.Proofs.YtpfiliamceimmaaGreatDoor

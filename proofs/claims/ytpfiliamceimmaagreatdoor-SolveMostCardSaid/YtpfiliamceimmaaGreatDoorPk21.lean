/- packed, part 21 of 47. Conditions: none. -/
import Derived.Test.YtpfiliamceimmaaGreatDoorPk20
import Derived.Test.YtpfiliamceimmaaGreatDoorProg
set_option linter.unusedVariables false
set_option linter.unusedSimpArgs false
namespace Go.Proofs.YtpfiliamceimmaaGreatDoor
open Go
theorem ti3:zcs Tryz.prog 3=some (false,1):=by kernel_rfl
theorem ti4:zcs Tryz.prog 4=some (false,1):=by kernel_rfl
theorem ti5:zcs Tryz.prog 5=some (false,1):=by kernel_rfl
theorem ti9:zcs Tryz.prog 9=some (false,1):=by kernel_rfl
theorem ti23:zcs Tryz.prog 23=some (false,1):=by kernel_rfl
theorem ti26:zcs Tryz.prog 26=some (false,1):=by kernel_rfl
theorem zgg:zcs Tryz.prog 28=some (true,3):=by kernel_rfl
theorem ti30:zcs Tryz.prog 30=some (true,2):=by kernel_rfl
theorem ti32:zcs Tryz.prog 32=some (true,8):=by kernel_rfl
theorem ti43:zcs Tryz.prog 43=some (true,4):=by kernel_rfl
theorem ti54:zcs Tryz.prog 54=some (false,1):=by kernel_rfl
theorem ti67:zcs Tryz.prog 67=some (false,1):=by kernel_rfl
theorem ti68:zcs Tryz.prog 68=some (false,1):=by kernel_rfl
theorem ti70:zcs Tryz.prog 70=some (true,2):=by kernel_rfl
theorem ti77:zcs Tryz.prog 77=some (false,1):=by kernel_rfl
theorem ti88:zcs Tryz.prog 88=some (false,1):=by kernel_rfl
theorem ti108:zcs Tryz.prog 108=some (true,2):=by kernel_rfl
theorem ti112:zcs Tryz.prog 112=some (true,4):=by kernel_rfl
theorem ti124:zcs Tryz.prog 124=some (false,1):=by kernel_rfl
theorem ti125:zcs Tryz.prog 125=some (false,1):=by kernel_rfl
theorem ti129:zcs Tryz.prog 129=some (false,1):=by kernel_rfl
theorem ti130:zcs Tryz.prog 130=some (false,1):=by kernel_rfl
theorem ti131:zcs Tryz.prog 131=some (false,1):=by kernel_rfl
theorem ti132:zcs Tryz.prog 132=some (false,1):=by kernel_rfl
theorem ti138:zcs Tryz.prog 138=some (true,2):=by kernel_rfl
theorem ti139:zcs Tryz.prog 139=some (false,1):=by kernel_rfl
theorem ti167:zcs Tryz.prog 167=some (false,1):=by kernel_rfl
theorem ti171:zcs Tryz.prog 171=some (false,1):=by kernel_rfl
theorem ti174:zcs Tryz.prog 174=some (false,1):=by kernel_rfl
theorem ti194:zcs Tryz.prog 194=some (true,4):=by kernel_rfl
theorem ti198:zcs Tryz.prog 198=some (true,3):=by kernel_rfl
theorem ti223:zcs Tryz.prog 223=some (false,1):=by kernel_rfl
theorem ti228:zcs Tryz.prog 228=some (false,1):=by kernel_rfl
theorem fo28_0:zar Tryz.prog 28 0=some 0:=by kernel_rfl
theorem fo28_1:zar Tryz.prog 28 1=some 1:=by kernel_rfl
theorem fo28_2:zar Tryz.prog 28 2=some 2:=by kernel_rfl
theorem fo32_0:zar Tryz.prog 32 0=some 0:=by kernel_rfl
theorem fo32_1:zar Tryz.prog 32 1=some 3:=by kernel_rfl
theorem fo32_2:zar Tryz.prog 32 2=some 6:=by kernel_rfl
theorem fo43_0:zar Tryz.prog 43 0=some 0:=by kernel_rfl
theorem fo43_1:zar Tryz.prog 43 1=some 1:=by kernel_rfl
theorem fo70_0:zar Tryz.prog 70 0=some 0:=by kernel_rfl
theorem fo70_1:zar Tryz.prog 70 1=some 1:=by kernel_rfl
theorem fo112_0:zar Tryz.prog 112 0=some 0:=by kernel_rfl
theorem fo112_1:zar Tryz.prog 112 1=some 3:=by kernel_rfl
theorem fo123_0:zar Tryz.prog 123 0=some 0:=by kernel_rfl
theorem fo127_0:zar Tryz.prog 127 0=some 0:=by kernel_rfl
theorem fo127_1:zar Tryz.prog 127 1=some 1:=by kernel_rfl
theorem fo127_2:zar Tryz.prog 127 2=some 2:=by kernel_rfl
theorem fo127_3:zar Tryz.prog 127 3=some 3:=by kernel_rfl
theorem fo127_4:zar Tryz.prog 127 4=some 4:=by kernel_rfl
theorem fo134_0:zar Tryz.prog 134 0=some 0:=by kernel_rfl
theorem fo134_1:zar Tryz.prog 134 1=some 1:=by kernel_rfl
theorem fo134_2:zar Tryz.prog 134 2=some 2:=by kernel_rfl
theorem fo134_3:zar Tryz.prog 134 3=some 3:=by kernel_rfl
theorem fo134_4:zar Tryz.prog 134 4=some 4:=by kernel_rfl
theorem fo134_5:zar Tryz.prog 134 5=some 5:=by kernel_rfl
theorem fo138_0:zar Tryz.prog 138 0=some 0:=by kernel_rfl
theorem fo138_1:zar Tryz.prog 138 1=some 1:=by kernel_rfl
theorem fo141_0:zar Tryz.prog 141 0=some 0:=by kernel_rfl
theorem fo169_0:zar Tryz.prog 169 0=some 0:=by kernel_rfl
theorem fo169_1:zar Tryz.prog 169 1=some 1:=by kernel_rfl
theorem fo176_0:zar Tryz.prog 176 0=some 0:=by kernel_rfl
theorem fo176_1:zar Tryz.prog 176 1=some 1:=by kernel_rfl
theorem fo184_0:zar Tryz.prog 184 0=some 0:=by kernel_rfl
theorem fo184_1:zar Tryz.prog 184 1=some 1:=by kernel_rfl
theorem fo184_2:zar Tryz.prog 184 2=some 2:=by kernel_rfl
theorem fo184_3:zar Tryz.prog 184 3=some 3:=by kernel_rfl
theorem fo194_0:zar Tryz.prog 194 0=some 0:=by kernel_rfl
theorem fo194_2:zar Tryz.prog 194 2=some 2:=by kernel_rfl
theorem fo194_3:zar Tryz.prog 194 3=some 3:=by kernel_rfl
theorem fo198_0:zar Tryz.prog 198 0=some 0:=by kernel_rfl
theorem fo198_1:zar Tryz.prog 198 1=some 1:=by kernel_rfl
theorem fo198_2:zar Tryz.prog 198 2=some 2:=by kernel_rfl
theorem es22:zaQ Tryz.prog 22=some 8:=by kernel_rfl
theorem es23:zaQ Tryz.prog 23=some 1:=by kernel_rfl
theorem es26:zaQ Tryz.prog 26=some 3:=by kernel_rfl
theorem es33:zaQ Tryz.prog 33=some 4:=by kernel_rfl
theorem es54:zaQ Tryz.prog 54=some 1:=by kernel_rfl
theorem es67:zaQ Tryz.prog 67=some 4:=by kernel_rfl
theorem es68:zaQ Tryz.prog 68=some 1:=by kernel_rfl
theorem es105:zaQ Tryz.prog 105=some 2:=by kernel_rfl
theorem es155:zaQ Tryz.prog 155=some 1:=by kernel_rfl
theorem es167:zaQ Tryz.prog 167=some 4:=by kernel_rfl
theorem es171:zaQ Tryz.prog 171=some 2:=by kernel_rfl
theorem es200:zaQ Tryz.prog 200=some 3:=by kernel_rfl
theorem es108:zaQ Tryz.prog 108=none:=by kernel_rfl
theorem es224:zaQ Tryz.prog 224=none:=by kernel_rfl
theorem es235:zaQ Tryz.prog 235=none:=by kernel_rfl
theorem es236:zaQ Tryz.prog 236=none:=by kernel_rfl
theorem es240:zaQ Tryz.prog 240=none:=by kernel_rfl
theorem es241:zaQ Tryz.prog 241=none:=by kernel_rfl
theorem ar108:zgn Tryz.prog 108=some (2,1):=by kernel_rfl
theorem ar224:zgn Tryz.prog 224=some (24,1):=by kernel_rfl
theorem ar235:zgn Tryz.prog 235=some (20,1):=by kernel_rfl
theorem ar236:zgn Tryz.prog 236=some (65,1):=by kernel_rfl
theorem ar240:zgn Tryz.prog 240=some (32,1):=by kernel_rfl
theorem ar241:zgn Tryz.prog 241=some (64,1):=by kernel_rfl
theorem ei22:zaM Tryz.prog 22=some (32,8,96):=by kernel_rfl
theorem ei23:zaM Tryz.prog 23=some (5,1,1):=by kernel_rfl
theorem ei26:zaM Tryz.prog 26=some (28,3,40):=by kernel_rfl
theorem ei33:zaM Tryz.prog 33=some (43,4,48):=by kernel_rfl
theorem ei54:zaM Tryz.prog 54=some (3,1,8):=by kernel_rfl
theorem ei67:zaM Tryz.prog 67=some (112,4,64):=by kernel_rfl
theorem ei68:zaM Tryz.prog 68=some (3,1,8):=by kernel_rfl
theorem ei105:zaM Tryz.prog 105=some (108,2,16):=by kernel_rfl
theorem ei155:zaM Tryz.prog 155=some (9,1,16):=by kernel_rfl
theorem ei167:zaM Tryz.prog 167=some (194,4,48):=by kernel_rfl
theorem ei171:zaM Tryz.prog 171=some (138,2,16):=by kernel_rfl
theorem ei200:zaM Tryz.prog 200=some (198,3,40):=by kernel_rfl
theorem ia3:zcA Tryz.prog 3=false:=by kernel_rfl
theorem ia5:zcA Tryz.prog 5=false:=by kernel_rfl
theorem ia9:zcA Tryz.prog 9=false:=by kernel_rfl
theorem ia28:zcA Tryz.prog 28=false:=by kernel_rfl
theorem ia32:zcA Tryz.prog 32=false:=by kernel_rfl
theorem ia43:zcA Tryz.prog 43=false:=by kernel_rfl
theorem ia108:zcA Tryz.prog 108=true:=by kernel_rfl
theorem ia112:zcA Tryz.prog 112=false:=by kernel_rfl
theorem ia138:zcA Tryz.prog 138=false:=by kernel_rfl
theorem ia194:zcA Tryz.prog 194=false:=by kernel_rfl
theorem ia198:zcA Tryz.prog 198=true:=by kernel_rfl
theorem zc3:zbb Tryz.prog 3=some [.int .i64 0]:=by kernel_rfl
theorem zc4:zbb Tryz.prog 4=some [.bool false]:=by kernel_rfl
theorem zc28:zbb Tryz.prog 28=some [.int .i64 0,.int .i64 0,.slice none 0 0]:=by kernel_rfl
theorem zc30:zbb Tryz.prog 30=some [.int .i64 0,.int .i64 0]:=by kernel_rfl
theorem zc32:zbb Tryz.prog 32=some [.int .i64 0,.int .i64 0,.slice none 0 0,.int .i64 0,.int .i64 0,.slice none 0 0,.int .i64 0,.int .i64 0]:=by kernel_rfl
theorem zc43:zbb Tryz.prog 43=some [.int .i64 0,.int .i64 0,.int .i64 0,.slice none 0 0]:=by kernel_rfl
theorem zc54:zbb Tryz.prog 54=some [.slice none 0 0]:=by kernel_rfl
theorem zc70:zbb Tryz.prog 70=some [.slice none 0 0,.slice none 0 0]:=by kernel_rfl
theorem zc88:zbb Tryz.prog 88=some [.map none]:=by kernel_rfl
theorem zc108:zbb Tryz.prog 108=some [.int .i64 0,.int .i64 0]:=by kernel_rfl
theorem zc112:zbb Tryz.prog 112=some [.int .i64 0,.int .i64 0,.slice none 0 0,.slice none 0 0]:=by kernel_rfl
theorem zc127:zbb Tryz.prog 127=some [.int .i64 0,.pointer none,.pointer none,.slice none 0 0,.bool false]:=by kernel_rfl
theorem zc129:zbb Tryz.prog 129=some [.pointer none]:=by kernel_rfl
theorem zc130:zbb Tryz.prog 130=some [.map none]:=by kernel_rfl
theorem zc134:zbb Tryz.prog 134=some [.map none,.map none,.map none,.map none,.int .i64 0,.bool false]:=by kernel_rfl
theorem zc138:zbb Tryz.prog 138=some [.pointer none,.int .i64 0]:=by kernel_rfl
theorem zc141:zbb Tryz.prog 141=some [.map none]:=by kernel_rfl
theorem zc169:zbb Tryz.prog 169=some [.slice none 0 0,.map none]:=by kernel_rfl
theorem zc176:zbb Tryz.prog 176=some [.pointer none,.slice none 0 0]:=by kernel_rfl
theorem zc184:zbb Tryz.prog 184=some [.slice none 0 0,.slice none 0 0,.int .i64 0,.int .i64 0]:=by kernel_rfl
theorem zc194:zbb Tryz.prog 194=some [.int .i64 0,.int .i64 0,.int .i64 0,.slice none 0 0]:=by kernel_rfl
theorem zc198:zbb Tryz.prog 198=some [.int .i64 0,.slice none 0 0,.int .i64 0]:=by kernel_rfl
theorem zc224:zbb Tryz.prog 224=some [.int .u8 0,.int .u8 0,.int .u8 0,.int .u8 0,.int .u8 0,.int .u8 0,.int .u8 0,.int .u8 0,.int .u8 0,.int .u8 0,.int .u8 0,.int .u8 0,.int .u8 0,.int .u8 0,.int .u8 0,.int .u8 0,.int .u8 0,.int .u8 0,.int .u8 0,.int .u8 0,.int .u8 0,.int .u8 0,.int .u8 0,.int .u8 0]:=by kernel_rfl
theorem zc228:zbb Tryz.prog 228=some [.int .u64 0]:=by kernel_rfl
theorem zc236:zbb Tryz.prog 236=some [.int .u8 0,.int .u8 0,.int .u8 0,.int .u8 0,.int .u8 0,.int .u8 0,.int .u8 0,.int .u8 0,.int .u8 0,.int .u8 0,.int .u8 0,.int .u8 0,.int .u8 0,.int .u8 0,.int .u8 0,.int .u8 0,.int .u8 0,.int .u8 0,.int .u8 0,.int .u8 0,.int .u8 0,.int .u8 0,.int .u8 0,.int .u8 0,.int .u8 0,.int .u8 0,.int .u8 0,.int .u8 0,.int .u8 0,.int .u8 0,.int .u8 0,.int .u8 0,.int .u8 0,.int .u8 0,.int .u8 0,.int .u8 0,.int .u8 0,.int .u8 0,.int .u8 0,.int .u8 0,.int .u8 0,.int .u8 0,.int .u8 0,.int .u8 0,.int .u8 0,.int .u8 0,.int .u8 0,.int .u8 0,.int .u8 0,.int .u8 0,.int .u8 0,.int .u8 0,.int .u8 0,.int .u8 0,.int .u8 0,.int .u8 0,.int .u8 0,.int .u8 0,.int .u8 0,.int .u8 0,.int .u8 0,.int .u8 0,.int .u8 0,.int .u8 0,.int .u8 0]:=by kernel_rfl
theorem pc28:zbh Tryz.prog 28=some [(0,1),(1,1),(2,1)]:=by kernel_rfl
theorem pc30:zbh Tryz.prog 30=some [(0,1),(1,1)]:=by kernel_rfl
theorem pc32:zbh Tryz.prog 32=some [(0,3),(3,3),(6,2)]:=by kernel_rfl
theorem pc43:zbh Tryz.prog 43=some [(0,1),(1,3)]:=by kernel_rfl
theorem pc70:zbh Tryz.prog 70=some [(0,1),(1,1)]:=by kernel_rfl
theorem pc108:zbh Tryz.prog 108=some [(0,1),(1,1)]:=by kernel_rfl
theorem pc112:zbh Tryz.prog 112=some [(0,3),(3,1)]:=by kernel_rfl
theorem pc127:zbh Tryz.prog 127=some [(0,1),(1,1),(2,1),(3,1),(4,1)]:=by kernel_rfl
theorem pc134:zbh Tryz.prog 134=some [(0,1),(1,1),(2,1),(3,1),(4,1),(5,1)]:=by kernel_rfl
theorem pc138:zbh Tryz.prog 138=some [(0,1),(1,1)]:=by kernel_rfl
theorem pc141:zbh Tryz.prog 141=some [(0,1)]:=by kernel_rfl
theorem pc169:zbh Tryz.prog 169=some [(0,1),(1,1)]:=by kernel_rfl
theorem pc184:zbh Tryz.prog 184=some [(0,1),(1,1),(2,1),(3,1)]:=by kernel_rfl
theorem pc194:zbh Tryz.prog 194=some [(0,1),(1,1),(2,1),(3,1)]:=by kernel_rfl
theorem pc198:zbh Tryz.prog 198=some [(0,1),(1,1),(2,1)]:=by kernel_rfl
theorem mz88:mapZ Tryz.prog 88=some (.agg #[.int .i64 0,.int .i64 0,.slice none 0 0]):=by kernel_rfl
theorem mz130:mapZ Tryz.prog 130=some (.int .i64 0):=by kernel_rfl
theorem mz131:mapZ Tryz.prog 131=some (.int .i64 0):=by kernel_rfl
theorem mz132:mapZ Tryz.prog 132=some (.bool false):=by kernel_rfl
theorem is9:zf2 Tryz.prog 9=true:=by kernel_rfl
theorem iT2:intT Tryz.prog 2=some .i64:=by kernel_rfl
theorem iT3:intT Tryz.prog 3=some .i64:=by kernel_rfl
theorem iT5:intT Tryz.prog 5=some .u8:=by kernel_rfl
theorem iT21:intT Tryz.prog 21=some .i32:=by kernel_rfl
theorem iT207:intT Tryz.prog 207=some .u64:=by kernel_rfl
theorem iT221:intT Tryz.prog 221=some .u32:=by kernel_rfl
theorem iT223:intT Tryz.prog 223=some .u64:=by kernel_rfl
theorem iT228:intT Tryz.prog 228=some .u64:=by kernel_rfl
theorem bt4:zfB Tryz.prog 4=true:=by kernel_rfl
theorem i2t30:isI2T Tryz.prog 30=true:=by kernel_rfl
theorem pt77:zdF Tryz.prog 77=true:=by kernel_rfl
theorem pt124:zdF Tryz.prog 124=true:=by kernel_rfl
theorem pt125:zdF Tryz.prog 125=true:=by kernel_rfl
theorem pt174:zdF Tryz.prog 174=true:=by kernel_rfl
theorem ln9:ze1 Tryz.prog 9=some false:=by kernel_rfl
theorem ln22:ze1 Tryz.prog 22=some true:=by kernel_rfl
theorem ln23:ze1 Tryz.prog 23=some true:=by kernel_rfl
theorem ln26:ze1 Tryz.prog 26=some true:=by kernel_rfl
theorem ln33:ze1 Tryz.prog 33=some true:=by kernel_rfl
theorem ln54:ze1 Tryz.prog 54=some true:=by kernel_rfl
theorem ln67:ze1 Tryz.prog 67=some true:=by kernel_rfl
theorem ln68:ze1 Tryz.prog 68=some true:=by kernel_rfl
theorem ln105:ze1 Tryz.prog 105=some true:=by kernel_rfl
theorem ln155:ze1 Tryz.prog 155=some true:=by kernel_rfl
theorem ln167:ze1 Tryz.prog 167=some true:=by kernel_rfl
theorem ln171:ze1 Tryz.prog 171=some true:=by kernel_rfl
theorem ln200:ze1 Tryz.prog 200=some true:=by kernel_rfl
theorem mixed:Tryz.prog.follows .mixedOrders=true:=by kernel_rfl
attribute [go_sem] ti3 ti4 ti5 ti9 ti23 ti26 zgg ti30 ti32 ti43 ti54 ti67 ti68 ti70 ti77 ti88 ti108 ti112 ti124 ti125 ti129 ti130 ti131 ti132 ti138 ti139 ti167 ti171 ti174 ti194 ti198 ti223 ti228 fo28_0 fo28_1 fo28_2 fo32_0 fo32_1 fo32_2 fo43_0 fo43_1 fo70_0 fo70_1 fo112_0 fo112_1 fo123_0 fo127_0 fo127_1 fo127_2 fo127_3 fo127_4 fo134_0 fo134_1 fo134_2 fo134_3 fo134_4 fo134_5 fo138_0 fo138_1 fo141_0 fo169_0 fo169_1 fo176_0 fo176_1 fo184_0 fo184_1 fo184_2 fo184_3 fo194_0 fo194_2 fo194_3 fo198_0 fo198_1 fo198_2 es22 es23 es26 es33 es54 es67 es68 es105 es155 es167 es171 es200 es108 es224 es235 es236 es240 es241 ar108 ar224 ar235 ar236 ar240 ar241 ei22 ei23 ei26 ei33 ei54 ei67 ei68 ei105 ei155 ei167 ei171 ei200 ia3 ia5 ia9 ia28 ia32 ia43 ia108 ia112 ia138 ia194 ia198 zc3 zc4 zc28 zc30 zc32 zc43 zc54 zc70 zc88 zc108 zc112 zc127 zc129 zc130 zc134 zc138 zc141 zc169 zc176 zc184 zc194 zc198 zc224 zc228 zc236 pc28 pc30 pc32 pc43 pc70 pc108 pc112 pc127 pc134 pc138 pc141 pc169 pc184 pc194 pc198 mz88 mz130 mz131 mz132 is9 iT2 iT3 iT5 iT21 iT207 iT221 iT223 iT228 bt4 i2t30 pt77 pt124 pt125 pt174 ln9 ln22 ln23 ln26 ln33 ln54 ln67 ln68 ln105 ln155 ln167 ln171 ln200
end Go.Proofs.YtpfiliamceimmaaGreatDoor

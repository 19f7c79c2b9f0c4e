/- packed, part 32 of 45. Conditions: none. -/
import Derived.Test.YtkokfdmggdhfmaaGreatDoorPk31
import Derived.Test.YtkokfdmggdhfmaaGreatDoorProg
set_option linter.unusedVariables false
set_option linter.unusedSimpArgs false
namespace Go.Proofs.YtkokfdmggdhfmaaGreatDoor
open Go
set_option linter.unnecessarySimpa false
theorem ti3:zaW Tryz.prog 3=some (false,1):=by kernel_rfl
theorem ti4:zaW Tryz.prog 4=some (false,1):=by kernel_rfl
theorem ti5:zaW Tryz.prog 5=some (false,1):=by kernel_rfl
theorem ti9:zaW Tryz.prog 9=some (false,1):=by kernel_rfl
theorem ti23:zaW Tryz.prog 23=some (false,1):=by kernel_rfl
theorem ti24:zaW Tryz.prog 24=some (false,1):=by kernel_rfl
theorem zdt:zaW Tryz.prog 26=some (true,3):=by kernel_rfl
theorem ti28:zaW Tryz.prog 28=some (true,4):=by kernel_rfl
theorem ti29:zaW Tryz.prog 29=some (false,1):=by kernel_rfl
theorem ti32:zaW Tryz.prog 32=some (true,4):=by kernel_rfl
theorem ti46:zaW Tryz.prog 46=some (false,1):=by kernel_rfl
theorem ti48:zaW Tryz.prog 48=some (false,1):=by kernel_rfl
theorem ti54:zaW Tryz.prog 54=some (false,1):=by kernel_rfl
theorem zcl:zaW Tryz.prog 56=some (true,2):=by kernel_rfl
theorem zcF:zaW Tryz.prog 58=some (true,9):=by kernel_rfl
theorem ti62:zaW Tryz.prog 62=some (false,1):=by kernel_rfl
theorem ti67:zaW Tryz.prog 67=some (false,1):=by kernel_rfl
theorem ti87:zaW Tryz.prog 87=some (false,1):=by kernel_rfl
theorem ti91:zaW Tryz.prog 91=some (false,1):=by kernel_rfl
theorem ti108:zaW Tryz.prog 108=some (true,4):=by kernel_rfl
theorem ti114:zaW Tryz.prog 114=some (false,1):=by kernel_rfl
theorem ti115:zaW Tryz.prog 115=some (false,1):=by kernel_rfl
theorem ti118:zaW Tryz.prog 118=some (false,1):=by kernel_rfl
theorem ti148:zaW Tryz.prog 148=some (true,4):=by kernel_rfl
theorem ti163:zaW Tryz.prog 163=some (false,1):=by kernel_rfl
theorem ti165:zaW Tryz.prog 165=some (false,1):=by kernel_rfl
theorem ti175:zaW Tryz.prog 175=some (true,2):=by kernel_rfl
theorem ti176:zaW Tryz.prog 176=some (false,1):=by kernel_rfl
theorem ti178:zaW Tryz.prog 178=some (false,1):=by kernel_rfl
theorem zaj:zaW Tryz.prog 191=some (true,13):=by kernel_rfl
theorem zae:zaW Tryz.prog 197=some (true,11):=by kernel_rfl
theorem ti206:zaW Tryz.prog 206=some (false,1):=by kernel_rfl
theorem ti207:zaW Tryz.prog 207=some (false,1):=by kernel_rfl
theorem ti210:zaW Tryz.prog 210=some (false,1):=by kernel_rfl
theorem ti215:zaW Tryz.prog 215=some (true,3):=by kernel_rfl
theorem ti238:zaW Tryz.prog 238=some (false,1):=by kernel_rfl
theorem fo26_0:zG Tryz.prog 26 0=some 0:=by kernel_rfl
theorem fo26_1:zG Tryz.prog 26 1=some 1:=by kernel_rfl
theorem fo26_2:zG Tryz.prog 26 2=some 2:=by kernel_rfl
theorem fo28_0:zG Tryz.prog 28 0=some 0:=by kernel_rfl
theorem fo28_1:zG Tryz.prog 28 1=some 1:=by kernel_rfl
theorem fo32_0:zG Tryz.prog 32 0=some 0:=by kernel_rfl
theorem fo32_1:zG Tryz.prog 32 1=some 1:=by kernel_rfl
theorem fo56_0:zG Tryz.prog 56 0=some 0:=by kernel_rfl
theorem fo56_1:zG Tryz.prog 56 1=some 1:=by kernel_rfl
theorem fo58_0:zG Tryz.prog 58 0=some 0:=by kernel_rfl
theorem fo58_1:zG Tryz.prog 58 1=some 1:=by kernel_rfl
theorem fo58_2:zG Tryz.prog 58 2=some 2:=by kernel_rfl
theorem fo58_3:zG Tryz.prog 58 3=some 3:=by kernel_rfl
theorem fo58_4:zG Tryz.prog 58 4=some 6:=by kernel_rfl
theorem fo58_5:zG Tryz.prog 58 5=some 7:=by kernel_rfl
theorem fo89_0:zG Tryz.prog 89 0=some 0:=by kernel_rfl
theorem fo89_1:zG Tryz.prog 89 1=some 1:=by kernel_rfl
theorem fo108_0:zG Tryz.prog 108 0=some 0:=by kernel_rfl
theorem fo108_1:zG Tryz.prog 108 1=some 1:=by kernel_rfl
theorem fo108_2:zG Tryz.prog 108 2=some 2:=by kernel_rfl
theorem fo117_0:zG Tryz.prog 117 0=some 0:=by kernel_rfl
theorem fo117_1:zG Tryz.prog 117 1=some 1:=by kernel_rfl
theorem fo117_2:zG Tryz.prog 117 2=some 2:=by kernel_rfl
theorem fo117_3:zG Tryz.prog 117 3=some 3:=by kernel_rfl
theorem fo117_4:zG Tryz.prog 117 4=some 4:=by kernel_rfl
theorem fo117_5:zG Tryz.prog 117 5=some 5:=by kernel_rfl
theorem fo141_0:zG Tryz.prog 141 0=some 0:=by kernel_rfl
theorem fo141_1:zG Tryz.prog 141 1=some 1:=by kernel_rfl
theorem fo148_0:zG Tryz.prog 148 0=some 0:=by kernel_rfl
theorem fo148_1:zG Tryz.prog 148 1=some 1:=by kernel_rfl
theorem fo157_0:zG Tryz.prog 157 0=some 0:=by kernel_rfl
theorem fo157_1:zG Tryz.prog 157 1=some 1:=by kernel_rfl
theorem fo159_0:zG Tryz.prog 159 0=some 0:=by kernel_rfl
theorem fo159_1:zG Tryz.prog 159 1=some 2:=by kernel_rfl
theorem fo159_2:zG Tryz.prog 159 2=some 3:=by kernel_rfl
theorem fo175_0:zG Tryz.prog 175 0=some 0:=by kernel_rfl
theorem fo175_1:zG Tryz.prog 175 1=some 1:=by kernel_rfl
theorem fo191_0:zG Tryz.prog 191 0=some 0:=by kernel_rfl
theorem fo191_1:zG Tryz.prog 191 1=some 9:=by kernel_rfl
theorem fo191_2:zG Tryz.prog 191 2=some 11:=by kernel_rfl
theorem fo191_3:zG Tryz.prog 191 3=some 12:=by kernel_rfl
theorem fo197_0:zG Tryz.prog 197 0=some 0:=by kernel_rfl
theorem fo197_1:zG Tryz.prog 197 1=some 9:=by kernel_rfl
theorem fo209_0:zG Tryz.prog 209 0=some 0:=by kernel_rfl
theorem fo209_1:zG Tryz.prog 209 1=some 1:=by kernel_rfl
theorem fo209_2:zG Tryz.prog 209 2=some 2:=by kernel_rfl
theorem fo212_0:zG Tryz.prog 212 0=some 0:=by kernel_rfl
theorem fo212_1:zG Tryz.prog 212 1=some 1:=by kernel_rfl
theorem fo212_2:zG Tryz.prog 212 2=some 2:=by kernel_rfl
theorem fo215_0:zG Tryz.prog 215 0=some 0:=by kernel_rfl
theorem fo215_1:zG Tryz.prog 215 1=some 1:=by kernel_rfl
theorem fo215_2:zG Tryz.prog 215 2=some 2:=by kernel_rfl
theorem fo275_0:zG Tryz.prog 275 0=some 0:=by kernel_rfl
theorem fo275_1:zG Tryz.prog 275 1=some 1:=by kernel_rfl
theorem fo275_2:zG Tryz.prog 275 2=some 2:=by kernel_rfl
theorem fo275_3:zG Tryz.prog 275 3=some 3:=by kernel_rfl
theorem ft197_0:zfj Tryz.prog 197 0=some (58,0):=by kernel_rfl
theorem es23:zaa Tryz.prog 23=some 1:=by kernel_rfl
theorem es24:zaa Tryz.prog 24=some 3:=by kernel_rfl
theorem es46:zaa Tryz.prog 46=some 1:=by kernel_rfl
theorem es48:zaa Tryz.prog 48=some 4:=by kernel_rfl
theorem es54:zaa Tryz.prog 54=some 9:=by kernel_rfl
theorem es62:zaa Tryz.prog 62=some 2:=by kernel_rfl
theorem es76:zaa Tryz.prog 76=some 1:=by kernel_rfl
theorem es114:zaa Tryz.prog 114=some 1:=by kernel_rfl
theorem es115:zaa Tryz.prog 115=some 1:=by kernel_rfl
theorem es118:zaa Tryz.prog 118=some 1:=by kernel_rfl
theorem es129:zaa Tryz.prog 129=some 4:=by kernel_rfl
theorem es173:zaa Tryz.prog 173=some 2:=by kernel_rfl
theorem es206:zaa Tryz.prog 206=some 3:=by kernel_rfl
theorem es207:zaa Tryz.prog 207=some 3:=by kernel_rfl
theorem es136:zaa Tryz.prog 136=none:=by kernel_rfl
theorem es245:zaa Tryz.prog 245=none:=by kernel_rfl
theorem es258:zaa Tryz.prog 258=none:=by kernel_rfl
theorem es259:zaa Tryz.prog 259=none:=by kernel_rfl
theorem es269:zaa Tryz.prog 269=none:=by kernel_rfl
theorem es270:zaa Tryz.prog 270=none:=by kernel_rfl
theorem ar136:zeb Tryz.prog 136=some (256,1):=by kernel_rfl
theorem ar245:zeb Tryz.prog 245=some (24,1):=by kernel_rfl
theorem ar258:zeb Tryz.prog 258=some (20,1):=by kernel_rfl
theorem ar259:zeb Tryz.prog 259=some (65,1):=by kernel_rfl
theorem ar269:zeb Tryz.prog 269=some (32,1):=by kernel_rfl
theorem ar270:zeb Tryz.prog 270=some (64,1):=by kernel_rfl
theorem ei23:z8 Tryz.prog 23=some (3,1,8):=by kernel_rfl
theorem ei24:z8 Tryz.prog 24=some (26,3,40):=by kernel_rfl
theorem ei46:z8 Tryz.prog 46=some (5,1,1):=by kernel_rfl
theorem ei48:z8 Tryz.prog 48=some (108,4,40):=by kernel_rfl
theorem ei54:z8 Tryz.prog 54=some (58,9,112):=by kernel_rfl
theorem ei62:z8 Tryz.prog 62=some (56,2,16):=by kernel_rfl
theorem ei76:z8 Tryz.prog 76=some (9,1,16):=by kernel_rfl
theorem ei114:z8 Tryz.prog 114=some (118,1,24):=by kernel_rfl
theorem ei115:z8 Tryz.prog 115=some (23,1,24):=by kernel_rfl
theorem ei129:z8 Tryz.prog 129=some (148,4,48):=by kernel_rfl
theorem ei173:z8 Tryz.prog 173=some (175,2,16):=by kernel_rfl
theorem ia3:zbl Tryz.prog 3=false:=by kernel_rfl
theorem ia5:zbl Tryz.prog 5=false:=by kernel_rfl
theorem ia9:zbl Tryz.prog 9=false:=by kernel_rfl
theorem ia23:zbl Tryz.prog 23=false:=by kernel_rfl
theorem ia26:zbl Tryz.prog 26=false:=by kernel_rfl
theorem ia56:zbl Tryz.prog 56=false:=by kernel_rfl
theorem ia58:zbl Tryz.prog 58=false:=by kernel_rfl
theorem ia108:zbl Tryz.prog 108=false:=by kernel_rfl
theorem ia118:zbl Tryz.prog 118=false:=by kernel_rfl
theorem ia148:zbl Tryz.prog 148=false:=by kernel_rfl
theorem ia175:zbl Tryz.prog 175=false:=by kernel_rfl
theorem zc3:zao Tryz.prog 3=some [.int .i64 0]:=by kernel_rfl
theorem zc4:zao Tryz.prog 4=some [.bool false]:=by kernel_rfl
theorem zc23:zao Tryz.prog 23=some [.slice none 0 0]:=by kernel_rfl
theorem zc26:zao Tryz.prog 26=some [.int .i64 0,.int .i64 0,.slice none 0 0]:=by kernel_rfl
theorem zc28:zao Tryz.prog 28=some [.slice none 0 0,.int .i64 0,.int .i64 0,.slice none 0 0]:=by kernel_rfl
theorem zc32:zao Tryz.prog 32=some [.slice none 0 0,.int .i64 0,.int .i64 0,.slice none 0 0]:=by kernel_rfl
theorem zc56:zao Tryz.prog 56=some [.int .i64 0,.int .i64 0]:=by kernel_rfl
theorem zc58:zao Tryz.prog 58=some [.int .i64 0,.string ByteArray.empty,.int .i64 0,.int .i64 0,.int .i64 0,.slice none 0 0,.slice none 0 0,.int .i64 0,.int .i64 0]:=by kernel_rfl
theorem zc62:zao Tryz.prog 62=some [.slice none 0 0]:=by kernel_rfl
theorem zc67:zao Tryz.prog 67=some [.nilFunc]:=by kernel_rfl
theorem zc89:zao Tryz.prog 89=some [.pointer none,.slice none 0 0]:=by kernel_rfl
theorem zc108:zao Tryz.prog 108=some [.int .i64 0,.string ByteArray.empty,.int .i64 0,.int .i64 0]:=by kernel_rfl
theorem zc117:zao Tryz.prog 117=some [.slice none 0 0,.slice none 0 0,.slice none 0 0,.slice none 0 0,.slice none 0 0,.slice none 0 0]:=by kernel_rfl
theorem zc141:zao Tryz.prog 141=some [.string ByteArray.empty,.bool false]:=by kernel_rfl
theorem zc148:zao Tryz.prog 148=some [.int .i64 0,.int .i64 0,.int .i64 0,.slice none 0 0]:=by kernel_rfl
theorem zc157:zao Tryz.prog 157=some [.slice none 0 0,.int .i64 0]:=by kernel_rfl
theorem zc159:zao Tryz.prog 159=some [.slice none 0 0,.int .i64 0,.int .i64 0,.int .i64 0]:=by kernel_rfl
theorem zc165:zao Tryz.prog 165=some [.map none]:=by kernel_rfl
theorem zc175:zao Tryz.prog 175=some [.int .i64 0,.int .i64 0]:=by kernel_rfl
theorem zc191:zao Tryz.prog 191=some [.int .i64 0,.string ByteArray.empty,.int .i64 0,.int .i64 0,.int .i64 0,.slice none 0 0,.slice none 0 0,.int .i64 0,.int .i64 0,.int .i64 0,.int .i64 0,.int .i64 0,.int .i64 0]:=by kernel_rfl
theorem zc197:zao Tryz.prog 197=some [.int .i64 0,.string ByteArray.empty,.int .i64 0,.int .i64 0,.int .i64 0,.slice none 0 0,.slice none 0 0,.int .i64 0,.int .i64 0,.int .i64 0,.int .i64 0]:=by kernel_rfl
theorem zc215:zao Tryz.prog 215=some [.int .u32 0,.int .u32 0,.int .u32 0]:=by kernel_rfl
theorem zc243:zao Tryz.prog 243=some [.string ByteArray.empty,.string ByteArray.empty,.nilIface]:=by kernel_rfl
theorem zc245:zao Tryz.prog 245=some [.int .u8 0,.int .u8 0,.int .u8 0,.int .u8 0,.int .u8 0,.int .u8 0,.int .u8 0,.int .u8 0,.int .u8 0,.int .u8 0,.int .u8 0,.int .u8 0,.int .u8 0,.int .u8 0,.int .u8 0,.int .u8 0,.int .u8 0,.int .u8 0,.int .u8 0,.int .u8 0,.int .u8 0,.int .u8 0,.int .u8 0,.int .u8 0]:=by kernel_rfl
theorem zc256:zao Tryz.prog 256=some [.string ByteArray.empty]:=by kernel_rfl
theorem zc259:zao Tryz.prog 259=some [.int .u8 0,.int .u8 0,.int .u8 0,.int .u8 0,.int .u8 0,.int .u8 0,.int .u8 0,.int .u8 0,.int .u8 0,.int .u8 0,.int .u8 0,.int .u8 0,.int .u8 0,.int .u8 0,.int .u8 0,.int .u8 0,.int .u8 0,.int .u8 0,.int .u8 0,.int .u8 0,.int .u8 0,.int .u8 0,.int .u8 0,.int .u8 0,.int .u8 0,.int .u8 0,.int .u8 0,.int .u8 0,.int .u8 0,.int .u8 0,.int .u8 0,.int .u8 0,.int .u8 0,.int .u8 0,.int .u8 0,.int .u8 0,.int .u8 0,.int .u8 0,.int .u8 0,.int .u8 0,.int .u8 0,.int .u8 0,.int .u8 0,.int .u8 0,.int .u8 0,.int .u8 0,.int .u8 0,.int .u8 0,.int .u8 0,.int .u8 0,.int .u8 0,.int .u8 0,.int .u8 0,.int .u8 0,.int .u8 0,.int .u8 0,.int .u8 0,.int .u8 0,.int .u8 0,.int .u8 0,.int .u8 0,.int .u8 0,.int .u8 0,.int .u8 0,.int .u8 0]:=by kernel_rfl
theorem zc275:zao Tryz.prog 275=some [.slice none 0 0,.int .i64 0,.int .i64 0,.int .i64 0]:=by kernel_rfl
theorem pc26:zad Tryz.prog 26=some [(0,1),(1,1),(2,1)]:=by kernel_rfl
theorem pc28:zad Tryz.prog 28=some [(0,1),(1,3)]:=by kernel_rfl
theorem pc32:zad Tryz.prog 32=some [(0,1),(1,3)]:=by kernel_rfl
theorem pc56:zad Tryz.prog 56=some [(0,1),(1,1)]:=by kernel_rfl
theorem pc58:zad Tryz.prog 58=some [(0,1),(1,1),(2,1),(3,3),(6,1),(7,2)]:=by kernel_rfl
theorem pc108:zad Tryz.prog 108=some [(0,1),(1,1),(2,2)]:=by kernel_rfl
theorem pc117:zad Tryz.prog 117=some [(0,1),(1,1),(2,1),(3,1),(4,1),(5,1)]:=by kernel_rfl
theorem pc141:zad Tryz.prog 141=some [(0,1),(1,1)]:=by kernel_rfl
theorem pc148:zad Tryz.prog 148=some [(0,1),(1,3)]:=by kernel_rfl
theorem pc157:zad Tryz.prog 157=some [(0,1),(1,1)]:=by kernel_rfl
theorem pc159:zad Tryz.prog 159=some [(0,2),(2,1),(3,1)]:=by kernel_rfl
theorem pc175:zad Tryz.prog 175=some [(0,1),(1,1)]:=by kernel_rfl
theorem pc191:zad Tryz.prog 191=some [(0,9),(9,2),(11,1),(12,1)]:=by kernel_rfl
theorem pc197:zad Tryz.prog 197=some [(0,9),(9,2)]:=by kernel_rfl
theorem pc243:zad Tryz.prog 243=some [(0,1),(1,1),(2,1)]:=by kernel_rfl
theorem pc256:zad Tryz.prog 256=some [(0,1)]:=by kernel_rfl
theorem pc275:zad Tryz.prog 275=some [(0,1),(1,1),(2,1),(3,1)]:=by kernel_rfl
theorem mz135:mapZ Tryz.prog 135=some (.agg #[.int .i64 0,.int .i64 0,.slice none 0 0]):=by kernel_rfl
theorem mz165:mapZ Tryz.prog 165=some (.int .i64 0):=by kernel_rfl
theorem is9:zdP Tryz.prog 9=true:=by kernel_rfl
theorem iT9:zgv Tryz.prog 9=none:=by kernel_rfl
theorem iT2:zgv Tryz.prog 2=some .i64:=by kernel_rfl
theorem iT3:zgv Tryz.prog 3=some .i64:=by kernel_rfl
theorem iT5:zgv Tryz.prog 5=some .u8:=by kernel_rfl
theorem iT21:zgv Tryz.prog 21=some .i32:=by kernel_rfl
theorem iT176:zgv Tryz.prog 176=some .u32:=by kernel_rfl
theorem iT205:zgv Tryz.prog 205=some .u64:=by kernel_rfl
theorem iT210:zgv Tryz.prog 210=some .u16:=by kernel_rfl
theorem iT238:zgv Tryz.prog 238=some .u64:=by kernel_rfl
theorem bt4:zdW Tryz.prog 4=true:=by kernel_rfl
theorem i2t56:isI2T Tryz.prog 56=true:=by kernel_rfl
theorem if91:Program.isIface Tryz.prog 91=true:=by kernel_rfl
theorem pt87:ze6 Tryz.prog 87=true:=by kernel_rfl
theorem ln9:zdy Tryz.prog 9=some false:=by kernel_rfl
theorem ln23:zdy Tryz.prog 23=some true:=by kernel_rfl
theorem ln24:zdy Tryz.prog 24=some true:=by kernel_rfl
theorem ln46:zdy Tryz.prog 46=some true:=by kernel_rfl
theorem ln48:zdy Tryz.prog 48=some true:=by kernel_rfl
theorem ln54:zdy Tryz.prog 54=some true:=by kernel_rfl
theorem ln62:zdy Tryz.prog 62=some true:=by kernel_rfl
theorem ln76:zdy Tryz.prog 76=some true:=by kernel_rfl
theorem ln129:zdy Tryz.prog 129=some true:=by kernel_rfl
theorem ln173:zdy Tryz.prog 173=some true:=by kernel_rfl
theorem ln206:zdy Tryz.prog 206=some true:=by kernel_rfl
theorem ln207:zdy Tryz.prog 207=some true:=by kernel_rfl
theorem mixed:Tryz.prog.follows .mixedOrders=true:=by kernel_rfl
attribute [go_sem] ti3 ti4 ti5 ti9 ti23 ti24 zdt ti28 ti29 ti32 ti46 ti48 ti54 zcl zcF ti62 ti67 ti87 ti91 ti108 ti114 ti115 ti118 ti148 ti163 ti165 ti175 ti176 ti178 zaj zae ti206 ti207 ti210 ti215 ti238 fo26_0 fo26_1 fo26_2 fo28_0 fo28_1 fo32_0 fo32_1 fo56_0 fo56_1 fo58_0 fo58_1 fo58_2 fo58_3 fo58_4 fo58_5 fo89_0 fo89_1 fo108_0 fo108_1 fo108_2 fo117_0 fo117_1 fo117_2 fo117_3 fo117_4 fo117_5 fo141_0 fo141_1 fo148_0 fo148_1 fo157_0 fo157_1 fo159_0 fo159_1 fo159_2 fo175_0 fo175_1 fo191_0 fo191_1 fo191_2 fo191_3 fo197_0 fo197_1 fo209_0 fo209_1 fo209_2 fo212_0 fo212_1 fo212_2 fo215_0 fo215_1 fo215_2 fo275_0 fo275_1 fo275_2 fo275_3 ft197_0 es23 es24 es46 es48 es54 es62 es76 es114 es115 es118 es129 es173 es206 es207 es136 es245 es258 es259 es269 es270 ar136 ar245 ar258 ar259 ar269 ar270 ei23 ei24 ei46 ei48 ei54 ei62 ei76 ei114 ei115 ei129 ei173 ia3 ia5 ia9 ia23 ia26 ia56 ia58 ia108 ia118 ia148 ia175 zc3 zc4 zc23 zc26 zc28 zc32 zc56 zc58 zc62 zc67 zc89 zc108 zc117 zc141 zc148 zc157 zc159 zc165 zc175 zc191 zc197 zc215 zc243 zc245 zc256 zc259 zc275 pc26 pc28 pc32 pc56 pc58 pc108 pc117 pc141 pc148 pc157 pc159 pc175 pc191 pc197 pc243 pc256 pc275 mz135 mz165 is9 iT9 iT2 iT3 iT5 iT21 iT176 iT205 iT210 iT238 bt4 i2t56 if91 pt87 ln9 ln23 ln24 ln46 ln48 ln54 ln62 ln76 ln129 ln173 ln206 ln207
end Go.Proofs.YtkokfdmggdhfmaaGreatDoor

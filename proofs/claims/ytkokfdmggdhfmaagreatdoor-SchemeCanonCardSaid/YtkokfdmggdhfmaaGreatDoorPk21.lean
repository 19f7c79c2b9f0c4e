/- packed, part 21 of 47. Conditions: none. -/
import Derived.Test.YtkokfdmggdhfmaaGreatDoorPk20
import Derived.Test.YtkokfdmggdhfmaaGreatDoorProg
set_option linter.unusedVariables false
set_option linter.unusedSimpArgs false
namespace Go.Proofs.YtkokfdmggdhfmaaGreatDoor
open Go
set_option linter.unnecessarySimpa false
theorem ti3:zbM Tryz.prog 3=some (false,1):=by kernel_rfl
theorem ti4:zbM Tryz.prog 4=some (false,1):=by kernel_rfl
theorem ti5:zbM Tryz.prog 5=some (false,1):=by kernel_rfl
theorem ti9:zbM Tryz.prog 9=some (false,1):=by kernel_rfl
theorem ti23:zbM Tryz.prog 23=some (false,1):=by kernel_rfl
theorem ti24:zbM Tryz.prog 24=some (false,1):=by kernel_rfl
theorem zcI:zbM Tryz.prog 26=some (true,3):=by kernel_rfl
theorem zkU:zbM Tryz.prog 28=some (true,4):=by kernel_rfl
theorem ti29:zbM Tryz.prog 29=some (false,1):=by kernel_rfl
theorem ti32:zbM Tryz.prog 32=some (true,4):=by kernel_rfl
theorem ti46:zbM Tryz.prog 46=some (false,1):=by kernel_rfl
theorem ti48:zbM Tryz.prog 48=some (false,1):=by kernel_rfl
theorem ti54:zbM Tryz.prog 54=some (false,1):=by kernel_rfl
theorem ti56:zbM Tryz.prog 56=some (true,2):=by kernel_rfl
theorem ti58:zbM Tryz.prog 58=some (true,9):=by kernel_rfl
theorem ti62:zbM Tryz.prog 62=some (false,1):=by kernel_rfl
theorem ti67:zbM Tryz.prog 67=some (false,1):=by kernel_rfl
theorem ti87:zbM Tryz.prog 87=some (false,1):=by kernel_rfl
theorem ti91:zbM Tryz.prog 91=some (false,1):=by kernel_rfl
theorem ti108:zbM Tryz.prog 108=some (true,4):=by kernel_rfl
theorem ti114:zbM Tryz.prog 114=some (false,1):=by kernel_rfl
theorem ti115:zbM Tryz.prog 115=some (false,1):=by kernel_rfl
theorem ti118:zbM Tryz.prog 118=some (false,1):=by kernel_rfl
theorem ti148:zbM Tryz.prog 148=some (true,4):=by kernel_rfl
theorem ti163:zbM Tryz.prog 163=some (false,1):=by kernel_rfl
theorem ti165:zbM Tryz.prog 165=some (false,1):=by kernel_rfl
theorem ti175:zbM Tryz.prog 175=some (true,2):=by kernel_rfl
theorem ti176:zbM Tryz.prog 176=some (false,1):=by kernel_rfl
theorem ti178:zbM Tryz.prog 178=some (false,1):=by kernel_rfl
theorem ti191:zbM Tryz.prog 191=some (true,13):=by kernel_rfl
theorem ti197:zbM Tryz.prog 197=some (true,11):=by kernel_rfl
theorem ti206:zbM Tryz.prog 206=some (false,1):=by kernel_rfl
theorem ti207:zbM Tryz.prog 207=some (false,1):=by kernel_rfl
theorem ti210:zbM Tryz.prog 210=some (false,1):=by kernel_rfl
theorem ti215:zbM Tryz.prog 215=some (true,3):=by kernel_rfl
theorem ti238:zbM Tryz.prog 238=some (false,1):=by kernel_rfl
theorem fo26_0:z6 Tryz.prog 26 0=some 0:=by kernel_rfl
theorem fo26_1:z6 Tryz.prog 26 1=some 1:=by kernel_rfl
theorem fo26_2:z6 Tryz.prog 26 2=some 2:=by kernel_rfl
theorem fo28_0:z6 Tryz.prog 28 0=some 0:=by kernel_rfl
theorem fo28_1:z6 Tryz.prog 28 1=some 1:=by kernel_rfl
theorem fo32_0:z6 Tryz.prog 32 0=some 0:=by kernel_rfl
theorem fo32_1:z6 Tryz.prog 32 1=some 1:=by kernel_rfl
theorem fo56_0:z6 Tryz.prog 56 0=some 0:=by kernel_rfl
theorem fo56_1:z6 Tryz.prog 56 1=some 1:=by kernel_rfl
theorem fo58_0:z6 Tryz.prog 58 0=some 0:=by kernel_rfl
theorem fo58_1:z6 Tryz.prog 58 1=some 1:=by kernel_rfl
theorem fo58_2:z6 Tryz.prog 58 2=some 2:=by kernel_rfl
theorem fo58_3:z6 Tryz.prog 58 3=some 3:=by kernel_rfl
theorem fo58_4:z6 Tryz.prog 58 4=some 6:=by kernel_rfl
theorem fo58_5:z6 Tryz.prog 58 5=some 7:=by kernel_rfl
theorem fo89_0:z6 Tryz.prog 89 0=some 0:=by kernel_rfl
theorem fo89_1:z6 Tryz.prog 89 1=some 1:=by kernel_rfl
theorem fo108_0:z6 Tryz.prog 108 0=some 0:=by kernel_rfl
theorem fo108_1:z6 Tryz.prog 108 1=some 1:=by kernel_rfl
theorem fo108_2:z6 Tryz.prog 108 2=some 2:=by kernel_rfl
theorem fo117_0:z6 Tryz.prog 117 0=some 0:=by kernel_rfl
theorem fo117_1:z6 Tryz.prog 117 1=some 1:=by kernel_rfl
theorem fo117_2:z6 Tryz.prog 117 2=some 2:=by kernel_rfl
theorem fo117_3:z6 Tryz.prog 117 3=some 3:=by kernel_rfl
theorem fo117_4:z6 Tryz.prog 117 4=some 4:=by kernel_rfl
theorem fo117_5:z6 Tryz.prog 117 5=some 5:=by kernel_rfl
theorem fo141_0:z6 Tryz.prog 141 0=some 0:=by kernel_rfl
theorem fo141_1:z6 Tryz.prog 141 1=some 1:=by kernel_rfl
theorem fo148_0:z6 Tryz.prog 148 0=some 0:=by kernel_rfl
theorem fo148_1:z6 Tryz.prog 148 1=some 1:=by kernel_rfl
theorem fo157_0:z6 Tryz.prog 157 0=some 0:=by kernel_rfl
theorem fo157_1:z6 Tryz.prog 157 1=some 1:=by kernel_rfl
theorem fo159_0:z6 Tryz.prog 159 0=some 0:=by kernel_rfl
theorem fo159_1:z6 Tryz.prog 159 1=some 2:=by kernel_rfl
theorem fo159_2:z6 Tryz.prog 159 2=some 3:=by kernel_rfl
theorem fo175_0:z6 Tryz.prog 175 0=some 0:=by kernel_rfl
theorem fo175_1:z6 Tryz.prog 175 1=some 1:=by kernel_rfl
theorem fo191_0:z6 Tryz.prog 191 0=some 0:=by kernel_rfl
theorem fo191_1:z6 Tryz.prog 191 1=some 9:=by kernel_rfl
theorem fo191_2:z6 Tryz.prog 191 2=some 11:=by kernel_rfl
theorem fo191_3:z6 Tryz.prog 191 3=some 12:=by kernel_rfl
theorem fo197_0:z6 Tryz.prog 197 0=some 0:=by kernel_rfl
theorem fo197_1:z6 Tryz.prog 197 1=some 9:=by kernel_rfl
theorem fo209_0:z6 Tryz.prog 209 0=some 0:=by kernel_rfl
theorem fo209_1:z6 Tryz.prog 209 1=some 1:=by kernel_rfl
theorem fo209_2:z6 Tryz.prog 209 2=some 2:=by kernel_rfl
theorem fo212_0:z6 Tryz.prog 212 0=some 0:=by kernel_rfl
theorem fo212_1:z6 Tryz.prog 212 1=some 1:=by kernel_rfl
theorem fo212_2:z6 Tryz.prog 212 2=some 2:=by kernel_rfl
theorem fo215_0:z6 Tryz.prog 215 0=some 0:=by kernel_rfl
theorem fo215_1:z6 Tryz.prog 215 1=some 1:=by kernel_rfl
theorem fo215_2:z6 Tryz.prog 215 2=some 2:=by kernel_rfl
theorem fo275_0:z6 Tryz.prog 275 0=some 0:=by kernel_rfl
theorem fo275_1:z6 Tryz.prog 275 1=some 1:=by kernel_rfl
theorem fo275_2:z6 Tryz.prog 275 2=some 2:=by kernel_rfl
theorem fo275_3:z6 Tryz.prog 275 3=some 3:=by kernel_rfl
theorem ft197_0:zfK Tryz.prog 197 0=some (58,0):=by kernel_rfl
theorem es23:zaF Tryz.prog 23=some 1:=by kernel_rfl
theorem es24:zaF Tryz.prog 24=some 3:=by kernel_rfl
theorem es46:zaF Tryz.prog 46=some 1:=by kernel_rfl
theorem es48:zaF Tryz.prog 48=some 4:=by kernel_rfl
theorem es54:zaF Tryz.prog 54=some 9:=by kernel_rfl
theorem es62:zaF Tryz.prog 62=some 2:=by kernel_rfl
theorem es76:zaF Tryz.prog 76=some 1:=by kernel_rfl
theorem es114:zaF Tryz.prog 114=some 1:=by kernel_rfl
theorem es115:zaF Tryz.prog 115=some 1:=by kernel_rfl
theorem es118:zaF Tryz.prog 118=some 1:=by kernel_rfl
theorem es129:zaF Tryz.prog 129=some 4:=by kernel_rfl
theorem es173:zaF Tryz.prog 173=some 2:=by kernel_rfl
theorem es206:zaF Tryz.prog 206=some 3:=by kernel_rfl
theorem es207:zaF Tryz.prog 207=some 3:=by kernel_rfl
theorem es136:zaF Tryz.prog 136=none:=by kernel_rfl
theorem es245:zaF Tryz.prog 245=none:=by kernel_rfl
theorem es258:zaF Tryz.prog 258=none:=by kernel_rfl
theorem es259:zaF Tryz.prog 259=none:=by kernel_rfl
theorem es269:zaF Tryz.prog 269=none:=by kernel_rfl
theorem es270:zaF Tryz.prog 270=none:=by kernel_rfl
theorem ar136:zfZ Tryz.prog 136=some (256,1):=by kernel_rfl
theorem ar245:zfZ Tryz.prog 245=some (24,1):=by kernel_rfl
theorem ar258:zfZ Tryz.prog 258=some (20,1):=by kernel_rfl
theorem ar259:zfZ Tryz.prog 259=some (65,1):=by kernel_rfl
theorem ar269:zfZ Tryz.prog 269=some (32,1):=by kernel_rfl
theorem ar270:zfZ Tryz.prog 270=some (64,1):=by kernel_rfl
theorem ei23:zax Tryz.prog 23=some (3,1,8):=by kernel_rfl
theorem ei24:zax Tryz.prog 24=some (26,3,40):=by kernel_rfl
theorem ei46:zax Tryz.prog 46=some (5,1,1):=by kernel_rfl
theorem ei48:zax Tryz.prog 48=some (108,4,40):=by kernel_rfl
theorem ei54:zax Tryz.prog 54=some (58,9,112):=by kernel_rfl
theorem ei62:zax Tryz.prog 62=some (56,2,16):=by kernel_rfl
theorem ei76:zax Tryz.prog 76=some (9,1,16):=by kernel_rfl
theorem ei114:zax Tryz.prog 114=some (118,1,24):=by kernel_rfl
theorem ei115:zax Tryz.prog 115=some (23,1,24):=by kernel_rfl
theorem ei129:zax Tryz.prog 129=some (148,4,48):=by kernel_rfl
theorem ei173:zax Tryz.prog 173=some (175,2,16):=by kernel_rfl
theorem ia3:zcr Tryz.prog 3=false:=by kernel_rfl
theorem ia5:zcr Tryz.prog 5=false:=by kernel_rfl
theorem ia9:zcr Tryz.prog 9=false:=by kernel_rfl
theorem ia23:zcr Tryz.prog 23=false:=by kernel_rfl
theorem ia26:zcr Tryz.prog 26=false:=by kernel_rfl
theorem ia56:zcr Tryz.prog 56=false:=by kernel_rfl
theorem ia58:zcr Tryz.prog 58=false:=by kernel_rfl
theorem ia108:zcr Tryz.prog 108=false:=by kernel_rfl
theorem ia118:zcr Tryz.prog 118=false:=by kernel_rfl
theorem ia148:zcr Tryz.prog 148=false:=by kernel_rfl
theorem ia175:zcr Tryz.prog 175=false:=by kernel_rfl
theorem zc3:zaK Tryz.prog 3=some [.int .i64 0]:=by kernel_rfl
theorem zc4:zaK Tryz.prog 4=some [.bool false]:=by kernel_rfl
theorem zc23:zaK Tryz.prog 23=some [.slice none 0 0]:=by kernel_rfl
theorem zc26:zaK Tryz.prog 26=some [.int .i64 0,.int .i64 0,.slice none 0 0]:=by kernel_rfl
theorem zc28:zaK Tryz.prog 28=some [.slice none 0 0,.int .i64 0,.int .i64 0,.slice none 0 0]:=by kernel_rfl
theorem zc32:zaK Tryz.prog 32=some [.slice none 0 0,.int .i64 0,.int .i64 0,.slice none 0 0]:=by kernel_rfl
theorem zc56:zaK Tryz.prog 56=some [.int .i64 0,.int .i64 0]:=by kernel_rfl
theorem zc58:zaK Tryz.prog 58=some [.int .i64 0,.string ByteArray.empty,.int .i64 0,.int .i64 0,.int .i64 0,.slice none 0 0,.slice none 0 0,.int .i64 0,.int .i64 0]:=by kernel_rfl
theorem zc62:zaK Tryz.prog 62=some [.slice none 0 0]:=by kernel_rfl
theorem zc67:zaK Tryz.prog 67=some [.nilFunc]:=by kernel_rfl
theorem zc89:zaK Tryz.prog 89=some [.pointer none,.slice none 0 0]:=by kernel_rfl
theorem zc108:zaK Tryz.prog 108=some [.int .i64 0,.string ByteArray.empty,.int .i64 0,.int .i64 0]:=by kernel_rfl
theorem zc117:zaK Tryz.prog 117=some [.slice none 0 0,.slice none 0 0,.slice none 0 0,.slice none 0 0,.slice none 0 0,.slice none 0 0]:=by kernel_rfl
theorem zc141:zaK Tryz.prog 141=some [.string ByteArray.empty,.bool false]:=by kernel_rfl
theorem zc148:zaK Tryz.prog 148=some [.int .i64 0,.int .i64 0,.int .i64 0,.slice none 0 0]:=by kernel_rfl
theorem zc157:zaK Tryz.prog 157=some [.slice none 0 0,.int .i64 0]:=by kernel_rfl
theorem zc159:zaK Tryz.prog 159=some [.slice none 0 0,.int .i64 0,.int .i64 0,.int .i64 0]:=by kernel_rfl
theorem zc165:zaK Tryz.prog 165=some [.map none]:=by kernel_rfl
theorem zc175:zaK Tryz.prog 175=some [.int .i64 0,.int .i64 0]:=by kernel_rfl
theorem zc191:zaK Tryz.prog 191=some [.int .i64 0,.string ByteArray.empty,.int .i64 0,.int .i64 0,.int .i64 0,.slice none 0 0,.slice none 0 0,.int .i64 0,.int .i64 0,.int .i64 0,.int .i64 0,.int .i64 0,.int .i64 0]:=by kernel_rfl
theorem zc197:zaK Tryz.prog 197=some [.int .i64 0,.string ByteArray.empty,.int .i64 0,.int .i64 0,.int .i64 0,.slice none 0 0,.slice none 0 0,.int .i64 0,.int .i64 0,.int .i64 0,.int .i64 0]:=by kernel_rfl
theorem zc215:zaK Tryz.prog 215=some [.int .u32 0,.int .u32 0,.int .u32 0]:=by kernel_rfl
theorem zc243:zaK Tryz.prog 243=some [.string ByteArray.empty,.string ByteArray.empty,.nilIface]:=by kernel_rfl
theorem zc245:zaK Tryz.prog 245=some [.int .u8 0,.int .u8 0,.int .u8 0,.int .u8 0,.int .u8 0,.int .u8 0,.int .u8 0,.int .u8 0,.int .u8 0,.int .u8 0,.int .u8 0,.int .u8 0,.int .u8 0,.int .u8 0,.int .u8 0,.int .u8 0,.int .u8 0,.int .u8 0,.int .u8 0,.int .u8 0,.int .u8 0,.int .u8 0,.int .u8 0,.int .u8 0]:=by kernel_rfl
theorem zc256:zaK Tryz.prog 256=some [.string ByteArray.empty]:=by kernel_rfl
theorem zc259:zaK Tryz.prog 259=some [.int .u8 0,.int .u8 0,.int .u8 0,.int .u8 0,.int .u8 0,.int .u8 0,.int .u8 0,.int .u8 0,.int .u8 0,.int .u8 0,.int .u8 0,.int .u8 0,.int .u8 0,.int .u8 0,.int .u8 0,.int .u8 0,.int .u8 0,.int .u8 0,.int .u8 0,.int .u8 0,.int .u8 0,.int .u8 0,.int .u8 0,.int .u8 0,.int .u8 0,.int .u8 0,.int .u8 0,.int .u8 0,.int .u8 0,.int .u8 0,.int .u8 0,.int .u8 0,.int .u8 0,.int .u8 0,.int .u8 0,.int .u8 0,.int .u8 0,.int .u8 0,.int .u8 0,.int .u8 0,.int .u8 0,.int .u8 0,.int .u8 0,.int .u8 0,.int .u8 0,.int .u8 0,.int .u8 0,.int .u8 0,.int .u8 0,.int .u8 0,.int .u8 0,.int .u8 0,.int .u8 0,.int .u8 0,.int .u8 0,.int .u8 0,.int .u8 0,.int .u8 0,.int .u8 0,.int .u8 0,.int .u8 0,.int .u8 0,.int .u8 0,.int .u8 0,.int .u8 0]:=by kernel_rfl
theorem zc275:zaK Tryz.prog 275=some [.slice none 0 0,.int .i64 0,.int .i64 0,.int .i64 0]:=by kernel_rfl
theorem pc26:zaL Tryz.prog 26=some [(0,1),(1,1),(2,1)]:=by kernel_rfl
theorem pc28:zaL Tryz.prog 28=some [(0,1),(1,3)]:=by kernel_rfl
theorem pc32:zaL Tryz.prog 32=some [(0,1),(1,3)]:=by kernel_rfl
theorem pc56:zaL Tryz.prog 56=some [(0,1),(1,1)]:=by kernel_rfl
theorem pc58:zaL Tryz.prog 58=some [(0,1),(1,1),(2,1),(3,3),(6,1),(7,2)]:=by kernel_rfl
theorem pc108:zaL Tryz.prog 108=some [(0,1),(1,1),(2,2)]:=by kernel_rfl
theorem pc117:zaL Tryz.prog 117=some [(0,1),(1,1),(2,1),(3,1),(4,1),(5,1)]:=by kernel_rfl
theorem pc141:zaL Tryz.prog 141=some [(0,1),(1,1)]:=by kernel_rfl
theorem pc148:zaL Tryz.prog 148=some [(0,1),(1,3)]:=by kernel_rfl
theorem pc157:zaL Tryz.prog 157=some [(0,1),(1,1)]:=by kernel_rfl
theorem pc159:zaL Tryz.prog 159=some [(0,2),(2,1),(3,1)]:=by kernel_rfl
theorem pc175:zaL Tryz.prog 175=some [(0,1),(1,1)]:=by kernel_rfl
theorem pc191:zaL Tryz.prog 191=some [(0,9),(9,2),(11,1),(12,1)]:=by kernel_rfl
theorem pc197:zaL Tryz.prog 197=some [(0,9),(9,2)]:=by kernel_rfl
theorem pc243:zaL Tryz.prog 243=some [(0,1),(1,1),(2,1)]:=by kernel_rfl
theorem pc256:zaL Tryz.prog 256=some [(0,1)]:=by kernel_rfl
theorem pc275:zaL Tryz.prog 275=some [(0,1),(1,1),(2,1),(3,1)]:=by kernel_rfl
theorem mz135:mapZ Tryz.prog 135=some (.agg #[.int .i64 0,.int .i64 0,.slice none 0 0]):=by kernel_rfl
theorem mz165:mapZ Tryz.prog 165=some (.int .i64 0):=by kernel_rfl
theorem is9:zdJ Tryz.prog 9=true:=by kernel_rfl
theorem iT9:zjc Tryz.prog 9=none:=by kernel_rfl
theorem iT2:zjc Tryz.prog 2=some .i64:=by kernel_rfl
theorem iT3:zjc Tryz.prog 3=some .i64:=by kernel_rfl
theorem iT5:zjc Tryz.prog 5=some .u8:=by kernel_rfl
theorem iT21:zjc Tryz.prog 21=some .i32:=by kernel_rfl
theorem iT176:zjc Tryz.prog 176=some .u32:=by kernel_rfl
theorem iT205:zjc Tryz.prog 205=some .u64:=by kernel_rfl
theorem iT210:zjc Tryz.prog 210=some .u16:=by kernel_rfl
theorem iT238:zjc Tryz.prog 238=some .u64:=by kernel_rfl
theorem bt4:zfG Tryz.prog 4=true:=by kernel_rfl
theorem i2t56:isI2T Tryz.prog 56=true:=by kernel_rfl
theorem if91:Program.isIface Tryz.prog 91=true:=by kernel_rfl
theorem pt87:zfR Tryz.prog 87=true:=by kernel_rfl
theorem ln9:zez Tryz.prog 9=some false:=by kernel_rfl
theorem ln23:zez Tryz.prog 23=some true:=by kernel_rfl
theorem ln24:zez Tryz.prog 24=some true:=by kernel_rfl
theorem ln46:zez Tryz.prog 46=some true:=by kernel_rfl
theorem ln48:zez Tryz.prog 48=some true:=by kernel_rfl
theorem ln54:zez Tryz.prog 54=some true:=by kernel_rfl
theorem ln62:zez Tryz.prog 62=some true:=by kernel_rfl
theorem ln76:zez Tryz.prog 76=some true:=by kernel_rfl
theorem ln129:zez Tryz.prog 129=some true:=by kernel_rfl
theorem ln173:zez Tryz.prog 173=some true:=by kernel_rfl
theorem ln206:zez Tryz.prog 206=some true:=by kernel_rfl
theorem ln207:zez Tryz.prog 207=some true:=by kernel_rfl
theorem mixed:Tryz.prog.follows .mixedOrders=true:=by kernel_rfl
attribute [go_sem] ti3 ti4 ti5 ti9 ti23 ti24 zcI zkU ti29 ti32 ti46 ti48 ti54 ti56 ti58 ti62 ti67 ti87 ti91 ti108 ti114 ti115 ti118 ti148 ti163 ti165 ti175 ti176 ti178 ti191 ti197 ti206 ti207 ti210 ti215 ti238 fo26_0 fo26_1 fo26_2 fo28_0 fo28_1 fo32_0 fo32_1 fo56_0 fo56_1 fo58_0 fo58_1 fo58_2 fo58_3 fo58_4 fo58_5 fo89_0 fo89_1 fo108_0 fo108_1 fo108_2 fo117_0 fo117_1 fo117_2 fo117_3 fo117_4 fo117_5 fo141_0 fo141_1 fo148_0 fo148_1 fo157_0 fo157_1 fo159_0 fo159_1 fo159_2 fo175_0 fo175_1 fo191_0 fo191_1 fo191_2 fo191_3 fo197_0 fo197_1 fo209_0 fo209_1 fo209_2 fo212_0 fo212_1 fo212_2 fo215_0 fo215_1 fo215_2 fo275_0 fo275_1 fo275_2 fo275_3 ft197_0 es23 es24 es46 es48 es54 es62 es76 es114 es115 es118 es129 es173 es206 es207 es136 es245 es258 es259 es269 es270 ar136 ar245 ar258 ar259 ar269 ar270 ei23 ei24 ei46 ei48 ei54 ei62 ei76 ei114 ei115 ei129 ei173 ia3 ia5 ia9 ia23 ia26 ia56 ia58 ia108 ia118 ia148 ia175 zc3 zc4 zc23 zc26 zc28 zc32 zc56 zc58 zc62 zc67 zc89 zc108 zc117 zc141 zc148 zc157 zc159 zc165 zc175 zc191 zc197 zc215 zc243 zc245 zc256 zc259 zc275 pc26 pc28 pc32 pc56 pc58 pc108 pc117 pc141 pc148 pc157 pc159 pc175 pc191 pc197 pc243 pc256 pc275 mz135 mz165 is9 iT9 iT2 iT3 iT5 iT21 iT176 iT205 iT210 iT238 bt4 i2t56 if91 pt87 ln9 ln23 ln24 ln46 ln48 ln54 ln62 ln76 ln129 ln173 ln206 ln207
end Go.Proofs.YtkokfdmggdhfmaaGreatDoor

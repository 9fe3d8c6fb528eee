/- A part of the proof. -/
import Derived.Shelf.Strings.Builder1
import Derived.Shelf.Strings.Builder2
import Derived.Shelf.Strings.OnBuilder
import Derived.Shelf.Strings.Trim
import Derived.Shelf.Small.Utf8
import Derived.Shelf.Small.Strs
import Derived.Shelf.Small.Wraps
import Derived.Shelf.Strings.BuilderF
import Derived.Shelf.Strings.BuilderK
import Derived.Shelf.Strings.BuilderRune
import Derived.Shelf.Strconv.Itoa0
import Derived.Shelf.Strconv.Itoa1
import Derived.Shelf.LaysM
import Derived.Shelf.Strconv.Itoa2
import Derived.Shelf.Strconv.Itoa3
import Derived.Shelf.Strconv.Itoa4
import Derived.Shelf.Strconv.ParseIntEmpty
import Derived.Shelf.Strconv.Clone
import Derived.Shelf.Strconv.SyntaxError
import Derived.Shelf.LaysC
import Derived.Shelf.Strconv.ToError
import Derived.Shelf.Strconv.Lower
import Derived.Shelf.Strconv.ParseUint10
import Derived.Shelf.Strconv.ParseUint10Empty
import Derived.Shelf.Strconv.ParseUint10Any
import Derived.Shelf.Strconv.ParseInt10
import Derived.Shelf.Strconv.RangeError
import Derived.Shelf.Strconv.ToErrorRange
import Derived.Shelf.Strconv.ParseUintEmpty
import Derived.Shelf.Strconv.ParseUint10b64
import Derived.Shelf.Strconv.ParseUint10b32
import Derived.Shelf.Strconv.ParseUint10b16
import Derived.Shelf.Strconv.ParseUint10b8
import Derived.Shelf.Strconv.ParseUint10At
import Derived.Shelf.Strconv.ParseInt10At64
import Derived.Shelf.Strconv.ParseInt10At32
import Derived.Shelf.Strconv.ParseInt10At16
import Derived.Shelf.Strconv.ParseInt10At8
import Derived.Shelf.Strconv.ParseInt10All
import Derived.Shelf.Strconv.ParseIntPublic10
import Derived.Shelf.Strconv.ErrVarParseInt
import Derived.Shelf.Strings.Search1
import Derived.Shelf.GgClosure.StringsIndexFunc
import Derived.Ground.GgwProg
import Derived.Shelf.GgClosure.StringsIndexFuncTop
import Derived.Shelf.Strings.Prefix
import Derived.Shelf.Unicode.Latin
import Derived.Shelf.Unicode.Decode
import Derived.Shelf.Strings.Runes
import Derived.Shelf.Strings.AsciiSet
import Derived.Shelf.Unicode.DecodeSlow
import Derived.Shelf.Unicode.DecodeAny
import Derived.Shelf.Unicode.CaseLookup
import Derived.Shelf.Unicode.CaseConvert
import Derived.Shelf.Unicode.CaseTo
import Derived.Shelf.Unicode.CaseLaid
import Derived.Shelf.Strings.MapAny
import Derived.Shelf.Strings.CaseAny
import Derived.Ground.Names2Prog
import Derived.Shelf.Slices.ReverseS
import Derived.Shelf.Slices.Clone
import Derived.Shelf.Slices.Cells
import Derived.Ground.SlgnProg
import Derived.Shelf.SlicesE.Clone
import Derived.Test.YtbooeongacgnbaaGreatDoorProg
set_option maxRecDepth 100000
set_option maxHeartbeats 4000000
set_option linter.unusedSectionVars false
set_option linter.unusedVariables false
set_option linter.unusedSimpArgs false
section
namespace Go.Proofs
open Go.Shelf
section
def Tryz.nS:Go.Shelf.Ren:=⟨λ|159=>164|165=>74|166=>47|167=>45|169=>48|230=>174|204=>175|240=>69|241=>95|197=>116|118=>177|168=>128|270=>178|262=>179|276=>89|277=>114|260=>137|242=>150|313=>180|278=>165|274=>181|275=>182|n=>n,λ|9=>9|4=>4|3=>3|5=>5|72=>79|0=>0|76=>82|75=>62|107=>203|70=>77|20=>20|37=>22|127=>99|21=>21|105=>147|164=>120|162=>211|203=>173|119=>194|46=>84|139=>197|138=>196|51=>124|160=>212|208=>218|206=>216|80=>85|n=>n,λ|13=>8|3=>5|4=>6|n=>n⟩
theorem Tryz.zt:Go.Proofs.Lays.n159 Tryz.prog Tryz.nS:={
 mixed:=by kernel_rfl
 f118:=Tryz.func177.trans (congrArg some (by kernel_rfl))
 f159:=Tryz.func164.trans (congrArg some (by kernel_rfl))
 f165:=Tryz.func74.trans (congrArg some (by kernel_rfl))
 f166:=Tryz.func47.trans (congrArg some (by kernel_rfl))
 f167:=Tryz.func45.trans (congrArg some (by kernel_rfl))
 f168:=Tryz.func128.trans (congrArg some (by kernel_rfl))
 f169:=Tryz.func48.trans (congrArg some (by kernel_rfl))
 f197:=Tryz.func116.trans (congrArg some (by kernel_rfl))
 f204:=Tryz.func175.trans (congrArg some (by kernel_rfl))
 f230:=Tryz.func174.trans (congrArg some (by kernel_rfl))
 f240:=Tryz.func69.trans (congrArg some (by kernel_rfl))
 f241:=Tryz.func95.trans (congrArg some (by kernel_rfl))
 f242:=Tryz.func150.trans (congrArg some (by kernel_rfl))
 f260:=Tryz.func137.trans (congrArg some (by kernel_rfl))
 f262:=Tryz.func179.trans (congrArg some (by kernel_rfl))
 f270:=Tryz.func178.trans (congrArg some (by kernel_rfl))
 f274:=Tryz.func181.trans (congrArg some (by kernel_rfl))
 f275:=Tryz.func182.trans (congrArg some (by kernel_rfl))
 f276:=Tryz.func89.trans (congrArg some (by kernel_rfl))
 f277:=Tryz.func114.trans (congrArg some (by kernel_rfl))
 f278:=Tryz.func165.trans (congrArg some (by kernel_rfl))
 f313:=Tryz.func180.trans (congrArg some (by kernel_rfl))
 t0:=Tryz.underlying0
 a0:=Tryz.isAgg0
 z0:=Tryz.sizeOf0
 v0:=Tryz.zeroValue0
 t3:=Tryz.underlying3
 a3:=Tryz.isAgg3
 z3:=Tryz.sizeOf3
 v3:=Tryz.zeroValue3
 t4:=Tryz.underlying4
 a4:=Tryz.isAgg4
 z4:=Tryz.sizeOf4
 v4:=Tryz.zeroValue4
 t5:=Tryz.underlying5
 a5:=Tryz.isAgg5
 z5:=Tryz.sizeOf5
 v5:=Tryz.zeroValue5
 t9:=Tryz.underlying9
 a9:=Tryz.isAgg9
 z9:=Tryz.sizeOf9
 v9:=Tryz.zeroValue9
 t20:=Tryz.underlying20
 a20:=Tryz.isAgg20
 z20:=Tryz.sizeOf20
 v20:=Tryz.zeroValue20
 t21:=Tryz.underlying21
 a21:=Tryz.isAgg21
 z21:=Tryz.sizeOf21
 v21:=Tryz.zeroValue21
 t37:=Tryz.underlying22
 a37:=Tryz.isAgg22
 z37:=Tryz.sizeOf22
 v37:=Tryz.zeroValue22
 t46:=Tryz.underlying84
 a46:=Tryz.isAgg84
 z46:=Tryz.sizeOf84
 v46:=Tryz.zeroValue84
 t51:=Tryz.underlying124
 a51:=Tryz.isAgg124
 z51:=Tryz.sizeOf124
 v51:=Tryz.zeroValue124
 t70:=Tryz.underlying77
 a70:=Tryz.isAgg77
 z70:=Tryz.sizeOf77
 v70:=Tryz.zeroValue77
 t72:=Tryz.underlying79
 a72:=Tryz.isAgg79
 z72:=Tryz.sizeOf79
 v72:=Tryz.zeroValue79
 t75:=Tryz.underlying62
 a75:=Tryz.isAgg62
 z75:=Tryz.sizeOf62
 v75:=Tryz.zeroValue62
 t76:=Tryz.underlying82
 a76:=Tryz.isAgg82
 z76:=Tryz.sizeOf82
 v76:=Tryz.zeroValue82
 t105:=Tryz.underlying147
 a105:=Tryz.isAgg147
 z105:=Tryz.sizeOf147
 v105:=Tryz.zeroValue147
 t107:=Tryz.underlying203
 a107:=Tryz.isAgg203
 z107:=Tryz.sizeOf203
 v107:=Tryz.zeroValue203
 t119:=Tryz.underlying194
 a119:=Tryz.isAgg194
 z119:=Tryz.sizeOf194
 t127:=Tryz.underlying99
 a127:=Tryz.isAgg99
 z127:=Tryz.sizeOf99
 v127:=Tryz.zeroValue99
 t138:=Tryz.underlying196
 a138:=Tryz.isAgg196
 z138:=Tryz.sizeOf196
 v138:=Tryz.zeroValue196
 t139:=Tryz.underlying197
 a139:=Tryz.isAgg197
 z139:=Tryz.sizeOf197
 v139:=Tryz.zeroValue197
 t160:=Tryz.underlying212
 a160:=Tryz.isAgg212
 z160:=Tryz.sizeOf212
 v160:=Tryz.zeroValue212
 t162:=Tryz.underlying211
 a162:=Tryz.isAgg211
 z162:=Tryz.sizeOf211
 v162:=Tryz.zeroValue211
 t164:=Tryz.underlying120
 a164:=Tryz.isAgg120
 z164:=Tryz.sizeOf120
 v164:=Tryz.zeroValue120
 t203:=Tryz.underlying173
 a203:=Tryz.isAgg173
 z203:=Tryz.sizeOf173
 v203:=Tryz.zeroValue173
 t206:=Tryz.underlying216
 a206:=Tryz.isAgg216
 z206:=Tryz.sizeOf216
 v206:=Tryz.zeroValue216
 t208:=Tryz.underlying218
 a208:=Tryz.isAgg218
 z208:=Tryz.sizeOf218
 v208:=Tryz.zeroValue218
 g3:=by kernel_rfl
 g4:=by kernel_rfl
 g13:=by kernel_rfl}
theorem Tryz.nT:Builder.Extra Tryz.prog Tryz.nS:={
 sizeBuilder:=by kernel_rfl
 liesBuilder:=by kernel_rfl
 t5:=Tryz.underlying5
 a5:=Tryz.isAgg5
 z5:=Tryz.sizeOf5
 v5:=Tryz.zeroValue5
 infoByte:=by kernel_rfl
 cellsByte:=by kernel_rfl
 sizeByte:=by kernel_rfl
 neB5:=by decide}
open Go.RowKit in
theorem Tryz.strings_ToLower_ascii(s:ByteArray)(w:World)(hs:s.size<=140737488355328)(hascii:∀(j:Nat) (b:UInt8),s.data.toList[j]? =some b->b.toNat<128):
 Calls Tryz.prog 164 #[.string s] w λe w'=>e=.returned (.string ⟨(Lib.toLowerA s.data.toList).toArray⟩)/\Below w.heap.size w w':=Any.strings_ToLower_ascii Tryz.zt Tryz.nT s w hs hascii
def Tryz.yK:Go.Shelf.Ren:=⟨λ|156=>51|165=>74|166=>47|169=>48|240=>69|241=>95|276=>89|277=>114|n=>n,λ|31=>24|9=>9|3=>3|4=>4|0=>0|20=>20|72=>79|76=>82|70=>77|37=>22|75=>62|127=>99|164=>120|5=>5|80=>85|n=>n,λ|n=>n⟩
theorem Tryz.Le:Go.Proofs.Lays.n156 Tryz.prog Tryz.yK:={
 mixed:=by kernel_rfl
 f156:=Tryz.func51.trans (congrArg some (by kernel_rfl))
 f165:=Tryz.func74.trans (congrArg some (by kernel_rfl))
 f166:=Tryz.func47.trans (congrArg some (by kernel_rfl))
 f169:=Tryz.func48.trans (congrArg some (by kernel_rfl))
 f240:=Tryz.func69.trans (congrArg some (by kernel_rfl))
 f241:=Tryz.func95.trans (congrArg some (by kernel_rfl))
 f276:=Tryz.func89.trans (congrArg some (by kernel_rfl))
 f277:=Tryz.func114.trans (congrArg some (by kernel_rfl))
 t0:=Tryz.underlying0
 a0:=Tryz.isAgg0
 z0:=Tryz.sizeOf0
 v0:=Tryz.zeroValue0
 t3:=Tryz.underlying3
 a3:=Tryz.isAgg3
 z3:=Tryz.sizeOf3
 v3:=Tryz.zeroValue3
 t4:=Tryz.underlying4
 a4:=Tryz.isAgg4
 z4:=Tryz.sizeOf4
 v4:=Tryz.zeroValue4
 t9:=Tryz.underlying9
 a9:=Tryz.isAgg9
 z9:=Tryz.sizeOf9
 v9:=Tryz.zeroValue9
 t20:=Tryz.underlying20
 a20:=Tryz.isAgg20
 z20:=Tryz.sizeOf20
 v20:=Tryz.zeroValue20
 t31:=Tryz.underlying24
 a31:=Tryz.isAgg24
 z31:=Tryz.sizeOf24
 v31:=Tryz.zeroValue24
 t37:=Tryz.underlying22
 a37:=Tryz.isAgg22
 z37:=Tryz.sizeOf22
 v37:=Tryz.zeroValue22
 t70:=Tryz.underlying77
 a70:=Tryz.isAgg77
 z70:=Tryz.sizeOf77
 v70:=Tryz.zeroValue77
 t72:=Tryz.underlying79
 a72:=Tryz.isAgg79
 z72:=Tryz.sizeOf79
 v72:=Tryz.zeroValue79
 t75:=Tryz.underlying62
 a75:=Tryz.isAgg62
 z75:=Tryz.sizeOf62
 v75:=Tryz.zeroValue62
 t76:=Tryz.underlying82
 a76:=Tryz.isAgg82
 z76:=Tryz.sizeOf82
 v76:=Tryz.zeroValue82
 t127:=Tryz.underlying99
 a127:=Tryz.isAgg99
 z127:=Tryz.sizeOf99
 v127:=Tryz.zeroValue99
 t164:=Tryz.underlying120
 a164:=Tryz.isAgg120
 z164:=Tryz.sizeOf120
 v164:=Tryz.zeroValue120}
theorem Tryz.nU:Builder.Extra Tryz.prog Tryz.yK:={
 sizeBuilder:=by kernel_rfl
 liesBuilder:=by kernel_rfl
 t5:=Tryz.underlying5
 a5:=Tryz.isAgg5
 z5:=Tryz.sizeOf5
 v5:=Tryz.zeroValue5
 infoByte:=by kernel_rfl
 cellsByte:=by kernel_rfl
 sizeByte:=by kernel_rfl
 neB5:=by decide}
open Go.RowKit in
theorem Tryz.strings_Join_none(a:Option Addr)(c:Nat)(sep:ByteArray)(w:World):
 Calls Tryz.prog 51 #[.slice a 0 c,.string sep] w λe w'=>e=.returned (.string ⟨#[]⟩)/\w'=w:=Any.strings_Join_none Tryz.Le Tryz.nU a c sep w
open Go.RowKit in
theorem Tryz.strings_Join(bk o c:Nat)(xs:List ByteArray)(sep:ByteArray)(w:World)(hcells:∀(j:Nat) x,xs[j]? =some x->w.cell? ⟨bk,o+j,none⟩=some (.string x))(hbk:bk<w.heap.size)(hN:xs.length<=140737488355328)(hcap:xs.length<=c)(hlen:(Lib.join (xs.map (·.data.toList)) sep.data.toList).length<=140737488355328):
 Calls Tryz.prog 51 #[.slice (some ⟨bk,o,none⟩) xs.length c,.string sep] w λe w'=>e=.returned (.string ⟨(Lib.join (xs.map (·.data.toList)) sep.data.toList).toArray⟩)/\Below w.heap.size w w':=Any.strings_Join Tryz.Le Tryz.nU bk o c xs sep w hcells hbk hN hcap hlen
def Tryz.GL:Go.Shelf.Ren:=⟨λ|119=>158|n=>n,λ|21=>21|4=>4|n=>n,λ|n=>n⟩
theorem Tryz.Qk:Go.Proofs.Lays.n119 Tryz.prog Tryz.GL:={
 mixed:=by kernel_rfl
 f119:=Tryz.func158.trans (congrArg some (by kernel_rfl))
 t4:=Tryz.underlying4
 a4:=Tryz.isAgg4
 z4:=Tryz.sizeOf4
 v4:=Tryz.zeroValue4
 t21:=Tryz.underlying21
 a21:=Tryz.isAgg21
 z21:=Tryz.sizeOf21
 v21:=Tryz.zeroValue21}
theorem Tryz.utf8_ValidRune(r:Int)(w:World):
 Calls Tryz.prog 158 #[.int .i32 r] w λe w'=>e=.returned (.bool (Lib.validRune r))/\w'=w:=Any.utf8_ValidRune Tryz.Qk r w
def Tryz.GM:Go.Shelf.Ren:=⟨λ|137=>108|217=>134|266=>156|n=>n,λ|9=>9|5=>5|3=>3|n=>n,λ|n=>n⟩
theorem Tryz.Ql:Go.Proofs.Lays.n137 Tryz.prog Tryz.GM:={
 mixed:=by kernel_rfl
 f137:=Tryz.func108.trans (congrArg some (by kernel_rfl))
 f217:=Tryz.func134.trans (congrArg some (by kernel_rfl))
 f266:=Tryz.func156.trans (congrArg some (by kernel_rfl))
 t3:=Tryz.underlying3
 a3:=Tryz.isAgg3
 z3:=Tryz.sizeOf3
 v3:=Tryz.zeroValue3
 t5:=Tryz.underlying5
 a5:=Tryz.isAgg5
 z5:=Tryz.sizeOf5
 v5:=Tryz.zeroValue5
 t9:=Tryz.underlying9
 a9:=Tryz.isAgg9
 z9:=Tryz.sizeOf9
 v9:=Tryz.zeroValue9}
open Go.RowKit in
theorem Tryz.strings_IndexByte(s:ByteArray)(c:Int)(w:World):
 Calls Tryz.prog 108 #[.string s,.int .u8 c] w λe w'=>e=.returned (.int .i64 (Lib.indexByte s.data.toList c.toNat.toUInt8))/\w'=w:=Any.strings_IndexByte Tryz.Ql s c w
def Tryz.GN:Go.Shelf.Ren:=⟨λ|103=>126|210=>147|206=>75|n=>n,λ|9=>9|4=>4|24=>154|3=>3|n=>n,λ|n=>n⟩
theorem Tryz.Qm:Go.Proofs.Lays.n103 Tryz.prog Tryz.GN:={
 mixed:=by kernel_rfl
 f103:=Tryz.func126.trans (congrArg some (by kernel_rfl))
 f206:=Tryz.func75.trans (congrArg some (by kernel_rfl))
 f210:=Tryz.func147.trans (congrArg some (by kernel_rfl))
 t3:=Tryz.underlying3
 a3:=Tryz.isAgg3
 z3:=Tryz.sizeOf3
 v3:=Tryz.zeroValue3
 t4:=Tryz.underlying4
 a4:=Tryz.isAgg4
 z4:=Tryz.sizeOf4
 v4:=Tryz.zeroValue4
 t9:=Tryz.underlying9
 a9:=Tryz.isAgg9
 z9:=Tryz.sizeOf9
 v9:=Tryz.zeroValue9
 t24:=Tryz.underlying154
 a24:=Tryz.isAgg154
 z24:=Tryz.sizeOf154
 v24:=Tryz.zeroValue154}
open Go.RowKit in
theorem Tryz.strings_CutPrefix(s p:ByteArray)(w:World):
 Calls Tryz.prog 126 #[.string s,.string p] w λe w'=>e=.returned (.tuple #[.string ⟨(Lib.trimPrefix s.data.toList p.data.toList).toArray⟩,.bool (Lib.hasPrefix s.data.toList p.data.toList)])/\w'=w:=Any.strings_CutPrefix Tryz.Qm s p w
def Tryz.GQ:Go.Shelf.Ren:=⟨λ|121=>30|214=>49|n=>n,λ|4=>4|9=>9|n=>n,λ|n=>n⟩
theorem Tryz.Qn:Go.Proofs.Lays.n121 Tryz.prog Tryz.GQ:={
 mixed:=by kernel_rfl
 f121:=Tryz.func30.trans (congrArg some (by kernel_rfl))
 f214:=Tryz.func49.trans (congrArg some (by kernel_rfl))
 t4:=Tryz.underlying4
 a4:=Tryz.isAgg4
 z4:=Tryz.sizeOf4
 v4:=Tryz.zeroValue4
 t9:=Tryz.underlying9
 a9:=Tryz.isAgg9
 z9:=Tryz.sizeOf9
 v9:=Tryz.zeroValue9}
open Go.RowKit in
theorem Tryz.strconv_FormatBool(b:Bool)(w:World):
 Calls Tryz.prog 30 #[.bool b] w λe w'=>e=.returned (.string ⟨(Lib.formatBool b).toArray⟩)/\w'=w:=Any.strconv_FormatBool Tryz.Qn b w
def Tryz.Et:Go.Shelf.Ren:=⟨λ|246=>50|283=>70|284=>71|285=>72|286=>73|129=>91|317=>90|318=>92|319=>93|320=>94|337=>112|338=>113|n=>n,λ|2=>2|3=>3|9=>9|4=>4|171=>101|0=>0|53=>102|37=>22|5=>5|173=>105|212=>123|51=>124|20=>20|213=>125|46=>84|232=>163|233=>164|n=>n,λ|17=>0|18=>2|19=>3|n=>n⟩
theorem Tryz.N7:Go.Proofs.LaysM.n246 Tryz.prog Tryz.Et:={
 mixed:=by kernel_rfl
 f129:=Tryz.func91.trans (congrArg some (by kernel_rfl))
 f246:=Tryz.func50.trans (congrArg some (by kernel_rfl))
 f283:=Tryz.func70.trans (congrArg some (by kernel_rfl))
 f284:=Tryz.func71.trans (congrArg some (by kernel_rfl))
 f285:=Tryz.func72.trans (congrArg some (by kernel_rfl))
 f286:=Tryz.func73.trans (congrArg some (by kernel_rfl))
 f317:=Tryz.func90.trans (congrArg some (by kernel_rfl))
 f318:=Tryz.func92.trans (congrArg some (by kernel_rfl))
 f319:=Tryz.func93.trans (congrArg some (by kernel_rfl))
 f320:=Tryz.func94.trans (congrArg some (by kernel_rfl))
 f337:=Tryz.func112.trans (congrArg some (by kernel_rfl))
 f338:=Tryz.func113.trans (congrArg some (by kernel_rfl))
 t0:=Tryz.underlying0
 a0:=Tryz.isAgg0
 z0:=Tryz.sizeOf0
 v0:=Tryz.zeroValue0
 t2:=Tryz.underlying2
 a2:=Tryz.isAgg2
 z2:=Tryz.sizeOf2
 v2:=Tryz.zeroValue2
 t3:=Tryz.underlying3
 a3:=Tryz.isAgg3
 z3:=Tryz.sizeOf3
 v3:=Tryz.zeroValue3
 t4:=Tryz.underlying4
 a4:=Tryz.isAgg4
 z4:=Tryz.sizeOf4
 v4:=Tryz.zeroValue4
 t5:=Tryz.underlying5
 a5:=Tryz.isAgg5
 z5:=Tryz.sizeOf5
 v5:=Tryz.zeroValue5
 t9:=Tryz.underlying9
 a9:=Tryz.isAgg9
 z9:=Tryz.sizeOf9
 v9:=Tryz.zeroValue9
 t20:=Tryz.underlying20
 a20:=Tryz.isAgg20
 z20:=Tryz.sizeOf20
 v20:=Tryz.zeroValue20
 t37:=Tryz.underlying22
 a37:=Tryz.isAgg22
 z37:=Tryz.sizeOf22
 v37:=Tryz.zeroValue22
 t46:=Tryz.underlying84
 a46:=Tryz.isAgg84
 z46:=Tryz.sizeOf84
 v46:=Tryz.zeroValue84
 t51:=Tryz.underlying124
 a51:=Tryz.isAgg124
 z51:=Tryz.sizeOf124
 v51:=Tryz.zeroValue124
 t53:=Tryz.underlying102
 a53:=Tryz.isAgg102
 z53:=Tryz.sizeOf102
 v53:=Tryz.zeroValue102
 t171:=Tryz.underlying101
 a171:=Tryz.isAgg101
 z171:=Tryz.sizeOf101
 v171:=Tryz.zeroValue101
 t173:=Tryz.underlying105
 a173:=Tryz.isAgg105
 z173:=Tryz.sizeOf105
 v173:=Tryz.zeroValue105
 t212:=Tryz.underlying123
 a212:=Tryz.isAgg123
 z212:=Tryz.sizeOf123
 v212:=Tryz.zeroValue123
 t213:=Tryz.underlying125
 a213:=Tryz.isAgg125
 z213:=Tryz.sizeOf125
 t232:=Tryz.underlying163
 a232:=Tryz.isAgg163
 z232:=Tryz.sizeOf163
 v232:=Tryz.zeroValue163
 t233:=Tryz.underlying164
 a233:=Tryz.isAgg164
 z233:=Tryz.sizeOf164
 v233:=Tryz.zeroValue164
 g17:=by kernel_rfl
 g18:=by kernel_rfl
 g19:=by kernel_rfl
 i0:=by kernel_rfl
 i2:=by kernel_rfl
 i3:=by kernel_rfl
 i4:=by kernel_rfl
 i5:=by kernel_rfl
 i9:=by kernel_rfl
 i20:=by kernel_rfl
 i37:=by kernel_rfl
 i46:=by kernel_rfl
 i51:=by kernel_rfl
 i53:=by kernel_rfl
 i171:=by kernel_rfl
 i173:=by kernel_rfl
 i212:=by kernel_rfl
 i232:=by kernel_rfl
 i233:=by kernel_rfl
 m17:=by kernel_rfl
 m18:=by kernel_rfl
 m19:=by kernel_rfl}
open Go.RowKit Go.Sort Go.Lib in
theorem Tryz.internal_strconv_FormatInt_10(n:Int)(h0: -9223372036854775808<=n)(h1:n<=9223372036854775807)(w:World)(htab:Lib.TabIs Tryz.prog w "internal/strconv.uint64pow10" .u64 Lib.pow10Tab):
 Calls Tryz.prog 50 #[.int .i64 n,.int .i64 10] w λe w'=>e=.returned (.string ⟨(Lib.itoa n).toArray⟩)/\∃k os,w'=grow (w.drewN k) os:=Any.internal_strconv_FormatInt_10 Tryz.N7 n h0 h1 w htab
def Tryz.Eu:Go.Shelf.Ren:=⟨λ|174=>106|247=>130|245=>131|287=>151|279=>152|280=>153|281=>154|282=>155|321=>166|322=>167|316=>168|171=>170|205=>169|243=>176|246=>50|283=>70|284=>71|285=>72|286=>73|129=>91|317=>90|318=>92|319=>93|320=>94|337=>112|338=>113|n=>n,λ|9=>9|3=>3|2=>2|75=>62|85=>141|4=>4|167=>177|5=>5|53=>102|175=>178|46=>84|168=>180|37=>22|0=>0|210=>199|21=>21|127=>99|145=>206|143=>204|171=>101|173=>105|212=>123|51=>124|20=>20|213=>125|232=>163|233=>164|80=>85|n=>n,λ|15=>1|16=>7|17=>0|18=>2|19=>3|n=>n⟩
theorem Tryz.Au:Go.Proofs.LaysC.n174 Tryz.prog Tryz.Eu:={
 mixed:=by kernel_rfl
 f129:=Tryz.func91.trans (congrArg some (by kernel_rfl))
 f171:=Tryz.func170.trans (congrArg some (by kernel_rfl))
 f174:=Tryz.func106.trans (congrArg some (by kernel_rfl))
 f205:=Tryz.func169.trans (congrArg some (by kernel_rfl))
 f243:=Tryz.func176.trans (congrArg some (by kernel_rfl))
 f245:=Tryz.func131.trans (congrArg some (by kernel_rfl))
 f246:=Tryz.func50.trans (congrArg some (by kernel_rfl))
 f247:=Tryz.func130.trans (congrArg some (by kernel_rfl))
 f279:=Tryz.func152.trans (congrArg some (by kernel_rfl))
 f280:=Tryz.func153.trans (congrArg some (by kernel_rfl))
 f281:=Tryz.func154.trans (congrArg some (by kernel_rfl))
 f282:=Tryz.func155.trans (congrArg some (by kernel_rfl))
 f283:=Tryz.func70.trans (congrArg some (by kernel_rfl))
 f284:=Tryz.func71.trans (congrArg some (by kernel_rfl))
 f285:=Tryz.func72.trans (congrArg some (by kernel_rfl))
 f286:=Tryz.func73.trans (congrArg some (by kernel_rfl))
 f287:=Tryz.func151.trans (congrArg some (by kernel_rfl))
 f316:=Tryz.func168.trans (congrArg some (by kernel_rfl))
 f317:=Tryz.func90.trans (congrArg some (by kernel_rfl))
 f318:=Tryz.func92.trans (congrArg some (by kernel_rfl))
 f319:=Tryz.func93.trans (congrArg some (by kernel_rfl))
 f320:=Tryz.func94.trans (congrArg some (by kernel_rfl))
 f321:=Tryz.func166.trans (congrArg some (by kernel_rfl))
 f322:=Tryz.func167.trans (congrArg some (by kernel_rfl))
 f337:=Tryz.func112.trans (congrArg some (by kernel_rfl))
 f338:=Tryz.func113.trans (congrArg some (by kernel_rfl))
 t0:=Tryz.underlying0
 a0:=Tryz.isAgg0
 z0:=Tryz.sizeOf0
 v0:=Tryz.zeroValue0
 t2:=Tryz.underlying2
 a2:=Tryz.isAgg2
 z2:=Tryz.sizeOf2
 v2:=Tryz.zeroValue2
 t3:=Tryz.underlying3
 a3:=Tryz.isAgg3
 z3:=Tryz.sizeOf3
 v3:=Tryz.zeroValue3
 t4:=Tryz.underlying4
 a4:=Tryz.isAgg4
 z4:=Tryz.sizeOf4
 v4:=Tryz.zeroValue4
 t5:=Tryz.underlying5
 a5:=Tryz.isAgg5
 z5:=Tryz.sizeOf5
 v5:=Tryz.zeroValue5
 t9:=Tryz.underlying9
 a9:=Tryz.isAgg9
 z9:=Tryz.sizeOf9
 v9:=Tryz.zeroValue9
 t20:=Tryz.underlying20
 a20:=Tryz.isAgg20
 z20:=Tryz.sizeOf20
 v20:=Tryz.zeroValue20
 t21:=Tryz.underlying21
 a21:=Tryz.isAgg21
 z21:=Tryz.sizeOf21
 v21:=Tryz.zeroValue21
 t37:=Tryz.underlying22
 a37:=Tryz.isAgg22
 z37:=Tryz.sizeOf22
 v37:=Tryz.zeroValue22
 t46:=Tryz.underlying84
 a46:=Tryz.isAgg84
 z46:=Tryz.sizeOf84
 v46:=Tryz.zeroValue84
 t51:=Tryz.underlying124
 a51:=Tryz.isAgg124
 z51:=Tryz.sizeOf124
 v51:=Tryz.zeroValue124
 t53:=Tryz.underlying102
 a53:=Tryz.isAgg102
 z53:=Tryz.sizeOf102
 v53:=Tryz.zeroValue102
 t75:=Tryz.underlying62
 a75:=Tryz.isAgg62
 z75:=Tryz.sizeOf62
 v75:=Tryz.zeroValue62
 t85:=Tryz.underlying141
 a85:=Tryz.isAgg141
 z85:=Tryz.sizeOf141
 v85:=Tryz.zeroValue141
 t127:=Tryz.underlying99
 a127:=Tryz.isAgg99
 z127:=Tryz.sizeOf99
 v127:=Tryz.zeroValue99
 t143:=Tryz.underlying204
 a143:=Tryz.isAgg204
 z143:=Tryz.sizeOf204
 v143:=Tryz.zeroValue204
 t145:=Tryz.underlying206
 a145:=Tryz.isAgg206
 z145:=Tryz.sizeOf206
 v145:=Tryz.zeroValue206
 t167:=Tryz.underlying177
 a167:=Tryz.isAgg177
 z167:=Tryz.sizeOf177
 v167:=Tryz.zeroValue177
 t168:=Tryz.underlying180
 a168:=Tryz.isAgg180
 z168:=Tryz.sizeOf180
 v168:=Tryz.zeroValue180
 t171:=Tryz.underlying101
 a171:=Tryz.isAgg101
 z171:=Tryz.sizeOf101
 v171:=Tryz.zeroValue101
 t173:=Tryz.underlying105
 a173:=Tryz.isAgg105
 z173:=Tryz.sizeOf105
 v173:=Tryz.zeroValue105
 t175:=Tryz.underlying178
 a175:=Tryz.isAgg178
 z175:=Tryz.sizeOf178
 v175:=Tryz.zeroValue178
 t210:=Tryz.underlying199
 a210:=Tryz.isAgg199
 z210:=Tryz.sizeOf199
 v210:=Tryz.zeroValue199
 t212:=Tryz.underlying123
 a212:=Tryz.isAgg123
 z212:=Tryz.sizeOf123
 v212:=Tryz.zeroValue123
 t213:=Tryz.underlying125
 a213:=Tryz.isAgg125
 z213:=Tryz.sizeOf125
 t232:=Tryz.underlying163
 a232:=Tryz.isAgg163
 z232:=Tryz.sizeOf163
 v232:=Tryz.zeroValue163
 t233:=Tryz.underlying164
 a233:=Tryz.isAgg164
 z233:=Tryz.sizeOf164
 v233:=Tryz.zeroValue164
 g15:=by kernel_rfl
 g16:=by kernel_rfl
 g17:=by kernel_rfl
 g18:=by kernel_rfl
 g19:=by kernel_rfl
 t80:=Tryz.underlying85
 a80:=Tryz.isAgg85
 z80:=Tryz.sizeOf85
 v80:=Tryz.zeroValue85
 i0:=by kernel_rfl
 i2:=by kernel_rfl
 i3:=by kernel_rfl
 i4:=by kernel_rfl
 i5:=by kernel_rfl
 i9:=by kernel_rfl
 i20:=by kernel_rfl
 i21:=by kernel_rfl
 i37:=by kernel_rfl
 i46:=by kernel_rfl
 i51:=by kernel_rfl
 i53:=by kernel_rfl
 i75:=by kernel_rfl
 i80:=by kernel_rfl
 i85:=by kernel_rfl
 i127:=by kernel_rfl
 i143:=by kernel_rfl
 i145:=by kernel_rfl
 i167:=by kernel_rfl
 i168:=by kernel_rfl
 i171:=by kernel_rfl
 i173:=by kernel_rfl
 i175:=by kernel_rfl
 i210:=by kernel_rfl
 i212:=by kernel_rfl
 i232:=by kernel_rfl
 i233:=by kernel_rfl
 m15:=by kernel_rfl
 m16:=by kernel_rfl
 m17:=by kernel_rfl
 m18:=by kernel_rfl
 m19:=by kernel_rfl
 c0:=by kernel_rfl
 c2:=by kernel_rfl
 c3:=by kernel_rfl
 c4:=by kernel_rfl
 c5:=by kernel_rfl
 c9:=by kernel_rfl
 c20:=by kernel_rfl
 c21:=by kernel_rfl
 c37:=by kernel_rfl
 c46:=by kernel_rfl
 c51:=by kernel_rfl
 c53:=by kernel_rfl
 c75:=by kernel_rfl
 c80:=by kernel_rfl
 c85:=by kernel_rfl
 c127:=by kernel_rfl
 c143:=by kernel_rfl
 c145:=by kernel_rfl
 c167:=by kernel_rfl
 c168:=by kernel_rfl
 c171:=by kernel_rfl
 c173:=by kernel_rfl
 c175:=by kernel_rfl
 c210:=by kernel_rfl
 c212:=by kernel_rfl
 c213:=by kernel_rfl
 c232:=by kernel_rfl
 c233:=by kernel_rfl}
open Go.RowKit in
theorem Tryz.strconv_ParseInt_10_at64_ok(s:ByteArray)(hmax:s.size<=9223372036854775806)(v:Int)(h:Lib.parseIntB 64 s.data.toList=.ok v)(w:World):
 Calls Tryz.prog 106 #[.string s,.int .i64 10,.int .i64 64] w λe w'=>e=.returned (.tuple #[.int .i64 v,.nilIface])/\(w'=w\/∃t,w'=Lib.bytesWorld w 5 t):=Any.strconv_ParseInt_10_at64_ok Tryz.Au s hmax v h w
open Go.RowKit in
theorem Tryz.strconv_ParseInt_10_at64_syntax_var(s:ByteArray)(hlim:s.size<=281474976710656)(h:Lib.parseIntB 64 s.data.toList=.«syntax»)(tp:TypeId)(p:Value)(w:World)(hvar:w.var? Tryz.prog "strconv.ErrSyntax" =some #[.iface tp p]):
 Calls Tryz.prog 106 #[.string s,.int .i64 10,.int .i64 64] w λe w'=>∃N,e=.returned (.tuple #[.int .i64 (0),.iface 180 (.pointer (some ⟨N,0,none⟩))])/\w.heap.size<=N/\w'.heap[N]? =some (.cells #[.string ⟨#[80,97,114,115,101,73,110,116]⟩,.string s,.iface tp p] 199 (0,0))/\Below w.heap.size w w':=Any.strconv_ParseInt_10_at64_syntax_var Tryz.Au s hlim h tp p w hvar
open Go.RowKit in
theorem Tryz.strconv_ParseInt_10_at64_range_var(s:ByteArray)(hlim:s.size<=281474976710656)(h:Lib.parseIntB 64 s.data.toList=.range)(tp:TypeId)(p:Value)(w:World)(hvar:w.var? Tryz.prog "strconv.ErrRange" =some #[.iface tp p]):
 Calls Tryz.prog 106 #[.string s,.int .i64 10,.int .i64 64] w λe w'=>∃N,e=.returned (.tuple #[.int .i64 (Lib.intSat 64 s.data.toList),.iface 180 (.pointer (some ⟨N,0,none⟩))])/\w.heap.size<=N/\w'.heap[N]? =some (.cells #[.string ⟨#[80,97,114,115,101,73,110,116]⟩,.string s,.iface tp p] 199 (0,0))/\Below w.heap.size w w':=Any.strconv_ParseInt_10_at64_range_var Tryz.Au s hlim h tp p w hvar
def Tryz.JA:Go.Shelf.Ren:=⟨λ|99=>53|206=>75|n=>n,λ|9=>9|4=>4|3=>3|n=>n,λ|n=>n⟩
theorem Tryz.UJ:Go.Proofs.Lays.n99 Tryz.prog Tryz.JA:={
 mixed:=by kernel_rfl
 f99:=Tryz.func53.trans (congrArg some (by kernel_rfl))
 f206:=Tryz.func75.trans (congrArg some (by kernel_rfl))
 t3:=Tryz.underlying3
 a3:=Tryz.isAgg3
 z3:=Tryz.sizeOf3
 v3:=Tryz.zeroValue3
 t4:=Tryz.underlying4
 a4:=Tryz.isAgg4
 z4:=Tryz.sizeOf4
 v4:=Tryz.zeroValue4
 t9:=Tryz.underlying9
 a9:=Tryz.isAgg9
 z9:=Tryz.sizeOf9
 v9:=Tryz.zeroValue9}
open Go.RowKit Go.Lib in
theorem Tryz.strings_HasPrefix(s p:ByteArray)(w:World):
 Calls Tryz.prog 53 #[.string s,.string p] w λe w'=>e=.returned (.bool (Lib.hasPrefix s.data.toList p.data.toList))/\w'=w:=Any.strings_HasPrefix Tryz.UJ s p w
def Tryz.GR:Go.Shelf.Ren:=⟨λ|152=>138|137=>108|119=>158|224=>159|225=>160|217=>134|266=>156|n=>n,λ|9=>9|21=>21|3=>3|4=>4|5=>5|0=>0|46=>84|n=>n,λ|n=>n⟩
theorem Tryz.Qo:Go.Proofs.Lays.n152 Tryz.prog Tryz.GR:={
 mixed:=by kernel_rfl
 f119:=Tryz.func158.trans (congrArg some (by kernel_rfl))
 f137:=Tryz.func108.trans (congrArg some (by kernel_rfl))
 f152:=Tryz.func138.trans (congrArg some (by kernel_rfl))
 f217:=Tryz.func134.trans (congrArg some (by kernel_rfl))
 f224:=Tryz.func159.trans (congrArg some (by kernel_rfl))
 f225:=Tryz.func160.trans (congrArg some (by kernel_rfl))
 f266:=Tryz.func156.trans (congrArg some (by kernel_rfl))
 t0:=Tryz.underlying0
 a0:=Tryz.isAgg0
 z0:=Tryz.sizeOf0
 v0:=Tryz.zeroValue0
 t3:=Tryz.underlying3
 a3:=Tryz.isAgg3
 z3:=Tryz.sizeOf3
 v3:=Tryz.zeroValue3
 t4:=Tryz.underlying4
 a4:=Tryz.isAgg4
 z4:=Tryz.sizeOf4
 v4:=Tryz.zeroValue4
 t5:=Tryz.underlying5
 a5:=Tryz.isAgg5
 z5:=Tryz.sizeOf5
 v5:=Tryz.zeroValue5
 t9:=Tryz.underlying9
 a9:=Tryz.isAgg9
 z9:=Tryz.sizeOf9
 v9:=Tryz.zeroValue9
 t21:=Tryz.underlying21
 a21:=Tryz.isAgg21
 z21:=Tryz.sizeOf21
 v21:=Tryz.zeroValue21
 t46:=Tryz.underlying84
 a46:=Tryz.isAgg84
 z46:=Tryz.sizeOf84
 v46:=Tryz.zeroValue84}
open Go.RowKit Go.Lib in
theorem Tryz.strings_IndexRune_ascii(s:ByteArray)(r:Int)(w:World)(h0:0<=r)(h1:r<128):
 Calls Tryz.prog 138 #[.string s,.int .i32 r] w λe w'=>e=.returned (.int .i64 (Lib.indexByte s.data.toList r.toNat.toUInt8))/\w'=w:=Any.strings_IndexRune_ascii Tryz.Qo s r w h0 h1
def Tryz.GU:Go.Shelf.Ren:=⟨λ|227=>97|n=>n,λ|9=>9|116=>130|4=>4|0=>0|3=>3|5=>5|n=>n,λ|n=>n⟩
theorem Tryz.Qp:Go.Proofs.Lays.n227 Tryz.prog Tryz.GU:={
 mixed:=by kernel_rfl
 f227:=Tryz.func97.trans (congrArg some (by kernel_rfl))
 t0:=Tryz.underlying0
 a0:=Tryz.isAgg0
 z0:=Tryz.sizeOf0
 v0:=Tryz.zeroValue0
 t3:=Tryz.underlying3
 a3:=Tryz.isAgg3
 z3:=Tryz.sizeOf3
 v3:=Tryz.zeroValue3
 t4:=Tryz.underlying4
 a4:=Tryz.isAgg4
 z4:=Tryz.sizeOf4
 v4:=Tryz.zeroValue4
 t5:=Tryz.underlying5
 a5:=Tryz.isAgg5
 z5:=Tryz.sizeOf5
 v5:=Tryz.zeroValue5
 t9:=Tryz.underlying9
 a9:=Tryz.isAgg9
 z9:=Tryz.sizeOf9
 v9:=Tryz.zeroValue9
 t116:=Tryz.underlying130
 a116:=Tryz.isAgg130
 z116:=Tryz.sizeOf130}
open Go.RowKit Go.Lib in
theorem Tryz.strings_makeASCIISet(hv116:∀w,(zeroValue 130).run Tryz.prog w=.ok (.agg (Array.replicate 256 (.bool false))) w)(chars:ByteArray)(w:World)(hs:chars.size<4294967281)(hascii:∀(j:Nat) b,chars.data.toList[j]? =some b->b.toNat<128):
 Calls Tryz.prog 97 #[.string chars] w λe w'=>e=.returned (.tuple #[.agg (Lib.setCells chars.data.toList),.bool true])/\w'=w.alloc (.cells (Lib.setCells chars.data.toList) 130):=Any.strings_makeASCIISet Tryz.Qp hv116 (by kernel_rfl) chars w hs hascii
open Go.RowKit Go.Lib in
theorem Tryz.strings_ToLower_any(s:ByteArray)(w:World)(hs:s.size<35184372088832)(hV:CaseVar 8 caseA w)(hT:Lib.Utf8Tabs 5 6 w):
 Calls Tryz.prog 164 #[.string s] w λe w'=>e=.returned (.string ⟨(Lib.toLowerD s.data.toList).toArray⟩)/\Below w.heap.size w w':=Any.strings_ToLower_any Tryz.zt Tryz.nT s w hs hV hT
end
end Go.Proofs
end

/- A part of the proof. -/
import Derived.Shelf.Strings.OnBuilder
import Derived.Shelf.Small.Strs
import Derived.Shelf.Small.Wraps
import Derived.Shelf.LaysM
import Derived.Shelf.Strconv.Itoa4
import Derived.Shelf.Strings.Search1
import Derived.Shelf.Strings.Fields
import Derived.Shelf.Strings.Runes
import Derived.Shelf.Slices.Equal
import Derived.Shelf.Slices.Empties2
import Derived.Test.YtonpfomjoiaacaaGreatDoorProg
set_option maxRecDepth 100000
set_option maxHeartbeats 4000000
set_option linter.unusedSectionVars false
set_option linter.unusedVariables false
set_option linter.unusedSimpArgs false
section
namespace Go.Proofs
open Go.Shelf
section
def Tryz.Dm:Go.Shelf.Ren:=⟨λ|156=>147|165=>193|166=>143|169=>144|240=>188|241=>235|276=>229|277=>265|n=>n,λ|31=>23|9=>9|3=>3|4=>4|0=>0|20=>20|72=>141|76=>143|70=>139|37=>22|75=>127|127=>181|164=>216|5=>5|80=>145|n=>n,λ|n=>n⟩
theorem Tryz.RU:Go.Proofs.Lays.n156 Tryz.prog Tryz.Dm:={
 mixed:=by kernel_rfl
 f156:=Tryz.func147.trans (congrArg some (by kernel_rfl))
 f165:=Tryz.func193.trans (congrArg some (by kernel_rfl))
 f166:=Tryz.func143.trans (congrArg some (by kernel_rfl))
 f169:=Tryz.func144.trans (congrArg some (by kernel_rfl))
 f240:=Tryz.func188.trans (congrArg some (by kernel_rfl))
 f241:=Tryz.func235.trans (congrArg some (by kernel_rfl))
 f276:=Tryz.func229.trans (congrArg some (by kernel_rfl))
 f277:=Tryz.func265.trans (congrArg some (by kernel_rfl))
 t0:=Tryz.underlying0
 a0:=Tryz.isAgg0
 z0:=Tryz.sizeOf0
 v0:=Tryz.zeroValue0
 t3:=Tryz.underlying3
 a3:=Tryz.isAgg3
 z3:=Tryz.sizeOf3
 v3:=Tryz.zeroValue3
 t4:=Tryz.underlying4
 a4:=Tryz.isAgg4
 z4:=Tryz.sizeOf4
 v4:=Tryz.zeroValue4
 t9:=Tryz.underlying9
 a9:=Tryz.isAgg9
 z9:=Tryz.sizeOf9
 v9:=Tryz.zeroValue9
 t20:=Tryz.underlying20
 a20:=Tryz.isAgg20
 z20:=Tryz.sizeOf20
 v20:=Tryz.zeroValue20
 t31:=Tryz.underlying23
 a31:=Tryz.isAgg23
 z31:=Tryz.sizeOf23
 v31:=Tryz.zeroValue23
 t37:=Tryz.underlying22
 a37:=Tryz.isAgg22
 z37:=Tryz.sizeOf22
 v37:=Tryz.zeroValue22
 t70:=Tryz.underlying139
 a70:=Tryz.isAgg139
 z70:=Tryz.sizeOf139
 v70:=Tryz.zeroValue139
 t72:=Tryz.underlying141
 a72:=Tryz.isAgg141
 z72:=Tryz.sizeOf141
 v72:=Tryz.zeroValue141
 t75:=Tryz.underlying127
 a75:=Tryz.isAgg127
 z75:=Tryz.sizeOf127
 v75:=Tryz.zeroValue127
 t76:=Tryz.underlying143
 a76:=Tryz.isAgg143
 z76:=Tryz.sizeOf143
 v76:=Tryz.zeroValue143
 t127:=Tryz.underlying181
 a127:=Tryz.isAgg181
 z127:=Tryz.sizeOf181
 v127:=Tryz.zeroValue181
 t164:=Tryz.underlying216
 a164:=Tryz.isAgg216
 z164:=Tryz.sizeOf216
 v164:=Tryz.zeroValue216}
theorem Tryz.rW:Builder.Extra Tryz.prog Tryz.Dm:={
 sizeBuilder:=by kernel_rfl
 liesBuilder:=by kernel_rfl
 t5:=Tryz.underlying5
 a5:=Tryz.isAgg5
 z5:=Tryz.sizeOf5
 v5:=Tryz.zeroValue5
 infoByte:=by kernel_rfl
 cellsByte:=by kernel_rfl
 sizeByte:=by kernel_rfl
 neB5:=by decide}
open Go.RowKit in
theorem Tryz.strings_Join_none(a:Option Addr)(c:Nat)(sep:ByteArray)(w:World):
 Calls Tryz.prog 147 #[.slice a 0 c,.string sep] w λe w'=>e=.returned (.string ⟨#[]⟩)/\w'=w:=Any.strings_Join_none Tryz.RU Tryz.rW a c sep w
open Go.RowKit in
theorem Tryz.strings_Join(bk o c:Nat)(xs:List ByteArray)(sep:ByteArray)(w:World)(hcells:∀(j:Nat) x,xs[j]? =some x->w.cell? ⟨bk,o+j,none⟩=some (.string x))(hbk:bk<w.heap.size)(hN:xs.length<=140737488355328)(hcap:xs.length<=c)(hlen:(Lib.join (xs.map (·.data.toList)) sep.data.toList).length<=140737488355328):
 Calls Tryz.prog 147 #[.slice (some ⟨bk,o,none⟩) xs.length c,.string sep] w λe w'=>e=.returned (.string ⟨(Lib.join (xs.map (·.data.toList)) sep.data.toList).toArray⟩)/\Below w.heap.size w w':=Any.strings_Join Tryz.RU Tryz.rW bk o c xs sep w hcells hbk hN hcap hlen
def Tryz.Nh:Go.Shelf.Ren:=⟨λ|121=>102|214=>145|n=>n,λ|4=>4|9=>9|n=>n,λ|n=>n⟩
theorem Tryz.XO:Go.Proofs.Lays.n121 Tryz.prog Tryz.Nh:={
 mixed:=by kernel_rfl
 f121:=Tryz.func102.trans (congrArg some (by kernel_rfl))
 f214:=Tryz.func145.trans (congrArg some (by kernel_rfl))
 t4:=Tryz.underlying4
 a4:=Tryz.isAgg4
 z4:=Tryz.sizeOf4
 v4:=Tryz.zeroValue4
 t9:=Tryz.underlying9
 a9:=Tryz.isAgg9
 z9:=Tryz.sizeOf9
 v9:=Tryz.zeroValue9}
open Go.RowKit in
theorem Tryz.strconv_FormatBool(b:Bool)(w:World):
 Calls Tryz.prog 102 #[.bool b] w λe w'=>e=.returned (.string ⟨(Lib.formatBool b).toArray⟩)/\w'=w:=Any.strconv_FormatBool Tryz.XO b w
def Tryz.Kb:Go.Shelf.Ren:=⟨λ|246=>146|283=>189|284=>190|285=>191|286=>192|129=>231|317=>230|318=>232|319=>233|320=>234|337=>263|338=>264|n=>n,λ|2=>2|3=>3|9=>9|4=>4|171=>182|0=>0|53=>107|37=>22|5=>5|173=>185|212=>219|51=>108|20=>20|213=>220|46=>105|232=>275|233=>276|n=>n,λ|17=>2|18=>5|19=>6|n=>n⟩
theorem Tryz.Vs:Go.Proofs.LaysM.n246 Tryz.prog Tryz.Kb:={
 mixed:=by kernel_rfl
 f129:=Tryz.func231.trans (congrArg some (by kernel_rfl))
 f246:=Tryz.func146.trans (congrArg some (by kernel_rfl))
 f283:=Tryz.func189.trans (congrArg some (by kernel_rfl))
 f284:=Tryz.func190.trans (congrArg some (by kernel_rfl))
 f285:=Tryz.func191.trans (congrArg some (by kernel_rfl))
 f286:=Tryz.func192.trans (congrArg some (by kernel_rfl))
 f317:=Tryz.func230.trans (congrArg some (by kernel_rfl))
 f318:=Tryz.func232.trans (congrArg some (by kernel_rfl))
 f319:=Tryz.func233.trans (congrArg some (by kernel_rfl))
 f320:=Tryz.func234.trans (congrArg some (by kernel_rfl))
 f337:=Tryz.func263.trans (congrArg some (by kernel_rfl))
 f338:=Tryz.func264.trans (congrArg some (by kernel_rfl))
 t0:=Tryz.underlying0
 a0:=Tryz.isAgg0
 z0:=Tryz.sizeOf0
 v0:=Tryz.zeroValue0
 t2:=Tryz.underlying2
 a2:=Tryz.isAgg2
 z2:=Tryz.sizeOf2
 v2:=Tryz.zeroValue2
 t3:=Tryz.underlying3
 a3:=Tryz.isAgg3
 z3:=Tryz.sizeOf3
 v3:=Tryz.zeroValue3
 t4:=Tryz.underlying4
 a4:=Tryz.isAgg4
 z4:=Tryz.sizeOf4
 v4:=Tryz.zeroValue4
 t5:=Tryz.underlying5
 a5:=Tryz.isAgg5
 z5:=Tryz.sizeOf5
 v5:=Tryz.zeroValue5
 t9:=Tryz.underlying9
 a9:=Tryz.isAgg9
 z9:=Tryz.sizeOf9
 v9:=Tryz.zeroValue9
 t20:=Tryz.underlying20
 a20:=Tryz.isAgg20
 z20:=Tryz.sizeOf20
 v20:=Tryz.zeroValue20
 t37:=Tryz.underlying22
 a37:=Tryz.isAgg22
 z37:=Tryz.sizeOf22
 v37:=Tryz.zeroValue22
 t46:=Tryz.underlying105
 a46:=Tryz.isAgg105
 z46:=Tryz.sizeOf105
 v46:=Tryz.zeroValue105
 t51:=Tryz.underlying108
 a51:=Tryz.isAgg108
 z51:=Tryz.sizeOf108
 v51:=Tryz.zeroValue108
 t53:=Tryz.underlying107
 a53:=Tryz.isAgg107
 z53:=Tryz.sizeOf107
 v53:=Tryz.zeroValue107
 t171:=Tryz.underlying182
 a171:=Tryz.isAgg182
 z171:=Tryz.sizeOf182
 v171:=Tryz.zeroValue182
 t173:=Tryz.underlying185
 a173:=Tryz.isAgg185
 z173:=Tryz.sizeOf185
 v173:=Tryz.zeroValue185
 t212:=Tryz.underlying219
 a212:=Tryz.isAgg219
 z212:=Tryz.sizeOf219
 v212:=Tryz.zeroValue219
 t213:=Tryz.underlying220
 a213:=Tryz.isAgg220
 z213:=Tryz.sizeOf220
 t232:=Tryz.underlying275
 a232:=Tryz.isAgg275
 z232:=Tryz.sizeOf275
 v232:=Tryz.zeroValue275
 t233:=Tryz.underlying276
 a233:=Tryz.isAgg276
 z233:=Tryz.sizeOf276
 v233:=Tryz.zeroValue276
 g17:=by kernel_rfl
 g18:=by kernel_rfl
 g19:=by kernel_rfl
 i0:=by kernel_rfl
 i2:=by kernel_rfl
 i3:=by kernel_rfl
 i4:=by kernel_rfl
 i5:=by kernel_rfl
 i9:=by kernel_rfl
 i20:=by kernel_rfl
 i37:=by kernel_rfl
 i46:=by kernel_rfl
 i51:=by kernel_rfl
 i53:=by kernel_rfl
 i171:=by kernel_rfl
 i173:=by kernel_rfl
 i212:=by kernel_rfl
 i232:=by kernel_rfl
 i233:=by kernel_rfl
 m17:=by kernel_rfl
 m18:=by kernel_rfl
 m19:=by kernel_rfl}
open Go.RowKit Go.Sort Go.Lib in
theorem Tryz.internal_strconv_FormatInt_10(n:Int)(h0: -9223372036854775808<=n)(h1:n<=9223372036854775807)(w:World)(htab:Lib.TabIs Tryz.prog w "internal/strconv.uint64pow10" .u64 Lib.pow10Tab):
 Calls Tryz.prog 146 #[.int .i64 n,.int .i64 10] w λe w'=>e=.returned (.string ⟨(Lib.itoa n).toArray⟩)/\∃k os,w'=grow (w.drewN k) os:=Any.internal_strconv_FormatInt_10 Tryz.Vs n h0 h1 w htab
def Tryz.Ni:Go.Shelf.Ren:=⟨λ|217=>224|266=>262|n=>n,λ|9=>9|5=>5|3=>3|n=>n,λ|n=>n⟩
theorem Tryz.XP:Go.Proofs.Lays.n217 Tryz.prog Tryz.Ni:={
 mixed:=by kernel_rfl
 f217:=Tryz.func224.trans (congrArg some (by kernel_rfl))
 f266:=Tryz.func262.trans (congrArg some (by kernel_rfl))
 t3:=Tryz.underlying3
 a3:=Tryz.isAgg3
 z3:=Tryz.sizeOf3
 v3:=Tryz.zeroValue3
 t5:=Tryz.underlying5
 a5:=Tryz.isAgg5
 z5:=Tryz.sizeOf5
 v5:=Tryz.zeroValue5
 t9:=Tryz.underlying9
 a9:=Tryz.isAgg9
 z9:=Tryz.sizeOf9
 v9:=Tryz.zeroValue9}
open Go.RowKit Go.Lib in
theorem Tryz.stringslite_IndexByte(s:ByteArray)(c:Int)(w:World):
 Calls Tryz.prog 224 #[.string s,.int .u8 c] w λe w'=>e=.returned (.int .i64 (Lib.indexByte s.data.toList c.toNat.toUInt8))/\w'=w:=Any.stringslite_IndexByte Tryz.XP s c w
def Tryz.Nj:Go.Shelf.Ren:=⟨λ|157=>130|229=>179|199=>180|261=>222|311=>259|312=>260|n=>n,λ|9=>9|31=>23|3=>3|5=>5|4=>4|119=>173|0=>0|40=>175|152=>210|21=>21|154=>212|51=>108|141=>214|196=>251|193=>248|198=>253|49=>32|194=>249|201=>256|226=>271|46=>105|227=>272|n=>n,λ|0=>0|6=>1|n=>n⟩
theorem Tryz.XQ:Go.Proofs.Lays.n157 Tryz.prog Tryz.Nj:={
 mixed:=by kernel_rfl
 f157:=Tryz.func130.trans (congrArg some (by kernel_rfl))
 f199:=Tryz.func180.trans (congrArg some (by kernel_rfl))
 f229:=Tryz.func179.trans (congrArg some (by kernel_rfl))
 f261:=Tryz.func222.trans (congrArg some (by kernel_rfl))
 f311:=Tryz.func259.trans (congrArg some (by kernel_rfl))
 f312:=Tryz.func260.trans (congrArg some (by kernel_rfl))
 t0:=Tryz.underlying0
 a0:=Tryz.isAgg0
 z0:=Tryz.sizeOf0
 v0:=Tryz.zeroValue0
 t3:=Tryz.underlying3
 a3:=Tryz.isAgg3
 z3:=Tryz.sizeOf3
 v3:=Tryz.zeroValue3
 t4:=Tryz.underlying4
 a4:=Tryz.isAgg4
 z4:=Tryz.sizeOf4
 v4:=Tryz.zeroValue4
 t5:=Tryz.underlying5
 a5:=Tryz.isAgg5
 z5:=Tryz.sizeOf5
 v5:=Tryz.zeroValue5
 t9:=Tryz.underlying9
 a9:=Tryz.isAgg9
 z9:=Tryz.sizeOf9
 v9:=Tryz.zeroValue9
 t21:=Tryz.underlying21
 a21:=Tryz.isAgg21
 z21:=Tryz.sizeOf21
 v21:=Tryz.zeroValue21
 t31:=Tryz.underlying23
 a31:=Tryz.isAgg23
 z31:=Tryz.sizeOf23
 v31:=Tryz.zeroValue23
 t40:=Tryz.underlying175
 a40:=Tryz.isAgg175
 z40:=Tryz.sizeOf175
 v40:=Tryz.zeroValue175
 t46:=Tryz.underlying105
 a46:=Tryz.isAgg105
 z46:=Tryz.sizeOf105
 v46:=Tryz.zeroValue105
 t49:=Tryz.underlying32
 a49:=Tryz.isAgg32
 z49:=Tryz.sizeOf32
 v49:=Tryz.zeroValue32
 t51:=Tryz.underlying108
 a51:=Tryz.isAgg108
 z51:=Tryz.sizeOf108
 v51:=Tryz.zeroValue108
 t119:=Tryz.underlying173
 a119:=Tryz.isAgg173
 z119:=Tryz.sizeOf173
 t141:=Tryz.underlying214
 a141:=Tryz.isAgg214
 z141:=Tryz.sizeOf214
 v141:=Tryz.zeroValue214
 t152:=Tryz.underlying210
 a152:=Tryz.isAgg210
 z152:=Tryz.sizeOf210
 v152:=Tryz.zeroValue210
 t154:=Tryz.underlying212
 a154:=Tryz.isAgg212
 z154:=Tryz.sizeOf212
 v154:=Tryz.zeroValue212
 t193:=Tryz.underlying248
 a193:=Tryz.isAgg248
 z193:=Tryz.sizeOf248
 v193:=Tryz.zeroValue248
 t194:=Tryz.underlying249
 a194:=Tryz.isAgg249
 z194:=Tryz.sizeOf249
 v194:=Tryz.zeroValue249
 t196:=Tryz.underlying251
 a196:=Tryz.isAgg251
 z196:=Tryz.sizeOf251
 v196:=Tryz.zeroValue251
 t198:=Tryz.underlying253
 a198:=Tryz.isAgg253
 z198:=Tryz.sizeOf253
 v198:=Tryz.zeroValue253
 t201:=Tryz.underlying256
 a201:=Tryz.isAgg256
 z201:=Tryz.sizeOf256
 v201:=Tryz.zeroValue256
 t226:=Tryz.underlying271
 a226:=Tryz.isAgg271
 z226:=Tryz.sizeOf271
 v226:=Tryz.zeroValue271
 t227:=Tryz.underlying272
 a227:=Tryz.isAgg272
 z227:=Tryz.sizeOf272
 v227:=Tryz.zeroValue272
 g0:=by kernel_rfl
 g6:=by kernel_rfl}
open Go.RowKit Go.Lib in
theorem Tryz.strings_Fields(s:ByteArray)(w:World)(hs:s.size<4294967281)(hascii:∀(j:Nat) b,s.data.toList[j]? =some b->b.toNat<128)(htab:Lib.TabIs Tryz.prog w "strings.asciiSpace" .u8 Lib.asciiSpaceTab):
 Calls Tryz.prog 130 #[.string s] w λe w'=>
  e=.returned (.slice (some ⟨w.heap.size,0,none⟩) (Lib.fields s.data.toList).length (Lib.fields s.data.toList).length)/\w'=w.alloc (.cells ((Lib.fields s.data.toList).map λl=>Value.string ⟨l.toArray⟩).toArray 9):=Any.strings_Fields Tryz.XQ (by kernel_rfl) (by kernel_rfl) s w hs hascii htab
def Tryz.Nk:Go.Shelf.Ren:=⟨λ|152=>187|137=>185|119=>226|224=>227|225=>228|217=>224|266=>262|n=>n,λ|9=>9|21=>21|3=>3|4=>4|5=>5|0=>0|46=>105|n=>n,λ|n=>n⟩
theorem Tryz.XR:Go.Proofs.Lays.n152 Tryz.prog Tryz.Nk:={
 mixed:=by kernel_rfl
 f119:=Tryz.func226.trans (congrArg some (by kernel_rfl))
 f137:=Tryz.func185.trans (congrArg some (by kernel_rfl))
 f152:=Tryz.func187.trans (congrArg some (by kernel_rfl))
 f217:=Tryz.func224.trans (congrArg some (by kernel_rfl))
 f224:=Tryz.func227.trans (congrArg some (by kernel_rfl))
 f225:=Tryz.func228.trans (congrArg some (by kernel_rfl))
 f266:=Tryz.func262.trans (congrArg some (by kernel_rfl))
 t0:=Tryz.underlying0
 a0:=Tryz.isAgg0
 z0:=Tryz.sizeOf0
 v0:=Tryz.zeroValue0
 t3:=Tryz.underlying3
 a3:=Tryz.isAgg3
 z3:=Tryz.sizeOf3
 v3:=Tryz.zeroValue3
 t4:=Tryz.underlying4
 a4:=Tryz.isAgg4
 z4:=Tryz.sizeOf4
 v4:=Tryz.zeroValue4
 t5:=Tryz.underlying5
 a5:=Tryz.isAgg5
 z5:=Tryz.sizeOf5
 v5:=Tryz.zeroValue5
 t9:=Tryz.underlying9
 a9:=Tryz.isAgg9
 z9:=Tryz.sizeOf9
 v9:=Tryz.zeroValue9
 t21:=Tryz.underlying21
 a21:=Tryz.isAgg21
 z21:=Tryz.sizeOf21
 v21:=Tryz.zeroValue21
 t46:=Tryz.underlying105
 a46:=Tryz.isAgg105
 z46:=Tryz.sizeOf105
 v46:=Tryz.zeroValue105}
open Go.RowKit Go.Lib in
theorem Tryz.strings_IndexRune_ascii(s:ByteArray)(r:Int)(w:World)(h0:0<=r)(h1:r<128):
 Calls Tryz.prog 187 #[.string s,.int .i32 r] w λe w'=>e=.returned (.int .i64 (Lib.indexByte s.data.toList r.toNat.toUInt8))/\w'=w:=Any.strings_IndexRune_ascii Tryz.XR s r w h0 h1
end
end Go.Proofs
end

/-
  Contracts of the library at this program; first native calls.
-/
import Derived.Test.YtanifnfklgldpaaGreatDoorVad
import Derived.Shelf.SlSortCmp.NoneTotal
import Derived.Ground.SlsfProg
import Derived.Shelf.SlGeneric
import Derived.Shelf.Strings.Builder1
import Derived.Shelf.Strings.Builder2
import Derived.Shelf.Strings.OnBuilder
import Derived.Shelf.Small.Bits
import Derived.Shelf.Small.Strs
import Derived.Shelf.Strings.BuilderF
import Derived.Shelf.Strings.BuilderK
import Derived.Shelf.Utf8.RuneCount
import Derived.Shelf.Strconv.Atoi
import Derived.Shelf.Strconv.Itoa0
import Derived.Shelf.Strconv.Itoa1
import Derived.Shelf.LaysM
import Derived.Shelf.Strconv.Itoa2
import Derived.Shelf.Strconv.Itoa3
import Derived.Shelf.Strconv.AtoiErrFast
import Derived.Shelf.Strings.Search1
import Derived.Shelf.Strings.Search2
import Derived.Shelf.Strings.Search3
import Derived.Shelf.Strings.Cut
import Derived.Shelf.Strings.Count
import Derived.Shelf.Strings.Shaped
import Derived.Shelf.Sort.Plain
import Derived.Shelf.Strings.Split
import Derived.Shelf.Strings.Replace
import Derived.Shelf.Strings.SplitShaped
import Derived.Shelf.Unicode.Decode
import Derived.Shelf.Strings.RuneCount
import Derived.Shelf.Strings.Explode
import Derived.Shelf.Unicode.DecodeSlow
import Derived.Shelf.Unicode.DecodeAny
import Derived.Shelf.Slices.Turned
import Derived.Shelf.Slices.Equal
import Derived.Ground.Names2Prog
import Derived.Shelf.Slices.Clone
import Derived.Shelf.Slices.CompactS
import Derived.Shelf.Slices.Cells
import Derived.Shelf.Slices.In.SortNone
import Derived.Ground.SlgnProg
import Derived.Shelf.SlicesE.Clone
import Derived.Test.YtanifnfklgldpaaGreatDoorProg
import Derived.WalkKit
import Derived.Laws.Cover1
set_option linter.unusedSimpArgs false
set_option linter.unusedVariables false
namespace Go.Proofs
open Go.Proofs.Tryz Go.Shelf
def Tryz.lays169_ren:Go.Shelf.Ren:=⟨fun|169=>106|n=>n,fun|70=>165|9=>9|0=>0|72=>167|37=>99|127=>228|3=>3|5=>5|n=>n,fun|n=>n⟩
theorem Tryz.lays169:Go.Proofs.Lays.n169 prog Tryz.lays169_ren:= {
 mixed:=by kernel_rfl
 f169:=sh func106
 t0:=underlying0
 a0:=Tryz.isAgg0
 z0:=Tryz.sizeOf0
 v0:=Tryz.zeroValue0
 t3:=underlying3
 a3:=Tryz.isAgg3
 z3:=Tryz.sizeOf3
 v3:=Tryz.zeroValue3
 t9:=underlying9
 a9:=Tryz.isAgg9
 z9:=Tryz.sizeOf9
 v9:=Tryz.zeroValue9
 t37:=underlying99
 a37:=Tryz.isAgg99
 z37:=Tryz.sizeOf99
 v37:=Tryz.zeroValue99
 t70:=underlying165
 a70:=Tryz.isAgg165
 z70:=Tryz.sizeOf165
 v70:=Tryz.zeroValue165
 t72:=underlying167
 a72:=Tryz.isAgg167
 z72:=Tryz.sizeOf167
 v72:=Tryz.zeroValue167
 t127:=underlying228
 a127:=Tryz.isAgg228
 z127:=Tryz.sizeOf228
 v127:=Tryz.zeroValue228}
theorem Tryz.Builder_Extra_169:Builder.Extra prog Tryz.lays169_ren:= {
 sizeBuilder:=by kernel_rfl
 liesBuilder:=by kernel_rfl
 t5:=underlying5
 a5:=Tryz.isAgg5
 z5:=Tryz.sizeOf5
 v5:=Tryz.zeroValue5
 infoByte:=by kernel_rfl
 cellsByte:=by kernel_rfl
 sizeByte:=by kernel_rfl
 neB5:=by decide}
def Tryz.lays156_ren:Go.Shelf.Ren:=⟨fun|156=>156|165=>224|166=>105|169=>106|240=>154|241=>319|276=>223|277=>371|n=>n,fun|31=>35|9=>9|3=>3|4=>4|0=>0|20=>20|72=>167|76=>170|70=>165|37=>99|75=>169|127=>228|164=>282|5=>5|80=>172|n=>n,fun|n=>n⟩
theorem Tryz.lays156:Go.Proofs.Lays.n156 prog Tryz.lays156_ren:= {
 mixed:=by kernel_rfl
 f156:=sh func156
 f165:=sh func224
 f166:=sh func105
 f169:=sh func106
 f240:=sh func154
 f241:=sh func319
 f276:=sh func223
 f277:=sh func371
 t0:=underlying0
 a0:=Tryz.isAgg0
 z0:=Tryz.sizeOf0
 v0:=Tryz.zeroValue0
 t3:=underlying3
 a3:=Tryz.isAgg3
 z3:=Tryz.sizeOf3
 v3:=Tryz.zeroValue3
 t4:=underlying4
 a4:=Tryz.isAgg4
 z4:=Tryz.sizeOf4
 v4:=Tryz.zeroValue4
 t9:=underlying9
 a9:=Tryz.isAgg9
 z9:=Tryz.sizeOf9
 v9:=Tryz.zeroValue9
 t20:=underlying20
 a20:=Tryz.isAgg20
 z20:=Tryz.sizeOf20
 v20:=Tryz.zeroValue20
 t31:=underlying35
 a31:=Tryz.isAgg35
 z31:=Tryz.sizeOf35
 v31:=Tryz.zeroValue35
 t37:=underlying99
 a37:=Tryz.isAgg99
 z37:=Tryz.sizeOf99
 v37:=Tryz.zeroValue99
 t70:=underlying165
 a70:=Tryz.isAgg165
 z70:=Tryz.sizeOf165
 v70:=Tryz.zeroValue165
 t72:=underlying167
 a72:=Tryz.isAgg167
 z72:=Tryz.sizeOf167
 v72:=Tryz.zeroValue167
 t75:=underlying169
 a75:=Tryz.isAgg169
 z75:=Tryz.sizeOf169
 v75:=Tryz.zeroValue169
 t76:=underlying170
 a76:=Tryz.isAgg170
 z76:=Tryz.sizeOf170
 v76:=Tryz.zeroValue170
 t127:=underlying228
 a127:=Tryz.isAgg228
 z127:=Tryz.sizeOf228
 v127:=Tryz.zeroValue228
 t164:=underlying282
 a164:=Tryz.isAgg282
 z164:=Tryz.sizeOf282
 v164:=Tryz.zeroValue282}
theorem Tryz.Builder_Extra_156:Builder.Extra prog Tryz.lays156_ren:= {
 sizeBuilder:=by kernel_rfl
 liesBuilder:=by kernel_rfl
 t5:=underlying5
 a5:=Tryz.isAgg5
 z5:=Tryz.sizeOf5
 v5:=Tryz.zeroValue5
 infoByte:=by kernel_rfl
 cellsByte:=by kernel_rfl
 sizeByte:=by kernel_rfl
 neB5:=by decide}
open Go.RowKit in
theorem Tryz.strings_Join_none(a:Option Addr)(c:Nat)(sep:ByteArray)(w:World):
  Calls prog 156 #[.slice a 0 c,.string sep] w fun e w'=>e= .returned (.string ⟨#[]⟩)∧w'=w:=Any.strings_Join_none Tryz.lays156 Tryz.Builder_Extra_156 a c sep w
open Go.RowKit in
theorem Tryz.strings_Join(bk o c:Nat)(xs:List ByteArray)(sep:ByteArray)(w:World)(hcells:∀(j:Nat) x,xs[j]?=some x→w.cell? ⟨bk,o+j,none⟩=some (.string x))(hbk:bk<w.heap.size)(hN:xs.length≤140737488355328)(hcap:xs.length≤c)(hlen:(Lib.join (xs.map (·.data.toList)) sep.data.toList).length≤140737488355328):
  Calls prog 156 #[.slice (some ⟨bk,o,none⟩) xs.length c,.string sep] w fun e w'=>e= .returned (.string ⟨(Lib.join (xs.map (·.data.toList)) sep.data.toList).toArray⟩)∧Below w.heap.size w w':=Any.strings_Join Tryz.lays156 Tryz.Builder_Extra_156 bk o c xs sep w hcells hbk hN hcap hlen
open Go.RowKit in
theorem Tryz.Builder_String_any_k(B b:Nat)(l:List UInt8)(w:World)(h:Lib.IsBuilderF 167 5 B b (Lib.byteCells l) w)(hBw:B≤w.heap.size):
  Calls prog 106 #[.pointer (some ⟨b,0,none⟩)] w fun e w'=>e= .returned (.string ⟨l.toArray⟩)∧(Lib.IsBuilderF 167 5 B b (Lib.byteCells l) w'∧Below B w w'∧Lib.OthersKept 5 (some b) w w'):=Any.Builder_String_any_k Tryz.lays169 Tryz.Builder_Extra_169 B b l w h hBw
def Tryz.laysM171_ren:Go.Shelf.Ren:=⟨fun|171=>148|243=>220|246=>315|283=>366|284=>367|285=>368|286=>369|129=>197|317=>389|318=>390|319=>391|320=>392|337=>415|338=>416|n=>n,fun|3=>3|9=>9|2=>2|4=>4|171=>384|0=>0|53=>263|37=>99|5=>5|173=>386|212=>395|51=>261|20=>20|213=>396|46=>204|232=>423|233=>424|n=>n,fun|17=>0|18=>6|19=>7|n=>n⟩
theorem Tryz.laysM171:Go.Proofs.LaysM.n171 prog Tryz.laysM171_ren:= {
 mixed:=by kernel_rfl
 f129:=sh func197
 f171:=sh func148
 f243:=sh func220
 f246:=sh func315
 f283:=sh func366
 f284:=sh func367
 f285:=sh func368
 f286:=sh func369
 f317:=sh func389
 f318:=sh func390
 f319:=sh func391
 f320:=sh func392
 f337:=sh func415
 f338:=sh func416
 t0:=underlying0
 a0:=Tryz.isAgg0
 z0:=Tryz.sizeOf0
 v0:=Tryz.zeroValue0
 t2:=underlying2
 a2:=Tryz.isAgg2
 z2:=Tryz.sizeOf2
 v2:=Tryz.zeroValue2
 t3:=underlying3
 a3:=Tryz.isAgg3
 z3:=Tryz.sizeOf3
 v3:=Tryz.zeroValue3
 t4:=underlying4
 a4:=Tryz.isAgg4
 z4:=Tryz.sizeOf4
 v4:=Tryz.zeroValue4
 t5:=underlying5
 a5:=Tryz.isAgg5
 z5:=Tryz.sizeOf5
 v5:=Tryz.zeroValue5
 t9:=underlying9
 a9:=Tryz.isAgg9
 z9:=Tryz.sizeOf9
 v9:=Tryz.zeroValue9
 t20:=underlying20
 a20:=Tryz.isAgg20
 z20:=Tryz.sizeOf20
 v20:=Tryz.zeroValue20
 t37:=underlying99
 a37:=Tryz.isAgg99
 z37:=Tryz.sizeOf99
 v37:=Tryz.zeroValue99
 t46:=underlying204
 a46:=Tryz.isAgg204
 z46:=Tryz.sizeOf204
 v46:=Tryz.zeroValue204
 t51:=underlying261
 a51:=Tryz.isAgg261
 z51:=Tryz.sizeOf261
 v51:=Tryz.zeroValue261
 t53:=underlying263
 a53:=Tryz.isAgg263
 z53:=Tryz.sizeOf263
 v53:=Tryz.zeroValue263
 t171:=underlying384
 a171:=Tryz.isAgg384
 z171:=Tryz.sizeOf384
 v171:=Tryz.zeroValue384
 t173:=underlying386
 a173:=Tryz.isAgg386
 z173:=Tryz.sizeOf386
 v173:=Tryz.zeroValue386
 t212:=underlying395
 a212:=Tryz.isAgg395
 z212:=Tryz.sizeOf395
 v212:=Tryz.zeroValue395
 t213:=underlying396
 a213:=Tryz.isAgg396
 z213:=Tryz.sizeOf396
 t232:=underlying423
 a232:=Tryz.isAgg423
 z232:=Tryz.sizeOf423
 v232:=Tryz.zeroValue423
 t233:=underlying424
 a233:=Tryz.isAgg424
 z233:=Tryz.sizeOf424
 v233:=Tryz.zeroValue424
 g17:=by kernel_rfl
 g18:=by kernel_rfl
 g19:=by kernel_rfl
 i0:=by kernel_rfl
 i2:=by kernel_rfl
 i3:=by kernel_rfl
 i4:=by kernel_rfl
 i5:=by kernel_rfl
 i9:=by kernel_rfl
 i20:=by kernel_rfl
 i37:=by kernel_rfl
 i46:=by kernel_rfl
 i51:=by kernel_rfl
 i53:=by kernel_rfl
 i171:=by kernel_rfl
 i173:=by kernel_rfl
 i212:=by kernel_rfl
 i232:=by kernel_rfl
 i233:=by kernel_rfl
 m17:=by kernel_rfl
 m18:=by kernel_rfl
 m19:=by kernel_rfl}
open Go.RowKit Go.Sort Go.Lib in
theorem Tryz.strconv_Itoa(n:Int)(h0: -9223372036854775808≤n)(h1:n≤9223372036854775807)(w:World)(htab:Lib.TabIs prog w "internal/strconv.uint64pow10" .u64 Lib.pow10Tab):
  Calls prog 148 #[.int .i64 n] w fun e w'=>e= .returned (.string ⟨(Lib.itoa n).toArray⟩)∧∃k os,w'=grow (w.drewN k) os:=Any.strconv_Itoa Tryz.laysM171 n h0 h1 w htab
def Tryz.lays217_ren:Go.Shelf.Ren:=⟨fun|217=>351|266=>385|n=>n,fun|9=>9|5=>5|3=>3|n=>n,fun|n=>n⟩
theorem Tryz.lays217:Go.Proofs.Lays.n217 prog Tryz.lays217_ren:= {
 mixed:=by kernel_rfl
 f217:=sh func351
 f266:=sh func385
 t3:=underlying3
 a3:=Tryz.isAgg3
 z3:=Tryz.sizeOf3
 v3:=Tryz.zeroValue3
 t5:=underlying5
 a5:=Tryz.isAgg5
 z5:=Tryz.sizeOf5
 v5:=Tryz.zeroValue5
 t9:=underlying9
 a9:=Tryz.isAgg9
 z9:=Tryz.sizeOf9
 v9:=Tryz.zeroValue9}
open Go.RowKit Go.Lib in
theorem Tryz.stringslite_IndexByte(s:ByteArray)(c:Int)(w:World):
  Calls prog 351 #[.string s,.int .u8 c] w fun e w'=>e= .returned (.int .i64 (Lib.indexByte s.data.toList c.toNat.toUInt8))∧w'=w:=Any.stringslite_IndexByte Tryz.lays217 s c w
def Tryz.lays219_ren:Go.Shelf.Ren:=⟨fun|219=>374|217=>351|225=>397|224=>398|267=>399|266=>385|314=>419|n=>n,fun|9=>9|3=>3|4=>4|5=>5|46=>204|146=>412|51=>261|n=>n,fun|1=>1|n=>n⟩
theorem Tryz.lays219:Go.Proofs.Lays.n219 prog Tryz.lays219_ren:= {
 mixed:=by kernel_rfl
 f217:=sh func351
 f219:=sh func374
 f224:=sh func398
 f225:=sh func397
 f266:=sh func385
 f267:=sh func399
 f314:=sh func419
 t3:=underlying3
 a3:=Tryz.isAgg3
 z3:=Tryz.sizeOf3
 v3:=Tryz.zeroValue3
 t4:=underlying4
 a4:=Tryz.isAgg4
 z4:=Tryz.sizeOf4
 v4:=Tryz.zeroValue4
 t5:=underlying5
 a5:=Tryz.isAgg5
 z5:=Tryz.sizeOf5
 v5:=Tryz.zeroValue5
 t9:=underlying9
 a9:=Tryz.isAgg9
 z9:=Tryz.sizeOf9
 v9:=Tryz.zeroValue9
 t46:=underlying204
 a46:=Tryz.isAgg204
 z46:=Tryz.sizeOf204
 v46:=Tryz.zeroValue204
 t51:=underlying261
 a51:=Tryz.isAgg261
 z51:=Tryz.sizeOf261
 v51:=Tryz.zeroValue261
 t146:=underlying412
 a146:=Tryz.isAgg412
 z146:=Tryz.sizeOf412
 v146:=Tryz.zeroValue412
 g1:=by kernel_rfl}
open Go.RowKit Go.Lib in
theorem Tryz.stringslite_Index(s sub:ByteArray)(m:Int)(w:World)(hs:s.size<4294967281)(hm:w.cell? ⟨1,0,none⟩=some (.int .i64 m)):
  Calls prog 374 #[.string s,.string sub] w fun e w'=>e= .returned (.int .i64 (Lib.index s.data.toList sub.data.toList))∧w'=w:=Any.stringslite_Index Tryz.lays219 s sub m w hs hm
def Tryz.lays138_ren:Go.Shelf.Ren:=⟨fun|138=>344|195=>380|218=>381|143=>332|219=>374|217=>351|225=>397|224=>398|267=>399|266=>385|314=>419|n=>n,fun|9=>9|3=>3|4=>4|5=>5|0=>0|46=>204|146=>412|51=>261|n=>n,fun|1=>1|n=>n⟩
theorem Tryz.lays138:Go.Proofs.Lays.n138 prog Tryz.lays138_ren:= {
 mixed:=by kernel_rfl
 f138:=sh func344
 f143:=sh func332
 f195:=sh func380
 f217:=sh func351
 f218:=sh func381
 f219:=sh func374
 f224:=sh func398
 f225:=sh func397
 f266:=sh func385
 f267:=sh func399
 f314:=sh func419
 t0:=underlying0
 a0:=Tryz.isAgg0
 z0:=Tryz.sizeOf0
 v0:=Tryz.zeroValue0
 t3:=underlying3
 a3:=Tryz.isAgg3
 z3:=Tryz.sizeOf3
 v3:=Tryz.zeroValue3
 t4:=underlying4
 a4:=Tryz.isAgg4
 z4:=Tryz.sizeOf4
 v4:=Tryz.zeroValue4
 t5:=underlying5
 a5:=Tryz.isAgg5
 z5:=Tryz.sizeOf5
 v5:=Tryz.zeroValue5
 t9:=underlying9
 a9:=Tryz.isAgg9
 z9:=Tryz.sizeOf9
 v9:=Tryz.zeroValue9
 t46:=underlying204
 a46:=Tryz.isAgg204
 z46:=Tryz.sizeOf204
 v46:=Tryz.zeroValue204
 t51:=underlying261
 a51:=Tryz.isAgg261
 z51:=Tryz.sizeOf261
 v51:=Tryz.zeroValue261
 t146:=underlying412
 a146:=Tryz.isAgg412
 z146:=Tryz.sizeOf412
 v146:=Tryz.zeroValue412
 g1:=by kernel_rfl}
def Tryz.lays190_ren:Go.Shelf.Ren:=⟨fun|190=>84|125=>130|258=>129|128=>196|129=>197|302=>187|303=>188|304=>189|305=>190|306=>191|307=>192|308=>193|309=>194|310=>195|333=>278|329=>279|330=>280|334=>281|335=>282|336=>104|344=>347|n=>n,fun|31=>35|9=>9|3=>3|46=>204|0=>0|51=>261|53=>263|4=>4|183=>254|182=>253|131=>251|5=>5|218=>322|222=>326|228=>371|229=>372|n=>n,fun|n=>n⟩
theorem Tryz.lays190:Go.Proofs.Lays.n190 prog Tryz.lays190_ren:= {
 mixed:=by kernel_rfl
 f125:=sh func130
 f128:=sh func196
 f129:=sh func197
 f190:=sh func84
 f258:=sh func129
 f302:=sh func187
 f303:=sh func188
 f304:=sh func189
 f305:=sh func190
 f306:=sh func191
 f307:=sh func192
 f308:=sh func193
 f309:=sh func194
 f310:=sh func195
 f329:=sh func279
 f330:=sh func280
 f333:=sh func278
 f334:=sh func281
 f335:=sh func282
 f336:=sh func104
 f344:=sh func347
 t0:=underlying0
 a0:=Tryz.isAgg0
 z0:=Tryz.sizeOf0
 v0:=Tryz.zeroValue0
 t3:=underlying3
 a3:=Tryz.isAgg3
 z3:=Tryz.sizeOf3
 v3:=Tryz.zeroValue3
 t4:=underlying4
 a4:=Tryz.isAgg4
 z4:=Tryz.sizeOf4
 v4:=Tryz.zeroValue4
 t5:=underlying5
 a5:=Tryz.isAgg5
 z5:=Tryz.sizeOf5
 v5:=Tryz.zeroValue5
 t9:=underlying9
 a9:=Tryz.isAgg9
 z9:=Tryz.sizeOf9
 v9:=Tryz.zeroValue9
 t31:=underlying35
 a31:=Tryz.isAgg35
 z31:=Tryz.sizeOf35
 v31:=Tryz.zeroValue35
 t46:=underlying204
 a46:=Tryz.isAgg204
 z46:=Tryz.sizeOf204
 v46:=Tryz.zeroValue204
 t51:=underlying261
 a51:=Tryz.isAgg261
 z51:=Tryz.sizeOf261
 v51:=Tryz.zeroValue261
 t53:=underlying263
 a53:=Tryz.isAgg263
 z53:=Tryz.sizeOf263
 v53:=Tryz.zeroValue263
 t131:=underlying251
 a131:=Tryz.isAgg251
 z131:=Tryz.sizeOf251
 v131:=Tryz.zeroValue251
 t182:=underlying253
 a182:=Tryz.isAgg253
 z182:=Tryz.sizeOf253
 v182:=Tryz.zeroValue253
 t183:=underlying254
 a183:=Tryz.isAgg254
 z183:=Tryz.sizeOf254
 v183:=Tryz.zeroValue254
 t218:=underlying322
 a218:=Tryz.isAgg322
 z218:=Tryz.sizeOf322
 v218:=Tryz.zeroValue322
 t222:=underlying326
 a222:=Tryz.isAgg326
 z222:=Tryz.sizeOf326
 v222:=Tryz.zeroValue326
 t228:=underlying371
 a228:=Tryz.isAgg371
 z228:=Tryz.sizeOf371
 v228:=Tryz.zeroValue371
 t229:=underlying372
 a229:=Tryz.isAgg372
 z229:=Tryz.sizeOf372
 v229:=Tryz.zeroValue372}
open Go.RowKit Go.Lib in
theorem Tryz.strings_Count_any(s sep:ByteArray)(m:Int)(w:World)(hs:s.size<4294967281)(hm:w.cell? ⟨1,0,none⟩=some (.int .i64 m))(h1:1≤sep.size):
  Calls prog 344 #[.string s,.string sep] w fun e w'=>e= .returned (.int .i64 (Lib.countB s sep))∧w'=w:=Any.strings_Count_any Tryz.lays138 s sep m w hs hm h1
def Tryz.lays155_ren:Go.Shelf.Ren:=⟨fun|155=>183|154=>271|138=>344|165=>224|143=>332|166=>105|197=>345|169=>106|195=>380|218=>381|240=>154|241=>319|219=>374|260=>382|276=>223|277=>371|217=>351|225=>397|224=>398|267=>399|266=>385|314=>419|n=>n,fun|9=>9|3=>3|4=>4|72=>167|0=>0|76=>170|105=>368|21=>21|5=>5|70=>165|20=>20|37=>99|75=>169|127=>228|164=>282|46=>204|119=>397|139=>400|138=>399|146=>412|51=>261|80=>172|n=>n,fun|1=>1|3=>2|4=>3|n=>n⟩
theorem Tryz.lays155:Go.Proofs.Lays.n155 prog Tryz.lays155_ren:= {
 mixed:=by kernel_rfl
 f138:=sh func344
 f143:=sh func332
 f154:=sh func271
 f155:=sh func183
 f165:=sh func224
 f166:=sh func105
 f169:=sh func106
 f195:=sh func380
 f197:=sh func345
 f217:=sh func351
 f218:=sh func381
 f219:=sh func374
 f224:=sh func398
 f225:=sh func397
 f240:=sh func154
 f241:=sh func319
 f260:=sh func382
 f266:=sh func385
 f267:=sh func399
 f276:=sh func223
 f277:=sh func371
 f314:=sh func419
 t0:=underlying0
 a0:=Tryz.isAgg0
 z0:=Tryz.sizeOf0
 v0:=Tryz.zeroValue0
 t3:=underlying3
 a3:=Tryz.isAgg3
 z3:=Tryz.sizeOf3
 v3:=Tryz.zeroValue3
 t4:=underlying4
 a4:=Tryz.isAgg4
 z4:=Tryz.sizeOf4
 v4:=Tryz.zeroValue4
 t5:=underlying5
 a5:=Tryz.isAgg5
 z5:=Tryz.sizeOf5
 v5:=Tryz.zeroValue5
 t9:=underlying9
 a9:=Tryz.isAgg9
 z9:=Tryz.sizeOf9
 v9:=Tryz.zeroValue9
 t20:=underlying20
 a20:=Tryz.isAgg20
 z20:=Tryz.sizeOf20
 v20:=Tryz.zeroValue20
 t21:=underlying21
 a21:=Tryz.isAgg21
 z21:=Tryz.sizeOf21
 v21:=Tryz.zeroValue21
 t37:=underlying99
 a37:=Tryz.isAgg99
 z37:=Tryz.sizeOf99
 v37:=Tryz.zeroValue99
 t46:=underlying204
 a46:=Tryz.isAgg204
 z46:=Tryz.sizeOf204
 v46:=Tryz.zeroValue204
 t51:=underlying261
 a51:=Tryz.isAgg261
 z51:=Tryz.sizeOf261
 v51:=Tryz.zeroValue261
 t70:=underlying165
 a70:=Tryz.isAgg165
 z70:=Tryz.sizeOf165
 v70:=Tryz.zeroValue165
 t72:=underlying167
 a72:=Tryz.isAgg167
 z72:=Tryz.sizeOf167
 v72:=Tryz.zeroValue167
 t75:=underlying169
 a75:=Tryz.isAgg169
 z75:=Tryz.sizeOf169
 v75:=Tryz.zeroValue169
 t76:=underlying170
 a76:=Tryz.isAgg170
 z76:=Tryz.sizeOf170
 v76:=Tryz.zeroValue170
 t105:=underlying368
 a105:=Tryz.isAgg368
 z105:=Tryz.sizeOf368
 v105:=Tryz.zeroValue368
 t119:=underlying397
 a119:=Tryz.isAgg397
 z119:=Tryz.sizeOf397
 t127:=underlying228
 a127:=Tryz.isAgg228
 z127:=Tryz.sizeOf228
 v127:=Tryz.zeroValue228
 t138:=underlying399
 a138:=Tryz.isAgg399
 z138:=Tryz.sizeOf399
 v138:=Tryz.zeroValue399
 t139:=underlying400
 a139:=Tryz.isAgg400
 z139:=Tryz.sizeOf400
 v139:=Tryz.zeroValue400
 t146:=underlying412
 a146:=Tryz.isAgg412
 z146:=Tryz.sizeOf412
 v146:=Tryz.zeroValue412
 t164:=underlying282
 a164:=Tryz.isAgg282
 z164:=Tryz.sizeOf282
 v164:=Tryz.zeroValue282
 g1:=by kernel_rfl
 g3:=by kernel_rfl
 g4:=by kernel_rfl}
theorem Tryz.Builder_Extra_155:Builder.Extra prog Tryz.lays155_ren:= {
 sizeBuilder:=by kernel_rfl
 liesBuilder:=by kernel_rfl
 t5:=underlying5
 a5:=Tryz.isAgg5
 z5:=Tryz.sizeOf5
 v5:=Tryz.zeroValue5
 infoByte:=by kernel_rfl
 cellsByte:=by kernel_rfl
 sizeByte:=by kernel_rfl
 neB5:=by decide}
open Go.RowKit Go.Lib in
theorem Tryz.strings_ReplaceAll(s old new:ByteArray)(m:Int)(w:World)(hs:s.size<4294967281)(hm:w.cell? ⟨1,0,none⟩=some (.int .i64 m))(h1:1≤old.size)(hlen:s.size+Lib.countB s old*new.size≤140737488355328):
  Calls prog 183 #[.string s,.string old,.string new] w fun e w'=>e= .returned (.string ⟨(Lib.replaceAll s.data.toList old.data.toList new.data.toList).toArray⟩)∧Below w.heap.size w w':=Any.strings_ReplaceAll Tryz.lays155 Tryz.Builder_Extra_155 s old new m w hs hm h1 hlen
def Tryz.laysNm216_ren:Go.Shelf.Ren:=⟨fun|16=>45|n=>n,fun|24=>35|9=>9|4=>4|n=>n,fun|n=>n⟩
theorem Tryz.laysNm216:Go.Proofs.Lays2.n16 prog Tryz.laysNm216_ren:= {
 mixed:=by kernel_rfl
 f16:=sh func45
 t4:=underlying4
 a4:=Tryz.isAgg4
 z4:=Tryz.sizeOf4
 v4:=Tryz.zeroValue4
 t9:=underlying9
 a9:=Tryz.isAgg9
 z9:=Tryz.sizeOf9
 v9:=Tryz.zeroValue9
 t24:=underlying35
 a24:=Tryz.isAgg35
 z24:=Tryz.sizeOf35
 v24:=Tryz.zeroValue35
 i9:=by kernel_rfl}
open Go.RowKit Go.Lib in
theorem Tryz.slices_Clone_string(b off n c:Nat)(zs:List ByteArray)(w:World)(hz:n≤zs.length)(hbig:n*16≤140737488355328)(hc:∀j,j<zs.length→w.cell? ⟨b,off+j,none⟩=some (.string (zs.getD j ByteArray.empty))):
  Calls prog 45 #[.slice (some ⟨b,off,none⟩) n c] w fun e w'=>∃v',e= .returned v'∧w'.ownsRow w.heap.size 9 1 v' n ((zs.take n).map (Value.string))∧v'≠ .slice none 0 0∧Below w.heap.size w w':=Any.slices_Clone_string Tryz.laysNm216 b off n c zs w hz hbig hc
open Go.RowKit Go.Lib in
theorem Tryz.slices_Clone_string_nil(n c:Nat)(w:World):
  Calls prog 45 #[.slice none n c] w fun e w'=>e= .returned (.slice none 0 0)∧w'=w:=Any.slices_Clone_string_nil Tryz.laysNm216 n c w
open Go.RowKit Go.Lib in
theorem Tryz.slices_Clone_string_zero(a:Addr)(c:Nat)(w:World):
  Calls prog 45 #[.slice (some a) 0 c] w fun e w'=>∃v',e= .returned v'∧w'.ownsRow w.heap.size 9 1 v' 0 []∧v'≠ .slice none 0 0∧Below w.heap.size w w':=Any.slices_Clone_string_zero Tryz.laysNm216 a c w
def Tryz.sortL_ren:Go.Shelf.Ren:=⟨fun|6=>349|15=>130|14=>384|28=>196|29=>197|20=>402|21=>403|22=>404|23=>405|24=>406|25=>407|26=>408|27=>409|46=>426|47=>279|48=>280|49=>427|50=>428|57=>435|n=>n,fun|22=>145|24=>141|25=>333|3=>3|39=>204|0=>0|53=>261|55=>263|4=>4|46=>254|45=>253|50=>251|5=>5|9=>9|66=>322|70=>326|76=>371|77=>372|n=>n,fun|n=>n⟩
theorem Tryz.sortL:Go.Proofs.SlLaysF0.n6 prog Tryz.sortL_ren:= {
 mixed:=by kernel_rfl
 f6:=⟨f349.name,by decide,sh func349⟩
 f14:=⟨f384.name,by decide,sh func384⟩
 f15:=sh func130
 f20:=⟨f402.name,by decide,sh func402⟩
 f21:=⟨f403.name,by decide,sh func403⟩
 f22:=⟨f404.name,by decide,sh func404⟩
 f23:=⟨f405.name,by decide,sh func405⟩
 f24:=⟨f406.name,by decide,sh func406⟩
 f25:=⟨f407.name,by decide,sh func407⟩
 f26:=⟨f408.name,by decide,sh func408⟩
 f27:=⟨f409.name,by decide,sh func409⟩
 f28:=sh func196
 f29:=sh func197
 f46:=⟨f426.name,by decide,sh func426⟩
 f47:=sh func279
 f48:=sh func280
 f49:=⟨f427.name,by decide,sh func427⟩
 f50:=⟨f428.name,by decide,sh func428⟩
 f57:=⟨f435.name,by decide,sh func435⟩
 t0:=underlying0
 a0:=Tryz.isAgg0
 z0:=Tryz.sizeOf0
 v0:=Tryz.zeroValue0
 t3:=underlying3
 a3:=Tryz.isAgg3
 z3:=Tryz.sizeOf3
 v3:=Tryz.zeroValue3
 t4:=underlying4
 a4:=Tryz.isAgg4
 z4:=Tryz.sizeOf4
 v4:=Tryz.zeroValue4
 t5:=underlying5
 a5:=Tryz.isAgg5
 z5:=Tryz.sizeOf5
 v5:=Tryz.zeroValue5
 t9:=underlying9
 a9:=Tryz.isAgg9
 z9:=Tryz.sizeOf9
 v9:=Tryz.zeroValue9
 t22:=underlying145
 a22:=Tryz.isAgg145
 z22:=Tryz.sizeOf145
 v22:=Tryz.zeroValue145
 t25:=underlying333
 a25:=Tryz.isAgg333
 z25:=Tryz.sizeOf333
 v25:=Tryz.zeroValue333
 t39:=underlying204
 a39:=Tryz.isAgg204
 z39:=Tryz.sizeOf204
 v39:=Tryz.zeroValue204
 t45:=underlying253
 a45:=Tryz.isAgg253
 z45:=Tryz.sizeOf253
 v45:=Tryz.zeroValue253
 t46:=underlying254
 a46:=Tryz.isAgg254
 z46:=Tryz.sizeOf254
 v46:=Tryz.zeroValue254
 t50:=underlying251
 a50:=Tryz.isAgg251
 z50:=Tryz.sizeOf251
 v50:=Tryz.zeroValue251
 t53:=underlying261
 a53:=Tryz.isAgg261
 z53:=Tryz.sizeOf261
 v53:=Tryz.zeroValue261
 t55:=underlying263
 a55:=Tryz.isAgg263
 z55:=Tryz.sizeOf263
 v55:=Tryz.zeroValue263
 t66:=underlying322
 a66:=Tryz.isAgg322
 z66:=Tryz.sizeOf322
 v66:=Tryz.zeroValue322
 t70:=underlying326
 a70:=Tryz.isAgg326
 z70:=Tryz.sizeOf326
 v70:=Tryz.zeroValue326
 t76:=underlying371
 a76:=Tryz.isAgg371
 z76:=Tryz.sizeOf371
 v76:=Tryz.zeroValue371
 t77:=underlying372
 a77:=Tryz.isAgg372
 z77:=Tryz.sizeOf372
 v77:=Tryz.zeroValue372}
end Go.Proofs
namespace Go.Proofs
open Go.Lib Go.Proofs.Tryz Go.RowKit Go.Shelf Go.Sort
theorem Tryz.sort57(blk off cap:Nat)(ss:List (List UInt8))(w:World)(hH:Holds encStr w blk off ss.toArray)(hblk:blk<w.heap.size)(hsz:ss.length<4611686018427387904):
  Calls prog 84 #[.slice (some ⟨blk,off,none⟩) ss.length cap] w fun e w'=>e= .returned (.tuple #[])∧∃n os,w'=grow (putRow encStr (Sort.ahead w n) blk off (ss.mergeSort fun x y=>decide (x≤y)).toArray) os:=
 Any.slices_Sort_string Tryz.lays190 blk off cap ss w hH hblk hsz
theorem Tryz.sort57_none(p:Option Addr)(cap:Nat)(w:World):Calls prog 84 #[.slice p 0 cap] w fun e w'=>e= .returned (.tuple #[])∧w'=w:=
 Any.slices_Sort_string_none Tryz.lays190 p cap w
set_option maxHeartbeats 1000000 in
theorem Tryz.sorted162(v0:Value)(w:World)(R1 R2:Value→World→Prop)(h1:Calls prog 134 #[v0] w fun e w'=>∃v,e= .returned v∧R1 v w')
  (h2:∀v w1,R1 v w1→Calls prog 84 #[v] w1 fun e w'=>e= .returned (.tuple #[])∧R2 v w'):Calls prog 91 #[v0] w fun e w'=>∃v,e= .returned v∧R2 v w':=by
 go_enter func91,ntmps91
 go_wp2_with (first|(go_at_call 134;refine h1.mono ?_;rintro e w' ⟨v,rfl,hv⟩)|(go_at_call 84;refine(h2 _ _ hv).mono ?_;rintro e w' ⟨rfl,hr⟩))
 go_ret
 exact⟨_,rfl,hr⟩
end Go.Proofs
namespace Go.Vam
open Go.Proofs Go.Proofs.Tryz Go.Sort
theorem A4l:f134.body=some (Ta 35 152 200):=by kernel_rfl
theorem A19:f200.body=some (Ail false 0 35 9 152):=by kernel_rfl
theorem A5l:f375.body=some (Ym 0 95 9 4 106):=by kernel_rfl
theorem Azb:f439.body=some (Ym 0 120 9 4 106):=by kernel_rfl
theorem Bck:Vw prog 35 9 1 16 [.str []]:= {
 und:=underlying35
 undk:=by kernel_rfl
 size:=by kernel_rfl
 bytes:=by kernel_rfl
 zero:=by kernel_rfl
 zlen:=rfl
 has:=by kernel_rfl
 sz0:=by decide
 szle:=by decide
 byle:=by decide
 sizeS:=by kernel_rfl}
def Ani(m:MapEntry):List UInt8:=match m.key with
 | .string s=>s.data.toList
 |_=> []
def Bfh:D × D→Option (List UInt8)
 |(.str s,_)=>some s
 |_=>none
def Ajx:List (D × D)→Option (List (List UInt8))
 | []=>some []
 |e::es=>match Bfh e,Ajx es with
  |some k,some ks=>some (k::ks)
  |_,_=>none
def Ab9:List FuncId:= [375,439]
def Fb:Bz:=fun _ args st=>match args with
 | [.func f [] [.ptr b 0]]=>if Ab9.contains f then match st[b]? with
   |some (.cells (.map m::_))=>match st[m]? with
    |some (.map es)=>match Ajx es with
     |some ks=>if ks.length<2 ^ 19 then some (Acy 1 st.length ((Cq J5 ks).map fun s=> [.str s]),st++Jq ((Cq J5 ks).map fun s=> [.str s]),[])else none
     |none=>none
    |_=>none
   |_=>none
  else none
 |_=>none
theorem Ac4{g:G}:∀{es:List (D × D)} {ks:List (List UInt8)} {M:List MapEntry},Ajx es=some ks→M.length=es.length→(∀(j:Nat) (e:D × D) (m:MapEntry),es[j]?=some e→M[j]?=some m→VR g e.1 m.key)→(∀m∈M,encStr (Ani m)=m.key)∧M.map Ani=ks
 | [],ks,[],h,_,_=>by cases h;simp
 | [],ks,m::M,h,hl,_=>by simp at hl
 |e::es,ks,[],h,hl,_=>by simp at hl
 |e::es,ks,m::M,h,hl,hv=>by
  unfold Ajx at h;split at h
  ·rename_i k ks' h1 h2;cases h;obtain⟨h3,h4⟩:=Ac4 h2 (by simpa using hl) (fun j e' m' he hm=>hv (j+1) e' m' (by simpa using he) (by simpa using hm))
   have h5:=hv 0 e m rfl rfl;obtain⟨e1,e2⟩:=e;cases e1<;>simp only[Bfh]at h1<;>try cases h1
   cases hk:m.key<;>rw[hk]at h5<;>cases h5;rename_i s;have h6:Ani m=s.data.toList:=by simp[Ani,hk]
   constructor
   ·intro m' hm';rcases List.mem_cons.1 hm' with rfl|hm'
    ·rw[h6,hk]
    ·exact h3 m' hm'
   ·rw[List.map_cons,h4,h6]
  ·cases h
theorem C9{g:G}{x:List UInt8}{v:Value}(h:VR g (.str x) v):v=encStr x:=by cases h;rfl
theorem Zd(l:List (List UInt8)):(l.map fun s=> [D.str s]).flatten=l.map D.str:=by
 induction l with
 |nil=>rfl
 |cons x l ih=>simp[ih]
theorem Axl{w w1:World}{xs:List (List UInt8)}{v:Value}(hr:Lj prog 1 w (xs.map fun x=> [.str x]) v w1)(hn:xs.length<2 ^ 19):
  Calls prog 84 #[v] w1 fun e w'=>e= .returned (.tuple #[])∧Lj prog 1 w ((Cq J5 xs).map fun x=> [.str x]) v w':=by
 obtain⟨g,st,Ws,sl,h1,h2,h3,h4,h5⟩:=hr;rcases h4 with⟨h6,rfl⟩|⟨hne,id,hid,rfl,hst⟩
 ·cases h3;have:xs= []:=by simpa using h6
  subst this;refine(Tryz.sort57_none none 0 w1).mono ?_;rintro e w' ⟨rfl,rfl⟩;exact⟨rfl,g,st,Ws,.nilsl,h1,h2,.nilsl,.inl ⟨rfl,rfl⟩,h5⟩
 ·cases h3 with
  |arr hl hc1 hc2 hc3=>
  rename_i cap' c;have hfl:=Zd xs;rw[hfl]at hst;have hH:Holds encStr w1 c 0 xs.toArray:=by
   refine Ag2 h1 hl hst (by simp) fun j x u hj hx hu=>?_
   simp only[Nat.zero_add,List.getElem?_map]at hx;simp only[List.size_toArray]at hj;rw[List.getElem?_eq_getElem hj]at hx;simp only[Option.map_some,Option.some.injEq]at hx;subst hx;rw[C9 hu];congr 1;simp[hj]
  have hlen:(xs.map fun x=> [D.str x]).length=xs.length:=by simp
  rw[hlen];refine(Tryz.sort57 c 0 cap' xs w1 hH (h1.blk _ _ hl) (by omega)).mono ?_
  rintro e w' ⟨rfl,n,os,rfl⟩;refine⟨rfl,?_⟩;rw[Aey (List.Perm.refl xs)];have hsl:(Cq J5 xs).length=xs.length:=(J8 xs).length_eq;obtain⟨h6,h7⟩:=Apn (enc:=encStr) (n:=n) (off:=0) (vs:=(Cq J5 xs).map D.str) (d:=(Cq J5 xs).toArray) h1 hl hst (by simp[hsl]) (by simp) (fun j x hx=>by
   rw[List.getElem?_map]at hx;cases hj:(Cq J5 xs)[j]? with
   |none=>rw[hj]at hx;cases hx
   |some y=>
    rw[hj]at hx;cases hx;have:(Cq J5 xs).toArray[j]! =y:=by obtain⟨h8,h9⟩:=List.getElem?_eq_some_iff.1 hj;simp[h8,h9]
    rw[this];exact VR.str ⟨y.toArray⟩) os
  have hcs:(xs.map D.str).take 0++(Cq J5 xs).map D.str++(xs.map D.str).drop (0+((Cq J5 xs).map D.str).length)=(Cq J5 xs).map D.str:=by
   rw[List.drop_eq_nil_of_le (by simp[hsl])]
   simp
  rw[hcs]at h6 h7;refine⟨g,_,_,.arr 1 id 0 ((Cq J5 xs).map fun x=> [D.str x]).length ((Cq J5 xs).map fun x=> [D.str x]).length,h6,h2.trans h7,?_,?_,?_⟩
  ·have:((Cq J5 xs).map fun x=> [D.str x]).length=xs.length:=by simp[hsl]
   rw[this];rw[hlen]at hc1 hc2;exact .arr hl hc1 hc2 hc3
  ·refine .inr ⟨fun h=>hne ?_,id,hid,rfl,?_⟩
   ·have:(Cq J5 xs)= []:=by simpa using h
    rw[this]at hsl;have:xs= []:=List.eq_nil_of_length_eq_zero (by simpa using hsl.symm)
    rw[this];rfl
   ·rw[Zd,Au,if_pos rfl,if_pos (h1.loc_lt hl)]
  ·intro i o ho;rw[Au]at ho;split at ho
   ·split at ho
    ·cases ho;rfl
    ·cases ho
   ·exact h5 i o ho
theorem Abv{f:FuncId}{lb:Array Value}{ks:List (List UInt8)}{w:World}(hk:ks.length<2 ^ 19)
  (hseq:Hu Fence.wide 7 prog f lb encStr (fun xs=>xs.Perm ks) ks.length w)(eg:∀args w,(callFunc f args).run prog w= .ok (.enter f args) w):
  Calls prog 91 #[.func (.func f) #[] lb] w fun e w'=>∃v,e= .returned v∧Lj prog 1 w ((Cq J5 ks).map fun x=> [.str x]) v w':=by
 refine Tryz.sorted162 _ w (fun v w'=>∃xs:List (List UInt8),xs.Perm ks∧Lj prog 1 w (xs.map fun x=> [.str x]) v w') _ ?_ ?_
 ·refine(callsIn_wide (n:=9)).1 ?_;have:=Xj (n:=8) (kd:=D.str) (Make.one (P:=prog) (tk:=9) (by kernel_rfl)) func200 A19 (by kernel_rfl) (by kernel_rfl) Bck (by kernel_rfl) eg hseq hk
   (fun x g=>VR.str ⟨x.toArray⟩) (fun x=>rfl) (fun x=>rfl) (fun x=>rfl) (fun h=>by cases h)
  refine U6 (n:=9) func134 A4l (by kernel_rfl) (by kernel_rfl) (enters_of func200 (by kernel_rfl) rfl) (this.mono ?_) ?_
  ·rintro e w' ⟨v,xs,rfl,hx,hr⟩;exact⟨v,rfl,xs,hx,hr⟩
  ·rintro e w' ⟨v,rfl,_⟩;exact⟨v,rfl⟩
 ·rintro v w1 ⟨xs,hp,hr⟩;have:=Axl hr (by rw[hp.length_eq];exact hk)
  have e:Cq J5 xs=Cq J5 ks:=Ty Pn M3 Mf (Mi Pn M3 xs) ((J8 xs).trans hp);rw[e]at this;exact this
theorem Afd{f:FuncId}(hf:Ab9.contains f=true){w:World}{c o b k:Nat}{M:Array MapEntry}(hm:w.cell? ⟨b,o,none⟩=some (.map (some c)))(hM:w.heap[c]?=some (.map M k))(hnd:(M.toList.map (·.born)).Nodup)(hlt:∀m∈M.toList,m.born<k)
  (hd:∀m∈M.toList,encStr (Ani m)=m.key)(n:Nat):SeqGives Fence.wide n prog f #[.pointer (some ⟨b,o,none⟩)] encStr (fun xs=>∃ms:List MapEntry,ms.Perm M.toList∧xs=ms.map Ani) M.size w∧∀args w,(callFunc f args).run prog w= .ok (.enter f args) w:=by
 have:f=375∨f=439:=by simpa[Ab9]using hf
 rcases this with rfl|rfl
 ·exact⟨(Z5 hd func375 A5l (by kernel_rfl) (by kernel_rfl) underlying95 hm hM hnd hlt).gives,enters_of func375 (by kernel_rfl) rfl⟩
 ·exact⟨(Z5 hd func439 Azb (by kernel_rfl) (by kernel_rfl) underlying120 hm hM hnd hlt).gives,enters_of func439 (by kernel_rfl) rfl⟩
theorem Aao{β:Nat→Nat→Option Value}(cf:Ah):Ji prog β 91 (Fb cf):=by
 intro args st v st' W h g w A hb hs hA;unfold Fb at h;split at h
 case h_2=>cases h
 rename_i f b;split at h
 case isFalse=>cases h
 rename_i hf;split at h
 case h_2=>cases h
 rename_i m cs hst;split at h
 case h_2=>cases h
 rename_i es hes;split at h
 case h_2=>cases h
 rename_i ks hks;split at h
 case isFalse=>cases h
 rename_i hlen;cases h;obtain⟨v0,hA0⟩:∃v0,A= #[v0]:=by have:=hA.size;simp at this;exact Array.size_eq_one_iff.1 this
 subst hA0;have hv0:=hA.at_ 0 _ _ rfl rfl;cases hv0 with
 |func ha hb' hva hvb=>
 rename_i A B;have hA2:A= #[]:=by simpa using ha
 obtain⟨vb,hB⟩:∃vb,B= #[vb]:=by simp at hb';exact Array.size_eq_one_iff.1 hb'
 subst hA2 hB;have hvb0:=hvb 0 _ _ rfl rfl;cases hvb0 with
 |ptr hlb=>
 rename_i cb;obtain⟨o,ho,hr⟩:=hs.obj _ _ hlb;rw[hst]at ho;cases ho;obtain⟨A,T,fr,hr⟩:=hr;have hA0:0<A.size:=by have:=hr.len;simp at this;omega
 have hvm:=hr.at_ 0 _ _ rfl (Array.getElem?_eq_getElem hA0);generalize hx:A[0]=x at hvm;cases hvm with
 |map hlm=>
 rename_i cm;have hcell:w.cell? ⟨cb,0,none⟩=some (.map (some cm)):=by simp only[World.cell?,hr.heap];rw[Array.getElem?_eq_getElem hA0,hx];rfl
 obtain⟨o,ho,hm⟩:=hs.obj _ _ hlm;rw[hes]at ho;cases ho;obtain⟨M,k,hm⟩:=hm;have hspec:=Ac4 (g:=g) (M:=M.toList) hks (by simp[hm.size]) (fun j e m he hm'=>(hm.at_ j e m he (by simpa using hm')).1)
 have hsz:M.size=ks.length:=by rw[← hspec.2];simp
 have hperm:∀xs,(∃ms:List MapEntry,ms.Perm M.toList∧xs=ms.map Ani)→xs.Perm ks:=by rintro xs ⟨ms,h1,rfl⟩;rw[← hspec.2];exact h1.map _
 have hseq:=fun n=>(Afd hf hcell hm.heap hm.born hm.lt hspec.1 n).1;have hfin:=Abv (f:=f) (lb:= #[.pointer (some ⟨cb,0,none⟩)]) (w:=w) (ks:=ks) hlen (by have:=hseq 7;rw[hsz]at this;refine .of ?_;intro l J W hW hJ hY h0;refine(this l J W hW hJ hY h0).mono ?_;rintro e W' ⟨h1,xs,h2,h3⟩;exact⟨h1,xs,hperm xs h2,h3⟩) (Afd hf hcell hm.heap hm.born hm.lt hspec.1 0).2
 refine hfin.mono ?_;rintro e w' ⟨v,rfl,hrow⟩;obtain⟨g',h1,h2,h3,h4⟩:=hrow.graft hs (by intro r hr d hd;obtain⟨x,_,rfl⟩:=List.mem_map.1 hr;simp at hd;subst hd;rfl)
 exact⟨v,g',rfl,h4,h1,h2,h3⟩
theorem Jh{st st2:St}:st.length≤(st++st2).length∧∀id,id<st.length→id ∉ ([]:Cb)→(st++st2)[id]?=st[id]?:=
 ⟨by simp,fun id hid _=>List.getElem?_append_left hid⟩
theorem Yz(cf:Ah):Ba (Fb cf):=by
 intro args st v st' W h;unfold Fb at h
 repeat' split at h
 all_goals (first|cases h)
 all_goals exact Jh
end Go.Vam
namespace Go.Proofs
open Go.Lib Go.Proofs.Tryz Go.RowKit Go.Shelf Go.Sort Go.Vam
set_option maxHeartbeats 1000000 in
theorem Tryz.isNaN220(x:Value)(s:ByteArray)(hx:x= .string s)(w:World):Calls prog 104 #[x] w fun e w'=>e= .returned (.bool false)∧w'=w:=by
 subst hx
 go_enter func104,ntmps104
 go_wp2
 go_ret
 exact⟨rfl,rfl⟩
set_option maxHeartbeats 1000000 in
theorem Tryz.cmp193(a b:ByteArray)(w:World):Calls prog 70 #[.string a,.string b] w fun e w'=>e= .returned (.int .i64 (Al2 a.toList b.toList))∧w'=w:=by
 go_enter func70,ntmps70
 go_wp2_with (go_at_call 104;refine(Tryz.isNaN220 _ _ rfl _).mono ?_;rintro e w' ⟨rfl,rfl⟩)
 all_goals go_ret
 all_goals simp_all [Al2]
def Gi(x:Bool × List UInt8):List Value:= [.bool x.1,encStr x.2]
theorem Adt(l:List UInt8):(ByteArray.mk l.toArray).toList=l:=by simp[ByteArray.toList_eq]
set_option maxHeartbeats 1000000 in
theorem Tryz.order141(x y:Bool × List UInt8)(w:World):Calls prog 285 #[.agg (Gi x).toArray,.agg (Gi y).toArray] w fun e w'=>e= .returned (.int .i64 (Lg x y))∧∃q os',w'=grow (w.drewN q) os':=by
 obtain⟨xb,xs⟩:=x;obtain⟨yb,ys⟩:=y;have hcon:∀W',Calls prog 70 #[encStr xs,encStr ys] W' fun e w'=>e= .returned (.int .i64 (Al2 xs ys))∧w'=W':=fun W'=>by have:=Tryz.cmp193 ⟨xs.toArray⟩ ⟨ys.toArray⟩ W';rw[Adt,Adt]at this;exact this
 unfold Lg;dsimp only;generalize Al2 xs ys=r at hcon;simp only[Gi];generalize encStr xs=vx at hcon;generalize encStr ys=vy at hcon;cases xb<;>cases yb
 all_goals
  go_enter func285,ntmps285
  go_wp2_with (go_at_call 70;refine(hcon _).mono ?_;rintro e w' ⟨rfl,rfl⟩)
  all_goals go_ret
  all_goals exact⟨rfl,0,_,by rw[alloc_eq_grow,alloc_eq_grow,grow_grow];rfl⟩
theorem Tryz.cmpLays141(blk off size:Nat)(w:World):CmpLays prog 285 #[] Gi 2 Lg blk off size w:=
 fun _ _ _ _ x y=>Tryz.order141 x y _
theorem Tryz.sort191(blk off cap:Nat)(d:Array (Bool × List UInt8))(w:World)(hH:HoldsK Gi 2 w blk off d)(hblk:blk<w.heap.size)(hsz:d.size<4611686018427387904):
  Calls prog 349 #[.slice (some ⟨blk,off,none⟩) d.size cap,.func (.func 285) #[] #[]] w fun e w'=>e= .returned (.tuple #[])∧∃n os,w'=sortWorldK Gi 2 w blk off n (d.toList.mergeSort fun x y=>!(ltOf Lg) y x).toArray os:=
 AnyQ.slices_SortFunc_total Tryz.sortL 2 Tryz.isAgg141 Tryz.sizeOf141 Gi (fun _=>rfl) (fun x v hv=>by simp[Gi]at hv;rcases hv with rfl|rfl<;>rfl) Lg Bgv 285 #[] blk off cap d w (enters_of func285 (by kernel_rfl) rfl) (Tryz.cmpLays141 blk off d.size w) hH hblk hsz Bfo
theorem Tryz.sort191_none(p:Option Addr)(cap:Nat)(fv:Value)(w:World):Calls prog 349 #[.slice p 0 cap,fv] w fun e w'=>e= .returned (.tuple #[])∧w'=w:=
 AnyF.slices_SortFunc_none Tryz.sortL p cap fv w
set_option maxHeartbeats 1000000 in
theorem Tryz.sorted139(v0 fv:Value)(w:World)(R1 R2:Value→World→Prop)(h1:Calls prog 348 #[v0] w fun e w'=>∃v,e= .returned v∧R1 v w')
  (h2:∀v w1,R1 v w1→Calls prog 349 #[v,fv] w1 fun e w'=>e= .returned (.tuple #[])∧R2 v w'):Calls prog 283 #[v0,fv] w fun e w'=>∃v,e= .returned v∧R2 v w':=by
 go_enter func283,ntmps283
 go_wp2_with (first|(go_at_call 348;refine h1.mono ?_;rintro e w' ⟨v,rfl,hv⟩)|(go_at_call 349;refine(h2 _ _ hv).mono ?_;rintro e w' ⟨rfl,hr⟩))
 go_ret
 exact⟨_,rfl,hr⟩
end Go.Proofs
namespace Go.Vam
open Go.Proofs Go.Proofs.Tryz Go.Sort
def DL(x:Bool × List UInt8):List D:= [.bool x.1,.str x.2]
theorem A45:f348.body=some (Ta 145 331 383):=by kernel_rfl
theorem A1e:f383.body=some (Ail true 0 145 141 331):=by kernel_rfl
theorem A0a:f350.body=some (Agu 0 194 141 4 296):=by kernel_rfl
theorem Ba4:Vw prog 145 141 2 24 [.bool false,.str []]:= {
 und:=underlying145
 undk:=by kernel_rfl
 size:=by kernel_rfl
 bytes:=by kernel_rfl
 zero:=by kernel_rfl
 zlen:=rfl
 has:=by kernel_rfl
 sz0:=by decide
 szle:=by decide
 byle:=by decide
 sizeS:=by kernel_rfl}
theorem Aqj{xs:List (Bool × List UInt8)}{j:Nat}(hj:j<xs.length*2):∃x,xs[j / 2]?=some x∧(xs.map DL).flatten[j]?=(DL x)[j % 2]?:=by
 have h1:j / 2<xs.length:=by omega
 refine⟨xs[j / 2],List.getElem?_eq_getElem h1,?_⟩;have h2:j % 2<(DL xs[j / 2]).length:=by show j % 2<2;omega
 have:=Od (rows:=xs.map DL) (sz:=2) (fun r hr=>by obtain⟨x,_,rfl⟩:=List.mem_map.1 hr;rfl) (i:=j / 2) (j:=j % 2) (r:=DL xs[j / 2]) (d:=(DL xs[j / 2])[j % 2])
  (by rw[List.getElem?_map,List.getElem?_eq_getElem h1];rfl) (List.getElem?_eq_getElem h2)
 rw[List.getElem?_eq_getElem h2,← this];congr 1;omega
theorem Vq(xs:List (Bool × List UInt8)):(xs.map DL).flatten.length=xs.length*2:=by
 induction xs with
 |nil=>rfl
 |cons x l ih=>simp only[List.map_cons,List.flatten_cons,List.length_append,ih,List.length_cons];show 2+_=_;omega
theorem Akt{xs:List (Bool × List UInt8)}{j:Nat}{x:Bool × List UInt8}(hj:j<xs.length*2)(hx:xs[j / 2]?=some x):(flatK Gi 2 xs.toArray)[j]! =(Gi x)[j % 2]!:=by
 rw[get_flatK _ _ _ _ (by simpa using hj)]
 obtain⟨h1,h2⟩:=List.getElem?_eq_some_iff.1 hx;congr 1;simp[h1,h2]
theorem Ajm{g:G}(x:Bool × List UInt8)(r:Nat)(hr:r<2):∃d,(DL x)[r]?=some d∧VR g d ((Gi x)[r]!)∧∀v,VR g d v→v=(Gi x)[r]!:=by
 match r,hr with
 |0,_=>exact⟨.bool x.1,rfl,.bool _,fun v h=>by cases h;rfl⟩
 |1,_=>exact⟨.str x.2,rfl,VR.str ⟨x.2.toArray⟩,fun v h=>by rw[C9 h];rfl⟩
theorem Asn{w w1:World}{xs:List (Bool × List UInt8)}{v:Value}(hr:Lj prog 2 w (xs.map DL) v w1)(hn:xs.length<2 ^ 19):
  Calls prog 349 #[v,.func (.func 285) #[] #[]] w1 fun e w'=>e= .returned (.tuple #[])∧Lj prog 2 w ((Cq Rk xs).map DL) v w':=by
 obtain⟨g,st,Ws,sl,h1,h2,h3,h4,h5⟩:=hr;rcases h4 with⟨h6,rfl⟩|⟨hne,id,hid,rfl,hst⟩
 ·cases h3;have:xs= []:=by simpa using h6
  subst this;refine(Tryz.sort191_none none 0 _ w1).mono ?_;rintro e w' ⟨rfl,rfl⟩;exact⟨rfl,g,st,Ws,.nilsl,h1,h2,.nilsl,.inl ⟨rfl,rfl⟩,h5⟩
 ·cases h3 with
  |arr hl hc1 hc2 hc3=>
  rename_i cap' c;have hH:HoldsK Gi 2 w1 c 0 xs.toArray:=by
   refine Ag2 h1 hl hst (by rw[Vq];simp) fun j x u hj hx hu=>?_
   simp only[size_flatK,List.size_toArray]at hj;rw[Nat.zero_add]at hx;obtain⟨y,hy1,hy2⟩:=Aqj hj;obtain⟨d,hd1,hd2,hd3⟩:=Ajm (g:=g) y (j % 2) (by omega)
   rw[hy2,hd1]at hx;cases hx;rw[Akt hj hy1];exact hd3 u hu
  have hlen:(xs.map DL).length=xs.length:=by simp
  rw[hlen];refine(Tryz.sort191 c 0 cap' xs.toArray w1 hH (h1.blk _ _ hl) (by simp;omega)).mono ?_
  rintro e w' ⟨rfl,n,os,rfl⟩;refine⟨rfl,?_⟩;show Lj prog 2 w _ _ (sortWorldK Gi 2 w1 c 0 n (xs.mergeSort _).toArray os);rw[Afb (List.Perm.refl xs)];have hsl:(Cq Rk xs).length=xs.length:=(J8 xs).length_eq;obtain⟨h6,h7⟩:=Apn (enc:= @_root_.id Value) (n:=n) (off:=0) (vs:=((Cq Rk xs).map DL).flatten) (d:=flatK Gi 2 (Cq Rk xs).toArray) h1 hl hst (by rw[Vq];simp[hsl]) (by rw[Vq];simp) (fun j x hx=>by
   have hj:j<(Cq Rk xs).length*2:=by rw[← Vq];exact(List.getElem?_eq_some_iff.1 hx).1
   obtain⟨y,hy1,hy2⟩:=Aqj hj;obtain⟨d,hd1,hd2,hd3⟩:=Ajm (g:=g) y (j % 2) (by omega)
   rw[hy2,hd1]at hx;cases hx;show VR g _ ((flatK Gi 2 _)[j]!);rw[Akt hj hy1];exact hd2) os
  have hcs:((xs.map DL).flatten).take 0++((Cq Rk xs).map DL).flatten++((xs.map DL).flatten).drop (0+(((Cq Rk xs).map DL).flatten).length)=((Cq Rk xs).map DL).flatten:=by
   rw[List.drop_eq_nil_of_le (by rw[Vq,Vq,hsl];omega)]
   simp
  rw[hcs]at h6 h7;refine⟨g,_,_,.arr 2 id 0 ((Cq Rk xs).map DL).length ((Cq Rk xs).map DL).length,h6,h2.trans h7,?_,?_,?_⟩
  ·have:((Cq Rk xs).map DL).length=xs.length:=by simp[hsl]
   rw[this];rw[hlen]at hc1 hc2;exact .arr hl hc1 hc2 hc3
  ·refine .inr ⟨fun h=>hne ?_,id,hid,rfl,?_⟩
   ·have:(Cq Rk xs)= []:=by simpa using h
    rw[this]at hsl;have:xs= []:=List.eq_nil_of_length_eq_zero (by simpa using hsl.symm)
    rw[this];rfl
   ·rw[Au,if_pos rfl,if_pos (h1.loc_lt hl)]
  ·intro i o ho;rw[Au]at ho;split at ho
   ·split at ho
    ·cases ho;rfl
    ·cases ho
   ·exact h5 i o ho
def Awa(x:Bool × List UInt8):Value:= .agg (Gi x).toArray
theorem Akk{f:FuncId}{lb:Array Value}{ks:List (Bool × List UInt8)}{w:World}(hk:ks.length<2 ^ 19)
  (hseq:∀n,Hu Fence.wide n prog f lb Awa (fun xs=>xs.Perm ks) ks.length w)(eg:∀args w,(callFunc f args).run prog w= .ok (.enter f args) w):
  Calls prog 283 #[.func (.func f) #[] lb,.func (.func 285) #[] #[]] w fun e w'=>∃v,e= .returned v∧Lj prog 2 w ((Cq Rk ks).map DL) v w':=by
 refine Tryz.sorted139 _ _ w (fun v w'=>∃xs:List (Bool × List UInt8),xs.Perm ks∧Lj prog 2 w (xs.map DL) v w') _ ?_ ?_
 ·refine(callsIn_wide (n:=9)).1 ?_;have:=Xj (n:=8) (kd:=fun x=>D.agg (DL x)) (Make.agg (P:=prog) (tk:=141) (by kernel_rfl)) func383 A1e (by kernel_rfl) (by kernel_rfl) Ba4 (by kernel_rfl) eg (hseq 7) hk
   (fun x g=> .agg rfl (fun j d v hd hv=>by
    have hj:j<2:=(List.getElem?_eq_some_iff.1 hd).1;obtain⟨d',hd1,hd2,hd3⟩:=Ajm (g:=g) x j hj;rw[hd1]at hd;cases hd;have:v=(Gi x)[j]!:=by obtain⟨h1,h2⟩:=Array.getElem?_eq_some_iff.1 hv;have h3:j<(Gi x).length:=h1;rw[← h2];simp[h3]
    rw[this];exact hd2)) (fun x=>rfl) (fun x=>rfl) (fun x=>rfl) (fun _ x=>rfl)
  refine U6 (n:=9) func348 A45 (by kernel_rfl) (by kernel_rfl) (enters_of func383 (by kernel_rfl) rfl) (this.mono ?_) ?_
  ·rintro e w' ⟨v,xs,rfl,hx,hr⟩;exact⟨v,rfl,xs,hx,hr⟩
  ·rintro e w' ⟨v,rfl,_⟩;exact⟨v,rfl⟩
 ·rintro v w1 ⟨xs,hp,hr⟩;have:=Asn hr (by rw[hp.length_eq];exact hk)
  have e:Cq Rk xs=Cq Rk ks:=Ty Mr Kh Qj (Mi Mr Kh xs) ((J8 xs).trans hp);rw[e]at this;exact this
def Amx(m:MapEntry):Bool × List UInt8:=match m.key with
 | .agg A=>match(A[0]?:Option Value),(A[1]?:Option Value)with
  |some (Value.bool b),some (Value.string s)=>(b,s.data.toList)
  |_,_=>(false,[])
 |_=>(false,[])
def Bew:D × D→Option (Bool × List UInt8)
 |(.agg [.bool b,.str s],_)=>some (b,s)
 |_=>none
def Ajq:List (D × D)→Option (List (Bool × List UInt8))
 | []=>some []
 |e::es=>match Bew e,Ajq es with
  |some k,some ks=>some (k::ks)
  |_,_=>none
def Iy:Bz:=fun _ args st=>match args with
 | [.func f [] [.ptr b 0],.func o [] []]=>if f == 350 && o == 285 then match st[b]? with
   |some (.cells (.map m::_))=>match st[m]? with
    |some (.map es)=>match Ajq es with
     |some ks=>if ks.length<2 ^ 19 then some (Acy 2 st.length ((Cq Rk ks).map DL),st++Jq ((Cq Rk ks).map DL),[])else none
     |none=>none
    |_=>none
   |_=>none
  else none
 |_=>none
theorem Zi(cf:Ah):Ba (Iy cf):=by
 intro args st v st' W h;unfold Iy at h
 repeat' split at h
 all_goals (first|cases h)
 all_goals exact Jh
theorem Ab5{g:G}:∀{es:List (D × D)} {ks:List (Bool × List UInt8)} {M:List MapEntry},Ajq es=some ks→M.length=es.length→(∀(j:Nat) (e:D × D) (m:MapEntry),es[j]?=some e→M[j]?=some m→VR g e.1 m.key)→(∀m∈M,Awa (Amx m)=m.key)∧M.map Amx=ks
 | [],ks,[],h,_,_=>by cases h;simp
 | [],ks,m::M,h,hl,_=>by simp at hl
 |e::es,ks,[],h,hl,_=>by simp at hl
 |e::es,ks,m::M,h,hl,hv=>by
  unfold Ajq at h;split at h
  ·rename_i k ks' h1 h2;cases h;obtain⟨h3,h4⟩:=Ab5 h2 (by simpa using hl) (fun j e' m' he hm=>hv (j+1) e' m' (by simpa using he) (by simpa using hm))
   have h5:=hv 0 e m rfl rfl;obtain⟨e1,e2⟩:=e;unfold Bew at h1;split at h1
   case h_2=>cases h1
   rename_i b s _ heq;cases h1;cases heq;cases hk:m.key<;>rw[hk]at h5<;>cases h5;rename_i A hs' hv';have hsz:A.size=2:=hs';have v0:=hv' 0 _ _ rfl (Array.getElem?_eq_getElem (by omega))
   have v1:=hv' 1 _ _ rfl (Array.getElem?_eq_getElem (by omega))
   have e0:A[0]?=some (.bool b):=by rw[Array.getElem?_eq_getElem (by omega)];generalize A[0]=x at v0;cases v0;rfl
   have e1:A[1]?=some (encStr s):=by rw[Array.getElem?_eq_getElem (by omega)];generalize A[1]=x at v1;rw[C9 v1]
   have h6:Amx m=(b,s):=by simp[Amx,hk,e0,e1,encStr]
   have hA:A= #[.bool b,encStr s]:=by
    apply Array.ext_getElem?;intro j
    match j with
    |0=>rw[e0];rfl
    |1=>rw[e1];rfl
    |j+2=>rw[Array.getElem?_eq_none (by omega)];rfl
   constructor
   ·intro m' hm';rcases List.mem_cons.1 hm' with rfl|hm'
    ·rw[h6,hk,hA];rfl
    ·exact h3 m' hm'
   ·rw[List.map_cons,h4,h6]
  ·cases h
theorem A8c(x:Bool × List UInt8):Awj prog 141 (Awa x):=by
 have hi:((prog.info? 141).bind fun i=>i.zero.map fun z=>(i.size,z.cells.size))=some (2,2):=by kernel_rfl
 obtain⟨i,h1,hi⟩:=Option.bind_eq_some_iff.1 hi;obtain⟨z,h2,hi⟩:=Option.map_eq_some_iff.1 hi;simp only[Prod.mk.injEq]at hi;have h3:z.cells.size=i.size:=by omega
 have h4:i.size=2:=hi.1;exact⟨i,z,_,h1,h2,h3,by kernel_rfl,by kernel_rfl,rfl,by rw[h4];rfl,fun u hu=>by simp[Gi]at hu;rcases hu with rfl|rfl<;>rfl⟩
theorem Arq{w:World}{c o b k:Nat}{M:Array MapEntry}(hm:w.cell? ⟨b,o,none⟩=some (.map (some c)))(hM:w.heap[c]?=some (.map M k))(hnd:(M.toList.map (·.born)).Nodup)(hlt:∀m∈M.toList,m.born<k)
  (hd:∀m∈M.toList,Awa (Amx m)=m.key)(n:Nat):SeqGives Fence.wide n prog 350 #[.pointer (some ⟨b,o,none⟩)] Awa (fun xs=>∃ms:List MapEntry,ms.Perm M.toList∧xs=ms.map Amx) M.size w:=
 (Aj0 hd func350 A0a (by kernel_rfl) (by kernel_rfl) underlying194 hm hM hnd hlt (fun m hm=>by rw[← hd m hm];exact A8c _)).gives
theorem A0h{α:Type}{A:Array α}(h:A.size=2):∃x y,A= #[x,y]:=by
 refine⟨A[0],A[1],?_⟩;apply Array.ext_getElem?;intro j
 match j with
 |0=>simp
 |1=>simp
 |j+2=>rw[Array.getElem?_eq_none (by omega)];rfl
theorem Aav{β:Nat→Nat→Option Value}(cf:Ah):Ji prog β 283 (Iy cf):=by
 intro args st v st' W h g w A hb hs hA;unfold Iy at h;split at h
 case h_2=>cases h
 rename_i f b fo;split at h
 case isFalse=>cases h
 rename_i hf;simp only[Bool.and_eq_true,beq_iff_eq]at hf;obtain⟨rfl,rfl⟩:=hf;split at h
 case h_2=>cases h
 rename_i m cs hst;split at h
 case h_2=>cases h
 rename_i es hes;split at h
 case h_2=>cases h
 rename_i ks hks;split at h
 case isFalse=>cases h
 rename_i hlen;cases h;obtain⟨v0,v1,hA0⟩:∃v0 v1,A= #[v0,v1]:=by have:=hA.size;simp at this;exact A0h this
 subst hA0;have hv0:=hA.at_ 0 _ _ rfl rfl;have hv1:=hA.at_ 1 _ _ rfl rfl;cases hv1 with
 |func ha hb' hva1 hvb1=>
 rename_i A1 B1;have hA1:A1= #[]:=by simpa using ha
 have hB1:B1= #[]:=by simpa using hb'
 subst hA1 hB1;cases hv0 with
 |func ha hb' hva hvb=>
 rename_i A B;have hA2:A= #[]:=by simpa using ha
 obtain⟨vb,hB⟩:∃vb,B= #[vb]:=by simp at hb';exact Array.size_eq_one_iff.1 hb'
 subst hA2 hB;have hvb0:=hvb 0 _ _ rfl rfl;cases hvb0 with
 |ptr hlb=>
 rename_i cb;obtain⟨o,ho,hr⟩:=hs.obj _ _ hlb;rw[hst]at ho;cases ho;obtain⟨A,T,fr,hr⟩:=hr;have hA0:0<A.size:=by have:=hr.len;simp at this;omega
 have hvm:=hr.at_ 0 _ _ rfl (Array.getElem?_eq_getElem hA0);generalize hx:A[0]=x at hvm;cases hvm with
 |map hlm=>
 rename_i cm;have hcell:w.cell? ⟨cb,0,none⟩=some (.map (some cm)):=by simp only[World.cell?,hr.heap];rw[Array.getElem?_eq_getElem hA0,hx];rfl
 obtain⟨o,ho,hm⟩:=hs.obj _ _ hlm;rw[hes]at ho;cases ho;obtain⟨M,k,hm⟩:=hm;have hspec:=Ab5 (g:=g) (M:=M.toList) hks (by simp[hm.size]) (fun j e m he hm'=>(hm.at_ j e m he (by simpa using hm')).1)
 have hsz:M.size=ks.length:=by rw[← hspec.2];simp
 have hperm:∀xs,(∃ms:List MapEntry,ms.Perm M.toList∧xs=ms.map Amx)→xs.Perm ks:=by rintro xs ⟨ms,h1,rfl⟩;rw[← hspec.2];exact h1.map _
 have hseq:=fun n=>Arq hcell hm.heap hm.born hm.lt hspec.1 n;have hfin:=Akk (f:=350) (lb:= #[.pointer (some ⟨cb,0,none⟩)]) (w:=w) (ks:=ks) hlen (fun n=>by have:=hseq n;rw[hsz]at this;refine .of ?_;intro l J W hW hJ hY h0;refine(this l J W hW hJ hY h0).mono ?_;rintro e W' ⟨h1,xs,h2,h3⟩;exact⟨h1,xs,hperm xs h2,h3⟩) (enters_of func350 (by kernel_rfl) rfl)
 refine hfin.mono ?_;rintro e w' ⟨v,rfl,hrow⟩;obtain⟨g',h1,h2,h3,h4⟩:=hrow.graft hs (by intro r hr d hd;obtain⟨x,_,rfl⟩:=List.mem_map.1 hr;simp[DL]at hd;rcases hd with rfl|rfl<;>rfl)
 exact⟨v,g',rfl,h4,h1,h2,h3⟩
end Go.Vam
namespace Go.Vam
open Go.Proofs Go.Proofs.Tryz Go.RowKit
section
variable{g:G}{st:St}{w:World}
theorem Aeh{sz:Nat}:∀(n:Nat) (l:List D),n*sz≤l.length→(chunk sz n l).flatten=l.take (n*sz):=by
 intro n;induction n with
 |zero=>intro l _;simp[chunk]
 |succ n ih=>intro l hl;rw[Nat.add_mul]at hl;rw[chunk,List.flatten_cons,ih _ (by simp;omega),Nat.add_mul,Nat.one_mul,Nat.add_comm (n*sz) sz,List.take_add]
theorem Anj(hs:Co g st w){d:D}{x:Value}{rows:List (List D)}(hx:VR g d x)(hr:rowsOf st d=some rows)(hns:∀s,d≠ .str s):
  ∃p cap,x= .slice p rows.length cap∧rows.length≤cap∧(rows= []∨∃c o,p=some ⟨c,o,none⟩∧Reads g w c o rows.flatten):=by
 unfold rowsOf at hr;split at hr
 ·cases hr;cases hx;exact⟨none,0,rfl,Nat.le_refl _,.inl rfl⟩
 ·cases hr;cases hx with
  |slNil=>exact⟨none,0,rfl,Nat.le_refl _,.inl rfl⟩
  |slEmp=>exact⟨_,_,rfl,Nat.zero_le _,.inl rfl⟩
  |sl hsz hI hv hcap hgr=>exact⟨_,_,rfl,hcap,.inr ⟨_,_,rfl,Reads.ofRows hs hsz hI hv⟩⟩
 ·rename_i sz' id off len cap;split at hr
  case h_3=>cases hr
  all_goals
   rename_i cs hst;obtain⟨rfl,hle⟩:=Mj hr;cases hx with
   |arr hl h1 h2 h3=>
    rename_i cap' c;have hro:=(J3 hs hl (by first|exact .inl hst|exact .inr hst)).drop off
    rw[Nat.zero_add]at hro;refine⟨_,_,by rw[Jb],by rw[Jb];omega,.inr ⟨_,_,rfl,⟨fun j d hj=>hro.at_ j d ?_⟩⟩⟩
    rw[Aeh len _ (by simp;omega),List.getElem?_take]at hj
    split at hj
    ·exact hj
    ·cases hj
 ·exact absurd rfl (hns _)
 ·cases hr
def Pt:List (List D)→Option (List (List UInt8))
 | []=>some []
 | [.str s]::rows=>(Pt rows).map (s:: ·)
 |_=>none
theorem Aad:∀{rows:List (List D)} {ss:List (List UInt8)},Pt rows=some ss→rows=ss.map fun s=> [.str s]
 | [],ss,h=>by cases h;rfl
 |r::rows,ss,h=>by
  unfold Pt at h;split at h
  ·rename_i heq;cases heq
  ·rename_i s rows' heq;cases heq;cases h2:Pt rows with
   |none=>rw[h2]at h;cases h
   |some ss'=>rw[h2]at h;cases h;rw[Aad h2];rfl
  ·cases h
def Ob(st:St)(d:D):Option (List (List UInt8)):=match d with
 | .str _=>none
 |d=>match rowsOf st d with
  |some rows=>Pt rows
  |none=>none
theorem Wo(hs:Co g st w){d:D}{x:Value}{ss:List (List UInt8)}(hx:VR g d x)(h:Ob st d=some ss):
  ∃p cap,x= .slice p ss.length cap∧ss.length≤cap∧(ss= []∨∃c o,p=some ⟨c,o,none⟩∧c<w.heap.size∧∀(j:Nat) (s:List UInt8),ss[j]?=some s→w.cell? ⟨c,o+j,none⟩=some (encStr s)):=by
 unfold Ob at h;split at h
 ·cases h
 rename_i d' hns;split at h
 case h_2=>cases h
 rename_i rows hr;have e:=Aad h;obtain⟨p,cap,rfl,h2,h3⟩:=Anj hs hx hr (fun s hd=>hns s hd);have hl:rows.length=ss.length:=by rw[e];simp
 rw[hl]at h2 ⊢;refine⟨p,cap,rfl,h2,?_⟩;rcases h3 with h3|⟨c,o,rfl,h3⟩
 ·left;rw[h3]at hl;exact List.eq_nil_of_length_eq_zero hl.symm
 ·rw[e,Zd]at h3;by_cases hn:ss= []
  ·exact .inl hn
  ·right;have hcell:∀(j:Nat) (s:List UInt8),ss[j]?=some s→w.cell? ⟨c,o+j,none⟩=some (encStr s):=by
    intro j s hj;obtain⟨v,h4,h5⟩:=h3.at_ j (.str s) (by rw[List.getElem?_map,hj];rfl)
    rw[h4,C9 h5]
   refine⟨c,o,rfl,?_,hcell⟩;obtain⟨s,l,rfl⟩:=List.exists_cons_of_ne_nil hn;have:=hcell 0 s rfl;unfold World.cell? at this;cases hh:w.heap[c]? with
   |none=>simp[hh]at this
   |some _=>exact(Array.getElem?_eq_some_iff.1 hh).1
theorem Kz{w':World}(hs:Co g st w)(hb:Below w.heap.size w w'):Co g st w'∧Step g st w [] g st w':=
 hs.still hb.size hb.block hb.os hb.output
end
def Rc(sep:List UInt8):List (List UInt8)→List UInt8
 | []=> []
 |x::l=>match l with
  | []=>x
  |_=>x++(sep++Rc sep l)
theorem Ad6(sep:List UInt8):∀l:List (List UInt8),Lib.join l sep=Rc sep l
 | []=>rfl
 | [x]=>by simp[Lib.join,List.intercalate,Rc]
 |x::y::l=>by have ih:=Ad6 sep (y::l);show _=x++(sep++Rc sep (y::l));rw[← ih];simp[Lib.join,List.intercalate,List.intersperse]
def Qz:Bz:=fun _ args st=>match args with
 | [d,.str sep]=>match Ob st d with
  |some ss=>if ss.length≤2 ^ 40∧(Rc sep ss).length≤2 ^ 40 then some (.str (Rc sep ss),st,[])else none
  |none=>none
 |_=>none
theorem Aeu(cf:Ah):Ba (Qz cf):=by
 intro args st v st' W h;unfold Qz at h
 repeat' split at h
 all_goals (first|cases h)
 all_goals exact⟨Nat.le_refl _,fun _ _ _=>rfl⟩
theorem Ku{α:Type}{A:Array α}(h:A.size=2):∃x y,A= #[x,y]:=by
 refine⟨A[0],A[1],?_⟩;apply Array.ext_getElem?;intro j
 match j with
 |0=>simp
 |1=>simp
 |j+2=>rw[Array.getElem?_eq_none (by omega)];rfl
theorem Ahr{β:Nat→Nat→Option Value}(cf:Ah):Ji prog β 156 (Qz cf):=by
 intro args st v st' W h g w A hb hs hA;unfold Qz at h;split at h
 case h_2=>cases h
 rename_i d sep;split at h
 case h_2=>cases h
 rename_i ss hss;split at h
 case isFalse=>cases h
 rename_i hlen;cases h;obtain⟨v0,v1,rfl⟩:=Ku (A:=A) (by simpa using hA.size)
 have hv0:VR g d v0:=hA.at_ 0 _ _ rfl rfl;have hv1:VR g (.str sep) v1:=hA.at_ 1 _ _ rfl rfl;rw[C9 hv1];obtain⟨p,cap,rfl,h2,h3⟩:=Wo hs hv0 hss;have fin:∀w',Below w.heap.size w w'→∃r g',Ending.returned (encStr (Rc sep ss))= .returned r∧VR g' (.str (Rc sep ss)) r∧Co g' st w'∧Step g st w [] g' st w'∧Dx g st g':=fun w' hb'=>by obtain⟨h4,h5⟩:=Kz hs hb';exact⟨_,g,rfl,VR.str ⟨(Rc sep ss).toArray⟩,h4,h5,Dx.refl _ _⟩
 rcases h3 with rfl|⟨c,o,rfl,hc,hcell⟩
 ·refine(Tryz.strings_Join_none p cap ⟨sep.toArray⟩ w).mono ?_;rintro e w' ⟨rfl,rfl⟩;exact fin _ (Below.refl _ _)
 ·have hxs:(ss.map fun s=>ByteArray.mk s.toArray).length=ss.length:=by simp
  have hm:((ss.map fun s=>ByteArray.mk s.toArray).map (·.data.toList))=ss:=by simp[List.map_map,Function.comp_def]
  have:=Tryz.strings_Join c o cap (ss.map fun s=>⟨s.toArray⟩) ⟨sep.toArray⟩ w (fun j x hx=>by
   rw[List.getElem?_map]at hx;cases hj:ss[j]? with
   |none=>rw[hj]at hx;cases hx
   |some s=>rw[hj]at hx;cases hx;exact hcell j s hj) hc (by rw[hxs];omega) (by rw[hxs];exact h2) (by
   rw[hm,Ad6];show(Rc sep ss).length≤_;omega)
  rw[hxs,hm,Ad6]at this;refine this.mono ?_;rintro e w' ⟨rfl,hb'⟩;exact fin _ hb'
end Go.Vam
namespace Go.Proofs
open Go.Lib Go.Proofs.Tryz Go.RowKit Go.Shelf Go.Sort Go.Vam
theorem Tryz.lays166:Lays.n166 prog Tryz.lays156_ren:= {Tryz.lays156 with}
theorem Tryz.write324(B b:Nat)(bs:List Value)(s:ByteArray)(w:World)(h:Lib.IsBuilderF 167 5 B b bs w)(hlen:bs.length+s.size≤140737488355328)(hBw:B≤w.heap.size):
  Calls prog 105 #[.pointer (some ⟨b,0,none⟩),.string s] w fun e w'=>e= .returned (.tuple #[.int .i64 s.size,.nilIface])∧(Lib.BuilderAtF 167 5 B b (.pointer (some ⟨b,0,none⟩)) (bs++Lib.strCells s) w'∧Below B w w'∧Lib.OthersKept 5 (some b) w w'):=
 Any.Builder_WriteString_k Tryz.lays166 Tryz.Builder_Extra_156 B b bs s w h hlen hBw
def Jp(F:List UInt8→List UInt8):List (List UInt8)→List UInt8
 | []=> []
 |x::l=>F x++Jp F l
theorem Yk{F:List UInt8→List UInt8}:∀{ss:List (List UInt8)} {k:Nat} {s:List UInt8},ss[k]?=some s→Jp F (ss.take (k+1))=Jp F (ss.take k)++F s
 | [],k,s,h=>by simp at h
 |x::l,0,s,h=>by simp at h;subst h;simp[Jp]
 |x::l,k+1,s,h=>by
  have ih:=Yk (F:=F) (ss:=l) (k:=k) (s:=s) (by simpa using h)
  simp only[List.take_succ_cons,Jp]at ih ⊢;rw[ih,List.append_assoc]
theorem Aif{F:List UInt8→List UInt8}:∀(ss:List (List UInt8)) (k:Nat),(Jp F (ss.take k)).length≤(Jp F ss).length
 | [],k=>by simp[Jp]
 |x::l,0=>by simp[Jp]
 |x::l,k+1=>by have ih:=Aif (F:=F) l k;simp only[List.take_succ_cons,Jp,List.length_append];omega
theorem X8(l:List UInt8):Lib.strCells ⟨l.toArray⟩=Lib.byteCells l:=by simp[Lib.strCells,Lib.byteCells]
def Js(s:List UInt8):List UInt8:=s++ [10]
set_option maxHeartbeats 4000000 in
set_option maxRecDepth 1000000 in
theorem Tryz.lines302(p:Option Addr)(ss:List (List UInt8))(cap:Nat)(w:World)(hn:ss.length<2 ^ 40)(hlen:(Jp Js ss).length<2 ^ 40)
  (hp:ss= []∨∃c o,p=some ⟨c,o,none⟩∧c<w.heap.size∧∀(j:Nat) (s:List UInt8),ss[j]?=some s→w.cell? ⟨c,o+j,none⟩=some (encStr s)):
  Calls prog 288 #[.slice p ss.length cap] w fun e w'=>e= .returned (encStr (Jp Js ss))∧Below w.heap.size w w':=by
 go_enter func288,ntmps288
 go_wp2
 go_loopw [8] (fun i wr=>∃k:Nat,i= .int .i64 k∧k≤ss.length∧Lib.IsBuilderF 167 5 w.heap.size w.heap.size (Lib.byteCells (Jp Js (ss.take k))) wr∧Below w.heap.size w wr) (fun i wr=>ss.length - (intOf i).toNat)
 case atStart=>exact⟨0,rfl,by omega,Lib.IsBuilderF.of (Lib.fresh_isBuilder 167 5 w),(Below.refl _ w).alloc (Nat.le_refl _) _⟩
 case round=>
  obtain⟨k,rfl,hk,hI,hbw⟩:=hrel;have hsz:=hbw.size;by_cases hlt:k<ss.length
  ·obtain⟨s,hs⟩:∃s,ss[k]?=some s:=⟨_,List.getElem?_eq_getElem hlt⟩;rcases hp with rfl|⟨c,o,rfl,hc,hcell⟩
   ·simp at hlt
   have hcl:wr.cell? ⟨c,o+k,none⟩=some (encStr s):=by rw[← hcell k s hs];exact World.cell?_of_block (hbw.block c hc)
   have hcat:=Yk (F:=Js) hs;have hle:=Aif (F:=Js) ss (k+1);rw[hcat,List.length_append]at hle;have hpre:(Jp Js (ss.take k)).length+(Js s).length<2 ^ 40:=by omega
   have hl:(k:Int)<ss.length:=by omega
   have hfl:(Js s).length=s.length+1:=by simp[Js]
   have h9:¬ 9223372036854775807<s.length+1:=by omega
   go_wp2_with (go_at_call 105;refine(Tryz.write324 w.heap.size w.heap.size (Lib.byteCells (Jp Js (ss.take k))) ⟨(Js s).toArray⟩ _ hI (by rw[Lib.byteCells_length];show _+(Js s).length≤_;omega) hsz).mono ?_)
   rintro e W1 ⟨rfl,h1,b1,_⟩
   go_wp2
   go_roundw
   case rel=>
    refine⟨k+1,by go_num,by omega,?_,hbw.trans b1⟩
    rw[hcat,Lib.byteCells_append,← X8 (Js s)];exact .inr h1
   case measure=>simp[intOf];omega
  ·have hke:k=ss.length:=by omega
   subst hke;rw[List.take_length]at hI
   go_wp2_with (go_at_call 106;refine(Tryz.Builder_String_any_k w.heap.size w.heap.size _ _ hI hsz).mono ?_)
   rintro e W1 ⟨rfl,_,b1,_⟩
   go_wp2
   go_ret
   exact⟨rfl,hbw.trans b1⟩
structure Fr(B:Nat)(w w':World):Prop where
 os:w'.os=w.os
 output:w'.output=w.output
 size:w.heap.size≤w'.heap.size
 block:∀k,k<B→w'.heap[k]?=w.heap[k]?
theorem Fr.trans{B:Nat}{a b c:World}(h:Fr B a b)(k:Fr B b c):Fr B a c:=
 ⟨k.os.trans h.os,k.output.trans h.output,Nat.le_trans h.size k.size,fun i hi=>(k.block i hi).trans (h.block i hi)⟩
theorem Fr.of{B:Nat}{w w':World}(h:Below B w w'):Fr B w w':=⟨h.os,h.output,h.size,h.block⟩
theorem Fr.less{B B':Nat}{w w':World}(h:Fr B w w')(hb:B'≤B):Fr B' w w':=⟨h.os,h.output,h.size,fun k hk=>h.block k (by omega)⟩
theorem Wl{T e:TypeId}{B b:Nat}{p:Value}{bs:List Value}{W W':World}(h:Lib.BuilderAtF T e B b p bs W)(hf:Fr W.heap.size W W'):Lib.BuilderAtF T e B b p bs W':=by have hlt:=h.lt;obtain⟨hB,v,hv,hown,hne⟩:=h;have hk:=hown.kept (row:=none) (w':= {W' with tape:=W.tape}) ⟨hf.os,rfl,hf.output,hf.size,fun k hk _=>hf.block k hk⟩ (Classical.em _);exact⟨hB,v,(hf.block b hlt).trans hv,hk,hne⟩
theorem Aib{T e:TypeId}{B b:Nat}{bs:List Value}{W W':World}(h:Lib.IsBuilderF T e B b bs W)(hf:Fr W.heap.size W W'):Lib.IsBuilderF T e B b bs W':=
 h.elim (fun x=> .inl (Wl x hf)) (fun x=> .inr (Wl x hf))
def Qf(num:Nat→List UInt8)(s:List UInt8):List UInt8:=num s.length++([58]++s)
set_option maxHeartbeats 800000 in
set_option maxRecDepth 1000000 in
theorem Tryz.put338(num:Nat→List UInt8)(p:Option Addr)(ss:List (List UInt8))(cap:Nat)(w:World)(hn:ss.length<2 ^ 40)(hlen:(Jp (Qf num) ss).length<2 ^ 40)
  (hp:ss= []∨∃c o,p=some ⟨c,o,none⟩∧c<w.heap.size∧∀(j:Nat) (s:List UInt8),ss[j]?=some s→w.cell? ⟨c,o+j,none⟩=some (encStr s))
  (hnum:∀(s:List UInt8) (wr:World),s∈ss→Fr w.heap.size w wr→Calls prog 100 #[.int .i64 s.length] wr fun e w'=>e= .returned (encStr (num s.length))∧Fr wr.heap.size wr w'):
  Calls prog 71 #[.slice p ss.length cap] w fun e w'=>e= .returned (encStr (Jp (Qf num) ss))∧Fr w.heap.size w w':=by
 go_enter func71,ntmps71
 go_wp2
 go_loopw [8] (fun i wr=>∃k:Nat,i= .int .i64 k∧k≤ss.length∧Lib.IsBuilderF 167 5 w.heap.size w.heap.size (Lib.byteCells (Jp (Qf num) (ss.take k))) wr∧Fr w.heap.size w wr) (fun i wr=>ss.length - (intOf i).toNat)
 case atStart=>exact⟨0,rfl,by omega,Lib.IsBuilderF.of (Lib.fresh_isBuilder 167 5 w),Fr.of ((Below.refl _ w).alloc (Nat.le_refl _) _)⟩
 case round=>
  obtain⟨k,rfl,hk,hI,hbw⟩:=hrel;have hsz:=hbw.size;by_cases hlt:k<ss.length
  ·obtain⟨s,hs⟩:∃s,ss[k]?=some s:=⟨_,List.getElem?_eq_getElem hlt⟩;rcases hp with rfl|⟨c,o,rfl,hc,hcell⟩
   ·simp at hlt
   have hcl:wr.cell? ⟨c,o+k,none⟩=some (encStr s):=by rw[← hcell k s hs];exact World.cell?_of_block (hbw.block c hc)
   have hcat:=Yk (F:=Qf num) hs;have hle:=Aif (F:=Qf num) ss (k+1);rw[hcat,List.length_append]at hle;have hl:(k:Int)<ss.length:=by omega
   have hfl:(Qf num s).length=(num s.length).length+1+s.length:=by simp[Qf];omega
   have h8:¬ 9223372036854775807<(num s.length).length+1:=by omega
   have h9:¬ 9223372036854775807<(num s.length).length+1+s.length:=by omega
   have hcon:=hnum s wr (List.mem_of_getElem? hs) hbw
   go_wp2_with (go_at_call 100;refine hcon.mono ?_)
   rintro e W1 ⟨rfl,f1⟩;have hI1:=Aib hI f1;have hb1:=hbw.trans (f1.less hsz);have hsz1:=hb1.size;have hsum:((⟨(num s.length).toArray⟩++⟨#[58]⟩)++⟨s.toArray⟩:ByteArray)=⟨(Qf num s).toArray⟩:=by apply ByteArray.ext;simp[Qf]
   have hwr:=fun W hI1 hsz1=>Tryz.write324 w.heap.size w.heap.size (Lib.byteCells (Jp (Qf num) (ss.take k))) ⟨(Qf num s).toArray⟩ W hI1 (by rw[Lib.byteCells_length];show _+(Qf num s).length≤_;omega) hsz1
   rw[← hsum]at hwr;have hst:Lib.strCells ((⟨(num s.length).toArray⟩++⟨#[58]⟩)++⟨s.toArray⟩:ByteArray)=Lib.byteCells (Qf num s):=by rw[hsum,X8]
   rw[hst]at hwr;clear hsum hst;generalize Qf num s=pf at*
   go_wp2_with (go_at_call 105;refine(hwr _ hI1 hsz1).mono ?_)
   rintro e W2 ⟨rfl,h1,b1,_⟩
   go_wp2
   go_roundw
   case rel=>
    refine⟨k+1,by go_num,by omega,?_,hb1.trans (Fr.of b1)⟩
    rw[hcat,Lib.byteCells_append];exact .inr h1
   case measure=>simp[intOf];omega
  ·have hke:k=ss.length:=by omega
   subst hke;rw[List.take_length]at hI
   go_wp2_with (go_at_call 106;refine(Tryz.Builder_String_any_k w.heap.size w.heap.size _ _ hI hsz).mono ?_)
   rintro e W1 ⟨rfl,_,b1,_⟩
   go_wp2
   go_ret
   exact⟨rfl,hbw.trans (Fr.of b1)⟩
end Go.Proofs
namespace Go.Vam
open Go.Proofs Go.Proofs.Tryz Go.RowKit
section
variable{g:G}{st:St}{w:World}
theorem Xi{w':World}(hs:Co g st w)(hb:Fr w.heap.size w w'):Co g st w'∧Step g st w [] g st w':=
 hs.still hb.size hb.block hb.os hb.output
end
theorem K9{α:Type}{A:Array α}(h:A.size=1):∃x,A= #[x]:=Array.size_eq_one_iff.1 h
def Nh:Bz:=fun _ args st=>match args with
 | [d]=>match Ob st d with
  |some ss=>if ss.length<2 ^ 40∧(Jp Js ss).length<2 ^ 40 then some (.str (Jp Js ss),st,[])else none
  |none=>none
 |_=>none
theorem Ac8(cf:Ah):Ba (Nh cf):=by
 intro args st v st' W h;unfold Nh at h
 repeat' split at h
 all_goals (first|cases h)
 all_goals exact⟨Nat.le_refl _,fun _ _ _=>rfl⟩
theorem Ae2{β:Nat→Nat→Option Value}(cf:Ah):Ji prog β 288 (Nh cf):=by
 intro args st v st' W h g w A hb hs hA;unfold Nh at h;split at h
 case h_2=>cases h
 rename_i d;split at h
 case h_2=>cases h
 rename_i ss hss;split at h
 case isFalse=>cases h
 rename_i hlen;cases h;obtain⟨v0,rfl⟩:=K9 (A:=A) (by simpa using hA.size)
 have hv0:VR g d v0:=hA.at_ 0 _ _ rfl rfl;obtain⟨p,cap,rfl,h2,h3⟩:=Wo hs hv0 hss;refine(Tryz.lines302 p ss cap w hlen.1 hlen.2 h3).mono ?_;rintro e w' ⟨rfl,hb'⟩;obtain⟨h4,h5⟩:=Kz hs hb';exact⟨_,g,rfl,VR.str ⟨(Jp Js ss).toArray⟩,h4,h5,Dx.refl _ _⟩
end Go.Vam

import Derived.Shelf.Strings.Builder1
import Derived.Shelf.Strings.Builder2
import Derived.Shelf.Strings.OnBuilder
import Derived.Shelf.Small.Strs
import Derived.Shelf.Small.Wraps
import Derived.Shelf.Strings.BuilderF
import Derived.Shelf.Strings.BuilderK
import Derived.Shelf.Utf8.RuneCount
import Derived.Shelf.Strings.Builder2Cap
import Derived.Shelf.Strconv.Itoa0
import Derived.Shelf.Strconv.Itoa1
import Derived.Shelf.LaysM
import Derived.Shelf.Strconv.Itoa2
import Derived.Shelf.Strconv.Itoa3
import Derived.Shelf.Strings.Search1
import Derived.Shelf.Strings.Search2
import Derived.Shelf.Strings.Search3
import Derived.Shelf.Strings.Cut
import Derived.Shelf.Strings.Count
import Derived.Shelf.Strings.Shaped
import Derived.Shelf.Strings.Prefix
import Derived.Shelf.Strings.Split
import Derived.Shelf.Strings.SplitShaped
import Derived.Shelf.Unicode.Decode
import Derived.Shelf.Strings.RuneCount
import Derived.Shelf.Strings.Explode
import Derived.Shelf.Unicode.DecodeSlow
import Derived.Shelf.Unicode.DecodeAny
import Derived.Shelf.Strings.BuilderCap
import Derived.Shelf.Slices.Turned
import Derived.Ground.Names2Prog
import Derived.Shelf.Slices.SearchI
import Derived.Ground.SlgfProg
import Derived.Shelf.SlicesE.IndexFunc
import Derived.Test.YtjfaogajmoffoaaGreatDoorProg
namespace Go.Proofs
open Go.Shelf
def Tryz.lays169_ren:Go.Shelf.Ren:=⟨fun|169=>116|n=>n,fun|70=>205|9=>9|0=>0|72=>207|37=>94|127=>268|3=>3|5=>5|n=>n,fun|n=>n⟩
theorem Tryz.lays169:Go.Proofs.Lays.n169 Tryz.prog Tryz.lays169_ren:={
 mixed:=by kernel_rfl
 f169:=Tryz.func116.trans (congrArg some (by kernel_rfl))
 t0:=Tryz.underlying0
 a0:=Tryz.isAgg0
 z0:=Tryz.sizeOf0
 v0:=Tryz.zeroValue0
 t3:=Tryz.underlying3
 a3:=Tryz.isAgg3
 z3:=Tryz.sizeOf3
 v3:=Tryz.zeroValue3
 t9:=Tryz.underlying9
 a9:=Tryz.isAgg9
 z9:=Tryz.sizeOf9
 v9:=Tryz.zeroValue9
 t37:=Tryz.underlying94
 a37:=Tryz.isAgg94
 z37:=Tryz.sizeOf94
 v37:=Tryz.zeroValue94
 t70:=Tryz.underlying205
 a70:=Tryz.isAgg205
 z70:=Tryz.sizeOf205
 v70:=Tryz.zeroValue205
 t72:=Tryz.underlying207
 a72:=Tryz.isAgg207
 z72:=Tryz.sizeOf207
 v72:=Tryz.zeroValue207
 t127:=Tryz.underlying268
 a127:=Tryz.isAgg268
 z127:=Tryz.sizeOf268
 v127:=Tryz.zeroValue268 }
theorem Tryz.Builder_Extra_169:Builder.Extra Tryz.prog Tryz.lays169_ren:={
 sizeBuilder:=by kernel_rfl
 liesBuilder:=by kernel_rfl
 t5:=Tryz.underlying5
 a5:=Tryz.isAgg5
 z5:=Tryz.sizeOf5
 v5:=Tryz.zeroValue5
 infoByte:=by kernel_rfl
 cellsByte:=by kernel_rfl
 sizeByte:=by kernel_rfl
 neB5:=by decide }
open Go.RowKit in
theorem Tryz.Builder_String_any(B b:Nat)(l:List UInt8)(w:World)(h:Lib.IsBuilder 207 5 B b (Lib.byteCells l) w)(hBw:B≤w.heap.size):
  Calls Tryz.prog 116 #[.pointer (some ⟨b,0,none⟩)] w fun e w'=>e=.returned (.string ⟨l.toArray⟩)∧Below B w w':=Any.Builder_String_any Tryz.lays169 Tryz.Builder_Extra_169 B b l w h hBw
def Tryz.lays156_ren:Go.Shelf.Ren:=⟨fun|156=>163|165=>198|166=>115|169=>116|240=>168|241=>233|276=>202|277=>268|n=>n,fun|31=>23|9=>9|3=>3|4=>4|0=>0|20=>20|72=>207|76=>210|70=>205|37=>94|75=>209|127=>268|164=>302|5=>5|80=>212|n=>n,fun|n=>n⟩
theorem Tryz.lays156:Go.Proofs.Lays.n156 Tryz.prog Tryz.lays156_ren:={
 mixed:=by kernel_rfl
 f156:=Tryz.func163.trans (congrArg some (by kernel_rfl))
 f165:=Tryz.func198.trans (congrArg some (by kernel_rfl))
 f166:=Tryz.func115.trans (congrArg some (by kernel_rfl))
 f169:=Tryz.func116.trans (congrArg some (by kernel_rfl))
 f240:=Tryz.func168.trans (congrArg some (by kernel_rfl))
 f241:=Tryz.func233.trans (congrArg some (by kernel_rfl))
 f276:=Tryz.func202.trans (congrArg some (by kernel_rfl))
 f277:=Tryz.func268.trans (congrArg some (by kernel_rfl))
 t0:=Tryz.underlying0
 a0:=Tryz.isAgg0
 z0:=Tryz.sizeOf0
 v0:=Tryz.zeroValue0
 t3:=Tryz.underlying3
 a3:=Tryz.isAgg3
 z3:=Tryz.sizeOf3
 v3:=Tryz.zeroValue3
 t4:=Tryz.underlying4
 a4:=Tryz.isAgg4
 z4:=Tryz.sizeOf4
 v4:=Tryz.zeroValue4
 t9:=Tryz.underlying9
 a9:=Tryz.isAgg9
 z9:=Tryz.sizeOf9
 v9:=Tryz.zeroValue9
 t20:=Tryz.underlying20
 a20:=Tryz.isAgg20
 z20:=Tryz.sizeOf20
 v20:=Tryz.zeroValue20
 t31:=Tryz.underlying23
 a31:=Tryz.isAgg23
 z31:=Tryz.sizeOf23
 v31:=Tryz.zeroValue23
 t37:=Tryz.underlying94
 a37:=Tryz.isAgg94
 z37:=Tryz.sizeOf94
 v37:=Tryz.zeroValue94
 t70:=Tryz.underlying205
 a70:=Tryz.isAgg205
 z70:=Tryz.sizeOf205
 v70:=Tryz.zeroValue205
 t72:=Tryz.underlying207
 a72:=Tryz.isAgg207
 z72:=Tryz.sizeOf207
 v72:=Tryz.zeroValue207
 t75:=Tryz.underlying209
 a75:=Tryz.isAgg209
 z75:=Tryz.sizeOf209
 v75:=Tryz.zeroValue209
 t76:=Tryz.underlying210
 a76:=Tryz.isAgg210
 z76:=Tryz.sizeOf210
 v76:=Tryz.zeroValue210
 t127:=Tryz.underlying268
 a127:=Tryz.isAgg268
 z127:=Tryz.sizeOf268
 v127:=Tryz.zeroValue268
 t164:=Tryz.underlying302
 a164:=Tryz.isAgg302
 z164:=Tryz.sizeOf302
 v164:=Tryz.zeroValue302 }
theorem Tryz.Builder_Extra_156:Builder.Extra Tryz.prog Tryz.lays156_ren:={
 sizeBuilder:=by kernel_rfl
 liesBuilder:=by kernel_rfl
 t5:=Tryz.underlying5
 a5:=Tryz.isAgg5
 z5:=Tryz.sizeOf5
 v5:=Tryz.zeroValue5
 infoByte:=by kernel_rfl
 cellsByte:=by kernel_rfl
 sizeByte:=by kernel_rfl
 neB5:=by decide }
open Go.RowKit in
theorem Tryz.strings_Join_none(a:Option Addr)(c:Nat)(sep:ByteArray)(w:World):
  Calls Tryz.prog 163 #[.slice a 0 c,.string sep] w fun e w'=>e=.returned (.string ⟨#[]⟩)∧w'=w:=Any.strings_Join_none Tryz.lays156 Tryz.Builder_Extra_156 a c sep w
open Go.RowKit in
theorem Tryz.strings_Join(bk o c:Nat)(xs:List ByteArray)(sep:ByteArray)(w:World)(hcells:∀(j:Nat) x,xs[j]? =some x→w.cell? ⟨bk,o+j,none⟩=some (.string x)) (hbk:bk<w.heap.size) (hN:xs.length≤140737488355328) (hcap:xs.length≤c) (hlen:(Lib.join (xs.map (·.data.toList)) sep.data.toList).length≤140737488355328):
  Calls Tryz.prog 163 #[.slice (some ⟨bk,o,none⟩) xs.length c,.string sep] w fun e w'=>e=.returned (.string ⟨(Lib.join (xs.map (·.data.toList)) sep.data.toList).toArray⟩)∧Below w.heap.size w w':=Any.strings_Join Tryz.lays156 Tryz.Builder_Extra_156 bk o c xs sep w hcells hbk hN hcap hlen
def Tryz.lays137_ren:Go.Shelf.Ren:=⟨fun|137=>302|217=>296|266=>311|n=>n,fun|9=>9|5=>5|3=>3|n=>n,fun|n=>n⟩
theorem Tryz.lays137:Go.Proofs.Lays.n137 Tryz.prog Tryz.lays137_ren:={
 mixed:=by kernel_rfl
 f137:=Tryz.func302.trans (congrArg some (by kernel_rfl))
 f217:=Tryz.func296.trans (congrArg some (by kernel_rfl))
 f266:=Tryz.func311.trans (congrArg some (by kernel_rfl))
 t3:=Tryz.underlying3
 a3:=Tryz.isAgg3
 z3:=Tryz.sizeOf3
 v3:=Tryz.zeroValue3
 t5:=Tryz.underlying5
 a5:=Tryz.isAgg5
 z5:=Tryz.sizeOf5
 v5:=Tryz.zeroValue5
 t9:=Tryz.underlying9
 a9:=Tryz.isAgg9
 z9:=Tryz.sizeOf9
 v9:=Tryz.zeroValue9 }
open Go.RowKit in
theorem Tryz.strings_IndexByte(s:ByteArray)(c:Int)(w:World):
  Calls Tryz.prog 302 #[.string s,.int .u8 c] w fun e w'=>e=.returned (.int .i64 (Lib.indexByte s.data.toList c.toNat.toUInt8))∧w'=w:=Any.strings_IndexByte Tryz.lays137 s c w
def Tryz.laysM171_ren:Go.Shelf.Ren:=⟨fun|171=>166|243=>201|246=>236|283=>271|284=>272|285=>273|286=>274|129=>290|317=>289|318=>291|319=>292|320=>293|337=>309|338=>310|n=>n,fun|3=>3|9=>9|2=>2|4=>4|171=>354|0=>0|53=>234|37=>94|5=>5|173=>357|212=>373|51=>165|20=>20|213=>374|46=>192|232=>25|233=>250|n=>n,fun|17=>5|18=>6|19=>7|n=>n⟩
theorem Tryz.laysM171:Go.Proofs.LaysM.n171 Tryz.prog Tryz.laysM171_ren:={
 mixed:=by kernel_rfl
 f129:=Tryz.func290.trans (congrArg some (by kernel_rfl))
 f171:=Tryz.func166.trans (congrArg some (by kernel_rfl))
 f243:=Tryz.func201.trans (congrArg some (by kernel_rfl))
 f246:=Tryz.func236.trans (congrArg some (by kernel_rfl))
 f283:=Tryz.func271.trans (congrArg some (by kernel_rfl))
 f284:=Tryz.func272.trans (congrArg some (by kernel_rfl))
 f285:=Tryz.func273.trans (congrArg some (by kernel_rfl))
 f286:=Tryz.func274.trans (congrArg some (by kernel_rfl))
 f317:=Tryz.func289.trans (congrArg some (by kernel_rfl))
 f318:=Tryz.func291.trans (congrArg some (by kernel_rfl))
 f319:=Tryz.func292.trans (congrArg some (by kernel_rfl))
 f320:=Tryz.func293.trans (congrArg some (by kernel_rfl))
 f337:=Tryz.func309.trans (congrArg some (by kernel_rfl))
 f338:=Tryz.func310.trans (congrArg some (by kernel_rfl))
 t0:=Tryz.underlying0
 a0:=Tryz.isAgg0
 z0:=Tryz.sizeOf0
 v0:=Tryz.zeroValue0
 t2:=Tryz.underlying2
 a2:=Tryz.isAgg2
 z2:=Tryz.sizeOf2
 v2:=Tryz.zeroValue2
 t3:=Tryz.underlying3
 a3:=Tryz.isAgg3
 z3:=Tryz.sizeOf3
 v3:=Tryz.zeroValue3
 t4:=Tryz.underlying4
 a4:=Tryz.isAgg4
 z4:=Tryz.sizeOf4
 v4:=Tryz.zeroValue4
 t5:=Tryz.underlying5
 a5:=Tryz.isAgg5
 z5:=Tryz.sizeOf5
 v5:=Tryz.zeroValue5
 t9:=Tryz.underlying9
 a9:=Tryz.isAgg9
 z9:=Tryz.sizeOf9
 v9:=Tryz.zeroValue9
 t20:=Tryz.underlying20
 a20:=Tryz.isAgg20
 z20:=Tryz.sizeOf20
 v20:=Tryz.zeroValue20
 t37:=Tryz.underlying94
 a37:=Tryz.isAgg94
 z37:=Tryz.sizeOf94
 v37:=Tryz.zeroValue94
 t46:=Tryz.underlying192
 a46:=Tryz.isAgg192
 z46:=Tryz.sizeOf192
 v46:=Tryz.zeroValue192
 t51:=Tryz.underlying165
 a51:=Tryz.isAgg165
 z51:=Tryz.sizeOf165
 v51:=Tryz.zeroValue165
 t53:=Tryz.underlying234
 a53:=Tryz.isAgg234
 z53:=Tryz.sizeOf234
 v53:=Tryz.zeroValue234
 t171:=Tryz.underlying354
 a171:=Tryz.isAgg354
 z171:=Tryz.sizeOf354
 v171:=Tryz.zeroValue354
 t173:=Tryz.underlying357
 a173:=Tryz.isAgg357
 z173:=Tryz.sizeOf357
 v173:=Tryz.zeroValue357
 t212:=Tryz.underlying373
 a212:=Tryz.isAgg373
 z212:=Tryz.sizeOf373
 v212:=Tryz.zeroValue373
 t213:=Tryz.underlying374
 a213:=Tryz.isAgg374
 z213:=Tryz.sizeOf374
 t232:=Tryz.underlying25
 a232:=Tryz.isAgg25
 z232:=Tryz.sizeOf25
 v232:=Tryz.zeroValue25
 t233:=Tryz.underlying250
 a233:=Tryz.isAgg250
 z233:=Tryz.sizeOf250
 v233:=Tryz.zeroValue250
 g17:=by kernel_rfl
 g18:=by kernel_rfl
 g19:=by kernel_rfl
 i0:=by kernel_rfl
 i2:=by kernel_rfl
 i3:=by kernel_rfl
 i4:=by kernel_rfl
 i5:=by kernel_rfl
 i9:=by kernel_rfl
 i20:=by kernel_rfl
 i37:=by kernel_rfl
 i46:=by kernel_rfl
 i51:=by kernel_rfl
 i53:=by kernel_rfl
 i171:=by kernel_rfl
 i173:=by kernel_rfl
 i212:=by kernel_rfl
 i232:=by kernel_rfl
 i233:=by kernel_rfl
 m17:=by kernel_rfl
 m18:=by kernel_rfl
 m19:=by kernel_rfl }
open Go.RowKit Go.Sort Go.Lib in
theorem Tryz.strconv_Itoa(n:Int)(h0: -9223372036854775808≤n)(h1:n≤9223372036854775807)(w:World)(htab:Lib.TabIs Tryz.prog w "internal/strconv.uint64pow10" .u64 Lib.pow10Tab):
  Calls Tryz.prog 166 #[.int .i64 n] w fun e w'=>e=.returned (.string ⟨(Lib.itoa n).toArray⟩)∧∃k os,w'=grow (w.drewN k) os:=Any.strconv_Itoa Tryz.laysM171 n h0 h1 w htab
def Tryz.lays144_ren:Go.Shelf.Ren:=⟨fun|144=>221|143=>249|219=>277|217=>296|225=>297|224=>298|267=>299|266=>311|314=>312|n=>n,fun|9=>9|4=>4|3=>3|5=>5|46=>192|146=>385|51=>165|n=>n,fun|1=>4|n=>n⟩
theorem Tryz.lays144:Go.Proofs.Lays.n144 Tryz.prog Tryz.lays144_ren:={
 mixed:=by kernel_rfl
 f143:=Tryz.func249.trans (congrArg some (by kernel_rfl))
 f144:=Tryz.func221.trans (congrArg some (by kernel_rfl))
 f217:=Tryz.func296.trans (congrArg some (by kernel_rfl))
 f219:=Tryz.func277.trans (congrArg some (by kernel_rfl))
 f224:=Tryz.func298.trans (congrArg some (by kernel_rfl))
 f225:=Tryz.func297.trans (congrArg some (by kernel_rfl))
 f266:=Tryz.func311.trans (congrArg some (by kernel_rfl))
 f267:=Tryz.func299.trans (congrArg some (by kernel_rfl))
 f314:=Tryz.func312.trans (congrArg some (by kernel_rfl))
 t3:=Tryz.underlying3
 a3:=Tryz.isAgg3
 z3:=Tryz.sizeOf3
 v3:=Tryz.zeroValue3
 t4:=Tryz.underlying4
 a4:=Tryz.isAgg4
 z4:=Tryz.sizeOf4
 v4:=Tryz.zeroValue4
 t5:=Tryz.underlying5
 a5:=Tryz.isAgg5
 z5:=Tryz.sizeOf5
 v5:=Tryz.zeroValue5
 t9:=Tryz.underlying9
 a9:=Tryz.isAgg9
 z9:=Tryz.sizeOf9
 v9:=Tryz.zeroValue9
 t46:=Tryz.underlying192
 a46:=Tryz.isAgg192
 z46:=Tryz.sizeOf192
 v46:=Tryz.zeroValue192
 t51:=Tryz.underlying165
 a51:=Tryz.isAgg165
 z51:=Tryz.sizeOf165
 v51:=Tryz.zeroValue165
 t146:=Tryz.underlying385
 a146:=Tryz.isAgg385
 z146:=Tryz.sizeOf385
 v146:=Tryz.zeroValue385
 g1:=by kernel_rfl }
open Go.RowKit Go.Lib in
theorem Tryz.strings_Contains(s sub:ByteArray)(m:Int)(w:World)(hs:s.size<4294967281)(hm:w.cell? ⟨4,0,none⟩=some (.int .i64 m)):
  Calls Tryz.prog 221 #[.string s,.string sub] w fun e w'=>e=.returned (.bool (Lib.contains s.data.toList sub.data.toList))∧w'=w:=Any.strings_Contains Tryz.lays144 s sub m w hs hm
def Tryz.lays145_ren:Go.Shelf.Ren:=⟨fun|145=>222|220=>250|219=>277|217=>296|225=>297|224=>298|267=>299|266=>311|314=>312|n=>n,fun|9=>9|4=>4|59=>320|3=>3|5=>5|46=>192|146=>385|51=>165|n=>n,fun|1=>4|n=>n⟩
theorem Tryz.lays145:Go.Proofs.Lays.n145 Tryz.prog Tryz.lays145_ren:={
 mixed:=by kernel_rfl
 f145:=Tryz.func222.trans (congrArg some (by kernel_rfl))
 f217:=Tryz.func296.trans (congrArg some (by kernel_rfl))
 f219:=Tryz.func277.trans (congrArg some (by kernel_rfl))
 f220:=Tryz.func250.trans (congrArg some (by kernel_rfl))
 f224:=Tryz.func298.trans (congrArg some (by kernel_rfl))
 f225:=Tryz.func297.trans (congrArg some (by kernel_rfl))
 f266:=Tryz.func311.trans (congrArg some (by kernel_rfl))
 f267:=Tryz.func299.trans (congrArg some (by kernel_rfl))
 f314:=Tryz.func312.trans (congrArg some (by kernel_rfl))
 t3:=Tryz.underlying3
 a3:=Tryz.isAgg3
 z3:=Tryz.sizeOf3
 v3:=Tryz.zeroValue3
 t4:=Tryz.underlying4
 a4:=Tryz.isAgg4
 z4:=Tryz.sizeOf4
 v4:=Tryz.zeroValue4
 t5:=Tryz.underlying5
 a5:=Tryz.isAgg5
 z5:=Tryz.sizeOf5
 v5:=Tryz.zeroValue5
 t9:=Tryz.underlying9
 a9:=Tryz.isAgg9
 z9:=Tryz.sizeOf9
 v9:=Tryz.zeroValue9
 t46:=Tryz.underlying192
 a46:=Tryz.isAgg192
 z46:=Tryz.sizeOf192
 v46:=Tryz.zeroValue192
 t51:=Tryz.underlying165
 a51:=Tryz.isAgg165
 z51:=Tryz.sizeOf165
 v51:=Tryz.zeroValue165
 t59:=Tryz.underlying320
 a59:=Tryz.isAgg320
 z59:=Tryz.sizeOf320
 v59:=Tryz.zeroValue320
 t146:=Tryz.underlying385
 a146:=Tryz.isAgg385
 z146:=Tryz.sizeOf385
 v146:=Tryz.zeroValue385
 g1:=by kernel_rfl }
open Go.RowKit Go.Lib in
theorem Tryz.strings_Cut(s sep:ByteArray)(m:Int)(w:World)(hs:s.size<4294967281)(hm:w.cell? ⟨4,0,none⟩=some (.int .i64 m)):
  Calls Tryz.prog 222 #[.string s,.string sep] w fun e w'=>e=.returned (.tuple #[.string ⟨(Lib.cut s.data.toList sep.data.toList).1.toArray⟩,.string ⟨(Lib.cut s.data.toList sep.data.toList).2.1.toArray⟩,.bool (Lib.cut s.data.toList sep.data.toList).2.2])∧∃n,w'=w.drewN n:=Any.strings_Cut Tryz.lays145 s sep m w hs hm
def Tryz.lays99_ren:Go.Shelf.Ren:=⟨fun|99=>219|206=>247|n=>n,fun|9=>9|4=>4|3=>3|n=>n,fun|n=>n⟩
theorem Tryz.lays99:Go.Proofs.Lays.n99 Tryz.prog Tryz.lays99_ren:={
 mixed:=by kernel_rfl
 f99:=Tryz.func219.trans (congrArg some (by kernel_rfl))
 f206:=Tryz.func247.trans (congrArg some (by kernel_rfl))
 t3:=Tryz.underlying3
 a3:=Tryz.isAgg3
 z3:=Tryz.sizeOf3
 v3:=Tryz.zeroValue3
 t4:=Tryz.underlying4
 a4:=Tryz.isAgg4
 z4:=Tryz.sizeOf4
 v4:=Tryz.zeroValue4
 t9:=Tryz.underlying9
 a9:=Tryz.isAgg9
 z9:=Tryz.sizeOf9
 v9:=Tryz.zeroValue9 }
open Go.RowKit Go.Lib in
theorem Tryz.strings_HasPrefix(s p:ByteArray)(w:World):
  Calls Tryz.prog 219 #[.string s,.string p] w fun e w'=>e=.returned (.bool (Lib.hasPrefix s.data.toList p.data.toList))∧w'=w:=Any.strings_HasPrefix Tryz.lays99 s p w
def Tryz.lays100_ren:Go.Shelf.Ren:=⟨fun|100=>220|207=>248|n=>n,fun|9=>9|4=>4|3=>3|n=>n,fun|n=>n⟩
theorem Tryz.lays100:Go.Proofs.Lays.n100 Tryz.prog Tryz.lays100_ren:={
 mixed:=by kernel_rfl
 f100:=Tryz.func220.trans (congrArg some (by kernel_rfl))
 f207:=Tryz.func248.trans (congrArg some (by kernel_rfl))
 t3:=Tryz.underlying3
 a3:=Tryz.isAgg3
 z3:=Tryz.sizeOf3
 v3:=Tryz.zeroValue3
 t4:=Tryz.underlying4
 a4:=Tryz.isAgg4
 z4:=Tryz.sizeOf4
 v4:=Tryz.zeroValue4
 t9:=Tryz.underlying9
 a9:=Tryz.isAgg9
 z9:=Tryz.sizeOf9
 v9:=Tryz.zeroValue9 }
open Go.RowKit Go.Lib in
theorem Tryz.strings_HasSuffix(s p:ByteArray)(w:World)(hs:s.size≤9223372036854775807):
  Calls Tryz.prog 220 #[.string s,.string p] w fun e w'=>e=.returned (.bool (Lib.hasSuffix s.data.toList p.data.toList))∧w'=w:=Any.strings_HasSuffix Tryz.lays100 s p w hs
def Tryz.lays146_ren:Go.Shelf.Ren:=⟨fun|146=>263|221=>285|268=>307|138=>308|143=>249|195=>318|197=>319|218=>320|219=>277|260=>325|217=>296|225=>297|224=>298|267=>299|266=>311|314=>312|n=>n,fun|9=>9|31=>23|3=>3|4=>4|0=>0|105=>393|21=>21|5=>5|46=>192|119=>397|139=>400|138=>399|146=>385|51=>165|n=>n,fun|1=>4|3=>8|4=>9|n=>n⟩
theorem Tryz.lays146:Go.Proofs.Lays.n146 Tryz.prog Tryz.lays146_ren:={
 mixed:=by kernel_rfl
 f138:=Tryz.func308.trans (congrArg some (by kernel_rfl))
 f143:=Tryz.func249.trans (congrArg some (by kernel_rfl))
 f146:=Tryz.func263.trans (congrArg some (by kernel_rfl))
 f195:=Tryz.func318.trans (congrArg some (by kernel_rfl))
 f197:=Tryz.func319.trans (congrArg some (by kernel_rfl))
 f217:=Tryz.func296.trans (congrArg some (by kernel_rfl))
 f218:=Tryz.func320.trans (congrArg some (by kernel_rfl))
 f219:=Tryz.func277.trans (congrArg some (by kernel_rfl))
 f221:=Tryz.func285.trans (congrArg some (by kernel_rfl))
 f224:=Tryz.func298.trans (congrArg some (by kernel_rfl))
 f225:=Tryz.func297.trans (congrArg some (by kernel_rfl))
 f260:=Tryz.func325.trans (congrArg some (by kernel_rfl))
 f266:=Tryz.func311.trans (congrArg some (by kernel_rfl))
 f267:=Tryz.func299.trans (congrArg some (by kernel_rfl))
 f268:=Tryz.func307.trans (congrArg some (by kernel_rfl))
 f314:=Tryz.func312.trans (congrArg some (by kernel_rfl))
 t0:=Tryz.underlying0
 a0:=Tryz.isAgg0
 z0:=Tryz.sizeOf0
 v0:=Tryz.zeroValue0
 t3:=Tryz.underlying3
 a3:=Tryz.isAgg3
 z3:=Tryz.sizeOf3
 v3:=Tryz.zeroValue3
 t4:=Tryz.underlying4
 a4:=Tryz.isAgg4
 z4:=Tryz.sizeOf4
 v4:=Tryz.zeroValue4
 t5:=Tryz.underlying5
 a5:=Tryz.isAgg5
 z5:=Tryz.sizeOf5
 v5:=Tryz.zeroValue5
 t9:=Tryz.underlying9
 a9:=Tryz.isAgg9
 z9:=Tryz.sizeOf9
 v9:=Tryz.zeroValue9
 t21:=Tryz.underlying21
 a21:=Tryz.isAgg21
 z21:=Tryz.sizeOf21
 v21:=Tryz.zeroValue21
 t31:=Tryz.underlying23
 a31:=Tryz.isAgg23
 z31:=Tryz.sizeOf23
 v31:=Tryz.zeroValue23
 t46:=Tryz.underlying192
 a46:=Tryz.isAgg192
 z46:=Tryz.sizeOf192
 v46:=Tryz.zeroValue192
 t51:=Tryz.underlying165
 a51:=Tryz.isAgg165
 z51:=Tryz.sizeOf165
 v51:=Tryz.zeroValue165
 t105:=Tryz.underlying393
 a105:=Tryz.isAgg393
 z105:=Tryz.sizeOf393
 v105:=Tryz.zeroValue393
 t119:=Tryz.underlying397
 a119:=Tryz.isAgg397
 z119:=Tryz.sizeOf397
 t138:=Tryz.underlying399
 a138:=Tryz.isAgg399
 z138:=Tryz.sizeOf399
 v138:=Tryz.zeroValue399
 t139:=Tryz.underlying400
 a139:=Tryz.isAgg400
 z139:=Tryz.sizeOf400
 v139:=Tryz.zeroValue400
 t146:=Tryz.underlying385
 a146:=Tryz.isAgg385
 z146:=Tryz.sizeOf385
 v146:=Tryz.zeroValue385
 g1:=by kernel_rfl
 g3:=by kernel_rfl
 g4:=by kernel_rfl }
open Go.RowKit Go.Lib in
theorem Tryz.strings_Split(s sep:ByteArray)(m:Int)(w:World)(hs:s.size<4294967281)(hm:w.cell? ⟨4,0,none⟩=some (.int .i64 m))(h1:1≤sep.size):
  Calls Tryz.prog 263 #[.string s,.string sep] w fun e w'=>
   e=.returned (.slice (some ⟨w.heap.size,0,none⟩) (Lib.countB s sep+1) (Lib.countB s sep+1))∧w'=w.alloc (.cells ((Lib.splitB sep 0 (Lib.countB s sep) s).map Value.string).toArray 9):=Any.strings_Split Tryz.lays146 (by kernel_rfl) s sep m w hs hm h1
def Tryz.lays110_ren:Go.Shelf.Ren:=⟨fun|110=>197|109=>232|n=>n,fun|31=>23|9=>9|4=>4|3=>3|0=>0|n=>n,fun|n=>n⟩
theorem Tryz.lays110:Go.Proofs.Lays.n110 Tryz.prog Tryz.lays110_ren:={
 mixed:=by kernel_rfl
 f109:=Tryz.func232.trans (congrArg some (by kernel_rfl))
 f110:=Tryz.func197.trans (congrArg some (by kernel_rfl))
 t0:=Tryz.underlying0
 a0:=Tryz.isAgg0
 z0:=Tryz.sizeOf0
 v0:=Tryz.zeroValue0
 t3:=Tryz.underlying3
 a3:=Tryz.isAgg3
 z3:=Tryz.sizeOf3
 v3:=Tryz.zeroValue3
 t4:=Tryz.underlying4
 a4:=Tryz.isAgg4
 z4:=Tryz.sizeOf4
 v4:=Tryz.zeroValue4
 t9:=Tryz.underlying9
 a9:=Tryz.isAgg9
 z9:=Tryz.sizeOf9
 v9:=Tryz.zeroValue9
 t31:=Tryz.underlying23
 a31:=Tryz.isAgg23
 z31:=Tryz.sizeOf23
 v31:=Tryz.zeroValue23 }
open Go.Lib in
theorem Tryz.slices_Contains_string(b off n c:Nat)(zs:List ByteArray)(x:ByteArray)(w:World)(hz:n≤zs.length)(hbig:n≤9223372036854775807)(hc:∀j,j<zs.length→w.cell? ⟨b,off+j,none⟩=some (.string (zs.getD j ByteArray.empty))):
  Calls Tryz.prog 197 #[.slice (some ⟨b,off,none⟩) n c,.string x] w fun e w'=>e=.returned (.bool (Lib.containsS (zs.take n) x))∧w'=w:=Any.slices_Contains_string Tryz.lays110 b off n c zs x w hz hbig hc
open Go.Lib in
theorem Tryz.slices_Contains_string_empty(a:Option Addr)(c:Nat)(x:ByteArray)(w:World):
  Calls Tryz.prog 197 #[.slice a 0 c,.string x] w fun e w'=>e=.returned (.bool false)∧w'=w:=Any.slices_Contains_string_empty Tryz.lays110 a c x w
def Tryz.containsByte_ren:Go.Shelf.Ren:=⟨fun|8=>266|6=>286|n=>n,fun|22=>94|23=>5|25=>228|4=>4|3=>3|0=>0|n=>n,fun|n=>n⟩
theorem Tryz.containsByte:Go.Proofs.SlLaysH.n8 Tryz.prog Tryz.containsByte_ren:={
 mixed:=by kernel_rfl
 f6:=⟨Tryz.f286.name,by decide,Tryz.func286.trans (congrArg some (by kernel_rfl))⟩
 f8:=⟨Tryz.f266.name,by decide,Tryz.func266.trans (congrArg some (by kernel_rfl))⟩
 t0:=Tryz.underlying0
 a0:=Tryz.isAgg0
 z0:=Tryz.sizeOf0
 v0:=Tryz.zeroValue0
 t3:=Tryz.underlying3
 a3:=Tryz.isAgg3
 z3:=Tryz.sizeOf3
 v3:=Tryz.zeroValue3
 t4:=Tryz.underlying4
 a4:=Tryz.isAgg4
 z4:=Tryz.sizeOf4
 v4:=Tryz.zeroValue4
 t22:=Tryz.underlying94
 a22:=Tryz.isAgg94
 z22:=Tryz.sizeOf94
 v22:=Tryz.zeroValue94
 a23:=Tryz.isAgg5
 z23:=Tryz.sizeOf5
 t25:=Tryz.underlying228
 a25:=Tryz.isAgg228
 z25:=Tryz.sizeOf228
 v25:=Tryz.zeroValue228 }
end Go.Proofs

/- Lemmas and walks, part 6. -/
import Derived.Test.YtkcmghlhpbepcaaGreatDoorT71
import Derived.Shelf.Small.Utf8
import Derived.Shelf.Strings.BuilderK
import Derived.Shelf.Strconv.ToErrorRange
import Derived.Shelf.Strings.Shaped
import Derived.Shelf.Strings.Prefix
import Derived.Shelf.Strings.Replace
import Derived.Shelf.Strings.RuneCount
import Derived.Shelf.Strings.IndexAnyAll
import Derived.Shelf.Unicode.DecodeAny
import Derived.Shelf.Slices.Turned
import Derived.Test.YtkcmghlhpbepcaaGreatDoorProg
set_option linter.unusedVariables false
set_option linter.unusedSimpArgs false
namespace Go.Proofs
open Go.Shelf
def Tryz.lays169_ren:Go.Shelf.Ren:=⟨fun|169=>138|n=>n,fun|70=>104|9=>9|0=>0|72=>106|37=>43|127=>134|3=>3|5=>5|n=>n,fun|n=>n⟩
theorem Tryz.lays169:Go.Proofs.Lays.n169 Tryz.prog Tryz.lays169_ren:={
 mixed:=by kernel_rfl
 f169:=Tryz.func138.trans (congrArg some (by kernel_rfl))
 t0:=Tryz.underlying0
 a0:=Tryz.isAgg0
 z0:=Tryz.sizeOf0
 v0:=Tryz.zeroValue0
 t3:=Tryz.underlying3
 a3:=Tryz.isAgg3
 z3:=Tryz.sizeOf3
 v3:=Tryz.zeroValue3
 t9:=Tryz.underlying9
 a9:=Tryz.isAgg9
 z9:=Tryz.sizeOf9
 v9:=Tryz.zeroValue9
 t37:=Tryz.underlying43
 a37:=Tryz.isAgg43
 z37:=Tryz.sizeOf43
 v37:=Tryz.zeroValue43
 t70:=Tryz.underlying104
 a70:=Tryz.isAgg104
 z70:=Tryz.sizeOf104
 v70:=Tryz.zeroValue104
 t72:=Tryz.underlying106
 a72:=Tryz.isAgg106
 z72:=Tryz.sizeOf106
 v72:=Tryz.zeroValue106
 t127:=Tryz.underlying134
 a127:=Tryz.isAgg134
 z127:=Tryz.sizeOf134
 v127:=Tryz.zeroValue134 }
theorem Tryz.Builder_Extra_169:Builder.Extra Tryz.prog Tryz.lays169_ren:={
 sizeBuilder:=by kernel_rfl
 liesBuilder:=by kernel_rfl
 t5:=Tryz.underlying5
 a5:=Tryz.isAgg5
 z5:=Tryz.sizeOf5
 v5:=Tryz.zeroValue5
 infoByte:=by kernel_rfl
 cellsByte:=by kernel_rfl
 sizeByte:=by kernel_rfl
 neB5:=by decide }
open Go.RowKit in
open Go.RowKit in
open Go.RowKit in
def Tryz.lays241_ren:Go.Shelf.Ren:=⟨fun|241=>233|277=>245|n=>n,fun|70=>104|3=>3|0=>0|72=>106|37=>43|5=>5|n=>n,fun|n=>n⟩
open Go.RowKit in
def Tryz.lays165_ren:Go.Shelf.Ren:=⟨fun|165=>217|240=>174|241=>233|276=>201|277=>245|n=>n,fun|70=>104|3=>3|0=>0|4=>4|9=>9|20=>20|72=>106|37=>43|164=>157|5=>5|n=>n,fun|n=>n⟩
open Go.RowKit in
def Tryz.lays119_ren:Go.Shelf.Ren:=⟨fun|119=>204|n=>n,fun|21=>21|4=>4|n=>n,fun|n=>n⟩
def Tryz.lays137_ren:Go.Shelf.Ren:=⟨fun|137=>203|217=>207|266=>223|n=>n,fun|9=>9|5=>5|3=>3|n=>n,fun|n=>n⟩
open Go.RowKit in
open Go.RowKit in
open Go.RowKit in
open Go.RowKit in
open Go.RowKit in
open Go.RowKit in
open Go.RowKit in
theorem Tryz.Builder_String_any_k(B b:Nat)(l:List UInt8)(w:World)(h:Lib.IsBuilderF 106 5 B b (Lib.byteCells l) w)(hBw:B≤w.heap.size):
 Calls Tryz.prog 138 #[.pointer (some ⟨b,0,none⟩)] w fun e w'=>e=.returned (.string ⟨l.toArray⟩)∧(Lib.IsBuilderF 106 5 B b (Lib.byteCells l) w'∧Below B w w'∧Lib.OthersKept 5 (some b) w w'):=Any.Builder_String_any_k Tryz.lays169 Tryz.Builder_Extra_169 B b l w h hBw
def Tryz.laysM316_ren:Go.Shelf.Ren:=⟨fun|316=>253|n=>n,fun|9=>9|3=>3|4=>4|37=>43|0=>0|127=>134|5=>5|n=>n,fun|n=>n⟩
open Go.RowKit in
def Tryz.laysM280_ren:Go.Shelf.Ren:=⟨fun|280=>248|316=>253|n=>n,fun|9=>9|168=>190|75=>109|210=>195|3=>3|4=>4|37=>43|0=>0|127=>134|80=>113|5=>5|n=>n,fun|16=>4|n=>n⟩
open Go.RowKit in
def Tryz.laysC245_ren:Go.Shelf.Ren:=⟨fun|245=>240|279=>247|280=>248|281=>249|282=>250|316=>253|171=>255|205=>254|243=>256|246=>257|283=>258|284=>259|285=>260|286=>261|129=>263|317=>262|318=>264|319=>265|320=>266|337=>267|338=>268|n=>n,fun|9=>9|3=>3|75=>109|167=>187|4=>4|168=>190|210=>195|37=>43|0=>0|127=>134|145=>199|143=>197|2=>2|171=>201|53=>160|5=>5|173=>204|212=>207|51=>172|20=>20|213=>208|46=>140|232=>211|233=>212|80=>113|n=>n,fun|15=>3|16=>4|17=>5|18=>6|19=>7|n=>n⟩
theorem Tryz.laysC245:Go.Proofs.LaysC.n245 Tryz.prog Tryz.laysC245_ren:={
 mixed:=by kernel_rfl
 f129:=Tryz.func263.trans (congrArg some (by kernel_rfl))
 f171:=Tryz.func255.trans (congrArg some (by kernel_rfl))
 f205:=Tryz.func254.trans (congrArg some (by kernel_rfl))
 f243:=Tryz.func256.trans (congrArg some (by kernel_rfl))
 f245:=Tryz.func240.trans (congrArg some (by kernel_rfl))
 f246:=Tryz.func257.trans (congrArg some (by kernel_rfl))
 f279:=Tryz.func247.trans (congrArg some (by kernel_rfl))
 f280:=Tryz.func248.trans (congrArg some (by kernel_rfl))
 f281:=Tryz.func249.trans (congrArg some (by kernel_rfl))
 f282:=Tryz.func250.trans (congrArg some (by kernel_rfl))
 f283:=Tryz.func258.trans (congrArg some (by kernel_rfl))
 f284:=Tryz.func259.trans (congrArg some (by kernel_rfl))
 f285:=Tryz.func260.trans (congrArg some (by kernel_rfl))
 f286:=Tryz.func261.trans (congrArg some (by kernel_rfl))
 f316:=Tryz.func253.trans (congrArg some (by kernel_rfl))
 f317:=Tryz.func262.trans (congrArg some (by kernel_rfl))
 f318:=Tryz.func264.trans (congrArg some (by kernel_rfl))
 f319:=Tryz.func265.trans (congrArg some (by kernel_rfl))
 f320:=Tryz.func266.trans (congrArg some (by kernel_rfl))
 f337:=Tryz.func267.trans (congrArg some (by kernel_rfl))
 f338:=Tryz.func268.trans (congrArg some (by kernel_rfl))
 t0:=Tryz.underlying0
 a0:=Tryz.isAgg0
 z0:=Tryz.sizeOf0
 v0:=Tryz.zeroValue0
 t2:=Tryz.underlying2
 a2:=Tryz.isAgg2
 z2:=Tryz.sizeOf2
 v2:=Tryz.zeroValue2
 t3:=Tryz.underlying3
 a3:=Tryz.isAgg3
 z3:=Tryz.sizeOf3
 v3:=Tryz.zeroValue3
 t4:=Tryz.underlying4
 a4:=Tryz.isAgg4
 z4:=Tryz.sizeOf4
 v4:=Tryz.zeroValue4
 t5:=Tryz.underlying5
 a5:=Tryz.isAgg5
 z5:=Tryz.sizeOf5
 v5:=Tryz.zeroValue5
 t9:=Tryz.underlying9
 a9:=Tryz.isAgg9
 z9:=Tryz.sizeOf9
 v9:=Tryz.zeroValue9
 t20:=Tryz.underlying20
 a20:=Tryz.isAgg20
 z20:=Tryz.sizeOf20
 v20:=Tryz.zeroValue20
 t37:=Tryz.underlying43
 a37:=Tryz.isAgg43
 z37:=Tryz.sizeOf43
 v37:=Tryz.zeroValue43
 t46:=Tryz.underlying140
 a46:=Tryz.isAgg140
 z46:=Tryz.sizeOf140
 v46:=Tryz.zeroValue140
 t51:=Tryz.underlying172
 a51:=Tryz.isAgg172
 z51:=Tryz.sizeOf172
 v51:=Tryz.zeroValue172
 t53:=Tryz.underlying160
 a53:=Tryz.isAgg160
 z53:=Tryz.sizeOf160
 v53:=Tryz.zeroValue160
 t75:=Tryz.underlying109
 a75:=Tryz.isAgg109
 z75:=Tryz.sizeOf109
 v75:=Tryz.zeroValue109
 t127:=Tryz.underlying134
 a127:=Tryz.isAgg134
 z127:=Tryz.sizeOf134
 v127:=Tryz.zeroValue134
 t143:=Tryz.underlying197
 a143:=Tryz.isAgg197
 z143:=Tryz.sizeOf197
 v143:=Tryz.zeroValue197
 t145:=Tryz.underlying199
 a145:=Tryz.isAgg199
 z145:=Tryz.sizeOf199
 v145:=Tryz.zeroValue199
 t167:=Tryz.underlying187
 a167:=Tryz.isAgg187
 z167:=Tryz.sizeOf187
 v167:=Tryz.zeroValue187
 t168:=Tryz.underlying190
 a168:=Tryz.isAgg190
 z168:=Tryz.sizeOf190
 v168:=Tryz.zeroValue190
 t171:=Tryz.underlying201
 a171:=Tryz.isAgg201
 z171:=Tryz.sizeOf201
 v171:=Tryz.zeroValue201
 t173:=Tryz.underlying204
 a173:=Tryz.isAgg204
 z173:=Tryz.sizeOf204
 v173:=Tryz.zeroValue204
 t210:=Tryz.underlying195
 a210:=Tryz.isAgg195
 z210:=Tryz.sizeOf195
 v210:=Tryz.zeroValue195
 t212:=Tryz.underlying207
 a212:=Tryz.isAgg207
 z212:=Tryz.sizeOf207
 v212:=Tryz.zeroValue207
 t213:=Tryz.underlying208
 a213:=Tryz.isAgg208
 z213:=Tryz.sizeOf208
 t232:=Tryz.underlying211
 a232:=Tryz.isAgg211
 z232:=Tryz.sizeOf211
 v232:=Tryz.zeroValue211
 t233:=Tryz.underlying212
 a233:=Tryz.isAgg212
 z233:=Tryz.sizeOf212
 v233:=Tryz.zeroValue212
 g15:=by kernel_rfl
 g16:=by kernel_rfl
 g17:=by kernel_rfl
 g18:=by kernel_rfl
 g19:=by kernel_rfl
 t80:=Tryz.underlying113
 a80:=Tryz.isAgg113
 z80:=Tryz.sizeOf113
 v80:=Tryz.zeroValue113
 i0:=by kernel_rfl
 i2:=by kernel_rfl
 i3:=by kernel_rfl
 i4:=by kernel_rfl
 i5:=by kernel_rfl
 i9:=by kernel_rfl
 i20:=by kernel_rfl
 i37:=by kernel_rfl
 i46:=by kernel_rfl
 i51:=by kernel_rfl
 i53:=by kernel_rfl
 i75:=by kernel_rfl
 i80:=by kernel_rfl
 i127:=by kernel_rfl
 i143:=by kernel_rfl
 i145:=by kernel_rfl
 i167:=by kernel_rfl
 i168:=by kernel_rfl
 i171:=by kernel_rfl
 i173:=by kernel_rfl
 i210:=by kernel_rfl
 i212:=by kernel_rfl
 i232:=by kernel_rfl
 i233:=by kernel_rfl
 m15:=by kernel_rfl
 m16:=by kernel_rfl
 m17:=by kernel_rfl
 m18:=by kernel_rfl
 m19:=by kernel_rfl
 c0:=by kernel_rfl
 c2:=by kernel_rfl
 c3:=by kernel_rfl
 c4:=by kernel_rfl
 c5:=by kernel_rfl
 c9:=by kernel_rfl
 c20:=by kernel_rfl
 c37:=by kernel_rfl
 c46:=by kernel_rfl
 c51:=by kernel_rfl
 c53:=by kernel_rfl
 c75:=by kernel_rfl
 c80:=by kernel_rfl
 c127:=by kernel_rfl
 c143:=by kernel_rfl
 c145:=by kernel_rfl
 c167:=by kernel_rfl
 c168:=by kernel_rfl
 c171:=by kernel_rfl
 c173:=by kernel_rfl
 c210:=by kernel_rfl
 c212:=by kernel_rfl
 c213:=by kernel_rfl
 c232:=by kernel_rfl
 c233:=by kernel_rfl }
open Go.RowKit in
theorem Tryz.strconv_toError_range(fn s:Bt)(base bits:Int)(ev:Value)(w:World)(hlim:s.size≤281474976710656)(hv:w.cell? ⟨4,0,none⟩=some ev)(hev:ev=.nilIface∨∃te pe,ev=.iface te pe):
 Calls Tryz.prog 240 #[.string fn,.string s,.int .i64 base,.int .i64 bits,.iface 187 (.int .i64 1)] w fun e w'=>∃N,e=.returned (.iface 190 (.pointer (some ⟨N,0,none⟩)))∧w.heap.size≤N∧w'.heap[N]?=some (.cells #[.string fn,.string s,ev] 195 (0,0))∧Below w.heap.size w w':=Any.strconv_toError_range Tryz.laysC245 fn s base bits ev w hlim hv hev
def Tryz.lays217_ren:Go.Shelf.Ren:=⟨fun|217=>207|266=>223|n=>n,fun|9=>9|5=>5|3=>3|n=>n,fun|n=>n⟩
open Go.RowKit Go.Lib in
def Tryz.lays224_ren:Go.Shelf.Ren:=⟨fun|224=>205|n=>n,fun|3=>3|n=>n,fun|n=>n⟩
open Go.RowKit Go.Lib in
def Tryz.lays314_ren:Go.Shelf.Ren:=⟨fun|314=>224|n=>n,fun|9=>9|51=>172|3=>3|4=>4|5=>5|46=>140|n=>n,fun|n=>n⟩
open Go.RowKit Go.Lib in
def Tryz.lays267_ren:Go.Shelf.Ren:=⟨fun|267=>208|314=>224|n=>n,fun|9=>9|3=>3|146=>176|51=>172|4=>4|5=>5|46=>140|n=>n,fun|n=>n⟩
open Go.RowKit Go.Lib in
def Tryz.lays219_ren:Go.Shelf.Ren:=⟨fun|219=>182|217=>207|225=>206|224=>205|267=>208|266=>223|314=>224|n=>n,fun|9=>9|3=>3|4=>4|5=>5|46=>140|146=>176|51=>172|n=>n,fun|1=>2|n=>n⟩
open Go.RowKit Go.Lib in
open Go.RowKit Go.Lib in
def Tryz.lays143_ren:Go.Shelf.Ren:=⟨fun|143=>141|219=>182|217=>207|225=>206|224=>205|267=>208|266=>223|314=>224|n=>n,fun|9=>9|3=>3|4=>4|5=>5|46=>140|146=>176|51=>172|n=>n,fun|1=>2|n=>n⟩
theorem Tryz.lays143:Go.Proofs.Lays.n143 Tryz.prog Tryz.lays143_ren:={
 mixed:=by kernel_rfl
 f143:=Tryz.func141.trans (congrArg some (by kernel_rfl))
 f217:=Tryz.func207.trans (congrArg some (by kernel_rfl))
 f219:=Tryz.func182.trans (congrArg some (by kernel_rfl))
 f224:=Tryz.func205.trans (congrArg some (by kernel_rfl))
 f225:=Tryz.func206.trans (congrArg some (by kernel_rfl))
 f266:=Tryz.func223.trans (congrArg some (by kernel_rfl))
 f267:=Tryz.func208.trans (congrArg some (by kernel_rfl))
 f314:=Tryz.func224.trans (congrArg some (by kernel_rfl))
 t3:=Tryz.underlying3
 a3:=Tryz.isAgg3
 z3:=Tryz.sizeOf3
 v3:=Tryz.zeroValue3
 t4:=Tryz.underlying4
 a4:=Tryz.isAgg4
 z4:=Tryz.sizeOf4
 v4:=Tryz.zeroValue4
 t5:=Tryz.underlying5
 a5:=Tryz.isAgg5
 z5:=Tryz.sizeOf5
 v5:=Tryz.zeroValue5
 t9:=Tryz.underlying9
 a9:=Tryz.isAgg9
 z9:=Tryz.sizeOf9
 v9:=Tryz.zeroValue9
 t46:=Tryz.underlying140
 a46:=Tryz.isAgg140
 z46:=Tryz.sizeOf140
 v46:=Tryz.zeroValue140
 t51:=Tryz.underlying172
 a51:=Tryz.isAgg172
 z51:=Tryz.sizeOf172
 v51:=Tryz.zeroValue172
 t146:=Tryz.underlying176
 a146:=Tryz.isAgg176
 z146:=Tryz.sizeOf176
 v146:=Tryz.zeroValue176
 g1:=by kernel_rfl }
open Go.RowKit Go.Lib in
open Go.RowKit Go.Lib in
theorem Tryz.strings_Index(s sub:Bt)(m:Int)(w:World)(hs:s.size<4294967281)(hm:w.cell? ⟨2,0,none⟩=some (.int .i64 m)):
 Calls Tryz.prog 141 #[.string s,.string sub] w fun e w'=>e=.returned (.int .i64 (Lib.index s.data.toList sub.data.toList))∧w'=w:=Any.strings_Index Tryz.lays143 s sub m w hs hm
def Tryz.lays144_ren:Go.Shelf.Ren:=⟨fun|144=>93|143=>141|219=>182|217=>207|225=>206|224=>205|267=>208|266=>223|314=>224|n=>n,fun|9=>9|4=>4|3=>3|5=>5|46=>140|146=>176|51=>172|n=>n,fun|1=>2|n=>n⟩
open Go.RowKit Go.Lib in
open Go.RowKit Go.Lib in
def Tryz.lays220_ren:Go.Shelf.Ren:=⟨fun|220=>209|219=>182|217=>207|225=>206|224=>205|267=>208|266=>223|314=>224|n=>n,fun|9=>9|4=>4|3=>3|5=>5|46=>140|146=>176|51=>172|n=>n,fun|1=>2|n=>n⟩
open Go.RowKit Go.Lib in
def Tryz.lays145_ren:Go.Shelf.Ren:=⟨fun|145=>188|220=>209|219=>182|217=>207|225=>206|224=>205|267=>208|266=>223|314=>224|n=>n,fun|9=>9|4=>4|59=>149|3=>3|5=>5|46=>140|146=>176|51=>172|n=>n,fun|1=>2|n=>n⟩
theorem Tryz.lays145:Go.Proofs.Lays.n145 Tryz.prog Tryz.lays145_ren:={
 mixed:=by kernel_rfl
 f145:=Tryz.func188.trans (congrArg some (by kernel_rfl))
 f217:=Tryz.func207.trans (congrArg some (by kernel_rfl))
 f219:=Tryz.func182.trans (congrArg some (by kernel_rfl))
 f220:=Tryz.func209.trans (congrArg some (by kernel_rfl))
 f224:=Tryz.func205.trans (congrArg some (by kernel_rfl))
 f225:=Tryz.func206.trans (congrArg some (by kernel_rfl))
 f266:=Tryz.func223.trans (congrArg some (by kernel_rfl))
 f267:=Tryz.func208.trans (congrArg some (by kernel_rfl))
 f314:=Tryz.func224.trans (congrArg some (by kernel_rfl))
 t3:=Tryz.underlying3
 a3:=Tryz.isAgg3
 z3:=Tryz.sizeOf3
 v3:=Tryz.zeroValue3
 t4:=Tryz.underlying4
 a4:=Tryz.isAgg4
 z4:=Tryz.sizeOf4
 v4:=Tryz.zeroValue4
 t5:=Tryz.underlying5
 a5:=Tryz.isAgg5
 z5:=Tryz.sizeOf5
 v5:=Tryz.zeroValue5
 t9:=Tryz.underlying9
 a9:=Tryz.isAgg9
 z9:=Tryz.sizeOf9
 v9:=Tryz.zeroValue9
 t46:=Tryz.underlying140
 a46:=Tryz.isAgg140
 z46:=Tryz.sizeOf140
 v46:=Tryz.zeroValue140
 t51:=Tryz.underlying172
 a51:=Tryz.isAgg172
 z51:=Tryz.sizeOf172
 v51:=Tryz.zeroValue172
 t59:=Tryz.underlying149
 a59:=Tryz.isAgg149
 z59:=Tryz.sizeOf149
 v59:=Tryz.zeroValue149
 t146:=Tryz.underlying176
 a146:=Tryz.isAgg176
 z146:=Tryz.sizeOf176
 v146:=Tryz.zeroValue176
 g1:=by kernel_rfl }
open Go.RowKit Go.Lib in
theorem Tryz.strings_Cut(s sep:Bt)(m:Int)(w:World)(hs:s.size<4294967281)(hm:w.cell? ⟨2,0,none⟩=some (.int .i64 m)):
 Calls Tryz.prog 188 #[.string s,.string sep] w fun e w'=>e=.returned (.tuple #[.string ⟨(Lib.cut s.data.toList sep.data.toList).1.toArray⟩,.string ⟨(Lib.cut s.data.toList sep.data.toList).2.1.toArray⟩,.bool (Lib.cut s.data.toList sep.data.toList).2.2])∧∃n,w'=w.drewN n:=Any.strings_Cut Tryz.lays145 s sep m w hs hm
def Tryz.lays138_ren:Go.Shelf.Ren:=⟨fun|138=>216|195=>231|218=>232|143=>141|219=>182|217=>207|225=>206|224=>205|267=>208|266=>223|314=>224|n=>n,fun|9=>9|3=>3|4=>4|5=>5|0=>0|46=>140|146=>176|51=>172|n=>n,fun|1=>2|n=>n⟩
open Go.RowKit Go.Lib in
open Go.RowKit Go.Lib in
def Tryz.laysM219_ren:Go.Shelf.Ren:=⟨fun|219=>182|217=>207|225=>206|224=>205|267=>208|266=>223|314=>224|n=>n,fun|9=>9|3=>3|4=>4|5=>5|46=>140|146=>176|51=>172|n=>n,fun|1=>2|n=>n⟩
open Go.RowKit Go.Lib in
def Tryz.laysM143_ren:Go.Shelf.Ren:=⟨fun|143=>141|219=>182|217=>207|225=>206|224=>205|267=>208|266=>223|314=>224|n=>n,fun|9=>9|3=>3|4=>4|5=>5|46=>140|146=>176|51=>172|n=>n,fun|1=>2|n=>n⟩
open Go.RowKit Go.Lib in
def Tryz.laysM144_ren:Go.Shelf.Ren:=⟨fun|144=>93|143=>141|219=>182|217=>207|225=>206|224=>205|267=>208|266=>223|314=>224|n=>n,fun|9=>9|4=>4|3=>3|5=>5|46=>140|146=>176|51=>172|n=>n,fun|1=>2|n=>n⟩
open Go.RowKit Go.Lib in
def Tryz.laysM220_ren:Go.Shelf.Ren:=⟨fun|220=>209|219=>182|217=>207|225=>206|224=>205|267=>208|266=>223|314=>224|n=>n,fun|9=>9|4=>4|3=>3|5=>5|46=>140|146=>176|51=>172|n=>n,fun|1=>2|n=>n⟩
open Go.RowKit Go.Lib in
def Tryz.laysM145_ren:Go.Shelf.Ren:=⟨fun|145=>188|220=>209|219=>182|217=>207|225=>206|224=>205|267=>208|266=>223|314=>224|n=>n,fun|9=>9|4=>4|59=>149|3=>3|5=>5|46=>140|146=>176|51=>172|n=>n,fun|1=>2|n=>n⟩
open Go.RowKit Go.Lib in
def Tryz.laysM138_ren:Go.Shelf.Ren:=⟨fun|138=>216|195=>231|218=>232|143=>141|219=>182|217=>207|225=>206|224=>205|267=>208|266=>223|314=>224|n=>n,fun|9=>9|3=>3|4=>4|5=>5|0=>0|46=>140|146=>176|51=>172|n=>n,fun|1=>2|n=>n⟩
open Go.RowKit Go.Lib in
def Tryz.lays206_ren:Go.Shelf.Ren:=⟨fun|206=>142|n=>n,fun|9=>9|4=>4|3=>3|n=>n,fun|n=>n⟩
open Go.RowKit Go.Lib in
def Tryz.lays99_ren:Go.Shelf.Ren:=⟨fun|99=>94|206=>142|n=>n,fun|9=>9|4=>4|3=>3|n=>n,fun|n=>n⟩
theorem Tryz.lays99:Go.Proofs.Lays.n99 Tryz.prog Tryz.lays99_ren:={
 mixed:=by kernel_rfl
 f99:=Tryz.func94.trans (congrArg some (by kernel_rfl))
 f206:=Tryz.func142.trans (congrArg some (by kernel_rfl))
 t3:=Tryz.underlying3
 a3:=Tryz.isAgg3
 z3:=Tryz.sizeOf3
 v3:=Tryz.zeroValue3
 t4:=Tryz.underlying4
 a4:=Tryz.isAgg4
 z4:=Tryz.sizeOf4
 v4:=Tryz.zeroValue4
 t9:=Tryz.underlying9
 a9:=Tryz.isAgg9
 z9:=Tryz.sizeOf9
 v9:=Tryz.zeroValue9 }
open Go.RowKit Go.Lib in
theorem Tryz.strings_HasPrefix(s p:Bt)(w:World):
 Calls Tryz.prog 94 #[.string s,.string p] w fun e w'=>e=.returned (.bool (Lib.hasPrefix s.data.toList p.data.toList))∧w'=w:=Any.strings_HasPrefix Tryz.lays99 s p w
def Tryz.lays207_ren:Go.Shelf.Ren:=⟨fun|207=>145|n=>n,fun|9=>9|4=>4|3=>3|n=>n,fun|n=>n⟩
open Go.RowKit Go.Lib in
def Tryz.lays100_ren:Go.Shelf.Ren:=⟨fun|100=>97|207=>145|n=>n,fun|9=>9|4=>4|3=>3|n=>n,fun|n=>n⟩
open Go.RowKit Go.Lib in
open Go.RowKit Go.Lib in
def Tryz.lays154_ren:Go.Shelf.Ren:=⟨fun|154=>195|138=>216|165=>217|143=>141|166=>135|197=>218|169=>138|195=>231|218=>232|240=>174|241=>233|219=>182|260=>234|276=>201|277=>245|217=>207|225=>206|224=>205|267=>208|266=>223|314=>224|n=>n,fun|9=>9|3=>3|4=>4|72=>106|0=>0|76=>110|105=>170|21=>21|5=>5|70=>104|20=>20|37=>43|75=>109|127=>134|164=>157|46=>140|119=>136|139=>139|138=>138|146=>176|51=>172|80=>113|n=>n,fun|1=>2|3=>0|4=>1|n=>n⟩
open Go.RowKit Go.Lib in
open Go.RowKit Go.Lib in
open Go.RowKit Go.Lib in
open Go.RowKit Go.Lib in
def Tryz.lays155_ren:Go.Shelf.Ren:=⟨fun|155=>160|154=>195|138=>216|165=>217|143=>141|166=>135|197=>218|169=>138|195=>231|218=>232|240=>174|241=>233|219=>182|260=>234|276=>201|277=>245|217=>207|225=>206|224=>205|267=>208|266=>223|314=>224|n=>n,fun|9=>9|3=>3|4=>4|72=>106|0=>0|76=>110|105=>170|21=>21|5=>5|70=>104|20=>20|37=>43|75=>109|127=>134|164=>157|46=>140|119=>136|139=>139|138=>138|146=>176|51=>172|80=>113|n=>n,fun|1=>2|3=>0|4=>1|n=>n⟩
theorem Tryz.lays155:Go.Proofs.Lays.n155 Tryz.prog Tryz.lays155_ren:={
 mixed:=by kernel_rfl
 f138:=Tryz.func216.trans (congrArg some (by kernel_rfl))
 f143:=Tryz.func141.trans (congrArg some (by kernel_rfl))
 f154:=Tryz.func195.trans (congrArg some (by kernel_rfl))
 f155:=Tryz.func160.trans (congrArg some (by kernel_rfl))
 f165:=Tryz.func217.trans (congrArg some (by kernel_rfl))
 f166:=Tryz.func135.trans (congrArg some (by kernel_rfl))
 f169:=Tryz.func138.trans (congrArg some (by kernel_rfl))
 f195:=Tryz.func231.trans (congrArg some (by kernel_rfl))
 f197:=Tryz.func218.trans (congrArg some (by kernel_rfl))
 f217:=Tryz.func207.trans (congrArg some (by kernel_rfl))
 f218:=Tryz.func232.trans (congrArg some (by kernel_rfl))
 f219:=Tryz.func182.trans (congrArg some (by kernel_rfl))
 f224:=Tryz.func205.trans (congrArg some (by kernel_rfl))
 f225:=Tryz.func206.trans (congrArg some (by kernel_rfl))
 f240:=Tryz.func174.trans (congrArg some (by kernel_rfl))
 f241:=Tryz.func233.trans (congrArg some (by kernel_rfl))
 f260:=Tryz.func234.trans (congrArg some (by kernel_rfl))
 f266:=Tryz.func223.trans (congrArg some (by kernel_rfl))
 f267:=Tryz.func208.trans (congrArg some (by kernel_rfl))
 f276:=Tryz.func201.trans (congrArg some (by kernel_rfl))
 f277:=Tryz.func245.trans (congrArg some (by kernel_rfl))
 f314:=Tryz.func224.trans (congrArg some (by kernel_rfl))
 t0:=Tryz.underlying0
 a0:=Tryz.isAgg0
 z0:=Tryz.sizeOf0
 v0:=Tryz.zeroValue0
 t3:=Tryz.underlying3
 a3:=Tryz.isAgg3
 z3:=Tryz.sizeOf3
 v3:=Tryz.zeroValue3
 t4:=Tryz.underlying4
 a4:=Tryz.isAgg4
 z4:=Tryz.sizeOf4
 v4:=Tryz.zeroValue4
 t5:=Tryz.underlying5
 a5:=Tryz.isAgg5
 z5:=Tryz.sizeOf5
 v5:=Tryz.zeroValue5
 t9:=Tryz.underlying9
 a9:=Tryz.isAgg9
 z9:=Tryz.sizeOf9
 v9:=Tryz.zeroValue9
 t20:=Tryz.underlying20
 a20:=Tryz.isAgg20
 z20:=Tryz.sizeOf20
 v20:=Tryz.zeroValue20
 t21:=Tryz.underlying21
 a21:=Tryz.isAgg21
 z21:=Tryz.sizeOf21
 v21:=Tryz.zeroValue21
 t37:=Tryz.underlying43
 a37:=Tryz.isAgg43
 z37:=Tryz.sizeOf43
 v37:=Tryz.zeroValue43
 t46:=Tryz.underlying140
 a46:=Tryz.isAgg140
 z46:=Tryz.sizeOf140
 v46:=Tryz.zeroValue140
 t51:=Tryz.underlying172
 a51:=Tryz.isAgg172
 z51:=Tryz.sizeOf172
 v51:=Tryz.zeroValue172
 t70:=Tryz.underlying104
 a70:=Tryz.isAgg104
 z70:=Tryz.sizeOf104
 v70:=Tryz.zeroValue104
 t72:=Tryz.underlying106
 a72:=Tryz.isAgg106
 z72:=Tryz.sizeOf106
 v72:=Tryz.zeroValue106
 t75:=Tryz.underlying109
 a75:=Tryz.isAgg109
 z75:=Tryz.sizeOf109
 v75:=Tryz.zeroValue109
 t76:=Tryz.underlying110
 a76:=Tryz.isAgg110
 z76:=Tryz.sizeOf110
 v76:=Tryz.zeroValue110
 t105:=Tryz.underlying170
 a105:=Tryz.isAgg170
 z105:=Tryz.sizeOf170
 v105:=Tryz.zeroValue170
 t119:=Tryz.underlying136
 a119:=Tryz.isAgg136
 z119:=Tryz.sizeOf136
 t127:=Tryz.underlying134
 a127:=Tryz.isAgg134
 z127:=Tryz.sizeOf134
 v127:=Tryz.zeroValue134
 t138:=Tryz.underlying138
 a138:=Tryz.isAgg138
 z138:=Tryz.sizeOf138
 v138:=Tryz.zeroValue138
 t139:=Tryz.underlying139
 a139:=Tryz.isAgg139
 z139:=Tryz.sizeOf139
 v139:=Tryz.zeroValue139
 t146:=Tryz.underlying176
 a146:=Tryz.isAgg176
 z146:=Tryz.sizeOf176
 v146:=Tryz.zeroValue176
 t164:=Tryz.underlying157
 a164:=Tryz.isAgg157
 z164:=Tryz.sizeOf157
 v164:=Tryz.zeroValue157
 g1:=by kernel_rfl
 g3:=by kernel_rfl
 g4:=by kernel_rfl }
theorem Tryz.Builder_Extra_155:Builder.Extra Tryz.prog Tryz.lays155_ren:={
 sizeBuilder:=by kernel_rfl
 liesBuilder:=by kernel_rfl
 t5:=Tryz.underlying5
 a5:=Tryz.isAgg5
 z5:=Tryz.sizeOf5
 v5:=Tryz.zeroValue5
 infoByte:=by kernel_rfl
 cellsByte:=by kernel_rfl
 sizeByte:=by kernel_rfl
 neB5:=by decide }
open Go.RowKit Go.Lib in
theorem Tryz.strings_ReplaceAll(s old new:Bt)(m:Int)(w:World)(hs:s.size<4294967281)(hm:w.cell? ⟨2,0,none⟩=some (.int .i64 m))(h1:1≤old.size)(hlen:s.size+Lib.countB s old * new.size≤140737488355328):
 Calls Tryz.prog 160 #[.string s,.string old,.string new] w fun e w'=>
  e=.returned (.string ⟨(Lib.replaceAll s.data.toList old.data.toList new.data.toList).toArray⟩)∧Below w.heap.size w w':=Any.strings_ReplaceAll Tryz.lays155 Tryz.Builder_Extra_155 s old new m w hs hm h1 hlen
def Tryz.lays152_ren:Go.Shelf.Ren:=⟨fun|152=>178|137=>203|119=>204|224=>205|225=>206|217=>207|266=>223|n=>n,fun|9=>9|21=>21|3=>3|4=>4|5=>5|0=>0|46=>140|n=>n,fun|n=>n⟩
open Go.RowKit Go.Lib in
def Tryz.lays195_ren:Go.Shelf.Ren:=⟨fun|195=>231|n=>n,fun|9=>9|3=>3|0=>0|4=>4|n=>n,fun|n=>n⟩
open Go.RowKit Go.Lib in
def Tryz.lays226_ren:Go.Shelf.Ren:=⟨fun|226=>179|n=>n,fun|3=>3|4=>4|n=>n,fun|n=>n⟩
open Go.RowKit Go.Lib in
def Tryz.lays153_ren:Go.Shelf.Ren:=⟨fun|153=>140|152=>178|226=>179|227=>180|228=>181|137=>203|119=>204|224=>205|225=>206|217=>207|266=>223|n=>n,fun|9=>9|3=>3|4=>4|5=>5|21=>21|117=>145|116=>144|0=>0|46=>140|124=>164|n=>n,fun|n=>n⟩
open Go.RowKit Go.Lib in
open Go.RowKit Go.Lib in
open Go.RowKit Go.Lib in
def Tryz.lays227_ren:Go.Shelf.Ren:=⟨fun|227=>180|n=>n,fun|9=>9|116=>144|4=>4|0=>0|3=>3|5=>5|n=>n,fun|n=>n⟩
open Go.RowKit Go.Lib in
def Tryz.lays228_ren:Go.Shelf.Ren:=⟨fun|228=>181|n=>n,fun|124=>164|5=>5|4=>4|0=>0|116=>144|n=>n,fun|n=>n⟩
open Go.RowKit Go.Lib in
open Go.RowKit Go.Lib in
open Go.RowKit Go.Lib in
def Tryz.lays150_ren:Go.Shelf.Ren:=⟨fun|150=>92|153=>140|152=>178|226=>179|227=>180|228=>181|137=>203|119=>204|224=>205|225=>206|217=>207|266=>223|n=>n,fun|9=>9|4=>4|3=>3|5=>5|21=>21|117=>145|116=>144|0=>0|46=>140|124=>164|n=>n,fun|n=>n⟩
open Go.RowKit Go.Lib in
open Go.RowKit Go.Lib in
open Go.RowKit Go.Lib in
def Tryz.lays260_ren:Go.Shelf.Ren:=⟨fun|260=>234|n=>n,fun|9=>9|21=>21|3=>3|4=>4|5=>5|119=>136|0=>0|46=>140|139=>139|138=>138|n=>n,fun|3=>0|4=>1|n=>n⟩
open Go.RowKit Go.Lib in
def Tryz.lays197_ren:Go.Shelf.Ren:=⟨fun|197=>218|260=>234|n=>n,fun|9=>9|21=>21|3=>3|4=>4|5=>5|105=>170|119=>136|0=>0|46=>140|139=>139|138=>138|n=>n,fun|3=>0|4=>1|n=>n⟩
open Go.RowKit Go.Lib in
def Tryz.lays109_ren:Go.Shelf.Ren:=⟨fun|109=>152|n=>n,fun|31=>41|9=>9|3=>3|0=>0|4=>4|n=>n,fun|n=>n⟩
open Go.Lib in
open Go.Lib in
def Tryz.lays110_ren:Go.Shelf.Ren:=⟨fun|110=>114|109=>152|n=>n,fun|31=>41|9=>9|4=>4|3=>3|0=>0|n=>n,fun|n=>n⟩
theorem Tryz.lays110:Go.Proofs.Lays.n110 Tryz.prog Tryz.lays110_ren:={
 mixed:=by kernel_rfl
 f109:=Tryz.func152.trans (congrArg some (by kernel_rfl))
 f110:=Tryz.func114.trans (congrArg some (by kernel_rfl))
 t0:=Tryz.underlying0
 a0:=Tryz.isAgg0
 z0:=Tryz.sizeOf0
 v0:=Tryz.zeroValue0
 t3:=Tryz.underlying3
 a3:=Tryz.isAgg3
 z3:=Tryz.sizeOf3
 v3:=Tryz.zeroValue3
 t4:=Tryz.underlying4
 a4:=Tryz.isAgg4
 z4:=Tryz.sizeOf4
 v4:=Tryz.zeroValue4
 t9:=Tryz.underlying9
 a9:=Tryz.isAgg9
 z9:=Tryz.sizeOf9
 v9:=Tryz.zeroValue9
 t31:=Tryz.underlying41
 a31:=Tryz.isAgg41
 z31:=Tryz.sizeOf41
 v31:=Tryz.zeroValue41 }
open Go.Lib in
theorem Tryz.slices_Contains_string(b off n c:Nat)(zs:List Bt)(x:Bt)(w:World)(hz:n≤zs.length)(hbig:n≤9223372036854775807)(hc:∀j,j<zs.length→w.cell? ⟨b,off+j,none⟩=some (.string (zs.getD j ByteArray.empty))):
 Calls Tryz.prog 114 #[.slice (some ⟨b,off,none⟩) n c,.string x] w fun e w'=>e=.returned (.bool (Lib.containsS (zs.take n) x))∧w'=w:=Any.slices_Contains_string Tryz.lays110 b off n c zs x w hz hbig hc
open Go.Lib in
theorem Tryz.slices_Contains_string_empty(a:Option Addr)(c:Nat)(x:Bt)(w:World):
 Calls Tryz.prog 114 #[.slice a 0 c,.string x] w fun e w'=>e=.returned (.bool false)∧w'=w:=Any.slices_Contains_string_empty Tryz.lays110 a c x w
end Go.Proofs

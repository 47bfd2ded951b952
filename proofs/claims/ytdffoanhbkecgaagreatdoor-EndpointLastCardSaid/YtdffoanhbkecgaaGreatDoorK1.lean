/- The contracts of the library functions that the law reaches, laid at this seat. -/
import Derived.Shelf.Small.Bits
import Derived.Shelf.Small.Strs
import Derived.Shelf.Utf8.RuneCount
import Derived.Shelf.Strconv.Atoi
import Derived.Shelf.Strconv.Itoa0
import Derived.Shelf.Strconv.Itoa1
import Derived.Shelf.LaysM
import Derived.Shelf.Strconv.Itoa2
import Derived.Shelf.Strconv.Itoa3
import Derived.Shelf.Strconv.AtoiErrFast
import Derived.Shelf.Strconv.ParseIntEmpty
import Derived.Shelf.Strconv.AtoiFail
import Derived.Shelf.Strconv.Clone
import Derived.Shelf.Strconv.SyntaxError
import Derived.Shelf.LaysC
import Derived.Shelf.Strconv.ToError
import Derived.Shelf.Strconv.Lower
import Derived.Shelf.Strconv.ParseUint10
import Derived.Shelf.Strconv.ParseUint10Empty
import Derived.Shelf.Strconv.ParseUint10Any
import Derived.Shelf.Strconv.ParseInt10
import Derived.Shelf.Strconv.AtoiLong
import Derived.Shelf.Strconv.AtoiInnerAll
import Derived.Shelf.Strconv.RangeError
import Derived.Shelf.Strconv.ToErrorRange
import Derived.Shelf.Strconv.AtoiAll
import Derived.Shelf.Strconv.ErrVarAll
import Derived.Shelf.Strings.Search1
import Derived.Shelf.Strings.Search2
import Derived.Shelf.Strings.Search3
import Derived.Shelf.Strings.Count
import Derived.Shelf.Strings.Shaped
import Derived.Shelf.Sort.Plain
import Derived.Shelf.Strings.Split
import Derived.Shelf.Strings.SplitShaped
import Derived.Shelf.Unicode.Decode
import Derived.Shelf.Strings.RuneCount
import Derived.Shelf.Strings.Explode
import Derived.Shelf.Unicode.DecodeSlow
import Derived.Shelf.Unicode.DecodeAny
import Derived.Ground.Names2Prog
import Derived.Shelf.Slices.Clone
import Derived.Shelf.Slices.SearchI
import Derived.Shelf.Slices.In.SortNone
import Derived.Ground.SlgnProg
import Derived.Shelf.SlicesE.Clone
import Derived.Test.YtdffoanhbkecgaaGreatDoorProg
set_option linter.unusedVariables false
set_option linter.unusedSimpArgs false
section
namespace Go.Proofs
open Go.Shelf
def Tryz.lays137_ren:Go.Shelf.Ren:=⟨fun|137=>75|217=>100|266=>132|n=>n,fun|9=>9|5=>5|3=>3|n=>n,fun|n=>n⟩
theorem Tryz.lays137:Go.Proofs.Lays.n137 Tryz.prog Tryz.lays137_ren:={
  mixed:=by kernel_rfl
  f137:=Tryz.func75.trans (congrArg some (by kernel_rfl))
  f217:=Tryz.func100.trans (congrArg some (by kernel_rfl))
  f266:=Tryz.func132.trans (congrArg some (by kernel_rfl))
  t3:=Tryz.underlying3
  a3:=Tryz.isAgg3
  z3:=Tryz.sizeOf3
  v3:=Tryz.zeroValue3
  t5:=Tryz.underlying5
  a5:=Tryz.isAgg5
  z5:=Tryz.sizeOf5
  v5:=Tryz.zeroValue5
  t9:=Tryz.underlying9
  a9:=Tryz.isAgg9
  z9:=Tryz.sizeOf9
  v9:=Tryz.zeroValue9 }
open Go.RowKit in
theorem Tryz.strings_IndexByte (s:ByteArray) (c:Int) (w:World) :
    Calls Tryz.prog 75 #[.string s,.int .u8 c] w fun e w'=>e = .returned (.int .i64 (Lib.indexByte s.data.toList c.toNat.toUInt8))∧w' = w:=Any.strings_IndexByte Tryz.lays137 s c w
def Tryz.laysM171_ren:Go.Shelf.Ren:=⟨fun|171=>85|243=>111|246=>140|283=>159|284=>160|285=>161|286=>162|129=>127|317=>168|318=>169|319=>170|320=>171|337=>174|338=>175|n=>n,fun|3=>3|9=>9|2=>2|4=>4|171=>192|0=>0|53=>162|37=>29|5=>5|173=>194|212=>212|51=>160|20=>20|213=>213|46=>141|232=>216|233=>217|n=>n,fun|17=>5|18=>6|19=>7|n=>n⟩
theorem Tryz.laysM171:Go.Proofs.LaysM.n171 Tryz.prog Tryz.laysM171_ren:={
  mixed:=by kernel_rfl
  f129:=Tryz.func127.trans (congrArg some (by kernel_rfl))
  f171:=Tryz.func85.trans (congrArg some (by kernel_rfl))
  f243:=Tryz.func111.trans (congrArg some (by kernel_rfl))
  f246:=Tryz.func140.trans (congrArg some (by kernel_rfl))
  f283:=Tryz.func159.trans (congrArg some (by kernel_rfl))
  f284:=Tryz.func160.trans (congrArg some (by kernel_rfl))
  f285:=Tryz.func161.trans (congrArg some (by kernel_rfl))
  f286:=Tryz.func162.trans (congrArg some (by kernel_rfl))
  f317:=Tryz.func168.trans (congrArg some (by kernel_rfl))
  f318:=Tryz.func169.trans (congrArg some (by kernel_rfl))
  f319:=Tryz.func170.trans (congrArg some (by kernel_rfl))
  f320:=Tryz.func171.trans (congrArg some (by kernel_rfl))
  f337:=Tryz.func174.trans (congrArg some (by kernel_rfl))
  f338:=Tryz.func175.trans (congrArg some (by kernel_rfl))
  t0:=Tryz.underlying0
  a0:=Tryz.isAgg0
  z0:=Tryz.sizeOf0
  v0:=Tryz.zeroValue0
  t2:=Tryz.underlying2
  a2:=Tryz.isAgg2
  z2:=Tryz.sizeOf2
  v2:=Tryz.zeroValue2
  t3:=Tryz.underlying3
  a3:=Tryz.isAgg3
  z3:=Tryz.sizeOf3
  v3:=Tryz.zeroValue3
  t4:=Tryz.underlying4
  a4:=Tryz.isAgg4
  z4:=Tryz.sizeOf4
  v4:=Tryz.zeroValue4
  t5:=Tryz.underlying5
  a5:=Tryz.isAgg5
  z5:=Tryz.sizeOf5
  v5:=Tryz.zeroValue5
  t9:=Tryz.underlying9
  a9:=Tryz.isAgg9
  z9:=Tryz.sizeOf9
  v9:=Tryz.zeroValue9
  t20:=Tryz.underlying20
  a20:=Tryz.isAgg20
  z20:=Tryz.sizeOf20
  v20:=Tryz.zeroValue20
  t37:=Tryz.underlying29
  a37:=Tryz.isAgg29
  z37:=Tryz.sizeOf29
  v37:=Tryz.zeroValue29
  t46:=Tryz.underlying141
  a46:=Tryz.isAgg141
  z46:=Tryz.sizeOf141
  v46:=Tryz.zeroValue141
  t51:=Tryz.underlying160
  a51:=Tryz.isAgg160
  z51:=Tryz.sizeOf160
  v51:=Tryz.zeroValue160
  t53:=Tryz.underlying162
  a53:=Tryz.isAgg162
  z53:=Tryz.sizeOf162
  v53:=Tryz.zeroValue162
  t171:=Tryz.underlying192
  a171:=Tryz.isAgg192
  z171:=Tryz.sizeOf192
  v171:=Tryz.zeroValue192
  t173:=Tryz.underlying194
  a173:=Tryz.isAgg194
  z173:=Tryz.sizeOf194
  v173:=Tryz.zeroValue194
  t212:=Tryz.underlying212
  a212:=Tryz.isAgg212
  z212:=Tryz.sizeOf212
  v212:=Tryz.zeroValue212
  t213:=Tryz.underlying213
  a213:=Tryz.isAgg213
  z213:=Tryz.sizeOf213
  t232:=Tryz.underlying216
  a232:=Tryz.isAgg216
  z232:=Tryz.sizeOf216
  v232:=Tryz.zeroValue216
  t233:=Tryz.underlying217
  a233:=Tryz.isAgg217
  z233:=Tryz.sizeOf217
  v233:=Tryz.zeroValue217
  g17:=by kernel_rfl
  g18:=by kernel_rfl
  g19:=by kernel_rfl
  i0:=by kernel_rfl
  i2:=by kernel_rfl
  i3:=by kernel_rfl
  i4:=by kernel_rfl
  i5:=by kernel_rfl
  i9:=by kernel_rfl
  i20:=by kernel_rfl
  i37:=by kernel_rfl
  i46:=by kernel_rfl
  i51:=by kernel_rfl
  i53:=by kernel_rfl
  i171:=by kernel_rfl
  i173:=by kernel_rfl
  i212:=by kernel_rfl
  i232:=by kernel_rfl
  i233:=by kernel_rfl
  m17:=by kernel_rfl
  m18:=by kernel_rfl
  m19:=by kernel_rfl }
open Go.RowKit Go.Sort Go.Lib in
theorem Tryz.strconv_Itoa (n:Int) (h0:-9223372036854775808≤n) (h1:n≤9223372036854775807) (w:World) (htab:Lib.TabIs Tryz.prog w "internal/strconv.uint64pow10" .u64 Lib.pow10Tab) :
    Calls Tryz.prog 85 #[.int .i64 n] w fun e w'=>e = .returned (.string ⟨(Lib.itoa n).toArray⟩)∧∃ k os,w' = grow (w.drewN k) os:=Any.strconv_Itoa Tryz.laysM171 n h0 h1 w htab
def Tryz.laysC172_ren:Go.Shelf.Ren:=⟨fun|172=>84|244=>109|245=>110|247=>135|279=>136|280=>137|281=>138|282=>139|287=>156|316=>157|171=>85|205=>158|321=>166|322=>167|243=>111|246=>140|283=>159|284=>160|285=>161|286=>162|129=>127|317=>168|318=>169|319=>170|320=>171|337=>174|338=>175|n=>n,fun|9=>9|3=>3|75=>128|76=>129|4=>4|5=>5|167=>172|37=>29|0=>0|85=>173|2=>2|168=>175|53=>162|175=>186|46=>141|210=>190|127=>207|145=>210|143=>208|21=>21|171=>192|173=>194|212=>212|51=>160|20=>20|213=>213|232=>216|233=>217|80=>218|n=>n,fun|15=>1|16=>2|17=>5|18=>6|19=>7|n=>n⟩
theorem Tryz.laysC172:Go.Proofs.LaysC.n172 Tryz.prog Tryz.laysC172_ren:={
  mixed:=by kernel_rfl
  f129:=Tryz.func127.trans (congrArg some (by kernel_rfl))
  f171:=Tryz.func85.trans (congrArg some (by kernel_rfl))
  f172:=Tryz.func84.trans (congrArg some (by kernel_rfl))
  f205:=Tryz.func158.trans (congrArg some (by kernel_rfl))
  f243:=Tryz.func111.trans (congrArg some (by kernel_rfl))
  f244:=Tryz.func109.trans (congrArg some (by kernel_rfl))
  f245:=Tryz.func110.trans (congrArg some (by kernel_rfl))
  f246:=Tryz.func140.trans (congrArg some (by kernel_rfl))
  f247:=Tryz.func135.trans (congrArg some (by kernel_rfl))
  f279:=Tryz.func136.trans (congrArg some (by kernel_rfl))
  f280:=Tryz.func137.trans (congrArg some (by kernel_rfl))
  f281:=Tryz.func138.trans (congrArg some (by kernel_rfl))
  f282:=Tryz.func139.trans (congrArg some (by kernel_rfl))
  f283:=Tryz.func159.trans (congrArg some (by kernel_rfl))
  f284:=Tryz.func160.trans (congrArg some (by kernel_rfl))
  f285:=Tryz.func161.trans (congrArg some (by kernel_rfl))
  f286:=Tryz.func162.trans (congrArg some (by kernel_rfl))
  f287:=Tryz.func156.trans (congrArg some (by kernel_rfl))
  f316:=Tryz.func157.trans (congrArg some (by kernel_rfl))
  f317:=Tryz.func168.trans (congrArg some (by kernel_rfl))
  f318:=Tryz.func169.trans (congrArg some (by kernel_rfl))
  f319:=Tryz.func170.trans (congrArg some (by kernel_rfl))
  f320:=Tryz.func171.trans (congrArg some (by kernel_rfl))
  f321:=Tryz.func166.trans (congrArg some (by kernel_rfl))
  f322:=Tryz.func167.trans (congrArg some (by kernel_rfl))
  f337:=Tryz.func174.trans (congrArg some (by kernel_rfl))
  f338:=Tryz.func175.trans (congrArg some (by kernel_rfl))
  t0:=Tryz.underlying0
  a0:=Tryz.isAgg0
  z0:=Tryz.sizeOf0
  v0:=Tryz.zeroValue0
  t2:=Tryz.underlying2
  a2:=Tryz.isAgg2
  z2:=Tryz.sizeOf2
  v2:=Tryz.zeroValue2
  t3:=Tryz.underlying3
  a3:=Tryz.isAgg3
  z3:=Tryz.sizeOf3
  v3:=Tryz.zeroValue3
  t4:=Tryz.underlying4
  a4:=Tryz.isAgg4
  z4:=Tryz.sizeOf4
  v4:=Tryz.zeroValue4
  t5:=Tryz.underlying5
  a5:=Tryz.isAgg5
  z5:=Tryz.sizeOf5
  v5:=Tryz.zeroValue5
  t9:=Tryz.underlying9
  a9:=Tryz.isAgg9
  z9:=Tryz.sizeOf9
  v9:=Tryz.zeroValue9
  t20:=Tryz.underlying20
  a20:=Tryz.isAgg20
  z20:=Tryz.sizeOf20
  v20:=Tryz.zeroValue20
  t21:=Tryz.underlying21
  a21:=Tryz.isAgg21
  z21:=Tryz.sizeOf21
  v21:=Tryz.zeroValue21
  t37:=Tryz.underlying29
  a37:=Tryz.isAgg29
  z37:=Tryz.sizeOf29
  v37:=Tryz.zeroValue29
  t46:=Tryz.underlying141
  a46:=Tryz.isAgg141
  z46:=Tryz.sizeOf141
  v46:=Tryz.zeroValue141
  t51:=Tryz.underlying160
  a51:=Tryz.isAgg160
  z51:=Tryz.sizeOf160
  v51:=Tryz.zeroValue160
  t53:=Tryz.underlying162
  a53:=Tryz.isAgg162
  z53:=Tryz.sizeOf162
  v53:=Tryz.zeroValue162
  t75:=Tryz.underlying128
  a75:=Tryz.isAgg128
  z75:=Tryz.sizeOf128
  v75:=Tryz.zeroValue128
  t76:=Tryz.underlying129
  a76:=Tryz.isAgg129
  z76:=Tryz.sizeOf129
  v76:=Tryz.zeroValue129
  t85:=Tryz.underlying173
  a85:=Tryz.isAgg173
  z85:=Tryz.sizeOf173
  v85:=Tryz.zeroValue173
  t127:=Tryz.underlying207
  a127:=Tryz.isAgg207
  z127:=Tryz.sizeOf207
  v127:=Tryz.zeroValue207
  t143:=Tryz.underlying208
  a143:=Tryz.isAgg208
  z143:=Tryz.sizeOf208
  v143:=Tryz.zeroValue208
  t145:=Tryz.underlying210
  a145:=Tryz.isAgg210
  z145:=Tryz.sizeOf210
  v145:=Tryz.zeroValue210
  t167:=Tryz.underlying172
  a167:=Tryz.isAgg172
  z167:=Tryz.sizeOf172
  v167:=Tryz.zeroValue172
  t168:=Tryz.underlying175
  a168:=Tryz.isAgg175
  z168:=Tryz.sizeOf175
  v168:=Tryz.zeroValue175
  t171:=Tryz.underlying192
  a171:=Tryz.isAgg192
  z171:=Tryz.sizeOf192
  v171:=Tryz.zeroValue192
  t173:=Tryz.underlying194
  a173:=Tryz.isAgg194
  z173:=Tryz.sizeOf194
  v173:=Tryz.zeroValue194
  t175:=Tryz.underlying186
  a175:=Tryz.isAgg186
  z175:=Tryz.sizeOf186
  v175:=Tryz.zeroValue186
  t210:=Tryz.underlying190
  a210:=Tryz.isAgg190
  z210:=Tryz.sizeOf190
  v210:=Tryz.zeroValue190
  t212:=Tryz.underlying212
  a212:=Tryz.isAgg212
  z212:=Tryz.sizeOf212
  v212:=Tryz.zeroValue212
  t213:=Tryz.underlying213
  a213:=Tryz.isAgg213
  z213:=Tryz.sizeOf213
  t232:=Tryz.underlying216
  a232:=Tryz.isAgg216
  z232:=Tryz.sizeOf216
  v232:=Tryz.zeroValue216
  t233:=Tryz.underlying217
  a233:=Tryz.isAgg217
  z233:=Tryz.sizeOf217
  v233:=Tryz.zeroValue217
  g15:=by kernel_rfl
  g16:=by kernel_rfl
  g17:=by kernel_rfl
  g18:=by kernel_rfl
  g19:=by kernel_rfl
  t80:=Tryz.underlying218
  a80:=Tryz.isAgg218
  z80:=Tryz.sizeOf218
  v80:=Tryz.zeroValue218
  i0:=by kernel_rfl
  i2:=by kernel_rfl
  i3:=by kernel_rfl
  i4:=by kernel_rfl
  i5:=by kernel_rfl
  i9:=by kernel_rfl
  i20:=by kernel_rfl
  i21:=by kernel_rfl
  i37:=by kernel_rfl
  i46:=by kernel_rfl
  i51:=by kernel_rfl
  i53:=by kernel_rfl
  i75:=by kernel_rfl
  i76:=by kernel_rfl
  i80:=by kernel_rfl
  i85:=by kernel_rfl
  i127:=by kernel_rfl
  i143:=by kernel_rfl
  i145:=by kernel_rfl
  i167:=by kernel_rfl
  i168:=by kernel_rfl
  i171:=by kernel_rfl
  i173:=by kernel_rfl
  i175:=by kernel_rfl
  i210:=by kernel_rfl
  i212:=by kernel_rfl
  i232:=by kernel_rfl
  i233:=by kernel_rfl
  m15:=by kernel_rfl
  m16:=by kernel_rfl
  m17:=by kernel_rfl
  m18:=by kernel_rfl
  m19:=by kernel_rfl
  c0:=by kernel_rfl
  c2:=by kernel_rfl
  c3:=by kernel_rfl
  c4:=by kernel_rfl
  c5:=by kernel_rfl
  c9:=by kernel_rfl
  c20:=by kernel_rfl
  c21:=by kernel_rfl
  c37:=by kernel_rfl
  c46:=by kernel_rfl
  c51:=by kernel_rfl
  c53:=by kernel_rfl
  c75:=by kernel_rfl
  c76:=by kernel_rfl
  c80:=by kernel_rfl
  c85:=by kernel_rfl
  c127:=by kernel_rfl
  c143:=by kernel_rfl
  c145:=by kernel_rfl
  c167:=by kernel_rfl
  c168:=by kernel_rfl
  c171:=by kernel_rfl
  c173:=by kernel_rfl
  c175:=by kernel_rfl
  c210:=by kernel_rfl
  c212:=by kernel_rfl
  c213:=by kernel_rfl
  c232:=by kernel_rfl
  c233:=by kernel_rfl }
open Go.RowKit in
theorem Tryz.strconv_Atoi_ok (s:ByteArray) (hmax:s.size≤9223372036854775806) (v:Int) (h:Lib.atoiAll s.data.toList = .ok v) (w:World) :
    Calls Tryz.prog 84 #[.string s] w fun e w'=>e = .returned (.tuple #[.int .i64 v,.nilIface])∧(w' = w∨∃ t,w' = Lib.bytesWorld w 5 t):=Any.strconv_Atoi_ok Tryz.laysC172 s hmax v h w
open Go.RowKit in
theorem Tryz.strconv_Atoi_syntax (s:ByteArray) (hlim:s.size≤281474976710656) (h:Lib.atoiAll s.data.toList = Lib.NumEnd.syntax) (ev:Value) (w:World) (hv:w.cell? ⟨1,0,none⟩ = some ev) (hev:ev = .nilIface∨∃ te pe,ev = .iface te pe) :
    Calls Tryz.prog 84 #[.string s] w fun e w'=>∃ N,e = .returned (.tuple #[.int .i64 (0),.iface 175 (.pointer (some ⟨N,0,none⟩))])∧w.heap.size≤N∧w'.heap[N]? = some (.cells #[.string ⟨#[65,116,111,105]⟩,.string s,ev] 190 (0,0))∧Below w.heap.size w w':=Any.strconv_Atoi_syntax Tryz.laysC172 s hlim h ev w hv hev
open Go.RowKit in
theorem Tryz.strconv_Atoi_range (s:ByteArray) (hlim:s.size≤281474976710656) (h:Lib.atoiAll s.data.toList = .range) (ev:Value) (w:World) (hv:w.cell? ⟨2,0,none⟩ = some ev) (hev:ev = .nilIface∨∃ te pe,ev = .iface te pe) :
    Calls Tryz.prog 84 #[.string s] w fun e w'=>∃ N,e = .returned (.tuple #[.int .i64 (Lib.atoiSat s.data.toList),.iface 175 (.pointer (some ⟨N,0,none⟩))])∧w.heap.size≤N∧w'.heap[N]? = some (.cells #[.string ⟨#[65,116,111,105]⟩,.string s,ev] 190 (0,0))∧Below w.heap.size w w':=Any.strconv_Atoi_range Tryz.laysC172 s hlim h ev w hv hev
def Tryz.lays138_ren:Go.Shelf.Ren:=⟨fun|138=>86|195=>112|218=>113|143=>106|219=>134|217=>100|225=>153|224=>154|267=>155|266=>132|314=>165|n=>n,fun|9=>9|3=>3|4=>4|5=>5|0=>0|46=>141|146=>204|51=>160|n=>n,fun|1=>0|n=>n⟩
theorem Tryz.lays138:Go.Proofs.Lays.n138 Tryz.prog Tryz.lays138_ren:={
  mixed:=by kernel_rfl
  f138:=Tryz.func86.trans (congrArg some (by kernel_rfl))
  f143:=Tryz.func106.trans (congrArg some (by kernel_rfl))
  f195:=Tryz.func112.trans (congrArg some (by kernel_rfl))
  f217:=Tryz.func100.trans (congrArg some (by kernel_rfl))
  f218:=Tryz.func113.trans (congrArg some (by kernel_rfl))
  f219:=Tryz.func134.trans (congrArg some (by kernel_rfl))
  f224:=Tryz.func154.trans (congrArg some (by kernel_rfl))
  f225:=Tryz.func153.trans (congrArg some (by kernel_rfl))
  f266:=Tryz.func132.trans (congrArg some (by kernel_rfl))
  f267:=Tryz.func155.trans (congrArg some (by kernel_rfl))
  f314:=Tryz.func165.trans (congrArg some (by kernel_rfl))
  t0:=Tryz.underlying0
  a0:=Tryz.isAgg0
  z0:=Tryz.sizeOf0
  v0:=Tryz.zeroValue0
  t3:=Tryz.underlying3
  a3:=Tryz.isAgg3
  z3:=Tryz.sizeOf3
  v3:=Tryz.zeroValue3
  t4:=Tryz.underlying4
  a4:=Tryz.isAgg4
  z4:=Tryz.sizeOf4
  v4:=Tryz.zeroValue4
  t5:=Tryz.underlying5
  a5:=Tryz.isAgg5
  z5:=Tryz.sizeOf5
  v5:=Tryz.zeroValue5
  t9:=Tryz.underlying9
  a9:=Tryz.isAgg9
  z9:=Tryz.sizeOf9
  v9:=Tryz.zeroValue9
  t46:=Tryz.underlying141
  a46:=Tryz.isAgg141
  z46:=Tryz.sizeOf141
  v46:=Tryz.zeroValue141
  t51:=Tryz.underlying160
  a51:=Tryz.isAgg160
  z51:=Tryz.sizeOf160
  v51:=Tryz.zeroValue160
  t146:=Tryz.underlying204
  a146:=Tryz.isAgg204
  z146:=Tryz.sizeOf204
  v146:=Tryz.zeroValue204
  g1:=by kernel_rfl }
open Go.RowKit Go.Lib in
theorem Tryz.strings_Count_one (s:ByteArray) (c:UInt8) (w:World) :
    Calls Tryz.prog 86 #[.string s,.string ⟨#[c]⟩] w fun e w'=>e = .returned (.int .i64 (Lib.countByte s.data.toList c))∧w' = w:=Any.strings_Count_one Tryz.lays138 s c w
def Tryz.lays146_ren:Go.Shelf.Ren:=⟨fun|146=>63|221=>81|268=>105|138=>86|143=>106|195=>112|197=>133|218=>113|219=>134|260=>152|217=>100|225=>153|224=>154|267=>155|266=>132|314=>165|n=>n,fun|9=>9|31=>55|3=>3|4=>4|0=>0|105=>170|21=>21|5=>5|46=>141|119=>200|139=>203|138=>202|146=>204|51=>160|n=>n,fun|1=>0|3=>3|4=>4|n=>n⟩
theorem Tryz.lays146:Go.Proofs.Lays.n146 Tryz.prog Tryz.lays146_ren:={
  mixed:=by kernel_rfl
  f138:=Tryz.func86.trans (congrArg some (by kernel_rfl))
  f143:=Tryz.func106.trans (congrArg some (by kernel_rfl))
  f146:=Tryz.func63.trans (congrArg some (by kernel_rfl))
  f195:=Tryz.func112.trans (congrArg some (by kernel_rfl))
  f197:=Tryz.func133.trans (congrArg some (by kernel_rfl))
  f217:=Tryz.func100.trans (congrArg some (by kernel_rfl))
  f218:=Tryz.func113.trans (congrArg some (by kernel_rfl))
  f219:=Tryz.func134.trans (congrArg some (by kernel_rfl))
  f221:=Tryz.func81.trans (congrArg some (by kernel_rfl))
  f224:=Tryz.func154.trans (congrArg some (by kernel_rfl))
  f225:=Tryz.func153.trans (congrArg some (by kernel_rfl))
  f260:=Tryz.func152.trans (congrArg some (by kernel_rfl))
  f266:=Tryz.func132.trans (congrArg some (by kernel_rfl))
  f267:=Tryz.func155.trans (congrArg some (by kernel_rfl))
  f268:=Tryz.func105.trans (congrArg some (by kernel_rfl))
  f314:=Tryz.func165.trans (congrArg some (by kernel_rfl))
  t0:=Tryz.underlying0
  a0:=Tryz.isAgg0
  z0:=Tryz.sizeOf0
  v0:=Tryz.zeroValue0
  t3:=Tryz.underlying3
  a3:=Tryz.isAgg3
  z3:=Tryz.sizeOf3
  v3:=Tryz.zeroValue3
  t4:=Tryz.underlying4
  a4:=Tryz.isAgg4
  z4:=Tryz.sizeOf4
  v4:=Tryz.zeroValue4
  t5:=Tryz.underlying5
  a5:=Tryz.isAgg5
  z5:=Tryz.sizeOf5
  v5:=Tryz.zeroValue5
  t9:=Tryz.underlying9
  a9:=Tryz.isAgg9
  z9:=Tryz.sizeOf9
  v9:=Tryz.zeroValue9
  t21:=Tryz.underlying21
  a21:=Tryz.isAgg21
  z21:=Tryz.sizeOf21
  v21:=Tryz.zeroValue21
  t31:=Tryz.underlying55
  a31:=Tryz.isAgg55
  z31:=Tryz.sizeOf55
  v31:=Tryz.zeroValue55
  t46:=Tryz.underlying141
  a46:=Tryz.isAgg141
  z46:=Tryz.sizeOf141
  v46:=Tryz.zeroValue141
  t51:=Tryz.underlying160
  a51:=Tryz.isAgg160
  z51:=Tryz.sizeOf160
  v51:=Tryz.zeroValue160
  t105:=Tryz.underlying170
  a105:=Tryz.isAgg170
  z105:=Tryz.sizeOf170
  v105:=Tryz.zeroValue170
  t119:=Tryz.underlying200
  a119:=Tryz.isAgg200
  z119:=Tryz.sizeOf200
  t138:=Tryz.underlying202
  a138:=Tryz.isAgg202
  z138:=Tryz.sizeOf202
  v138:=Tryz.zeroValue202
  t139:=Tryz.underlying203
  a139:=Tryz.isAgg203
  z139:=Tryz.sizeOf203
  v139:=Tryz.zeroValue203
  t146:=Tryz.underlying204
  a146:=Tryz.isAgg204
  z146:=Tryz.sizeOf204
  v146:=Tryz.zeroValue204
  g1:=by kernel_rfl
  g3:=by kernel_rfl
  g4:=by kernel_rfl }
open Go.RowKit Go.Lib in
theorem Tryz.strings_Split (s sep:ByteArray) (m:Int) (w:World) (hs:s.size < 4294967281) (hm:w.cell? ⟨0,0,none⟩ = some (.int .i64 m)) (h1:1≤sep.size) :
    Calls Tryz.prog 63 #[.string s,.string sep] w fun e w' =>
      e = .returned (.slice (some ⟨w.heap.size,0,none⟩) (Lib.countB s sep + 1) (Lib.countB s sep + 1))∧w' = w.alloc (.cells ((Lib.splitB sep 0 (Lib.countB s sep) s).map Value.string).toArray 9):=Any.strings_Split Tryz.lays146 (by kernel_rfl) s sep m w hs hm h1
def Tryz.laysM146_ren:Go.Shelf.Ren:=⟨fun|146=>63|221=>81|268=>105|138=>86|143=>106|195=>112|197=>133|218=>113|219=>134|260=>152|217=>100|225=>153|224=>154|267=>155|266=>132|314=>165|n=>n,fun|9=>9|31=>55|3=>3|4=>4|0=>0|105=>170|21=>21|5=>5|46=>141|119=>200|139=>203|138=>202|146=>204|51=>160|n=>n,fun|1=>0|3=>3|4=>4|n=>n⟩
theorem Tryz.laysM146:Go.Proofs.LaysM.n146 Tryz.prog Tryz.laysM146_ren:={
  mixed:=by kernel_rfl
  f138:=Tryz.func86.trans (congrArg some (by kernel_rfl))
  f143:=Tryz.func106.trans (congrArg some (by kernel_rfl))
  f146:=Tryz.func63.trans (congrArg some (by kernel_rfl))
  f195:=Tryz.func112.trans (congrArg some (by kernel_rfl))
  f197:=Tryz.func133.trans (congrArg some (by kernel_rfl))
  f217:=Tryz.func100.trans (congrArg some (by kernel_rfl))
  f218:=Tryz.func113.trans (congrArg some (by kernel_rfl))
  f219:=Tryz.func134.trans (congrArg some (by kernel_rfl))
  f221:=Tryz.func81.trans (congrArg some (by kernel_rfl))
  f224:=Tryz.func154.trans (congrArg some (by kernel_rfl))
  f225:=Tryz.func153.trans (congrArg some (by kernel_rfl))
  f260:=Tryz.func152.trans (congrArg some (by kernel_rfl))
  f266:=Tryz.func132.trans (congrArg some (by kernel_rfl))
  f267:=Tryz.func155.trans (congrArg some (by kernel_rfl))
  f268:=Tryz.func105.trans (congrArg some (by kernel_rfl))
  f314:=Tryz.func165.trans (congrArg some (by kernel_rfl))
  t0:=Tryz.underlying0
  a0:=Tryz.isAgg0
  z0:=Tryz.sizeOf0
  v0:=Tryz.zeroValue0
  t3:=Tryz.underlying3
  a3:=Tryz.isAgg3
  z3:=Tryz.sizeOf3
  v3:=Tryz.zeroValue3
  t4:=Tryz.underlying4
  a4:=Tryz.isAgg4
  z4:=Tryz.sizeOf4
  v4:=Tryz.zeroValue4
  t5:=Tryz.underlying5
  a5:=Tryz.isAgg5
  z5:=Tryz.sizeOf5
  v5:=Tryz.zeroValue5
  t9:=Tryz.underlying9
  a9:=Tryz.isAgg9
  z9:=Tryz.sizeOf9
  v9:=Tryz.zeroValue9
  t21:=Tryz.underlying21
  a21:=Tryz.isAgg21
  z21:=Tryz.sizeOf21
  v21:=Tryz.zeroValue21
  t31:=Tryz.underlying55
  a31:=Tryz.isAgg55
  z31:=Tryz.sizeOf55
  v31:=Tryz.zeroValue55
  t46:=Tryz.underlying141
  a46:=Tryz.isAgg141
  z46:=Tryz.sizeOf141
  v46:=Tryz.zeroValue141
  t51:=Tryz.underlying160
  a51:=Tryz.isAgg160
  z51:=Tryz.sizeOf160
  v51:=Tryz.zeroValue160
  t105:=Tryz.underlying170
  a105:=Tryz.isAgg170
  z105:=Tryz.sizeOf170
  v105:=Tryz.zeroValue170
  t119:=Tryz.underlying200
  a119:=Tryz.isAgg200
  z119:=Tryz.sizeOf200
  t138:=Tryz.underlying202
  a138:=Tryz.isAgg202
  z138:=Tryz.sizeOf202
  v138:=Tryz.zeroValue202
  t139:=Tryz.underlying203
  a139:=Tryz.isAgg203
  z139:=Tryz.sizeOf203
  v139:=Tryz.zeroValue203
  t146:=Tryz.underlying204
  a146:=Tryz.isAgg204
  z146:=Tryz.sizeOf204
  v146:=Tryz.zeroValue204
  g1:=by kernel_rfl
  g3:=by kernel_rfl
  g4:=by kernel_rfl
  i0:=by kernel_rfl
  i3:=by kernel_rfl
  i4:=by kernel_rfl
  i5:=by kernel_rfl
  i9:=by kernel_rfl
  i21:=by kernel_rfl
  i31:=by kernel_rfl
  i46:=by kernel_rfl
  i51:=by kernel_rfl
  i105:=by kernel_rfl
  i138:=by kernel_rfl
  i139:=by kernel_rfl
  i146:=by kernel_rfl
  m1:=by kernel_rfl
  s1_3:=fun w h=>Go.Proofs.cell_of_shapedOpen_int (zero:=#[.int .i64 0]) (t:=3) h (of_decide_eq_true (by kernel_rfl)) (by kernel_rfl) rfl (by kernel_rfl) (by kernel_rfl) Tryz.underlying3
  m3:=by kernel_rfl
  m4:=by kernel_rfl }
end Go.Proofs
end

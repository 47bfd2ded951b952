/- The contracts of the library functions that the law reaches, laid at this seat. -/
import Derived.Shelf.Strings.Builder1
import Derived.Shelf.Strings.Builder2
import Derived.Shelf.Small.Bits
import Derived.Shelf.Small.Strs
import Derived.Shelf.Small.Wraps
import Derived.Shelf.Utf8.RuneCount
import Derived.Shelf.Strconv.Atoi
import Derived.Shelf.Strconv.Itoa0
import Derived.Shelf.Strconv.Itoa1
import Derived.Shelf.LaysM
import Derived.Shelf.Strconv.Itoa2
import Derived.Shelf.Strconv.Itoa3
import Derived.Shelf.Strconv.AtoiErrFast
import Derived.Shelf.Strconv.ParseIntEmpty
import Derived.Shelf.Strconv.AtoiFail
import Derived.Shelf.Strconv.Clone
import Derived.Shelf.Strconv.SyntaxError
import Derived.Shelf.LaysC
import Derived.Shelf.Strconv.ToError
import Derived.Shelf.Strconv.Lower
import Derived.Shelf.Strconv.ParseUint10
import Derived.Shelf.Strconv.ParseUint10Empty
import Derived.Shelf.Strconv.ParseUint10Any
import Derived.Shelf.Strconv.ParseInt10
import Derived.Shelf.Strconv.AtoiLong
import Derived.Shelf.Strconv.AtoiInnerAll
import Derived.Shelf.Strconv.RangeError
import Derived.Shelf.Strconv.ToErrorRange
import Derived.Shelf.Strconv.AtoiAll
import Derived.Shelf.Strconv.ErrVarAll
import Derived.Shelf.Strconv.ParseUintEmpty
import Derived.Shelf.Strconv.ParseUint10b64
import Derived.Shelf.Strconv.ParseUint10b32
import Derived.Shelf.Strconv.ParseUint10b16
import Derived.Shelf.Strconv.ParseUint10b8
import Derived.Shelf.Strconv.ParseUint10At
import Derived.Shelf.Strings.Search1
import Derived.Shelf.Strings.Search2
import Derived.Shelf.Strings.Search3
import Derived.Shelf.Strings.Count
import Derived.Shelf.Strings.Shaped
import Derived.Shelf.Sort.Plain
import Derived.Shelf.Strings.Split
import Derived.Shelf.Strings.SplitShaped
import Derived.Shelf.Unicode.Decode
import Derived.Shelf.Strings.RuneCount
import Derived.Shelf.Strings.Explode
import Derived.Shelf.Unicode.DecodeSlow
import Derived.Shelf.Unicode.DecodeAny
import Derived.Shelf.Slices.Turned
import Derived.Ground.Names2Prog
import Derived.Shelf.Slices.Clone
import Derived.Shelf.Slices.SearchI
import Derived.Shelf.Slices.In.SortNone
import Derived.Ground.SlgnProg
import Derived.Shelf.SlicesE.Clone
import Derived.Ground.SlsfProg
import Derived.Shelf.SlSortCmp.Insertion
import Derived.Shelf.SlSortCmp.Insertion1
import Derived.Shelf.SlSortCmp.NoneTotal
import Derived.Test.YtphclkkggijicaaGreatDoorProg
set_option linter.unusedVariables false
set_option linter.unusedSimpArgs false
section
namespace Go.Proofs
open Go.Shelf
def Tryz.lays137_ren:Go.Shelf.Ren:=⟨fun|137=>162|217=>199|266=>236|n=>n,fun|9=>9|5=>5|3=>3|n=>n,fun|n=>n⟩
theorem Tryz.lays137:Go.Proofs.Lays.n137 Tryz.prog Tryz.lays137_ren:={
 mixed:=by kernel_rfl
 f137:=Tryz.func162.trans (congrArg some (by kernel_rfl))
 f217:=Tryz.func199.trans (congrArg some (by kernel_rfl))
 f266:=Tryz.func236.trans (congrArg some (by kernel_rfl))
 t3:=Tryz.underlying3
 a3:=Tryz.isAgg3
 z3:=Tryz.sizeOf3
 v3:=Tryz.zeroValue3
 t5:=Tryz.underlying5
 a5:=Tryz.isAgg5
 z5:=Tryz.sizeOf5
 v5:=Tryz.zeroValue5
 t9:=Tryz.underlying9
 a9:=Tryz.isAgg9
 z9:=Tryz.sizeOf9
 v9:=Tryz.zeroValue9 }
open Go.RowKit in
theorem Tryz.strings_IndexByte (s:ByteArray) (c:Int) (w:World) :
  Calls Tryz.prog 162 #[.string s,.int .u8 c] w fun e w'=>e = .returned (.int .i64 (Lib.indexByte s.data.toList c.toNat.toUInt8))∧w' = w:=Any.strings_IndexByte Tryz.lays137 s c w
def Tryz.laysM171_ren:Go.Shelf.Ren:=⟨fun|171=>133|243=>173|246=>208|283=>242|284=>243|285=>244|286=>245|129=>232|317=>273|318=>274|319=>275|320=>276|337=>289|338=>290|n=>n,fun|3=>3|9=>9|2=>2|4=>4|171=>276|0=>0|53=>266|37=>125|5=>5|173=>278|212=>303|51=>264|20=>20|213=>304|46=>236|232=>327|233=>328|n=>n,fun|17=>1|18=>6|19=>7|n=>n⟩
theorem Tryz.laysM171:Go.Proofs.LaysM.n171 Tryz.prog Tryz.laysM171_ren:={
 mixed:=by kernel_rfl
 f129:=Tryz.func232.trans (congrArg some (by kernel_rfl))
 f171:=Tryz.func133.trans (congrArg some (by kernel_rfl))
 f243:=Tryz.func173.trans (congrArg some (by kernel_rfl))
 f246:=Tryz.func208.trans (congrArg some (by kernel_rfl))
 f283:=Tryz.func242.trans (congrArg some (by kernel_rfl))
 f284:=Tryz.func243.trans (congrArg some (by kernel_rfl))
 f285:=Tryz.func244.trans (congrArg some (by kernel_rfl))
 f286:=Tryz.func245.trans (congrArg some (by kernel_rfl))
 f317:=Tryz.func273.trans (congrArg some (by kernel_rfl))
 f318:=Tryz.func274.trans (congrArg some (by kernel_rfl))
 f319:=Tryz.func275.trans (congrArg some (by kernel_rfl))
 f320:=Tryz.func276.trans (congrArg some (by kernel_rfl))
 f337:=Tryz.func289.trans (congrArg some (by kernel_rfl))
 f338:=Tryz.func290.trans (congrArg some (by kernel_rfl))
 t0:=Tryz.underlying0
 a0:=Tryz.isAgg0
 z0:=Tryz.sizeOf0
 v0:=Tryz.zeroValue0
 t2:=Tryz.underlying2
 a2:=Tryz.isAgg2
 z2:=Tryz.sizeOf2
 v2:=Tryz.zeroValue2
 t3:=Tryz.underlying3
 a3:=Tryz.isAgg3
 z3:=Tryz.sizeOf3
 v3:=Tryz.zeroValue3
 t4:=Tryz.underlying4
 a4:=Tryz.isAgg4
 z4:=Tryz.sizeOf4
 v4:=Tryz.zeroValue4
 t5:=Tryz.underlying5
 a5:=Tryz.isAgg5
 z5:=Tryz.sizeOf5
 v5:=Tryz.zeroValue5
 t9:=Tryz.underlying9
 a9:=Tryz.isAgg9
 z9:=Tryz.sizeOf9
 v9:=Tryz.zeroValue9
 t20:=Tryz.underlying20
 a20:=Tryz.isAgg20
 z20:=Tryz.sizeOf20
 v20:=Tryz.zeroValue20
 t37:=Tryz.underlying125
 a37:=Tryz.isAgg125
 z37:=Tryz.sizeOf125
 v37:=Tryz.zeroValue125
 t46:=Tryz.underlying236
 a46:=Tryz.isAgg236
 z46:=Tryz.sizeOf236
 v46:=Tryz.zeroValue236
 t51:=Tryz.underlying264
 a51:=Tryz.isAgg264
 z51:=Tryz.sizeOf264
 v51:=Tryz.zeroValue264
 t53:=Tryz.underlying266
 a53:=Tryz.isAgg266
 z53:=Tryz.sizeOf266
 v53:=Tryz.zeroValue266
 t171:=Tryz.underlying276
 a171:=Tryz.isAgg276
 z171:=Tryz.sizeOf276
 v171:=Tryz.zeroValue276
 t173:=Tryz.underlying278
 a173:=Tryz.isAgg278
 z173:=Tryz.sizeOf278
 v173:=Tryz.zeroValue278
 t212:=Tryz.underlying303
 a212:=Tryz.isAgg303
 z212:=Tryz.sizeOf303
 v212:=Tryz.zeroValue303
 t213:=Tryz.underlying304
 a213:=Tryz.isAgg304
 z213:=Tryz.sizeOf304
 t232:=Tryz.underlying327
 a232:=Tryz.isAgg327
 z232:=Tryz.sizeOf327
 v232:=Tryz.zeroValue327
 t233:=Tryz.underlying328
 a233:=Tryz.isAgg328
 z233:=Tryz.sizeOf328
 v233:=Tryz.zeroValue328
 g17:=by kernel_rfl
 g18:=by kernel_rfl
 g19:=by kernel_rfl
 i0:=by kernel_rfl
 i2:=by kernel_rfl
 i3:=by kernel_rfl
 i4:=by kernel_rfl
 i5:=by kernel_rfl
 i9:=by kernel_rfl
 i20:=by kernel_rfl
 i37:=by kernel_rfl
 i46:=by kernel_rfl
 i51:=by kernel_rfl
 i53:=by kernel_rfl
 i171:=by kernel_rfl
 i173:=by kernel_rfl
 i212:=by kernel_rfl
 i232:=by kernel_rfl
 i233:=by kernel_rfl
 m17:=by kernel_rfl
 m18:=by kernel_rfl
 m19:=by kernel_rfl }
open Go.RowKit Go.Sort Go.Lib in
theorem Tryz.strconv_Itoa (n:Int) (h0:-9223372036854775808≤n) (h1:n≤9223372036854775807) (w:World) (htab:Lib.TabIs Tryz.prog w "internal/strconv.uint64pow10" .u64 Lib.pow10Tab) :
  Calls Tryz.prog 133 #[.int .i64 n] w fun e w'=>e = .returned (.string ⟨(Lib.itoa n).toArray⟩)∧∃ k os,w' = grow (w.drewN k) os:=Any.strconv_Itoa Tryz.laysM171 n h0 h1 w htab
def Tryz.laysC172_ren:Go.Shelf.Ren:=⟨fun|172=>184|244=>215|245=>216|247=>248|279=>249|280=>250|281=>251|282=>252|287=>281|316=>282|171=>133|205=>283|321=>292|322=>293|243=>173|246=>208|283=>242|284=>243|285=>244|286=>245|129=>232|317=>273|318=>274|319=>275|320=>276|337=>289|338=>290|n=>n,fun|9=>9|3=>3|75=>186|76=>187|4=>4|5=>5|167=>282|37=>125|0=>0|85=>283|2=>2|168=>285|53=>266|175=>305|46=>236|210=>308|127=>223|145=>324|143=>322|21=>21|171=>276|173=>278|212=>303|51=>264|20=>20|213=>304|232=>327|233=>328|80=>189|n=>n,fun|15=>2|16=>3|17=>1|18=>6|19=>7|n=>n⟩
theorem Tryz.laysC172:Go.Proofs.LaysC.n172 Tryz.prog Tryz.laysC172_ren:={
 mixed:=by kernel_rfl
 f129:=Tryz.func232.trans (congrArg some (by kernel_rfl))
 f171:=Tryz.func133.trans (congrArg some (by kernel_rfl))
 f172:=Tryz.func184.trans (congrArg some (by kernel_rfl))
 f205:=Tryz.func283.trans (congrArg some (by kernel_rfl))
 f243:=Tryz.func173.trans (congrArg some (by kernel_rfl))
 f244:=Tryz.func215.trans (congrArg some (by kernel_rfl))
 f245:=Tryz.func216.trans (congrArg some (by kernel_rfl))
 f246:=Tryz.func208.trans (congrArg some (by kernel_rfl))
 f247:=Tryz.func248.trans (congrArg some (by kernel_rfl))
 f279:=Tryz.func249.trans (congrArg some (by kernel_rfl))
 f280:=Tryz.func250.trans (congrArg some (by kernel_rfl))
 f281:=Tryz.func251.trans (congrArg some (by kernel_rfl))
 f282:=Tryz.func252.trans (congrArg some (by kernel_rfl))
 f283:=Tryz.func242.trans (congrArg some (by kernel_rfl))
 f284:=Tryz.func243.trans (congrArg some (by kernel_rfl))
 f285:=Tryz.func244.trans (congrArg some (by kernel_rfl))
 f286:=Tryz.func245.trans (congrArg some (by kernel_rfl))
 f287:=Tryz.func281.trans (congrArg some (by kernel_rfl))
 f316:=Tryz.func282.trans (congrArg some (by kernel_rfl))
 f317:=Tryz.func273.trans (congrArg some (by kernel_rfl))
 f318:=Tryz.func274.trans (congrArg some (by kernel_rfl))
 f319:=Tryz.func275.trans (congrArg some (by kernel_rfl))
 f320:=Tryz.func276.trans (congrArg some (by kernel_rfl))
 f321:=Tryz.func292.trans (congrArg some (by kernel_rfl))
 f322:=Tryz.func293.trans (congrArg some (by kernel_rfl))
 f337:=Tryz.func289.trans (congrArg some (by kernel_rfl))
 f338:=Tryz.func290.trans (congrArg some (by kernel_rfl))
 t0:=Tryz.underlying0
 a0:=Tryz.isAgg0
 z0:=Tryz.sizeOf0
 v0:=Tryz.zeroValue0
 t2:=Tryz.underlying2
 a2:=Tryz.isAgg2
 z2:=Tryz.sizeOf2
 v2:=Tryz.zeroValue2
 t3:=Tryz.underlying3
 a3:=Tryz.isAgg3
 z3:=Tryz.sizeOf3
 v3:=Tryz.zeroValue3
 t4:=Tryz.underlying4
 a4:=Tryz.isAgg4
 z4:=Tryz.sizeOf4
 v4:=Tryz.zeroValue4
 t5:=Tryz.underlying5
 a5:=Tryz.isAgg5
 z5:=Tryz.sizeOf5
 v5:=Tryz.zeroValue5
 t9:=Tryz.underlying9
 a9:=Tryz.isAgg9
 z9:=Tryz.sizeOf9
 v9:=Tryz.zeroValue9
 t20:=Tryz.underlying20
 a20:=Tryz.isAgg20
 z20:=Tryz.sizeOf20
 v20:=Tryz.zeroValue20
 t21:=Tryz.underlying21
 a21:=Tryz.isAgg21
 z21:=Tryz.sizeOf21
 v21:=Tryz.zeroValue21
 t37:=Tryz.underlying125
 a37:=Tryz.isAgg125
 z37:=Tryz.sizeOf125
 v37:=Tryz.zeroValue125
 t46:=Tryz.underlying236
 a46:=Tryz.isAgg236
 z46:=Tryz.sizeOf236
 v46:=Tryz.zeroValue236
 t51:=Tryz.underlying264
 a51:=Tryz.isAgg264
 z51:=Tryz.sizeOf264
 v51:=Tryz.zeroValue264
 t53:=Tryz.underlying266
 a53:=Tryz.isAgg266
 z53:=Tryz.sizeOf266
 v53:=Tryz.zeroValue266
 t75:=Tryz.underlying186
 a75:=Tryz.isAgg186
 z75:=Tryz.sizeOf186
 v75:=Tryz.zeroValue186
 t76:=Tryz.underlying187
 a76:=Tryz.isAgg187
 z76:=Tryz.sizeOf187
 v76:=Tryz.zeroValue187
 t85:=Tryz.underlying283
 a85:=Tryz.isAgg283
 z85:=Tryz.sizeOf283
 v85:=Tryz.zeroValue283
 t127:=Tryz.underlying223
 a127:=Tryz.isAgg223
 z127:=Tryz.sizeOf223
 v127:=Tryz.zeroValue223
 t143:=Tryz.underlying322
 a143:=Tryz.isAgg322
 z143:=Tryz.sizeOf322
 v143:=Tryz.zeroValue322
 t145:=Tryz.underlying324
 a145:=Tryz.isAgg324
 z145:=Tryz.sizeOf324
 v145:=Tryz.zeroValue324
 t167:=Tryz.underlying282
 a167:=Tryz.isAgg282
 z167:=Tryz.sizeOf282
 v167:=Tryz.zeroValue282
 t168:=Tryz.underlying285
 a168:=Tryz.isAgg285
 z168:=Tryz.sizeOf285
 v168:=Tryz.zeroValue285
 t171:=Tryz.underlying276
 a171:=Tryz.isAgg276
 z171:=Tryz.sizeOf276
 v171:=Tryz.zeroValue276
 t173:=Tryz.underlying278
 a173:=Tryz.isAgg278
 z173:=Tryz.sizeOf278
 v173:=Tryz.zeroValue278
 t175:=Tryz.underlying305
 a175:=Tryz.isAgg305
 z175:=Tryz.sizeOf305
 v175:=Tryz.zeroValue305
 t210:=Tryz.underlying308
 a210:=Tryz.isAgg308
 z210:=Tryz.sizeOf308
 v210:=Tryz.zeroValue308
 t212:=Tryz.underlying303
 a212:=Tryz.isAgg303
 z212:=Tryz.sizeOf303
 v212:=Tryz.zeroValue303
 t213:=Tryz.underlying304
 a213:=Tryz.isAgg304
 z213:=Tryz.sizeOf304
 t232:=Tryz.underlying327
 a232:=Tryz.isAgg327
 z232:=Tryz.sizeOf327
 v232:=Tryz.zeroValue327
 t233:=Tryz.underlying328
 a233:=Tryz.isAgg328
 z233:=Tryz.sizeOf328
 v233:=Tryz.zeroValue328
 g15:=by kernel_rfl
 g16:=by kernel_rfl
 g17:=by kernel_rfl
 g18:=by kernel_rfl
 g19:=by kernel_rfl
 t80:=Tryz.underlying189
 a80:=Tryz.isAgg189
 z80:=Tryz.sizeOf189
 v80:=Tryz.zeroValue189
 i0:=by kernel_rfl
 i2:=by kernel_rfl
 i3:=by kernel_rfl
 i4:=by kernel_rfl
 i5:=by kernel_rfl
 i9:=by kernel_rfl
 i20:=by kernel_rfl
 i21:=by kernel_rfl
 i37:=by kernel_rfl
 i46:=by kernel_rfl
 i51:=by kernel_rfl
 i53:=by kernel_rfl
 i75:=by kernel_rfl
 i76:=by kernel_rfl
 i80:=by kernel_rfl
 i85:=by kernel_rfl
 i127:=by kernel_rfl
 i143:=by kernel_rfl
 i145:=by kernel_rfl
 i167:=by kernel_rfl
 i168:=by kernel_rfl
 i171:=by kernel_rfl
 i173:=by kernel_rfl
 i175:=by kernel_rfl
 i210:=by kernel_rfl
 i212:=by kernel_rfl
 i232:=by kernel_rfl
 i233:=by kernel_rfl
 m15:=by kernel_rfl
 m16:=by kernel_rfl
 m17:=by kernel_rfl
 m18:=by kernel_rfl
 m19:=by kernel_rfl
 c0:=by kernel_rfl
 c2:=by kernel_rfl
 c3:=by kernel_rfl
 c4:=by kernel_rfl
 c5:=by kernel_rfl
 c9:=by kernel_rfl
 c20:=by kernel_rfl
 c21:=by kernel_rfl
 c37:=by kernel_rfl
 c46:=by kernel_rfl
 c51:=by kernel_rfl
 c53:=by kernel_rfl
 c75:=by kernel_rfl
 c76:=by kernel_rfl
 c80:=by kernel_rfl
 c85:=by kernel_rfl
 c127:=by kernel_rfl
 c143:=by kernel_rfl
 c145:=by kernel_rfl
 c167:=by kernel_rfl
 c168:=by kernel_rfl
 c171:=by kernel_rfl
 c173:=by kernel_rfl
 c175:=by kernel_rfl
 c210:=by kernel_rfl
 c212:=by kernel_rfl
 c213:=by kernel_rfl
 c232:=by kernel_rfl
 c233:=by kernel_rfl }
open Go.RowKit in
theorem Tryz.strconv_Atoi_ok (s:ByteArray) (hmax:s.size≤9223372036854775806) (v:Int) (h:Lib.atoiAll s.data.toList = .ok v) (w:World) :
  Calls Tryz.prog 184 #[.string s] w fun e w'=>e = .returned (.tuple #[.int .i64 v,.nilIface])∧(w' = w∨∃ t,w' = Lib.bytesWorld w 5 t):=Any.strconv_Atoi_ok Tryz.laysC172 s hmax v h w
open Go.RowKit in
theorem Tryz.strconv_Atoi_syntax (s:ByteArray) (hlim:s.size≤281474976710656) (h:Lib.atoiAll s.data.toList = Lib.NumEnd.syntax) (ev:Value) (w:World) (hv:w.cell? ⟨2,0,none⟩ = some ev) (hev:ev = .nilIface∨∃ te pe,ev = .iface te pe) :
  Calls Tryz.prog 184 #[.string s] w fun e w'=>∃ N,e = .returned (.tuple #[.int .i64 (0),.iface 285 (.pointer (some ⟨N,0,none⟩))])∧w.heap.size≤N∧w'.heap[N]? = some (.cells #[.string ⟨#[65,116,111,105]⟩,.string s,ev] 308 (0,0))∧Below w.heap.size w w':=Any.strconv_Atoi_syntax Tryz.laysC172 s hlim h ev w hv hev
open Go.RowKit in
theorem Tryz.strconv_Atoi_range (s:ByteArray) (hlim:s.size≤281474976710656) (h:Lib.atoiAll s.data.toList = .range) (ev:Value) (w:World) (hv:w.cell? ⟨3,0,none⟩ = some ev) (hev:ev = .nilIface∨∃ te pe,ev = .iface te pe) :
  Calls Tryz.prog 184 #[.string s] w fun e w'=>∃ N,e = .returned (.tuple #[.int .i64 (Lib.atoiSat s.data.toList),.iface 285 (.pointer (some ⟨N,0,none⟩))])∧w.heap.size≤N∧w'.heap[N]? = some (.cells #[.string ⟨#[65,116,111,105]⟩,.string s,ev] 308 (0,0))∧Below w.heap.size w w':=Any.strconv_Atoi_range Tryz.laysC172 s hlim h ev w hv hev
def Tryz.lays138_ren:Go.Shelf.Ren:=⟨fun|138=>185|195=>217|218=>218|143=>212|219=>247|217=>199|225=>278|224=>279|267=>280|266=>236|314=>291|n=>n,fun|9=>9|3=>3|4=>4|5=>5|0=>0|46=>236|146=>319|51=>264|n=>n,fun|1=>0|n=>n⟩
theorem Tryz.lays138:Go.Proofs.Lays.n138 Tryz.prog Tryz.lays138_ren:={
 mixed:=by kernel_rfl
 f138:=Tryz.func185.trans (congrArg some (by kernel_rfl))
 f143:=Tryz.func212.trans (congrArg some (by kernel_rfl))
 f195:=Tryz.func217.trans (congrArg some (by kernel_rfl))
 f217:=Tryz.func199.trans (congrArg some (by kernel_rfl))
 f218:=Tryz.func218.trans (congrArg some (by kernel_rfl))
 f219:=Tryz.func247.trans (congrArg some (by kernel_rfl))
 f224:=Tryz.func279.trans (congrArg some (by kernel_rfl))
 f225:=Tryz.func278.trans (congrArg some (by kernel_rfl))
 f266:=Tryz.func236.trans (congrArg some (by kernel_rfl))
 f267:=Tryz.func280.trans (congrArg some (by kernel_rfl))
 f314:=Tryz.func291.trans (congrArg some (by kernel_rfl))
 t0:=Tryz.underlying0
 a0:=Tryz.isAgg0
 z0:=Tryz.sizeOf0
 v0:=Tryz.zeroValue0
 t3:=Tryz.underlying3
 a3:=Tryz.isAgg3
 z3:=Tryz.sizeOf3
 v3:=Tryz.zeroValue3
 t4:=Tryz.underlying4
 a4:=Tryz.isAgg4
 z4:=Tryz.sizeOf4
 v4:=Tryz.zeroValue4
 t5:=Tryz.underlying5
 a5:=Tryz.isAgg5
 z5:=Tryz.sizeOf5
 v5:=Tryz.zeroValue5
 t9:=Tryz.underlying9
 a9:=Tryz.isAgg9
 z9:=Tryz.sizeOf9
 v9:=Tryz.zeroValue9
 t46:=Tryz.underlying236
 a46:=Tryz.isAgg236
 z46:=Tryz.sizeOf236
 v46:=Tryz.zeroValue236
 t51:=Tryz.underlying264
 a51:=Tryz.isAgg264
 z51:=Tryz.sizeOf264
 v51:=Tryz.zeroValue264
 t146:=Tryz.underlying319
 a146:=Tryz.isAgg319
 z146:=Tryz.sizeOf319
 v146:=Tryz.zeroValue319
 g1:=by kernel_rfl }
open Go.RowKit Go.Lib in
theorem Tryz.strings_Count_one (s:ByteArray) (c:UInt8) (w:World) :
  Calls Tryz.prog 185 #[.string s,.string ⟨#[c]⟩] w fun e w'=>e = .returned (.int .i64 (Lib.countByte s.data.toList c))∧w' = w:=Any.strings_Count_one Tryz.lays138 s c w
def Tryz.lays189_ren:Go.Shelf.Ren:=⟨fun|189=>153|125=>191|257=>190|128=>231|129=>232|294=>222|295=>223|296=>224|297=>225|298=>226|299=>227|216=>228|300=>229|301=>230|328=>257|329=>258|330=>259|331=>260|332=>261|215=>262|343=>285|n=>n,fun|28=>22|3=>3|46=>236|0=>0|51=>264|53=>266|4=>4|183=>257|182=>256|131=>197|5=>5|9=>9|218=>289|222=>148|228=>311|229=>312|n=>n,fun|n=>n⟩
theorem Tryz.lays189:Go.Proofs.Lays.n189 Tryz.prog Tryz.lays189_ren:={
 mixed:=by kernel_rfl
 f125:=Tryz.func191.trans (congrArg some (by kernel_rfl))
 f128:=Tryz.func231.trans (congrArg some (by kernel_rfl))
 f129:=Tryz.func232.trans (congrArg some (by kernel_rfl))
 f189:=Tryz.func153.trans (congrArg some (by kernel_rfl))
 f215:=Tryz.func262.trans (congrArg some (by kernel_rfl))
 f216:=Tryz.func228.trans (congrArg some (by kernel_rfl))
 f257:=Tryz.func190.trans (congrArg some (by kernel_rfl))
 f294:=Tryz.func222.trans (congrArg some (by kernel_rfl))
 f295:=Tryz.func223.trans (congrArg some (by kernel_rfl))
 f296:=Tryz.func224.trans (congrArg some (by kernel_rfl))
 f297:=Tryz.func225.trans (congrArg some (by kernel_rfl))
 f298:=Tryz.func226.trans (congrArg some (by kernel_rfl))
 f299:=Tryz.func227.trans (congrArg some (by kernel_rfl))
 f300:=Tryz.func229.trans (congrArg some (by kernel_rfl))
 f301:=Tryz.func230.trans (congrArg some (by kernel_rfl))
 f328:=Tryz.func257.trans (congrArg some (by kernel_rfl))
 f329:=Tryz.func258.trans (congrArg some (by kernel_rfl))
 f330:=Tryz.func259.trans (congrArg some (by kernel_rfl))
 f331:=Tryz.func260.trans (congrArg some (by kernel_rfl))
 f332:=Tryz.func261.trans (congrArg some (by kernel_rfl))
 f343:=Tryz.func285.trans (congrArg some (by kernel_rfl))
 t0:=Tryz.underlying0
 a0:=Tryz.isAgg0
 z0:=Tryz.sizeOf0
 v0:=Tryz.zeroValue0
 t3:=Tryz.underlying3
 a3:=Tryz.isAgg3
 z3:=Tryz.sizeOf3
 v3:=Tryz.zeroValue3
 t4:=Tryz.underlying4
 a4:=Tryz.isAgg4
 z4:=Tryz.sizeOf4
 v4:=Tryz.zeroValue4
 t5:=Tryz.underlying5
 a5:=Tryz.isAgg5
 z5:=Tryz.sizeOf5
 v5:=Tryz.zeroValue5
 t9:=Tryz.underlying9
 a9:=Tryz.isAgg9
 z9:=Tryz.sizeOf9
 v9:=Tryz.zeroValue9
 t28:=Tryz.underlying22
 a28:=Tryz.isAgg22
 z28:=Tryz.sizeOf22
 v28:=Tryz.zeroValue22
 t46:=Tryz.underlying236
 a46:=Tryz.isAgg236
 z46:=Tryz.sizeOf236
 v46:=Tryz.zeroValue236
 t51:=Tryz.underlying264
 a51:=Tryz.isAgg264
 z51:=Tryz.sizeOf264
 v51:=Tryz.zeroValue264
 t53:=Tryz.underlying266
 a53:=Tryz.isAgg266
 z53:=Tryz.sizeOf266
 v53:=Tryz.zeroValue266
 t131:=Tryz.underlying197
 a131:=Tryz.isAgg197
 z131:=Tryz.sizeOf197
 v131:=Tryz.zeroValue197
 t182:=Tryz.underlying256
 a182:=Tryz.isAgg256
 z182:=Tryz.sizeOf256
 v182:=Tryz.zeroValue256
 t183:=Tryz.underlying257
 a183:=Tryz.isAgg257
 z183:=Tryz.sizeOf257
 v183:=Tryz.zeroValue257
 t218:=Tryz.underlying289
 a218:=Tryz.isAgg289
 z218:=Tryz.sizeOf289
 v218:=Tryz.zeroValue289
 t222:=Tryz.underlying148
 a222:=Tryz.isAgg148
 z222:=Tryz.sizeOf148
 v222:=Tryz.zeroValue148
 t228:=Tryz.underlying311
 a228:=Tryz.isAgg311
 z228:=Tryz.sizeOf311
 v228:=Tryz.zeroValue311
 t229:=Tryz.underlying312
 a229:=Tryz.isAgg312
 z229:=Tryz.sizeOf312
 v229:=Tryz.zeroValue312 }
def Tryz.lays146_ren:Go.Shelf.Ren:=⟨fun|146=>148|221=>181|268=>211|138=>185|143=>212|195=>217|197=>246|218=>218|219=>247|260=>277|217=>199|225=>278|224=>279|267=>280|266=>236|314=>291|n=>n,fun|9=>9|31=>34|3=>3|4=>4|0=>0|105=>280|21=>21|5=>5|46=>236|119=>315|139=>318|138=>317|146=>319|51=>264|n=>n,fun|1=>0|3=>4|4=>5|n=>n⟩
theorem Tryz.lays146:Go.Proofs.Lays.n146 Tryz.prog Tryz.lays146_ren:={
 mixed:=by kernel_rfl
 f138:=Tryz.func185.trans (congrArg some (by kernel_rfl))
 f143:=Tryz.func212.trans (congrArg some (by kernel_rfl))
 f146:=Tryz.func148.trans (congrArg some (by kernel_rfl))
 f195:=Tryz.func217.trans (congrArg some (by kernel_rfl))
 f197:=Tryz.func246.trans (congrArg some (by kernel_rfl))
 f217:=Tryz.func199.trans (congrArg some (by kernel_rfl))
 f218:=Tryz.func218.trans (congrArg some (by kernel_rfl))
 f219:=Tryz.func247.trans (congrArg some (by kernel_rfl))
 f221:=Tryz.func181.trans (congrArg some (by kernel_rfl))
 f224:=Tryz.func279.trans (congrArg some (by kernel_rfl))
 f225:=Tryz.func278.trans (congrArg some (by kernel_rfl))
 f260:=Tryz.func277.trans (congrArg some (by kernel_rfl))
 f266:=Tryz.func236.trans (congrArg some (by kernel_rfl))
 f267:=Tryz.func280.trans (congrArg some (by kernel_rfl))
 f268:=Tryz.func211.trans (congrArg some (by kernel_rfl))
 f314:=Tryz.func291.trans (congrArg some (by kernel_rfl))
 t0:=Tryz.underlying0
 a0:=Tryz.isAgg0
 z0:=Tryz.sizeOf0
 v0:=Tryz.zeroValue0
 t3:=Tryz.underlying3
 a3:=Tryz.isAgg3
 z3:=Tryz.sizeOf3
 v3:=Tryz.zeroValue3
 t4:=Tryz.underlying4
 a4:=Tryz.isAgg4
 z4:=Tryz.sizeOf4
 v4:=Tryz.zeroValue4
 t5:=Tryz.underlying5
 a5:=Tryz.isAgg5
 z5:=Tryz.sizeOf5
 v5:=Tryz.zeroValue5
 t9:=Tryz.underlying9
 a9:=Tryz.isAgg9
 z9:=Tryz.sizeOf9
 v9:=Tryz.zeroValue9
 t21:=Tryz.underlying21
 a21:=Tryz.isAgg21
 z21:=Tryz.sizeOf21
 v21:=Tryz.zeroValue21
 t31:=Tryz.underlying34
 a31:=Tryz.isAgg34
 z31:=Tryz.sizeOf34
 v31:=Tryz.zeroValue34
 t46:=Tryz.underlying236
 a46:=Tryz.isAgg236
 z46:=Tryz.sizeOf236
 v46:=Tryz.zeroValue236
 t51:=Tryz.underlying264
 a51:=Tryz.isAgg264
 z51:=Tryz.sizeOf264
 v51:=Tryz.zeroValue264
 t105:=Tryz.underlying280
 a105:=Tryz.isAgg280
 z105:=Tryz.sizeOf280
 v105:=Tryz.zeroValue280
 t119:=Tryz.underlying315
 a119:=Tryz.isAgg315
 z119:=Tryz.sizeOf315
 t138:=Tryz.underlying317
 a138:=Tryz.isAgg317
 z138:=Tryz.sizeOf317
 v138:=Tryz.zeroValue317
 t139:=Tryz.underlying318
 a139:=Tryz.isAgg318
 z139:=Tryz.sizeOf318
 v139:=Tryz.zeroValue318
 t146:=Tryz.underlying319
 a146:=Tryz.isAgg319
 z146:=Tryz.sizeOf319
 v146:=Tryz.zeroValue319
 g1:=by kernel_rfl
 g3:=by kernel_rfl
 g4:=by kernel_rfl }
open Go.RowKit Go.Lib in
theorem Tryz.strings_Split (s sep:ByteArray) (m:Int) (w:World) (hs:s.size < 4294967281) (hm:w.cell? ⟨0,0,none⟩ = some (.int .i64 m)) (h1:1≤sep.size) :
  Calls Tryz.prog 148 #[.string s,.string sep] w fun e w' =>
   e = .returned (.slice (some ⟨w.heap.size,0,none⟩) (Lib.countB s sep + 1) (Lib.countB s sep + 1))∧w' = w.alloc (.cells ((Lib.splitB sep 0 (Lib.countB s sep) s).map Value.string).toArray 9):=Any.strings_Split Tryz.lays146 (by kernel_rfl) s sep m w hs hm h1
def Tryz.laysM146_ren:Go.Shelf.Ren:=⟨fun|146=>148|221=>181|268=>211|138=>185|143=>212|195=>217|197=>246|218=>218|219=>247|260=>277|217=>199|225=>278|224=>279|267=>280|266=>236|314=>291|n=>n,fun|9=>9|31=>34|3=>3|4=>4|0=>0|105=>280|21=>21|5=>5|46=>236|119=>315|139=>318|138=>317|146=>319|51=>264|n=>n,fun|1=>0|3=>4|4=>5|n=>n⟩
theorem Tryz.laysM146:Go.Proofs.LaysM.n146 Tryz.prog Tryz.laysM146_ren:={
 mixed:=by kernel_rfl
 f138:=Tryz.func185.trans (congrArg some (by kernel_rfl))
 f143:=Tryz.func212.trans (congrArg some (by kernel_rfl))
 f146:=Tryz.func148.trans (congrArg some (by kernel_rfl))
 f195:=Tryz.func217.trans (congrArg some (by kernel_rfl))
 f197:=Tryz.func246.trans (congrArg some (by kernel_rfl))
 f217:=Tryz.func199.trans (congrArg some (by kernel_rfl))
 f218:=Tryz.func218.trans (congrArg some (by kernel_rfl))
 f219:=Tryz.func247.trans (congrArg some (by kernel_rfl))
 f221:=Tryz.func181.trans (congrArg some (by kernel_rfl))
 f224:=Tryz.func279.trans (congrArg some (by kernel_rfl))
 f225:=Tryz.func278.trans (congrArg some (by kernel_rfl))
 f260:=Tryz.func277.trans (congrArg some (by kernel_rfl))
 f266:=Tryz.func236.trans (congrArg some (by kernel_rfl))
 f267:=Tryz.func280.trans (congrArg some (by kernel_rfl))
 f268:=Tryz.func211.trans (congrArg some (by kernel_rfl))
 f314:=Tryz.func291.trans (congrArg some (by kernel_rfl))
 t0:=Tryz.underlying0
 a0:=Tryz.isAgg0
 z0:=Tryz.sizeOf0
 v0:=Tryz.zeroValue0
 t3:=Tryz.underlying3
 a3:=Tryz.isAgg3
 z3:=Tryz.sizeOf3
 v3:=Tryz.zeroValue3
 t4:=Tryz.underlying4
 a4:=Tryz.isAgg4
 z4:=Tryz.sizeOf4
 v4:=Tryz.zeroValue4
 t5:=Tryz.underlying5
 a5:=Tryz.isAgg5
 z5:=Tryz.sizeOf5
 v5:=Tryz.zeroValue5
 t9:=Tryz.underlying9
 a9:=Tryz.isAgg9
 z9:=Tryz.sizeOf9
 v9:=Tryz.zeroValue9
 t21:=Tryz.underlying21
 a21:=Tryz.isAgg21
 z21:=Tryz.sizeOf21
 v21:=Tryz.zeroValue21
 t31:=Tryz.underlying34
 a31:=Tryz.isAgg34
 z31:=Tryz.sizeOf34
 v31:=Tryz.zeroValue34
 t46:=Tryz.underlying236
 a46:=Tryz.isAgg236
 z46:=Tryz.sizeOf236
 v46:=Tryz.zeroValue236
 t51:=Tryz.underlying264
 a51:=Tryz.isAgg264
 z51:=Tryz.sizeOf264
 v51:=Tryz.zeroValue264
 t105:=Tryz.underlying280
 a105:=Tryz.isAgg280
 z105:=Tryz.sizeOf280
 v105:=Tryz.zeroValue280
 t119:=Tryz.underlying315
 a119:=Tryz.isAgg315
 z119:=Tryz.sizeOf315
 t138:=Tryz.underlying317
 a138:=Tryz.isAgg317
 z138:=Tryz.sizeOf317
 v138:=Tryz.zeroValue317
 t139:=Tryz.underlying318
 a139:=Tryz.isAgg318
 z139:=Tryz.sizeOf318
 v139:=Tryz.zeroValue318
 t146:=Tryz.underlying319
 a146:=Tryz.isAgg319
 z146:=Tryz.sizeOf319
 v146:=Tryz.zeroValue319
 g1:=by kernel_rfl
 g3:=by kernel_rfl
 g4:=by kernel_rfl
 i0:=by kernel_rfl
 i3:=by kernel_rfl
 i4:=by kernel_rfl
 i5:=by kernel_rfl
 i9:=by kernel_rfl
 i21:=by kernel_rfl
 i31:=by kernel_rfl
 i46:=by kernel_rfl
 i51:=by kernel_rfl
 i105:=by kernel_rfl
 i138:=by kernel_rfl
 i139:=by kernel_rfl
 i146:=by kernel_rfl
 m1:=by kernel_rfl
 s1_3:=fun w h=>Go.Proofs.cell_of_shapedOpen_int (zero:=#[.int .i64 0]) (t:=3) h (of_decide_eq_true (by kernel_rfl)) (by kernel_rfl) rfl (by kernel_rfl) (by kernel_rfl) Tryz.underlying3
 m3:=by kernel_rfl
 m4:=by kernel_rfl }
def Tryz.lays229_ren:Go.Shelf.Ren:=⟨fun|229=>109|n=>n,fun|9=>9|40=>156|31=>34|152=>201|3=>3|0=>0|4=>4|21=>21|154=>203|n=>n,fun|n=>n⟩
theorem Tryz.lays229:Go.Proofs.Lays.n229 Tryz.prog Tryz.lays229_ren:={
 mixed:=by kernel_rfl
 f229:=Tryz.func109.trans (congrArg some (by kernel_rfl))
 t0:=Tryz.underlying0
 a0:=Tryz.isAgg0
 z0:=Tryz.sizeOf0
 v0:=Tryz.zeroValue0
 t3:=Tryz.underlying3
 a3:=Tryz.isAgg3
 z3:=Tryz.sizeOf3
 v3:=Tryz.zeroValue3
 t4:=Tryz.underlying4
 a4:=Tryz.isAgg4
 z4:=Tryz.sizeOf4
 v4:=Tryz.zeroValue4
 t9:=Tryz.underlying9
 a9:=Tryz.isAgg9
 z9:=Tryz.sizeOf9
 v9:=Tryz.zeroValue9
 t21:=Tryz.underlying21
 a21:=Tryz.isAgg21
 z21:=Tryz.sizeOf21
 v21:=Tryz.zeroValue21
 t31:=Tryz.underlying34
 a31:=Tryz.isAgg34
 z31:=Tryz.sizeOf34
 v31:=Tryz.zeroValue34
 t40:=Tryz.underlying156
 a40:=Tryz.isAgg156
 z40:=Tryz.sizeOf156
 v40:=Tryz.zeroValue156
 t152:=Tryz.underlying201
 a152:=Tryz.isAgg201
 z152:=Tryz.sizeOf201
 v152:=Tryz.zeroValue201
 t154:=Tryz.underlying203
 a154:=Tryz.isAgg203
 z154:=Tryz.sizeOf203
 v154:=Tryz.zeroValue203 }
end Go.Proofs
end

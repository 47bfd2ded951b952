/- The contracts of the library functions that the law reaches, laid at this seat. -/
import Derived.Shelf.Strings.Trim
import Derived.Shelf.Small.Utf8
import Derived.Shelf.Small.Bits
import Derived.Shelf.Small.Strs
import Derived.Shelf.Small.Wraps
import Derived.Shelf.Utf8.RuneCount
import Derived.Shelf.Strconv.Atoi
import Derived.Shelf.Strconv.Itoa0
import Derived.Shelf.Strconv.Itoa1
import Derived.Shelf.LaysM
import Derived.Shelf.Strconv.Itoa2
import Derived.Shelf.Strconv.Itoa3
import Derived.Shelf.Strconv.AtoiErrFast
import Derived.Shelf.Strconv.ParseIntEmpty
import Derived.Shelf.Strconv.AtoiFail
import Derived.Shelf.Strconv.Clone
import Derived.Shelf.Strconv.SyntaxError
import Derived.Shelf.LaysC
import Derived.Shelf.Strconv.ToError
import Derived.Shelf.Strconv.Lower
import Derived.Shelf.Strconv.ParseUint10
import Derived.Shelf.Strconv.ParseUint10Empty
import Derived.Shelf.Strconv.ParseUint10Any
import Derived.Shelf.Strconv.ParseInt10
import Derived.Shelf.Strconv.AtoiLong
import Derived.Shelf.Strconv.AtoiInnerAll
import Derived.Shelf.Strconv.RangeError
import Derived.Shelf.Strconv.ToErrorRange
import Derived.Shelf.Strconv.AtoiAll
import Derived.Shelf.Strconv.ErrVarAll
import Derived.Shelf.Strconv.ParseUintEmpty
import Derived.Shelf.Strconv.ParseUint10b64
import Derived.Shelf.Strconv.ParseUint10b32
import Derived.Shelf.Strconv.ParseUint10b16
import Derived.Shelf.Strconv.ParseUint10b8
import Derived.Shelf.Strconv.ParseUint10At
import Derived.Shelf.Strings.Search1
import Derived.Shelf.Strings.Search2
import Derived.Shelf.Strings.Search3
import Derived.Shelf.Strings.Cut
import Derived.Shelf.Strings.Count
import Derived.Shelf.Strings.Shaped
import Derived.Shelf.Sort.Plain
import Derived.Shelf.Strings.Prefix
import Derived.Shelf.Strings.Split
import Derived.Shelf.Strings.SplitShaped
import Derived.Shelf.Unicode.Decode
import Derived.Shelf.Strings.Runes
import Derived.Shelf.Strings.RuneCount
import Derived.Shelf.Strings.AsciiSet
import Derived.Shelf.Strings.Explode
import Derived.Shelf.Unicode.DecodeSlow
import Derived.Shelf.Unicode.DecodeAny
import Derived.Shelf.Unicode.DecodeLast
import Derived.Shelf.Slices.Turned
import Derived.Shelf.Slices.Reverse
import Derived.Ground.Names2Prog
import Derived.Shelf.Slices.ReverseS
import Derived.Shelf.Slices.Clone
import Derived.Shelf.Slices.CompactI
import Derived.Shelf.Slices.SearchI
import Derived.Shelf.Slices.Cells
import Derived.Shelf.Slices.In.SortNone
import Derived.Shelf.Slices.Empties
import Derived.Ground.SlgnProg
import Derived.Shelf.SlicesE.Reverse
import Derived.Shelf.SlicesE.Clone
import Derived.Ground.SlsfProg
import Derived.Shelf.SlSortCmp.Insertion
import Derived.Shelf.SlSortCmp.Insertion1
import Derived.Shelf.SlSortCmp.NoneTotal
import Derived.Shelf.Spec.SlicesInsertGrow
import Derived.Shelf.Spec.SlicesGrow
import Derived.Ground.Names8Prog
import Derived.Ground.NamesProg
import Derived.Shelf.Strings.SlTrimAscii
import Derived.Test.YtjobognfgjobfaaGreatDoorProg
set_option linter.unusedVariables false
set_option linter.unusedSimpArgs false
section
namespace Go.Proofs
open Go.Shelf
def Tryz.lays106_ren:Go.Shelf.Ren:=⟨fun|106=>149|213=>215|265=>270|n=>n,fun|9=>9|3=>3|n=>n,fun|n=>n⟩
theorem Tryz.lays106:Go.Proofs.Lays.n106 Tryz.prog Tryz.lays106_ren:={
 mixed:=by kernel_rfl
 f106:=Tryz.func149.trans (congrArg some (by kernel_rfl))
 f213:=Tryz.func215.trans (congrArg some (by kernel_rfl))
 f265:=Tryz.func270.trans (congrArg some (by kernel_rfl))
 t3:=Tryz.underlying3
 a3:=Tryz.isAgg3
 z3:=Tryz.sizeOf3
 v3:=Tryz.zeroValue3
 t9:=Tryz.underlying9
 a9:=Tryz.isAgg9
 z9:=Tryz.sizeOf9
 v9:=Tryz.zeroValue9 }
def Tryz.lays137_ren:Go.Shelf.Ren:=⟨fun|137=>227|217=>243|266=>292|n=>n,fun|9=>9|5=>5|3=>3|n=>n,fun|n=>n⟩
theorem Tryz.lays137:Go.Proofs.Lays.n137 Tryz.prog Tryz.lays137_ren:={
 mixed:=by kernel_rfl
 f137:=Tryz.func227.trans (congrArg some (by kernel_rfl))
 f217:=Tryz.func243.trans (congrArg some (by kernel_rfl))
 f266:=Tryz.func292.trans (congrArg some (by kernel_rfl))
 t3:=Tryz.underlying3
 a3:=Tryz.isAgg3
 z3:=Tryz.sizeOf3
 v3:=Tryz.zeroValue3
 t5:=Tryz.underlying5
 a5:=Tryz.isAgg5
 z5:=Tryz.sizeOf5
 v5:=Tryz.zeroValue5
 t9:=Tryz.underlying9
 a9:=Tryz.isAgg9
 z9:=Tryz.sizeOf9
 v9:=Tryz.zeroValue9 }
open Go.RowKit in
theorem Tryz.strings_IndexByte (s:ByteArray) (c:Int) (w:World) :
  Calls Tryz.prog 227 #[.string s,.int .u8 c] w fun e w'=>e = .returned (.int .i64 (Lib.indexByte s.data.toList c.toNat.toUInt8))∧w' = w:=Any.strings_IndexByte Tryz.lays137 s c w
def Tryz.laysM171_ren:Go.Shelf.Ren:=⟨fun|171=>235|243=>280|246=>311|283=>323|284=>324|285=>325|286=>326|129=>213|317=>331|318=>332|319=>333|320=>334|337=>337|338=>338|n=>n,fun|3=>3|9=>9|2=>2|4=>4|171=>371|0=>0|53=>282|37=>231|5=>5|173=>373|212=>383|51=>280|20=>20|213=>384|46=>215|232=>387|233=>388|n=>n,fun|17=>5|18=>6|19=>7|n=>n⟩
theorem Tryz.laysM171:Go.Proofs.LaysM.n171 Tryz.prog Tryz.laysM171_ren:={
 mixed:=by kernel_rfl
 f129:=Tryz.func213.trans (congrArg some (by kernel_rfl))
 f171:=Tryz.func235.trans (congrArg some (by kernel_rfl))
 f243:=Tryz.func280.trans (congrArg some (by kernel_rfl))
 f246:=Tryz.func311.trans (congrArg some (by kernel_rfl))
 f283:=Tryz.func323.trans (congrArg some (by kernel_rfl))
 f284:=Tryz.func324.trans (congrArg some (by kernel_rfl))
 f285:=Tryz.func325.trans (congrArg some (by kernel_rfl))
 f286:=Tryz.func326.trans (congrArg some (by kernel_rfl))
 f317:=Tryz.func331.trans (congrArg some (by kernel_rfl))
 f318:=Tryz.func332.trans (congrArg some (by kernel_rfl))
 f319:=Tryz.func333.trans (congrArg some (by kernel_rfl))
 f320:=Tryz.func334.trans (congrArg some (by kernel_rfl))
 f337:=Tryz.func337.trans (congrArg some (by kernel_rfl))
 f338:=Tryz.func338.trans (congrArg some (by kernel_rfl))
 t0:=Tryz.underlying0
 a0:=Tryz.isAgg0
 z0:=Tryz.sizeOf0
 v0:=Tryz.zeroValue0
 t2:=Tryz.underlying2
 a2:=Tryz.isAgg2
 z2:=Tryz.sizeOf2
 v2:=Tryz.zeroValue2
 t3:=Tryz.underlying3
 a3:=Tryz.isAgg3
 z3:=Tryz.sizeOf3
 v3:=Tryz.zeroValue3
 t4:=Tryz.underlying4
 a4:=Tryz.isAgg4
 z4:=Tryz.sizeOf4
 v4:=Tryz.zeroValue4
 t5:=Tryz.underlying5
 a5:=Tryz.isAgg5
 z5:=Tryz.sizeOf5
 v5:=Tryz.zeroValue5
 t9:=Tryz.underlying9
 a9:=Tryz.isAgg9
 z9:=Tryz.sizeOf9
 v9:=Tryz.zeroValue9
 t20:=Tryz.underlying20
 a20:=Tryz.isAgg20
 z20:=Tryz.sizeOf20
 v20:=Tryz.zeroValue20
 t37:=Tryz.underlying231
 a37:=Tryz.isAgg231
 z37:=Tryz.sizeOf231
 v37:=Tryz.zeroValue231
 t46:=Tryz.underlying215
 a46:=Tryz.isAgg215
 z46:=Tryz.sizeOf215
 v46:=Tryz.zeroValue215
 t51:=Tryz.underlying280
 a51:=Tryz.isAgg280
 z51:=Tryz.sizeOf280
 v51:=Tryz.zeroValue280
 t53:=Tryz.underlying282
 a53:=Tryz.isAgg282
 z53:=Tryz.sizeOf282
 v53:=Tryz.zeroValue282
 t171:=Tryz.underlying371
 a171:=Tryz.isAgg371
 z171:=Tryz.sizeOf371
 v171:=Tryz.zeroValue371
 t173:=Tryz.underlying373
 a173:=Tryz.isAgg373
 z173:=Tryz.sizeOf373
 v173:=Tryz.zeroValue373
 t212:=Tryz.underlying383
 a212:=Tryz.isAgg383
 z212:=Tryz.sizeOf383
 v212:=Tryz.zeroValue383
 t213:=Tryz.underlying384
 a213:=Tryz.isAgg384
 z213:=Tryz.sizeOf384
 t232:=Tryz.underlying387
 a232:=Tryz.isAgg387
 z232:=Tryz.sizeOf387
 v232:=Tryz.zeroValue387
 t233:=Tryz.underlying388
 a233:=Tryz.isAgg388
 z233:=Tryz.sizeOf388
 v233:=Tryz.zeroValue388
 g17:=by kernel_rfl
 g18:=by kernel_rfl
 g19:=by kernel_rfl
 i0:=by kernel_rfl
 i2:=by kernel_rfl
 i3:=by kernel_rfl
 i4:=by kernel_rfl
 i5:=by kernel_rfl
 i9:=by kernel_rfl
 i20:=by kernel_rfl
 i37:=by kernel_rfl
 i46:=by kernel_rfl
 i51:=by kernel_rfl
 i53:=by kernel_rfl
 i171:=by kernel_rfl
 i173:=by kernel_rfl
 i212:=by kernel_rfl
 i232:=by kernel_rfl
 i233:=by kernel_rfl
 m17:=by kernel_rfl
 m18:=by kernel_rfl
 m19:=by kernel_rfl }
open Go.RowKit Go.Sort Go.Lib in
theorem Tryz.strconv_Itoa (n:Int) (h0:-9223372036854775808≤n) (h1:n≤9223372036854775807) (w:World) (htab:Lib.TabIs Tryz.prog w "internal/strconv.uint64pow10" .u64 Lib.pow10Tab) :
  Calls Tryz.prog 235 #[.int .i64 n] w fun e w'=>e = .returned (.string ⟨(Lib.itoa n).toArray⟩)∧∃ k os,w' = grow (w.drewN k) os:=Any.strconv_Itoa Tryz.laysM171 n h0 h1 w htab
def Tryz.laysC172_ren:Go.Shelf.Ren:=⟨fun|172=>234|244=>278|245=>279|247=>306|279=>307|280=>308|281=>309|282=>310|287=>320|316=>321|171=>235|205=>322|321=>329|322=>330|243=>280|246=>311|283=>323|284=>324|285=>325|286=>326|129=>213|317=>331|318=>332|319=>333|320=>334|337=>337|338=>338|n=>n,fun|9=>9|3=>3|75=>294|76=>295|4=>4|5=>5|167=>350|37=>231|0=>0|85=>351|2=>2|168=>353|53=>282|175=>366|46=>215|210=>369|127=>378|145=>381|143=>379|21=>21|171=>371|173=>373|212=>383|51=>280|20=>20|213=>384|232=>387|233=>388|80=>258|n=>n,fun|15=>3|16=>4|17=>5|18=>6|19=>7|n=>n⟩
theorem Tryz.laysC172:Go.Proofs.LaysC.n172 Tryz.prog Tryz.laysC172_ren:={
 mixed:=by kernel_rfl
 f129:=Tryz.func213.trans (congrArg some (by kernel_rfl))
 f171:=Tryz.func235.trans (congrArg some (by kernel_rfl))
 f172:=Tryz.func234.trans (congrArg some (by kernel_rfl))
 f205:=Tryz.func322.trans (congrArg some (by kernel_rfl))
 f243:=Tryz.func280.trans (congrArg some (by kernel_rfl))
 f244:=Tryz.func278.trans (congrArg some (by kernel_rfl))
 f245:=Tryz.func279.trans (congrArg some (by kernel_rfl))
 f246:=Tryz.func311.trans (congrArg some (by kernel_rfl))
 f247:=Tryz.func306.trans (congrArg some (by kernel_rfl))
 f279:=Tryz.func307.trans (congrArg some (by kernel_rfl))
 f280:=Tryz.func308.trans (congrArg some (by kernel_rfl))
 f281:=Tryz.func309.trans (congrArg some (by kernel_rfl))
 f282:=Tryz.func310.trans (congrArg some (by kernel_rfl))
 f283:=Tryz.func323.trans (congrArg some (by kernel_rfl))
 f284:=Tryz.func324.trans (congrArg some (by kernel_rfl))
 f285:=Tryz.func325.trans (congrArg some (by kernel_rfl))
 f286:=Tryz.func326.trans (congrArg some (by kernel_rfl))
 f287:=Tryz.func320.trans (congrArg some (by kernel_rfl))
 f316:=Tryz.func321.trans (congrArg some (by kernel_rfl))
 f317:=Tryz.func331.trans (congrArg some (by kernel_rfl))
 f318:=Tryz.func332.trans (congrArg some (by kernel_rfl))
 f319:=Tryz.func333.trans (congrArg some (by kernel_rfl))
 f320:=Tryz.func334.trans (congrArg some (by kernel_rfl))
 f321:=Tryz.func329.trans (congrArg some (by kernel_rfl))
 f322:=Tryz.func330.trans (congrArg some (by kernel_rfl))
 f337:=Tryz.func337.trans (congrArg some (by kernel_rfl))
 f338:=Tryz.func338.trans (congrArg some (by kernel_rfl))
 t0:=Tryz.underlying0
 a0:=Tryz.isAgg0
 z0:=Tryz.sizeOf0
 v0:=Tryz.zeroValue0
 t2:=Tryz.underlying2
 a2:=Tryz.isAgg2
 z2:=Tryz.sizeOf2
 v2:=Tryz.zeroValue2
 t3:=Tryz.underlying3
 a3:=Tryz.isAgg3
 z3:=Tryz.sizeOf3
 v3:=Tryz.zeroValue3
 t4:=Tryz.underlying4
 a4:=Tryz.isAgg4
 z4:=Tryz.sizeOf4
 v4:=Tryz.zeroValue4
 t5:=Tryz.underlying5
 a5:=Tryz.isAgg5
 z5:=Tryz.sizeOf5
 v5:=Tryz.zeroValue5
 t9:=Tryz.underlying9
 a9:=Tryz.isAgg9
 z9:=Tryz.sizeOf9
 v9:=Tryz.zeroValue9
 t20:=Tryz.underlying20
 a20:=Tryz.isAgg20
 z20:=Tryz.sizeOf20
 v20:=Tryz.zeroValue20
 t21:=Tryz.underlying21
 a21:=Tryz.isAgg21
 z21:=Tryz.sizeOf21
 v21:=Tryz.zeroValue21
 t37:=Tryz.underlying231
 a37:=Tryz.isAgg231
 z37:=Tryz.sizeOf231
 v37:=Tryz.zeroValue231
 t46:=Tryz.underlying215
 a46:=Tryz.isAgg215
 z46:=Tryz.sizeOf215
 v46:=Tryz.zeroValue215
 t51:=Tryz.underlying280
 a51:=Tryz.isAgg280
 z51:=Tryz.sizeOf280
 v51:=Tryz.zeroValue280
 t53:=Tryz.underlying282
 a53:=Tryz.isAgg282
 z53:=Tryz.sizeOf282
 v53:=Tryz.zeroValue282
 t75:=Tryz.underlying294
 a75:=Tryz.isAgg294
 z75:=Tryz.sizeOf294
 v75:=Tryz.zeroValue294
 t76:=Tryz.underlying295
 a76:=Tryz.isAgg295
 z76:=Tryz.sizeOf295
 v76:=Tryz.zeroValue295
 t85:=Tryz.underlying351
 a85:=Tryz.isAgg351
 z85:=Tryz.sizeOf351
 v85:=Tryz.zeroValue351
 t127:=Tryz.underlying378
 a127:=Tryz.isAgg378
 z127:=Tryz.sizeOf378
 v127:=Tryz.zeroValue378
 t143:=Tryz.underlying379
 a143:=Tryz.isAgg379
 z143:=Tryz.sizeOf379
 v143:=Tryz.zeroValue379
 t145:=Tryz.underlying381
 a145:=Tryz.isAgg381
 z145:=Tryz.sizeOf381
 v145:=Tryz.zeroValue381
 t167:=Tryz.underlying350
 a167:=Tryz.isAgg350
 z167:=Tryz.sizeOf350
 v167:=Tryz.zeroValue350
 t168:=Tryz.underlying353
 a168:=Tryz.isAgg353
 z168:=Tryz.sizeOf353
 v168:=Tryz.zeroValue353
 t171:=Tryz.underlying371
 a171:=Tryz.isAgg371
 z171:=Tryz.sizeOf371
 v171:=Tryz.zeroValue371
 t173:=Tryz.underlying373
 a173:=Tryz.isAgg373
 z173:=Tryz.sizeOf373
 v173:=Tryz.zeroValue373
 t175:=Tryz.underlying366
 a175:=Tryz.isAgg366
 z175:=Tryz.sizeOf366
 v175:=Tryz.zeroValue366
 t210:=Tryz.underlying369
 a210:=Tryz.isAgg369
 z210:=Tryz.sizeOf369
 v210:=Tryz.zeroValue369
 t212:=Tryz.underlying383
 a212:=Tryz.isAgg383
 z212:=Tryz.sizeOf383
 v212:=Tryz.zeroValue383
 t213:=Tryz.underlying384
 a213:=Tryz.isAgg384
 z213:=Tryz.sizeOf384
 t232:=Tryz.underlying387
 a232:=Tryz.isAgg387
 z232:=Tryz.sizeOf387
 v232:=Tryz.zeroValue387
 t233:=Tryz.underlying388
 a233:=Tryz.isAgg388
 z233:=Tryz.sizeOf388
 v233:=Tryz.zeroValue388
 g15:=by kernel_rfl
 g16:=by kernel_rfl
 g17:=by kernel_rfl
 g18:=by kernel_rfl
 g19:=by kernel_rfl
 t80:=Tryz.underlying258
 a80:=Tryz.isAgg258
 z80:=Tryz.sizeOf258
 v80:=Tryz.zeroValue258
 i0:=by kernel_rfl
 i2:=by kernel_rfl
 i3:=by kernel_rfl
 i4:=by kernel_rfl
 i5:=by kernel_rfl
 i9:=by kernel_rfl
 i20:=by kernel_rfl
 i21:=by kernel_rfl
 i37:=by kernel_rfl
 i46:=by kernel_rfl
 i51:=by kernel_rfl
 i53:=by kernel_rfl
 i75:=by kernel_rfl
 i76:=by kernel_rfl
 i80:=by kernel_rfl
 i85:=by kernel_rfl
 i127:=by kernel_rfl
 i143:=by kernel_rfl
 i145:=by kernel_rfl
 i167:=by kernel_rfl
 i168:=by kernel_rfl
 i171:=by kernel_rfl
 i173:=by kernel_rfl
 i175:=by kernel_rfl
 i210:=by kernel_rfl
 i212:=by kernel_rfl
 i232:=by kernel_rfl
 i233:=by kernel_rfl
 m15:=by kernel_rfl
 m16:=by kernel_rfl
 m17:=by kernel_rfl
 m18:=by kernel_rfl
 m19:=by kernel_rfl
 c0:=by kernel_rfl
 c2:=by kernel_rfl
 c3:=by kernel_rfl
 c4:=by kernel_rfl
 c5:=by kernel_rfl
 c9:=by kernel_rfl
 c20:=by kernel_rfl
 c21:=by kernel_rfl
 c37:=by kernel_rfl
 c46:=by kernel_rfl
 c51:=by kernel_rfl
 c53:=by kernel_rfl
 c75:=by kernel_rfl
 c76:=by kernel_rfl
 c80:=by kernel_rfl
 c85:=by kernel_rfl
 c127:=by kernel_rfl
 c143:=by kernel_rfl
 c145:=by kernel_rfl
 c167:=by kernel_rfl
 c168:=by kernel_rfl
 c171:=by kernel_rfl
 c173:=by kernel_rfl
 c175:=by kernel_rfl
 c210:=by kernel_rfl
 c212:=by kernel_rfl
 c213:=by kernel_rfl
 c232:=by kernel_rfl
 c233:=by kernel_rfl }
open Go.RowKit in
theorem Tryz.strconv_Atoi_ok (s:ByteArray) (hmax:s.size≤9223372036854775806) (v:Int) (h:Lib.atoiAll s.data.toList = .ok v) (w:World) :
  Calls Tryz.prog 234 #[.string s] w fun e w'=>e = .returned (.tuple #[.int .i64 v,.nilIface])∧(w' = w∨∃ t,w' = Lib.bytesWorld w 5 t):=Any.strconv_Atoi_ok Tryz.laysC172 s hmax v h w
open Go.RowKit in
theorem Tryz.strconv_Atoi_syntax (s:ByteArray) (hlim:s.size≤281474976710656) (h:Lib.atoiAll s.data.toList = Lib.NumEnd.syntax) (ev:Value) (w:World) (hv:w.cell? ⟨3,0,none⟩ = some ev) (hev:ev = .nilIface∨∃ te pe,ev = .iface te pe) :
  Calls Tryz.prog 234 #[.string s] w fun e w'=>∃ N,e = .returned (.tuple #[.int .i64 (0),.iface 353 (.pointer (some ⟨N,0,none⟩))])∧w.heap.size≤N∧w'.heap[N]? = some (.cells #[.string ⟨#[65,116,111,105]⟩,.string s,ev] 369 (0,0))∧Below w.heap.size w w':=Any.strconv_Atoi_syntax Tryz.laysC172 s hlim h ev w hv hev
open Go.RowKit in
theorem Tryz.strconv_Atoi_range (s:ByteArray) (hlim:s.size≤281474976710656) (h:Lib.atoiAll s.data.toList = .range) (ev:Value) (w:World) (hv:w.cell? ⟨4,0,none⟩ = some ev) (hev:ev = .nilIface∨∃ te pe,ev = .iface te pe) :
  Calls Tryz.prog 234 #[.string s] w fun e w'=>∃ N,e = .returned (.tuple #[.int .i64 (Lib.atoiSat s.data.toList),.iface 353 (.pointer (some ⟨N,0,none⟩))])∧w.heap.size≤N∧w'.heap[N]? = some (.cells #[.string ⟨#[65,116,111,105]⟩,.string s,ev] 369 (0,0))∧Below w.heap.size w w':=Any.strconv_Atoi_range Tryz.laysC172 s hlim h ev w hv hev
def Tryz.lays145_ren:Go.Shelf.Ren:=⟨fun|145=>88|220=>171|219=>185|217=>243|225=>244|224=>245|267=>246|266=>292|314=>293|n=>n,fun|9=>9|4=>4|59=>163|3=>3|5=>5|46=>215|146=>338|51=>280|n=>n,fun|1=>0|n=>n⟩
theorem Tryz.lays145:Go.Proofs.Lays.n145 Tryz.prog Tryz.lays145_ren:={
 mixed:=by kernel_rfl
 f145:=Tryz.func88.trans (congrArg some (by kernel_rfl))
 f217:=Tryz.func243.trans (congrArg some (by kernel_rfl))
 f219:=Tryz.func185.trans (congrArg some (by kernel_rfl))
 f220:=Tryz.func171.trans (congrArg some (by kernel_rfl))
 f224:=Tryz.func245.trans (congrArg some (by kernel_rfl))
 f225:=Tryz.func244.trans (congrArg some (by kernel_rfl))
 f266:=Tryz.func292.trans (congrArg some (by kernel_rfl))
 f267:=Tryz.func246.trans (congrArg some (by kernel_rfl))
 f314:=Tryz.func293.trans (congrArg some (by kernel_rfl))
 t3:=Tryz.underlying3
 a3:=Tryz.isAgg3
 z3:=Tryz.sizeOf3
 v3:=Tryz.zeroValue3
 t4:=Tryz.underlying4
 a4:=Tryz.isAgg4
 z4:=Tryz.sizeOf4
 v4:=Tryz.zeroValue4
 t5:=Tryz.underlying5
 a5:=Tryz.isAgg5
 z5:=Tryz.sizeOf5
 v5:=Tryz.zeroValue5
 t9:=Tryz.underlying9
 a9:=Tryz.isAgg9
 z9:=Tryz.sizeOf9
 v9:=Tryz.zeroValue9
 t46:=Tryz.underlying215
 a46:=Tryz.isAgg215
 z46:=Tryz.sizeOf215
 v46:=Tryz.zeroValue215
 t51:=Tryz.underlying280
 a51:=Tryz.isAgg280
 z51:=Tryz.sizeOf280
 v51:=Tryz.zeroValue280
 t59:=Tryz.underlying163
 a59:=Tryz.isAgg163
 z59:=Tryz.sizeOf163
 v59:=Tryz.zeroValue163
 t146:=Tryz.underlying338
 a146:=Tryz.isAgg338
 z146:=Tryz.sizeOf338
 v146:=Tryz.zeroValue338
 g1:=by kernel_rfl }
open Go.RowKit Go.Lib in
theorem Tryz.strings_Cut (s sep:ByteArray) (m:Int) (w:World) (hs:s.size < 4294967281) (hm:w.cell? ⟨0,0,none⟩ = some (.int .i64 m)) :
  Calls Tryz.prog 88 #[.string s,.string sep] w fun e w'=>e = .returned (.tuple #[.string ⟨(Lib.cut s.data.toList sep.data.toList).1.toArray⟩,.string ⟨(Lib.cut s.data.toList sep.data.toList).2.1.toArray⟩,.bool (Lib.cut s.data.toList sep.data.toList).2.2])∧∃ n,w' = w.drewN n:=Any.strings_Cut Tryz.lays145 s sep m w hs hm
def Tryz.lays138_ren:Go.Shelf.Ren:=⟨fun|138=>51|195=>112|218=>113|143=>114|219=>185|217=>243|225=>244|224=>245|267=>246|266=>292|314=>293|n=>n,fun|9=>9|3=>3|4=>4|5=>5|0=>0|46=>215|146=>338|51=>280|n=>n,fun|1=>0|n=>n⟩
theorem Tryz.lays138:Go.Proofs.Lays.n138 Tryz.prog Tryz.lays138_ren:={
 mixed:=by kernel_rfl
 f138:=Tryz.func51.trans (congrArg some (by kernel_rfl))
 f143:=Tryz.func114.trans (congrArg some (by kernel_rfl))
 f195:=Tryz.func112.trans (congrArg some (by kernel_rfl))
 f217:=Tryz.func243.trans (congrArg some (by kernel_rfl))
 f218:=Tryz.func113.trans (congrArg some (by kernel_rfl))
 f219:=Tryz.func185.trans (congrArg some (by kernel_rfl))
 f224:=Tryz.func245.trans (congrArg some (by kernel_rfl))
 f225:=Tryz.func244.trans (congrArg some (by kernel_rfl))
 f266:=Tryz.func292.trans (congrArg some (by kernel_rfl))
 f267:=Tryz.func246.trans (congrArg some (by kernel_rfl))
 f314:=Tryz.func293.trans (congrArg some (by kernel_rfl))
 t0:=Tryz.underlying0
 a0:=Tryz.isAgg0
 z0:=Tryz.sizeOf0
 v0:=Tryz.zeroValue0
 t3:=Tryz.underlying3
 a3:=Tryz.isAgg3
 z3:=Tryz.sizeOf3
 v3:=Tryz.zeroValue3
 t4:=Tryz.underlying4
 a4:=Tryz.isAgg4
 z4:=Tryz.sizeOf4
 v4:=Tryz.zeroValue4
 t5:=Tryz.underlying5
 a5:=Tryz.isAgg5
 z5:=Tryz.sizeOf5
 v5:=Tryz.zeroValue5
 t9:=Tryz.underlying9
 a9:=Tryz.isAgg9
 z9:=Tryz.sizeOf9
 v9:=Tryz.zeroValue9
 t46:=Tryz.underlying215
 a46:=Tryz.isAgg215
 z46:=Tryz.sizeOf215
 v46:=Tryz.zeroValue215
 t51:=Tryz.underlying280
 a51:=Tryz.isAgg280
 z51:=Tryz.sizeOf280
 v51:=Tryz.zeroValue280
 t146:=Tryz.underlying338
 a146:=Tryz.isAgg338
 z146:=Tryz.sizeOf338
 v146:=Tryz.zeroValue338
 g1:=by kernel_rfl }
open Go.RowKit Go.Lib in
theorem Tryz.strings_Count_one (s:ByteArray) (c:UInt8) (w:World) :
  Calls Tryz.prog 51 #[.string s,.string ⟨#[c]⟩] w fun e w'=>e = .returned (.int .i64 (Lib.countByte s.data.toList c))∧w' = w:=Any.strings_Count_one Tryz.lays138 s c w
def Tryz.lays189_ren:Go.Shelf.Ren:=⟨fun|189=>183|125=>143|257=>241|128=>212|129=>213|294=>284|295=>285|296=>286|297=>287|298=>288|299=>289|216=>220|300=>290|301=>291|328=>316|329=>266|330=>267|331=>317|332=>318|215=>214|343=>328|n=>n,fun|28=>22|3=>3|46=>215|0=>0|51=>280|53=>282|4=>4|183=>274|182=>273|131=>204|5=>5|9=>9|218=>323|222=>174|228=>346|229=>347|n=>n,fun|n=>n⟩
theorem Tryz.lays189:Go.Proofs.Lays.n189 Tryz.prog Tryz.lays189_ren:={
 mixed:=by kernel_rfl
 f125:=Tryz.func143.trans (congrArg some (by kernel_rfl))
 f128:=Tryz.func212.trans (congrArg some (by kernel_rfl))
 f129:=Tryz.func213.trans (congrArg some (by kernel_rfl))
 f189:=Tryz.func183.trans (congrArg some (by kernel_rfl))
 f215:=Tryz.func214.trans (congrArg some (by kernel_rfl))
 f216:=Tryz.func220.trans (congrArg some (by kernel_rfl))
 f257:=Tryz.func241.trans (congrArg some (by kernel_rfl))
 f294:=Tryz.func284.trans (congrArg some (by kernel_rfl))
 f295:=Tryz.func285.trans (congrArg some (by kernel_rfl))
 f296:=Tryz.func286.trans (congrArg some (by kernel_rfl))
 f297:=Tryz.func287.trans (congrArg some (by kernel_rfl))
 f298:=Tryz.func288.trans (congrArg some (by kernel_rfl))
 f299:=Tryz.func289.trans (congrArg some (by kernel_rfl))
 f300:=Tryz.func290.trans (congrArg some (by kernel_rfl))
 f301:=Tryz.func291.trans (congrArg some (by kernel_rfl))
 f328:=Tryz.func316.trans (congrArg some (by kernel_rfl))
 f329:=Tryz.func266.trans (congrArg some (by kernel_rfl))
 f330:=Tryz.func267.trans (congrArg some (by kernel_rfl))
 f331:=Tryz.func317.trans (congrArg some (by kernel_rfl))
 f332:=Tryz.func318.trans (congrArg some (by kernel_rfl))
 f343:=Tryz.func328.trans (congrArg some (by kernel_rfl))
 t0:=Tryz.underlying0
 a0:=Tryz.isAgg0
 z0:=Tryz.sizeOf0
 v0:=Tryz.zeroValue0
 t3:=Tryz.underlying3
 a3:=Tryz.isAgg3
 z3:=Tryz.sizeOf3
 v3:=Tryz.zeroValue3
 t4:=Tryz.underlying4
 a4:=Tryz.isAgg4
 z4:=Tryz.sizeOf4
 v4:=Tryz.zeroValue4
 t5:=Tryz.underlying5
 a5:=Tryz.isAgg5
 z5:=Tryz.sizeOf5
 v5:=Tryz.zeroValue5
 t9:=Tryz.underlying9
 a9:=Tryz.isAgg9
 z9:=Tryz.sizeOf9
 v9:=Tryz.zeroValue9
 t28:=Tryz.underlying22
 a28:=Tryz.isAgg22
 z28:=Tryz.sizeOf22
 v28:=Tryz.zeroValue22
 t46:=Tryz.underlying215
 a46:=Tryz.isAgg215
 z46:=Tryz.sizeOf215
 v46:=Tryz.zeroValue215
 t51:=Tryz.underlying280
 a51:=Tryz.isAgg280
 z51:=Tryz.sizeOf280
 v51:=Tryz.zeroValue280
 t53:=Tryz.underlying282
 a53:=Tryz.isAgg282
 z53:=Tryz.sizeOf282
 v53:=Tryz.zeroValue282
 t131:=Tryz.underlying204
 a131:=Tryz.isAgg204
 z131:=Tryz.sizeOf204
 v131:=Tryz.zeroValue204
 t182:=Tryz.underlying273
 a182:=Tryz.isAgg273
 z182:=Tryz.sizeOf273
 v182:=Tryz.zeroValue273
 t183:=Tryz.underlying274
 a183:=Tryz.isAgg274
 z183:=Tryz.sizeOf274
 v183:=Tryz.zeroValue274
 t218:=Tryz.underlying323
 a218:=Tryz.isAgg323
 z218:=Tryz.sizeOf323
 v218:=Tryz.zeroValue323
 t222:=Tryz.underlying174
 a222:=Tryz.isAgg174
 z222:=Tryz.sizeOf174
 v222:=Tryz.zeroValue174
 t228:=Tryz.underlying346
 a228:=Tryz.isAgg346
 z228:=Tryz.sizeOf346
 v228:=Tryz.zeroValue346
 t229:=Tryz.underlying347
 a229:=Tryz.isAgg347
 z229:=Tryz.sizeOf347
 v229:=Tryz.zeroValue347 }
def Tryz.lays100_ren:Go.Shelf.Ren:=⟨fun|100=>91|207=>176|n=>n,fun|9=>9|4=>4|3=>3|n=>n,fun|n=>n⟩
theorem Tryz.lays100:Go.Proofs.Lays.n100 Tryz.prog Tryz.lays100_ren:={
 mixed:=by kernel_rfl
 f100:=Tryz.func91.trans (congrArg some (by kernel_rfl))
 f207:=Tryz.func176.trans (congrArg some (by kernel_rfl))
 t3:=Tryz.underlying3
 a3:=Tryz.isAgg3
 z3:=Tryz.sizeOf3
 v3:=Tryz.zeroValue3
 t4:=Tryz.underlying4
 a4:=Tryz.isAgg4
 z4:=Tryz.sizeOf4
 v4:=Tryz.zeroValue4
 t9:=Tryz.underlying9
 a9:=Tryz.isAgg9
 z9:=Tryz.sizeOf9
 v9:=Tryz.zeroValue9 }
open Go.RowKit Go.Lib in
theorem Tryz.strings_HasSuffix (s p:ByteArray) (w:World) (hs:s.size≤9223372036854775807) :
  Calls Tryz.prog 91 #[.string s,.string p] w fun e w'=>e = .returned (.bool (Lib.hasSuffix s.data.toList p.data.toList))∧w' = w:=Any.strings_HasSuffix Tryz.lays100 s p w hs
def Tryz.lays146_ren:Go.Shelf.Ren:=⟨fun|146=>52|221=>115|268=>186|138=>51|143=>114|195=>112|197=>247|218=>113|219=>185|260=>294|217=>243|225=>244|224=>245|267=>246|266=>292|314=>293|n=>n,fun|9=>9|31=>87|3=>3|4=>4|0=>0|105=>289|21=>21|5=>5|46=>215|119=>361|139=>364|138=>363|146=>338|51=>280|n=>n,fun|1=>0|3=>1|4=>2|n=>n⟩
theorem Tryz.lays146:Go.Proofs.Lays.n146 Tryz.prog Tryz.lays146_ren:={
 mixed:=by kernel_rfl
 f138:=Tryz.func51.trans (congrArg some (by kernel_rfl))
 f143:=Tryz.func114.trans (congrArg some (by kernel_rfl))
 f146:=Tryz.func52.trans (congrArg some (by kernel_rfl))
 f195:=Tryz.func112.trans (congrArg some (by kernel_rfl))
 f197:=Tryz.func247.trans (congrArg some (by kernel_rfl))
 f217:=Tryz.func243.trans (congrArg some (by kernel_rfl))
 f218:=Tryz.func113.trans (congrArg some (by kernel_rfl))
 f219:=Tryz.func185.trans (congrArg some (by kernel_rfl))
 f221:=Tryz.func115.trans (congrArg some (by kernel_rfl))
 f224:=Tryz.func245.trans (congrArg some (by kernel_rfl))
 f225:=Tryz.func244.trans (congrArg some (by kernel_rfl))
 f260:=Tryz.func294.trans (congrArg some (by kernel_rfl))
 f266:=Tryz.func292.trans (congrArg some (by kernel_rfl))
 f267:=Tryz.func246.trans (congrArg some (by kernel_rfl))
 f268:=Tryz.func186.trans (congrArg some (by kernel_rfl))
 f314:=Tryz.func293.trans (congrArg some (by kernel_rfl))
 t0:=Tryz.underlying0
 a0:=Tryz.isAgg0
 z0:=Tryz.sizeOf0
 v0:=Tryz.zeroValue0
 t3:=Tryz.underlying3
 a3:=Tryz.isAgg3
 z3:=Tryz.sizeOf3
 v3:=Tryz.zeroValue3
 t4:=Tryz.underlying4
 a4:=Tryz.isAgg4
 z4:=Tryz.sizeOf4
 v4:=Tryz.zeroValue4
 t5:=Tryz.underlying5
 a5:=Tryz.isAgg5
 z5:=Tryz.sizeOf5
 v5:=Tryz.zeroValue5
 t9:=Tryz.underlying9
 a9:=Tryz.isAgg9
 z9:=Tryz.sizeOf9
 v9:=Tryz.zeroValue9
 t21:=Tryz.underlying21
 a21:=Tryz.isAgg21
 z21:=Tryz.sizeOf21
 v21:=Tryz.zeroValue21
 t31:=Tryz.underlying87
 a31:=Tryz.isAgg87
 z31:=Tryz.sizeOf87
 v31:=Tryz.zeroValue87
 t46:=Tryz.underlying215
 a46:=Tryz.isAgg215
 z46:=Tryz.sizeOf215
 v46:=Tryz.zeroValue215
 t51:=Tryz.underlying280
 a51:=Tryz.isAgg280
 z51:=Tryz.sizeOf280
 v51:=Tryz.zeroValue280
 t105:=Tryz.underlying289
 a105:=Tryz.isAgg289
 z105:=Tryz.sizeOf289
 v105:=Tryz.zeroValue289
 t119:=Tryz.underlying361
 a119:=Tryz.isAgg361
 z119:=Tryz.sizeOf361
 t138:=Tryz.underlying363
 a138:=Tryz.isAgg363
 z138:=Tryz.sizeOf363
 v138:=Tryz.zeroValue363
 t139:=Tryz.underlying364
 a139:=Tryz.isAgg364
 z139:=Tryz.sizeOf364
 v139:=Tryz.zeroValue364
 t146:=Tryz.underlying338
 a146:=Tryz.isAgg338
 z146:=Tryz.sizeOf338
 v146:=Tryz.zeroValue338
 g1:=by kernel_rfl
 g3:=by kernel_rfl
 g4:=by kernel_rfl }
open Go.RowKit Go.Lib in
theorem Tryz.strings_Split (s sep:ByteArray) (m:Int) (w:World) (hs:s.size < 4294967281) (hm:w.cell? ⟨0,0,none⟩ = some (.int .i64 m)) (h1:1≤sep.size) :
  Calls Tryz.prog 52 #[.string s,.string sep] w fun e w' =>
   e = .returned (.slice (some ⟨w.heap.size,0,none⟩) (Lib.countB s sep + 1) (Lib.countB s sep + 1))∧w' = w.alloc (.cells ((Lib.splitB sep 0 (Lib.countB s sep) s).map Value.string).toArray 9):=Any.strings_Split Tryz.lays146 (by kernel_rfl) s sep m w hs hm h1
def Tryz.laysM146_ren:Go.Shelf.Ren:=⟨fun|146=>52|221=>115|268=>186|138=>51|143=>114|195=>112|197=>247|218=>113|219=>185|260=>294|217=>243|225=>244|224=>245|267=>246|266=>292|314=>293|n=>n,fun|9=>9|31=>87|3=>3|4=>4|0=>0|105=>289|21=>21|5=>5|46=>215|119=>361|139=>364|138=>363|146=>338|51=>280|n=>n,fun|1=>0|3=>1|4=>2|n=>n⟩
theorem Tryz.laysM146:Go.Proofs.LaysM.n146 Tryz.prog Tryz.laysM146_ren:={
 mixed:=by kernel_rfl
 f138:=Tryz.func51.trans (congrArg some (by kernel_rfl))
 f143:=Tryz.func114.trans (congrArg some (by kernel_rfl))
 f146:=Tryz.func52.trans (congrArg some (by kernel_rfl))
 f195:=Tryz.func112.trans (congrArg some (by kernel_rfl))
 f197:=Tryz.func247.trans (congrArg some (by kernel_rfl))
 f217:=Tryz.func243.trans (congrArg some (by kernel_rfl))
 f218:=Tryz.func113.trans (congrArg some (by kernel_rfl))
 f219:=Tryz.func185.trans (congrArg some (by kernel_rfl))
 f221:=Tryz.func115.trans (congrArg some (by kernel_rfl))
 f224:=Tryz.func245.trans (congrArg some (by kernel_rfl))
 f225:=Tryz.func244.trans (congrArg some (by kernel_rfl))
 f260:=Tryz.func294.trans (congrArg some (by kernel_rfl))
 f266:=Tryz.func292.trans (congrArg some (by kernel_rfl))
 f267:=Tryz.func246.trans (congrArg some (by kernel_rfl))
 f268:=Tryz.func186.trans (congrArg some (by kernel_rfl))
 f314:=Tryz.func293.trans (congrArg some (by kernel_rfl))
 t0:=Tryz.underlying0
 a0:=Tryz.isAgg0
 z0:=Tryz.sizeOf0
 v0:=Tryz.zeroValue0
 t3:=Tryz.underlying3
 a3:=Tryz.isAgg3
 z3:=Tryz.sizeOf3
 v3:=Tryz.zeroValue3
 t4:=Tryz.underlying4
 a4:=Tryz.isAgg4
 z4:=Tryz.sizeOf4
 v4:=Tryz.zeroValue4
 t5:=Tryz.underlying5
 a5:=Tryz.isAgg5
 z5:=Tryz.sizeOf5
 v5:=Tryz.zeroValue5
 t9:=Tryz.underlying9
 a9:=Tryz.isAgg9
 z9:=Tryz.sizeOf9
 v9:=Tryz.zeroValue9
 t21:=Tryz.underlying21
 a21:=Tryz.isAgg21
 z21:=Tryz.sizeOf21
 v21:=Tryz.zeroValue21
 t31:=Tryz.underlying87
 a31:=Tryz.isAgg87
 z31:=Tryz.sizeOf87
 v31:=Tryz.zeroValue87
 t46:=Tryz.underlying215
 a46:=Tryz.isAgg215
 z46:=Tryz.sizeOf215
 v46:=Tryz.zeroValue215
 t51:=Tryz.underlying280
 a51:=Tryz.isAgg280
 z51:=Tryz.sizeOf280
 v51:=Tryz.zeroValue280
 t105:=Tryz.underlying289
 a105:=Tryz.isAgg289
 z105:=Tryz.sizeOf289
 v105:=Tryz.zeroValue289
 t119:=Tryz.underlying361
 a119:=Tryz.isAgg361
 z119:=Tryz.sizeOf361
 t138:=Tryz.underlying363
 a138:=Tryz.isAgg363
 z138:=Tryz.sizeOf363
 v138:=Tryz.zeroValue363
 t139:=Tryz.underlying364
 a139:=Tryz.isAgg364
 z139:=Tryz.sizeOf364
 v139:=Tryz.zeroValue364
 t146:=Tryz.underlying338
 a146:=Tryz.isAgg338
 z146:=Tryz.sizeOf338
 v146:=Tryz.zeroValue338
 g1:=by kernel_rfl
 g3:=by kernel_rfl
 g4:=by kernel_rfl
 i0:=by kernel_rfl
 i3:=by kernel_rfl
 i4:=by kernel_rfl
 i5:=by kernel_rfl
 i9:=by kernel_rfl
 i21:=by kernel_rfl
 i31:=by kernel_rfl
 i46:=by kernel_rfl
 i51:=by kernel_rfl
 i105:=by kernel_rfl
 i138:=by kernel_rfl
 i139:=by kernel_rfl
 i146:=by kernel_rfl
 m1:=by kernel_rfl
 s1_3:=fun w h=>Go.Proofs.cell_of_shapedOpen_int (zero:=#[.int .i64 0]) (t:=3) h (of_decide_eq_true (by kernel_rfl)) (by kernel_rfl) rfl (by kernel_rfl) (by kernel_rfl) Tryz.underlying3
 m3:=by kernel_rfl
 m4:=by kernel_rfl }
def Tryz.lays2I22_ren:Go.Shelf.Ren:=⟨fun|22=>166|29=>218|30=>219|36=>272|17=>303|n=>n,fun|24=>87|9=>9|3=>3|4=>4|0=>0|n=>n,fun|n=>n⟩
theorem Tryz.lays2I22:Go.Proofs.Lays2.n22 Tryz.prog Tryz.lays2I22_ren:={
 mixed:=by kernel_rfl
 f17:=Tryz.func303.trans (congrArg some (by kernel_rfl))
 f22:=Tryz.func166.trans (congrArg some (by kernel_rfl))
 f29:=Tryz.func218.trans (congrArg some (by kernel_rfl))
 f30:=Tryz.func219.trans (congrArg some (by kernel_rfl))
 f36:=Tryz.func272.trans (congrArg some (by kernel_rfl))
 t0:=Tryz.underlying0
 a0:=Tryz.isAgg0
 z0:=Tryz.sizeOf0
 v0:=Tryz.zeroValue0
 t3:=Tryz.underlying3
 a3:=Tryz.isAgg3
 z3:=Tryz.sizeOf3
 v3:=Tryz.zeroValue3
 t4:=Tryz.underlying4
 a4:=Tryz.isAgg4
 z4:=Tryz.sizeOf4
 v4:=Tryz.zeroValue4
 t9:=Tryz.underlying9
 a9:=Tryz.isAgg9
 z9:=Tryz.sizeOf9
 v9:=Tryz.zeroValue9
 t24:=Tryz.underlying87
 a24:=Tryz.isAgg87
 z24:=Tryz.sizeOf87
 v24:=Tryz.zeroValue87
 i9:=by kernel_rfl }
def Tryz.lays2I21_ren:Go.Shelf.Ren:=⟨fun|21=>168|27=>222|28=>223|35=>273|39=>304|n=>n,fun|22=>22|3=>3|4=>4|0=>0|n=>n,fun|n=>n⟩
theorem Tryz.lays2I21:Go.Proofs.Lays2.n21 Tryz.prog Tryz.lays2I21_ren:={
 mixed:=by kernel_rfl
 f21:=Tryz.func168.trans (congrArg some (by kernel_rfl))
 f27:=Tryz.func222.trans (congrArg some (by kernel_rfl))
 f28:=Tryz.func223.trans (congrArg some (by kernel_rfl))
 f35:=Tryz.func273.trans (congrArg some (by kernel_rfl))
 f39:=Tryz.func304.trans (congrArg some (by kernel_rfl))
 t0:=Tryz.underlying0
 a0:=Tryz.isAgg0
 z0:=Tryz.sizeOf0
 v0:=Tryz.zeroValue0
 t3:=Tryz.underlying3
 a3:=Tryz.isAgg3
 z3:=Tryz.sizeOf3
 v3:=Tryz.zeroValue3
 t4:=Tryz.underlying4
 a4:=Tryz.isAgg4
 z4:=Tryz.sizeOf4
 v4:=Tryz.zeroValue4
 t22:=Tryz.underlying22
 a22:=Tryz.isAgg22
 z22:=Tryz.sizeOf22
 v22:=Tryz.zeroValue22
 i3:=by kernel_rfl }
def Tryz.laysT160_ren:Go.Shelf.Ren:=⟨fun|160=>169|232=>172|231=>224|227=>173|234=>174|233=>225|236=>175|235=>226|228=>228|271=>229|151=>230|197=>247|120=>274|152=>275|260=>294|137=>227|119=>305|224=>245|225=>244|217=>243|266=>292|n=>n,fun|9=>9|4=>4|3=>3|5=>5|117=>236|116=>235|0=>0|124=>239|21=>21|105=>289|46=>215|119=>361|139=>364|138=>363|n=>n,fun|3=>1|4=>2|n=>n⟩
theorem Tryz.laysT160:Go.Proofs.Lays.n160 Tryz.prog Tryz.laysT160_ren:={
 mixed:=by kernel_rfl
 f119:=Tryz.func305.trans (congrArg some (by kernel_rfl))
 f120:=Tryz.func274.trans (congrArg some (by kernel_rfl))
 f137:=Tryz.func227.trans (congrArg some (by kernel_rfl))
 f151:=Tryz.func230.trans (congrArg some (by kernel_rfl))
 f152:=Tryz.func275.trans (congrArg some (by kernel_rfl))
 f160:=Tryz.func169.trans (congrArg some (by kernel_rfl))
 f197:=Tryz.func247.trans (congrArg some (by kernel_rfl))
 f217:=Tryz.func243.trans (congrArg some (by kernel_rfl))
 f224:=Tryz.func245.trans (congrArg some (by kernel_rfl))
 f225:=Tryz.func244.trans (congrArg some (by kernel_rfl))
 f227:=Tryz.func173.trans (congrArg some (by kernel_rfl))
 f228:=Tryz.func228.trans (congrArg some (by kernel_rfl))
 f231:=Tryz.func224.trans (congrArg some (by kernel_rfl))
 f232:=Tryz.func172.trans (congrArg some (by kernel_rfl))
 f233:=Tryz.func225.trans (congrArg some (by kernel_rfl))
 f234:=Tryz.func174.trans (congrArg some (by kernel_rfl))
 f235:=Tryz.func226.trans (congrArg some (by kernel_rfl))
 f236:=Tryz.func175.trans (congrArg some (by kernel_rfl))
 f260:=Tryz.func294.trans (congrArg some (by kernel_rfl))
 f266:=Tryz.func292.trans (congrArg some (by kernel_rfl))
 f271:=Tryz.func229.trans (congrArg some (by kernel_rfl))
 t0:=Tryz.underlying0
 a0:=Tryz.isAgg0
 z0:=Tryz.sizeOf0
 v0:=Tryz.zeroValue0
 t3:=Tryz.underlying3
 a3:=Tryz.isAgg3
 z3:=Tryz.sizeOf3
 v3:=Tryz.zeroValue3
 t4:=Tryz.underlying4
 a4:=Tryz.isAgg4
 z4:=Tryz.sizeOf4
 v4:=Tryz.zeroValue4
 t5:=Tryz.underlying5
 a5:=Tryz.isAgg5
 z5:=Tryz.sizeOf5
 v5:=Tryz.zeroValue5
 t9:=Tryz.underlying9
 a9:=Tryz.isAgg9
 z9:=Tryz.sizeOf9
 v9:=Tryz.zeroValue9
 t21:=Tryz.underlying21
 a21:=Tryz.isAgg21
 z21:=Tryz.sizeOf21
 v21:=Tryz.zeroValue21
 t46:=Tryz.underlying215
 a46:=Tryz.isAgg215
 z46:=Tryz.sizeOf215
 v46:=Tryz.zeroValue215
 t105:=Tryz.underlying289
 a105:=Tryz.isAgg289
 z105:=Tryz.sizeOf289
 v105:=Tryz.zeroValue289
 t116:=Tryz.underlying235
 a116:=Tryz.isAgg235
 z116:=Tryz.sizeOf235
 t117:=Tryz.underlying236
 a117:=Tryz.isAgg236
 z117:=Tryz.sizeOf236
 v117:=Tryz.zeroValue236
 t119:=Tryz.underlying361
 a119:=Tryz.isAgg361
 z119:=Tryz.sizeOf361
 t124:=Tryz.underlying239
 a124:=Tryz.isAgg239
 z124:=Tryz.sizeOf239
 v124:=Tryz.zeroValue239
 t138:=Tryz.underlying363
 a138:=Tryz.isAgg363
 z138:=Tryz.sizeOf363
 v138:=Tryz.zeroValue363
 t139:=Tryz.underlying364
 a139:=Tryz.isAgg364
 z139:=Tryz.sizeOf364
 v139:=Tryz.zeroValue364
 g3:=by kernel_rfl
 g4:=by kernel_rfl }
def Tryz.laysT162_ren:Go.Shelf.Ren:=⟨fun|162=>89|232=>172|227=>173|234=>174|236=>175|228=>228|271=>229|151=>230|120=>274|197=>247|152=>275|260=>294|137=>227|119=>305|224=>245|225=>244|217=>243|266=>292|n=>n,fun|9=>9|4=>4|3=>3|5=>5|117=>236|116=>235|0=>0|124=>239|21=>21|105=>289|46=>215|119=>361|139=>364|138=>363|n=>n,fun|3=>1|4=>2|n=>n⟩
theorem Tryz.laysT162:Go.Proofs.Lays.n162 Tryz.prog Tryz.laysT162_ren:={
 mixed:=by kernel_rfl
 f119:=Tryz.func305.trans (congrArg some (by kernel_rfl))
 f120:=Tryz.func274.trans (congrArg some (by kernel_rfl))
 f137:=Tryz.func227.trans (congrArg some (by kernel_rfl))
 f151:=Tryz.func230.trans (congrArg some (by kernel_rfl))
 f152:=Tryz.func275.trans (congrArg some (by kernel_rfl))
 f162:=Tryz.func89.trans (congrArg some (by kernel_rfl))
 f197:=Tryz.func247.trans (congrArg some (by kernel_rfl))
 f217:=Tryz.func243.trans (congrArg some (by kernel_rfl))
 f224:=Tryz.func245.trans (congrArg some (by kernel_rfl))
 f225:=Tryz.func244.trans (congrArg some (by kernel_rfl))
 f227:=Tryz.func173.trans (congrArg some (by kernel_rfl))
 f228:=Tryz.func228.trans (congrArg some (by kernel_rfl))
 f232:=Tryz.func172.trans (congrArg some (by kernel_rfl))
 f234:=Tryz.func174.trans (congrArg some (by kernel_rfl))
 f236:=Tryz.func175.trans (congrArg some (by kernel_rfl))
 f260:=Tryz.func294.trans (congrArg some (by kernel_rfl))
 f266:=Tryz.func292.trans (congrArg some (by kernel_rfl))
 f271:=Tryz.func229.trans (congrArg some (by kernel_rfl))
 t0:=Tryz.underlying0
 a0:=Tryz.isAgg0
 z0:=Tryz.sizeOf0
 v0:=Tryz.zeroValue0
 t3:=Tryz.underlying3
 a3:=Tryz.isAgg3
 z3:=Tryz.sizeOf3
 v3:=Tryz.zeroValue3
 t4:=Tryz.underlying4
 a4:=Tryz.isAgg4
 z4:=Tryz.sizeOf4
 v4:=Tryz.zeroValue4
 t5:=Tryz.underlying5
 a5:=Tryz.isAgg5
 z5:=Tryz.sizeOf5
 v5:=Tryz.zeroValue5
 t9:=Tryz.underlying9
 a9:=Tryz.isAgg9
 z9:=Tryz.sizeOf9
 v9:=Tryz.zeroValue9
 t21:=Tryz.underlying21
 a21:=Tryz.isAgg21
 z21:=Tryz.sizeOf21
 v21:=Tryz.zeroValue21
 t46:=Tryz.underlying215
 a46:=Tryz.isAgg215
 z46:=Tryz.sizeOf215
 v46:=Tryz.zeroValue215
 t105:=Tryz.underlying289
 a105:=Tryz.isAgg289
 z105:=Tryz.sizeOf289
 v105:=Tryz.zeroValue289
 t116:=Tryz.underlying235
 a116:=Tryz.isAgg235
 z116:=Tryz.sizeOf235
 t117:=Tryz.underlying236
 a117:=Tryz.isAgg236
 z117:=Tryz.sizeOf236
 v117:=Tryz.zeroValue236
 t119:=Tryz.underlying361
 a119:=Tryz.isAgg361
 z119:=Tryz.sizeOf361
 t124:=Tryz.underlying239
 a124:=Tryz.isAgg239
 z124:=Tryz.sizeOf239
 v124:=Tryz.zeroValue239
 t138:=Tryz.underlying363
 a138:=Tryz.isAgg363
 z138:=Tryz.sizeOf363
 v138:=Tryz.zeroValue363
 t139:=Tryz.underlying364
 a139:=Tryz.isAgg364
 z139:=Tryz.sizeOf364
 v139:=Tryz.zeroValue364
 g3:=by kernel_rfl
 g4:=by kernel_rfl }
def Tryz.lays8G70_ren:Go.Shelf.Ren:=⟨fun|4=>70|n=>n,fun|22=>35|25=>42|3=>3|4=>4|9=>9|20=>20|0=>0|n=>n,fun|n=>n⟩
theorem Tryz.lays8G70:Go.Proofs.Lays8.n4 Tryz.prog Tryz.lays8G70_ren:={
 mixed:=by kernel_rfl
 f4:=⟨Tryz.f70.name,by decide,Tryz.func70.trans (congrArg some (by kernel_rfl))⟩
 t0:=Tryz.underlying0
 a0:=Tryz.isAgg0
 z0:=Tryz.sizeOf0
 v0:=Tryz.zeroValue0
 t3:=Tryz.underlying3
 a3:=Tryz.isAgg3
 z3:=Tryz.sizeOf3
 v3:=Tryz.zeroValue3
 t4:=Tryz.underlying4
 a4:=Tryz.isAgg4
 z4:=Tryz.sizeOf4
 v4:=Tryz.zeroValue4
 t9:=Tryz.underlying9
 a9:=Tryz.isAgg9
 z9:=Tryz.sizeOf9
 v9:=Tryz.zeroValue9
 t20:=Tryz.underlying20
 a20:=Tryz.isAgg20
 z20:=Tryz.sizeOf20
 v20:=Tryz.zeroValue20
 t22:=Tryz.underlying35
 a22:=Tryz.isAgg35
 z22:=Tryz.sizeOf35
 v22:=Tryz.zeroValue35 }
def Tryz.lays8G77_ren:Go.Shelf.Ren:=⟨fun|4=>77|n=>n,fun|22=>27|25=>44|3=>3|4=>4|9=>9|20=>20|0=>0|n=>n,fun|n=>n⟩
theorem Tryz.lays8G77:Go.Proofs.Lays8.n4 Tryz.prog Tryz.lays8G77_ren:={
 mixed:=by kernel_rfl
 f4:=⟨Tryz.f77.name,by decide,Tryz.func77.trans (congrArg some (by kernel_rfl))⟩
 t0:=Tryz.underlying0
 a0:=Tryz.isAgg0
 z0:=Tryz.sizeOf0
 v0:=Tryz.zeroValue0
 t3:=Tryz.underlying3
 a3:=Tryz.isAgg3
 z3:=Tryz.sizeOf3
 v3:=Tryz.zeroValue3
 t4:=Tryz.underlying4
 a4:=Tryz.isAgg4
 z4:=Tryz.sizeOf4
 v4:=Tryz.zeroValue4
 t9:=Tryz.underlying9
 a9:=Tryz.isAgg9
 z9:=Tryz.sizeOf9
 v9:=Tryz.zeroValue9
 t20:=Tryz.underlying20
 a20:=Tryz.isAgg20
 z20:=Tryz.sizeOf20
 v20:=Tryz.zeroValue20
 t22:=Tryz.underlying27
 a22:=Tryz.isAgg27
 z22:=Tryz.sizeOf27
 v22:=Tryz.zeroValue27 }
def Tryz.laysF_ren:Go.Shelf.Ren:=⟨fun|6=>136|15=>143|14=>202|28=>212|29=>213|20=>257|21=>258|22=>259|23=>260|24=>261|25=>262|26=>263|27=>264|46=>299|47=>266|48=>267|49=>300|50=>301|57=>319|n=>n,fun|22=>35|24=>42|25=>209|3=>3|39=>215|0=>0|53=>280|55=>282|4=>4|46=>274|45=>273|50=>204|5=>5|9=>9|66=>323|70=>174|76=>346|77=>347|n=>n,fun|n=>n⟩
theorem Tryz.laysF:Go.Proofs.SlLaysF0.n6 Tryz.prog Tryz.laysF_ren:={
 mixed:=by kernel_rfl
 f6:=⟨Tryz.f136.name,by decide,Tryz.func136.trans (congrArg some (by kernel_rfl))⟩
 f14:=⟨Tryz.f202.name,by decide,Tryz.func202.trans (congrArg some (by kernel_rfl))⟩
 f15:=Tryz.func143.trans (congrArg some (by kernel_rfl))
 f20:=⟨Tryz.f257.name,by decide,Tryz.func257.trans (congrArg some (by kernel_rfl))⟩
 f21:=⟨Tryz.f258.name,by decide,Tryz.func258.trans (congrArg some (by kernel_rfl))⟩
 f22:=⟨Tryz.f259.name,by decide,Tryz.func259.trans (congrArg some (by kernel_rfl))⟩
 f23:=⟨Tryz.f260.name,by decide,Tryz.func260.trans (congrArg some (by kernel_rfl))⟩
 f24:=⟨Tryz.f261.name,by decide,Tryz.func261.trans (congrArg some (by kernel_rfl))⟩
 f25:=⟨Tryz.f262.name,by decide,Tryz.func262.trans (congrArg some (by kernel_rfl))⟩
 f26:=⟨Tryz.f263.name,by decide,Tryz.func263.trans (congrArg some (by kernel_rfl))⟩
 f27:=⟨Tryz.f264.name,by decide,Tryz.func264.trans (congrArg some (by kernel_rfl))⟩
 f28:=Tryz.func212.trans (congrArg some (by kernel_rfl))
 f29:=Tryz.func213.trans (congrArg some (by kernel_rfl))
 f46:=⟨Tryz.f299.name,by decide,Tryz.func299.trans (congrArg some (by kernel_rfl))⟩
 f47:=Tryz.func266.trans (congrArg some (by kernel_rfl))
 f48:=Tryz.func267.trans (congrArg some (by kernel_rfl))
 f49:=⟨Tryz.f300.name,by decide,Tryz.func300.trans (congrArg some (by kernel_rfl))⟩
 f50:=⟨Tryz.f301.name,by decide,Tryz.func301.trans (congrArg some (by kernel_rfl))⟩
 f57:=⟨Tryz.f319.name,by decide,Tryz.func319.trans (congrArg some (by kernel_rfl))⟩
 t0:=Tryz.underlying0
 a0:=Tryz.isAgg0
 z0:=Tryz.sizeOf0
 v0:=Tryz.zeroValue0
 t3:=Tryz.underlying3
 a3:=Tryz.isAgg3
 z3:=Tryz.sizeOf3
 v3:=Tryz.zeroValue3
 t4:=Tryz.underlying4
 a4:=Tryz.isAgg4
 z4:=Tryz.sizeOf4
 v4:=Tryz.zeroValue4
 t5:=Tryz.underlying5
 a5:=Tryz.isAgg5
 z5:=Tryz.sizeOf5
 v5:=Tryz.zeroValue5
 t9:=Tryz.underlying9
 a9:=Tryz.isAgg9
 z9:=Tryz.sizeOf9
 v9:=Tryz.zeroValue9
 t22:=Tryz.underlying35
 a22:=Tryz.isAgg35
 z22:=Tryz.sizeOf35
 v22:=Tryz.zeroValue35
 t25:=Tryz.underlying209
 a25:=Tryz.isAgg209
 z25:=Tryz.sizeOf209
 v25:=Tryz.zeroValue209
 t39:=Tryz.underlying215
 a39:=Tryz.isAgg215
 z39:=Tryz.sizeOf215
 v39:=Tryz.zeroValue215
 t45:=Tryz.underlying273
 a45:=Tryz.isAgg273
 z45:=Tryz.sizeOf273
 v45:=Tryz.zeroValue273
 t46:=Tryz.underlying274
 a46:=Tryz.isAgg274
 z46:=Tryz.sizeOf274
 v46:=Tryz.zeroValue274
 t50:=Tryz.underlying204
 a50:=Tryz.isAgg204
 z50:=Tryz.sizeOf204
 v50:=Tryz.zeroValue204
 t53:=Tryz.underlying280
 a53:=Tryz.isAgg280
 z53:=Tryz.sizeOf280
 v53:=Tryz.zeroValue280
 t55:=Tryz.underlying282
 a55:=Tryz.isAgg282
 z55:=Tryz.sizeOf282
 v55:=Tryz.zeroValue282
 t66:=Tryz.underlying323
 a66:=Tryz.isAgg323
 z66:=Tryz.sizeOf323
 v66:=Tryz.zeroValue323
 t70:=Tryz.underlying174
 a70:=Tryz.isAgg174
 z70:=Tryz.sizeOf174
 v70:=Tryz.zeroValue174
 t76:=Tryz.underlying346
 a76:=Tryz.isAgg346
 z76:=Tryz.sizeOf346
 v76:=Tryz.zeroValue346
 t77:=Tryz.underlying347
 a77:=Tryz.isAgg347
 z77:=Tryz.sizeOf347
 v77:=Tryz.zeroValue347 }
end Go.Proofs
end

/- The contracts of the library functions that the law reaches, laid at this seat. -/
import Derived.Shelf.Strings.Builder1
import Derived.Shelf.Strings.Builder2
import Derived.Shelf.Strings.OnBuilder
import Derived.Shelf.Small.Bits
import Derived.Shelf.Small.Wraps
import Derived.Shelf.Strings.BuilderF
import Derived.Shelf.Strings.BuilderK
import Derived.Shelf.Utf8.RuneCount
import Derived.Shelf.Strings.Builder2Cap
import Derived.Shelf.Strconv.Atoi
import Derived.Shelf.Strconv.Itoa0
import Derived.Shelf.Strconv.Itoa1
import Derived.Shelf.LaysM
import Derived.Shelf.Strconv.Itoa2
import Derived.Shelf.Strconv.Itoa3
import Derived.Shelf.Strconv.AtoiErrFast
import Derived.Shelf.Strconv.ParseIntEmpty
import Derived.Shelf.Strconv.AtoiFail
import Derived.Shelf.Strconv.Clone
import Derived.Shelf.Strconv.SyntaxError
import Derived.Shelf.LaysC
import Derived.Shelf.Strconv.ToError
import Derived.Shelf.Strconv.AtoiErr
import Derived.Shelf.Strconv.Lower
import Derived.Shelf.Strconv.ParseUint10
import Derived.Shelf.Strconv.ParseUint10Empty
import Derived.Shelf.Strconv.ParseUint10Any
import Derived.Shelf.Strconv.ParseInt10
import Derived.Shelf.Strconv.AtoiLong
import Derived.Shelf.Strconv.AtoiInnerAll
import Derived.Shelf.Strconv.RangeError
import Derived.Shelf.Strconv.ToErrorRange
import Derived.Shelf.Strconv.AtoiAll
import Derived.Shelf.Strconv.ErrVarAll
import Derived.Shelf.Strconv.ParseUintEmpty
import Derived.Shelf.Strconv.ParseUint10b64
import Derived.Shelf.Strconv.ParseUint10b32
import Derived.Shelf.Strconv.ParseUint10b16
import Derived.Shelf.Strconv.ParseUint10b8
import Derived.Shelf.Strconv.ParseUint10At
import Derived.Shelf.Strconv.ParseInt10At64
import Derived.Shelf.Strconv.ParseInt10At32
import Derived.Shelf.Strconv.ParseInt10At16
import Derived.Shelf.Strconv.ParseInt10At8
import Derived.Shelf.Strings.Search1
import Derived.Shelf.Strings.Search2
import Derived.Shelf.Strings.Search3
import Derived.Shelf.Strings.Count
import Derived.Shelf.Strings.Shaped
import Derived.Shelf.Sort.Plain
import Derived.Shelf.Strings.Split
import Derived.Shelf.Strings.SplitShaped
import Derived.Shelf.Unicode.Decode
import Derived.Shelf.Strings.RuneCount
import Derived.Shelf.Strings.Explode
import Derived.Shelf.Unicode.DecodeSlow
import Derived.Shelf.Unicode.DecodeAny
import Derived.Shelf.Strings.BuilderCap
import Derived.Shelf.Slices.Turned
import Derived.Ground.Names2Prog
import Derived.Shelf.Slices.Clone
import Derived.Shelf.Slices.SearchI
import Derived.Shelf.Slices.In.SortNone
import Derived.Ground.SlgnProg
import Derived.Shelf.SlicesE.Clone
import Derived.Test.YtalpffbofjlfgaaGreatDoorProg
set_option linter.unusedVariables false
set_option linter.unusedSimpArgs false
section
namespace Go.Proofs
open Go.Shelf
def Tryz.lays156_ren:Go.Shelf.Ren:=⟨fun|156=>68|165=>91|166=>92|169=>93|240=>123|241=>124|276=>151|277=>152|n=>n,fun|31=>33|9=>9|3=>3|4=>4|0=>0|20=>20|72=>123|76=>98|70=>121|37=>106|75=>97|127=>153|164=>184|5=>5|80=>125|n=>n,fun|n=>n⟩
theorem Tryz.lays156:Go.Proofs.Lays.n156 Tryz.prog Tryz.lays156_ren:={
  mixed:=by kernel_rfl
  f156:=Tryz.func68.trans (congrArg some (by kernel_rfl))
  f165:=Tryz.func91.trans (congrArg some (by kernel_rfl))
  f166:=Tryz.func92.trans (congrArg some (by kernel_rfl))
  f169:=Tryz.func93.trans (congrArg some (by kernel_rfl))
  f240:=Tryz.func123.trans (congrArg some (by kernel_rfl))
  f241:=Tryz.func124.trans (congrArg some (by kernel_rfl))
  f276:=Tryz.func151.trans (congrArg some (by kernel_rfl))
  f277:=Tryz.func152.trans (congrArg some (by kernel_rfl))
  t0:=Tryz.underlying0
  a0:=Tryz.isAgg0
  z0:=Tryz.sizeOf0
  v0:=Tryz.zeroValue0
  t3:=Tryz.underlying3
  a3:=Tryz.isAgg3
  z3:=Tryz.sizeOf3
  v3:=Tryz.zeroValue3
  t4:=Tryz.underlying4
  a4:=Tryz.isAgg4
  z4:=Tryz.sizeOf4
  v4:=Tryz.zeroValue4
  t9:=Tryz.underlying9
  a9:=Tryz.isAgg9
  z9:=Tryz.sizeOf9
  v9:=Tryz.zeroValue9
  t20:=Tryz.underlying20
  a20:=Tryz.isAgg20
  z20:=Tryz.sizeOf20
  v20:=Tryz.zeroValue20
  t31:=Tryz.underlying33
  a31:=Tryz.isAgg33
  z31:=Tryz.sizeOf33
  v31:=Tryz.zeroValue33
  t37:=Tryz.underlying106
  a37:=Tryz.isAgg106
  z37:=Tryz.sizeOf106
  v37:=Tryz.zeroValue106
  t70:=Tryz.underlying121
  a70:=Tryz.isAgg121
  z70:=Tryz.sizeOf121
  v70:=Tryz.zeroValue121
  t72:=Tryz.underlying123
  a72:=Tryz.isAgg123
  z72:=Tryz.sizeOf123
  v72:=Tryz.zeroValue123
  t75:=Tryz.underlying97
  a75:=Tryz.isAgg97
  z75:=Tryz.sizeOf97
  v75:=Tryz.zeroValue97
  t76:=Tryz.underlying98
  a76:=Tryz.isAgg98
  z76:=Tryz.sizeOf98
  v76:=Tryz.zeroValue98
  t127:=Tryz.underlying153
  a127:=Tryz.isAgg153
  z127:=Tryz.sizeOf153
  v127:=Tryz.zeroValue153
  t164:=Tryz.underlying184
  a164:=Tryz.isAgg184
  z164:=Tryz.sizeOf184
  v164:=Tryz.zeroValue184 }
theorem Tryz.Builder_Extra_156:Builder.Extra Tryz.prog Tryz.lays156_ren:={
  sizeBuilder:=by kernel_rfl
  liesBuilder:=by kernel_rfl
  t5:=Tryz.underlying5
  a5:=Tryz.isAgg5
  z5:=Tryz.sizeOf5
  v5:=Tryz.zeroValue5
  infoByte:=by kernel_rfl
  cellsByte:=by kernel_rfl
  sizeByte:=by kernel_rfl
  neB5:=by decide }
open Go.RowKit in
theorem Tryz.strings_Join_none (a:Option Addr) (c:Nat) (sep:ByteArray) (w:World) :
    Calls Tryz.prog 68 #[.slice a 0 c,.string sep] w fun e w'=>e = .returned (.string ⟨#[]⟩)∧w' = w:=Any.strings_Join_none Tryz.lays156 Tryz.Builder_Extra_156 a c sep w
open Go.RowKit in
theorem Tryz.strings_Join (bk o c:Nat) (xs:List ByteArray) (sep:ByteArray) (w:World) (hcells:∀ (j:Nat) x,xs[j]? = some x→w.cell? ⟨bk,o + j,none⟩ = some (.string x)) (hbk:bk < w.heap.size) (hN:xs.length≤140737488355328) (hcap:xs.length≤c) (hlen:(Lib.join (xs.map (·.data.toList)) sep.data.toList).length≤140737488355328) :
    Calls Tryz.prog 68 #[.slice (some ⟨bk,o,none⟩) xs.length c,.string sep] w fun e w'=>e = .returned (.string ⟨(Lib.join (xs.map (·.data.toList)) sep.data.toList).toArray⟩)∧Below w.heap.size w w':=Any.strings_Join Tryz.lays156 Tryz.Builder_Extra_156 bk o c xs sep w hcells hbk hN hcap hlen
def Tryz.laysM171_ren:Go.Shelf.Ren:=⟨fun|171=>67|243=>90|246=>122|283=>147|284=>148|285=>149|286=>150|129=>109|317=>164|318=>165|319=>166|320=>167|337=>171|338=>172|n=>n,fun|3=>3|9=>9|2=>2|4=>4|171=>180|0=>0|53=>142|37=>106|5=>5|173=>182|212=>197|51=>140|20=>20|213=>198|46=>117|232=>206|233=>207|n=>n,fun|17=>3|18=>6|19=>7|n=>n⟩
theorem Tryz.laysM171:Go.Proofs.LaysM.n171 Tryz.prog Tryz.laysM171_ren:={
  mixed:=by kernel_rfl
  f129:=Tryz.func109.trans (congrArg some (by kernel_rfl))
  f171:=Tryz.func67.trans (congrArg some (by kernel_rfl))
  f243:=Tryz.func90.trans (congrArg some (by kernel_rfl))
  f246:=Tryz.func122.trans (congrArg some (by kernel_rfl))
  f283:=Tryz.func147.trans (congrArg some (by kernel_rfl))
  f284:=Tryz.func148.trans (congrArg some (by kernel_rfl))
  f285:=Tryz.func149.trans (congrArg some (by kernel_rfl))
  f286:=Tryz.func150.trans (congrArg some (by kernel_rfl))
  f317:=Tryz.func164.trans (congrArg some (by kernel_rfl))
  f318:=Tryz.func165.trans (congrArg some (by kernel_rfl))
  f319:=Tryz.func166.trans (congrArg some (by kernel_rfl))
  f320:=Tryz.func167.trans (congrArg some (by kernel_rfl))
  f337:=Tryz.func171.trans (congrArg some (by kernel_rfl))
  f338:=Tryz.func172.trans (congrArg some (by kernel_rfl))
  t0:=Tryz.underlying0
  a0:=Tryz.isAgg0
  z0:=Tryz.sizeOf0
  v0:=Tryz.zeroValue0
  t2:=Tryz.underlying2
  a2:=Tryz.isAgg2
  z2:=Tryz.sizeOf2
  v2:=Tryz.zeroValue2
  t3:=Tryz.underlying3
  a3:=Tryz.isAgg3
  z3:=Tryz.sizeOf3
  v3:=Tryz.zeroValue3
  t4:=Tryz.underlying4
  a4:=Tryz.isAgg4
  z4:=Tryz.sizeOf4
  v4:=Tryz.zeroValue4
  t5:=Tryz.underlying5
  a5:=Tryz.isAgg5
  z5:=Tryz.sizeOf5
  v5:=Tryz.zeroValue5
  t9:=Tryz.underlying9
  a9:=Tryz.isAgg9
  z9:=Tryz.sizeOf9
  v9:=Tryz.zeroValue9
  t20:=Tryz.underlying20
  a20:=Tryz.isAgg20
  z20:=Tryz.sizeOf20
  v20:=Tryz.zeroValue20
  t37:=Tryz.underlying106
  a37:=Tryz.isAgg106
  z37:=Tryz.sizeOf106
  v37:=Tryz.zeroValue106
  t46:=Tryz.underlying117
  a46:=Tryz.isAgg117
  z46:=Tryz.sizeOf117
  v46:=Tryz.zeroValue117
  t51:=Tryz.underlying140
  a51:=Tryz.isAgg140
  z51:=Tryz.sizeOf140
  v51:=Tryz.zeroValue140
  t53:=Tryz.underlying142
  a53:=Tryz.isAgg142
  z53:=Tryz.sizeOf142
  v53:=Tryz.zeroValue142
  t171:=Tryz.underlying180
  a171:=Tryz.isAgg180
  z171:=Tryz.sizeOf180
  v171:=Tryz.zeroValue180
  t173:=Tryz.underlying182
  a173:=Tryz.isAgg182
  z173:=Tryz.sizeOf182
  v173:=Tryz.zeroValue182
  t212:=Tryz.underlying197
  a212:=Tryz.isAgg197
  z212:=Tryz.sizeOf197
  v212:=Tryz.zeroValue197
  t213:=Tryz.underlying198
  a213:=Tryz.isAgg198
  z213:=Tryz.sizeOf198
  t232:=Tryz.underlying206
  a232:=Tryz.isAgg206
  z232:=Tryz.sizeOf206
  v232:=Tryz.zeroValue206
  t233:=Tryz.underlying207
  a233:=Tryz.isAgg207
  z233:=Tryz.sizeOf207
  v233:=Tryz.zeroValue207
  g17:=by kernel_rfl
  g18:=by kernel_rfl
  g19:=by kernel_rfl
  i0:=by kernel_rfl
  i2:=by kernel_rfl
  i3:=by kernel_rfl
  i4:=by kernel_rfl
  i5:=by kernel_rfl
  i9:=by kernel_rfl
  i20:=by kernel_rfl
  i37:=by kernel_rfl
  i46:=by kernel_rfl
  i51:=by kernel_rfl
  i53:=by kernel_rfl
  i171:=by kernel_rfl
  i173:=by kernel_rfl
  i212:=by kernel_rfl
  i232:=by kernel_rfl
  i233:=by kernel_rfl
  m17:=by kernel_rfl
  m18:=by kernel_rfl
  m19:=by kernel_rfl }
open Go.RowKit Go.Sort Go.Lib in
theorem Tryz.strconv_Itoa (n:Int) (h0:-9223372036854775808≤n) (h1:n≤9223372036854775807) (w:World) (htab:Lib.TabIs Tryz.prog w "internal/strconv.uint64pow10" .u64 Lib.pow10Tab) :
    Calls Tryz.prog 67 #[.int .i64 n] w fun e w'=>e = .returned (.string ⟨(Lib.itoa n).toArray⟩)∧∃ k os,w' = grow (w.drewN k) os:=Any.strconv_Itoa Tryz.laysM171 n h0 h1 w htab
def Tryz.laysC172_ren:Go.Shelf.Ren:=⟨fun|172=>66|244=>88|245=>89|247=>117|279=>118|280=>119|281=>120|282=>121|287=>144|316=>145|171=>67|205=>146|321=>162|322=>163|243=>90|246=>122|283=>147|284=>148|285=>149|286=>150|129=>109|317=>164|318=>165|319=>166|320=>167|337=>171|338=>172|n=>n,fun|9=>9|3=>3|75=>97|76=>98|4=>4|5=>5|167=>146|37=>106|0=>0|85=>147|2=>2|168=>149|53=>142|175=>174|46=>117|210=>178|127=>153|145=>195|143=>193|21=>21|171=>180|173=>182|212=>197|51=>140|20=>20|213=>198|232=>206|233=>207|80=>125|n=>n,fun|15=>0|16=>1|17=>3|18=>6|19=>7|n=>n⟩
theorem Tryz.laysC172:Go.Proofs.LaysC.n172 Tryz.prog Tryz.laysC172_ren:={
  mixed:=by kernel_rfl
  f129:=Tryz.func109.trans (congrArg some (by kernel_rfl))
  f171:=Tryz.func67.trans (congrArg some (by kernel_rfl))
  f172:=Tryz.func66.trans (congrArg some (by kernel_rfl))
  f205:=Tryz.func146.trans (congrArg some (by kernel_rfl))
  f243:=Tryz.func90.trans (congrArg some (by kernel_rfl))
  f244:=Tryz.func88.trans (congrArg some (by kernel_rfl))
  f245:=Tryz.func89.trans (congrArg some (by kernel_rfl))
  f246:=Tryz.func122.trans (congrArg some (by kernel_rfl))
  f247:=Tryz.func117.trans (congrArg some (by kernel_rfl))
  f279:=Tryz.func118.trans (congrArg some (by kernel_rfl))
  f280:=Tryz.func119.trans (congrArg some (by kernel_rfl))
  f281:=Tryz.func120.trans (congrArg some (by kernel_rfl))
  f282:=Tryz.func121.trans (congrArg some (by kernel_rfl))
  f283:=Tryz.func147.trans (congrArg some (by kernel_rfl))
  f284:=Tryz.func148.trans (congrArg some (by kernel_rfl))
  f285:=Tryz.func149.trans (congrArg some (by kernel_rfl))
  f286:=Tryz.func150.trans (congrArg some (by kernel_rfl))
  f287:=Tryz.func144.trans (congrArg some (by kernel_rfl))
  f316:=Tryz.func145.trans (congrArg some (by kernel_rfl))
  f317:=Tryz.func164.trans (congrArg some (by kernel_rfl))
  f318:=Tryz.func165.trans (congrArg some (by kernel_rfl))
  f319:=Tryz.func166.trans (congrArg some (by kernel_rfl))
  f320:=Tryz.func167.trans (congrArg some (by kernel_rfl))
  f321:=Tryz.func162.trans (congrArg some (by kernel_rfl))
  f322:=Tryz.func163.trans (congrArg some (by kernel_rfl))
  f337:=Tryz.func171.trans (congrArg some (by kernel_rfl))
  f338:=Tryz.func172.trans (congrArg some (by kernel_rfl))
  t0:=Tryz.underlying0
  a0:=Tryz.isAgg0
  z0:=Tryz.sizeOf0
  v0:=Tryz.zeroValue0
  t2:=Tryz.underlying2
  a2:=Tryz.isAgg2
  z2:=Tryz.sizeOf2
  v2:=Tryz.zeroValue2
  t3:=Tryz.underlying3
  a3:=Tryz.isAgg3
  z3:=Tryz.sizeOf3
  v3:=Tryz.zeroValue3
  t4:=Tryz.underlying4
  a4:=Tryz.isAgg4
  z4:=Tryz.sizeOf4
  v4:=Tryz.zeroValue4
  t5:=Tryz.underlying5
  a5:=Tryz.isAgg5
  z5:=Tryz.sizeOf5
  v5:=Tryz.zeroValue5
  t9:=Tryz.underlying9
  a9:=Tryz.isAgg9
  z9:=Tryz.sizeOf9
  v9:=Tryz.zeroValue9
  t20:=Tryz.underlying20
  a20:=Tryz.isAgg20
  z20:=Tryz.sizeOf20
  v20:=Tryz.zeroValue20
  t21:=Tryz.underlying21
  a21:=Tryz.isAgg21
  z21:=Tryz.sizeOf21
  v21:=Tryz.zeroValue21
  t37:=Tryz.underlying106
  a37:=Tryz.isAgg106
  z37:=Tryz.sizeOf106
  v37:=Tryz.zeroValue106
  t46:=Tryz.underlying117
  a46:=Tryz.isAgg117
  z46:=Tryz.sizeOf117
  v46:=Tryz.zeroValue117
  t51:=Tryz.underlying140
  a51:=Tryz.isAgg140
  z51:=Tryz.sizeOf140
  v51:=Tryz.zeroValue140
  t53:=Tryz.underlying142
  a53:=Tryz.isAgg142
  z53:=Tryz.sizeOf142
  v53:=Tryz.zeroValue142
  t75:=Tryz.underlying97
  a75:=Tryz.isAgg97
  z75:=Tryz.sizeOf97
  v75:=Tryz.zeroValue97
  t76:=Tryz.underlying98
  a76:=Tryz.isAgg98
  z76:=Tryz.sizeOf98
  v76:=Tryz.zeroValue98
  t85:=Tryz.underlying147
  a85:=Tryz.isAgg147
  z85:=Tryz.sizeOf147
  v85:=Tryz.zeroValue147
  t127:=Tryz.underlying153
  a127:=Tryz.isAgg153
  z127:=Tryz.sizeOf153
  v127:=Tryz.zeroValue153
  t143:=Tryz.underlying193
  a143:=Tryz.isAgg193
  z143:=Tryz.sizeOf193
  v143:=Tryz.zeroValue193
  t145:=Tryz.underlying195
  a145:=Tryz.isAgg195
  z145:=Tryz.sizeOf195
  v145:=Tryz.zeroValue195
  t167:=Tryz.underlying146
  a167:=Tryz.isAgg146
  z167:=Tryz.sizeOf146
  v167:=Tryz.zeroValue146
  t168:=Tryz.underlying149
  a168:=Tryz.isAgg149
  z168:=Tryz.sizeOf149
  v168:=Tryz.zeroValue149
  t171:=Tryz.underlying180
  a171:=Tryz.isAgg180
  z171:=Tryz.sizeOf180
  v171:=Tryz.zeroValue180
  t173:=Tryz.underlying182
  a173:=Tryz.isAgg182
  z173:=Tryz.sizeOf182
  v173:=Tryz.zeroValue182
  t175:=Tryz.underlying174
  a175:=Tryz.isAgg174
  z175:=Tryz.sizeOf174
  v175:=Tryz.zeroValue174
  t210:=Tryz.underlying178
  a210:=Tryz.isAgg178
  z210:=Tryz.sizeOf178
  v210:=Tryz.zeroValue178
  t212:=Tryz.underlying197
  a212:=Tryz.isAgg197
  z212:=Tryz.sizeOf197
  v212:=Tryz.zeroValue197
  t213:=Tryz.underlying198
  a213:=Tryz.isAgg198
  z213:=Tryz.sizeOf198
  t232:=Tryz.underlying206
  a232:=Tryz.isAgg206
  z232:=Tryz.sizeOf206
  v232:=Tryz.zeroValue206
  t233:=Tryz.underlying207
  a233:=Tryz.isAgg207
  z233:=Tryz.sizeOf207
  v233:=Tryz.zeroValue207
  g15:=by kernel_rfl
  g16:=by kernel_rfl
  g17:=by kernel_rfl
  g18:=by kernel_rfl
  g19:=by kernel_rfl
  t80:=Tryz.underlying125
  a80:=Tryz.isAgg125
  z80:=Tryz.sizeOf125
  v80:=Tryz.zeroValue125
  i0:=by kernel_rfl
  i2:=by kernel_rfl
  i3:=by kernel_rfl
  i4:=by kernel_rfl
  i5:=by kernel_rfl
  i9:=by kernel_rfl
  i20:=by kernel_rfl
  i21:=by kernel_rfl
  i37:=by kernel_rfl
  i46:=by kernel_rfl
  i51:=by kernel_rfl
  i53:=by kernel_rfl
  i75:=by kernel_rfl
  i76:=by kernel_rfl
  i80:=by kernel_rfl
  i85:=by kernel_rfl
  i127:=by kernel_rfl
  i143:=by kernel_rfl
  i145:=by kernel_rfl
  i167:=by kernel_rfl
  i168:=by kernel_rfl
  i171:=by kernel_rfl
  i173:=by kernel_rfl
  i175:=by kernel_rfl
  i210:=by kernel_rfl
  i212:=by kernel_rfl
  i232:=by kernel_rfl
  i233:=by kernel_rfl
  m15:=by kernel_rfl
  m16:=by kernel_rfl
  m17:=by kernel_rfl
  m18:=by kernel_rfl
  m19:=by kernel_rfl
  c0:=by kernel_rfl
  c2:=by kernel_rfl
  c3:=by kernel_rfl
  c4:=by kernel_rfl
  c5:=by kernel_rfl
  c9:=by kernel_rfl
  c20:=by kernel_rfl
  c21:=by kernel_rfl
  c37:=by kernel_rfl
  c46:=by kernel_rfl
  c51:=by kernel_rfl
  c53:=by kernel_rfl
  c75:=by kernel_rfl
  c76:=by kernel_rfl
  c80:=by kernel_rfl
  c85:=by kernel_rfl
  c127:=by kernel_rfl
  c143:=by kernel_rfl
  c145:=by kernel_rfl
  c167:=by kernel_rfl
  c168:=by kernel_rfl
  c171:=by kernel_rfl
  c173:=by kernel_rfl
  c175:=by kernel_rfl
  c210:=by kernel_rfl
  c212:=by kernel_rfl
  c213:=by kernel_rfl
  c232:=by kernel_rfl
  c233:=by kernel_rfl }
open Go.RowKit in
theorem Tryz.strconv_Atoi_ok (s:ByteArray) (hmax:s.size≤9223372036854775806) (v:Int) (h:Lib.atoiAll s.data.toList = .ok v) (w:World) :
    Calls Tryz.prog 66 #[.string s] w fun e w'=>e = .returned (.tuple #[.int .i64 v,.nilIface])∧(w' = w∨∃ t,w' = Lib.bytesWorld w 5 t):=Any.strconv_Atoi_ok Tryz.laysC172 s hmax v h w
open Go.RowKit in
theorem Tryz.strconv_Atoi_syntax (s:ByteArray) (hlim:s.size≤281474976710656) (h:Lib.atoiAll s.data.toList = Lib.NumEnd.syntax) (ev:Value) (w:World) (hv:w.cell? ⟨0,0,none⟩ = some ev) (hev:ev = .nilIface∨∃ te pe,ev = .iface te pe) :
    Calls Tryz.prog 66 #[.string s] w fun e w'=>∃ N,e = .returned (.tuple #[.int .i64 (0),.iface 149 (.pointer (some ⟨N,0,none⟩))])∧w.heap.size≤N∧w'.heap[N]? = some (.cells #[.string ⟨#[65,116,111,105]⟩,.string s,ev] 178 (0,0))∧Below w.heap.size w w':=Any.strconv_Atoi_syntax Tryz.laysC172 s hlim h ev w hv hev
open Go.RowKit in
theorem Tryz.strconv_Atoi_range (s:ByteArray) (hlim:s.size≤281474976710656) (h:Lib.atoiAll s.data.toList = .range) (ev:Value) (w:World) (hv:w.cell? ⟨1,0,none⟩ = some ev) (hev:ev = .nilIface∨∃ te pe,ev = .iface te pe) :
    Calls Tryz.prog 66 #[.string s] w fun e w'=>∃ N,e = .returned (.tuple #[.int .i64 (Lib.atoiSat s.data.toList),.iface 149 (.pointer (some ⟨N,0,none⟩))])∧w.heap.size≤N∧w'.heap[N]? = some (.cells #[.string ⟨#[65,116,111,105]⟩,.string s,ev] 178 (0,0))∧Below w.heap.size w w':=Any.strconv_Atoi_range Tryz.laysC172 s hlim h ev w hv hev
def Tryz.lays146_ren:Go.Shelf.Ren:=⟨fun|146=>65|221=>87|268=>114|138=>115|143=>116|195=>140|197=>141|218=>142|219=>143|260=>157|217=>158|225=>159|224=>160|267=>161|266=>169|314=>170|n=>n,fun|9=>9|31=>33|3=>3|4=>4|0=>0|105=>171|21=>21|5=>5|46=>117|119=>200|139=>203|138=>202|146=>204|51=>140|n=>n,fun|1=>2|3=>4|4=>5|n=>n⟩
theorem Tryz.lays146:Go.Proofs.Lays.n146 Tryz.prog Tryz.lays146_ren:={
  mixed:=by kernel_rfl
  f138:=Tryz.func115.trans (congrArg some (by kernel_rfl))
  f143:=Tryz.func116.trans (congrArg some (by kernel_rfl))
  f146:=Tryz.func65.trans (congrArg some (by kernel_rfl))
  f195:=Tryz.func140.trans (congrArg some (by kernel_rfl))
  f197:=Tryz.func141.trans (congrArg some (by kernel_rfl))
  f217:=Tryz.func158.trans (congrArg some (by kernel_rfl))
  f218:=Tryz.func142.trans (congrArg some (by kernel_rfl))
  f219:=Tryz.func143.trans (congrArg some (by kernel_rfl))
  f221:=Tryz.func87.trans (congrArg some (by kernel_rfl))
  f224:=Tryz.func160.trans (congrArg some (by kernel_rfl))
  f225:=Tryz.func159.trans (congrArg some (by kernel_rfl))
  f260:=Tryz.func157.trans (congrArg some (by kernel_rfl))
  f266:=Tryz.func169.trans (congrArg some (by kernel_rfl))
  f267:=Tryz.func161.trans (congrArg some (by kernel_rfl))
  f268:=Tryz.func114.trans (congrArg some (by kernel_rfl))
  f314:=Tryz.func170.trans (congrArg some (by kernel_rfl))
  t0:=Tryz.underlying0
  a0:=Tryz.isAgg0
  z0:=Tryz.sizeOf0
  v0:=Tryz.zeroValue0
  t3:=Tryz.underlying3
  a3:=Tryz.isAgg3
  z3:=Tryz.sizeOf3
  v3:=Tryz.zeroValue3
  t4:=Tryz.underlying4
  a4:=Tryz.isAgg4
  z4:=Tryz.sizeOf4
  v4:=Tryz.zeroValue4
  t5:=Tryz.underlying5
  a5:=Tryz.isAgg5
  z5:=Tryz.sizeOf5
  v5:=Tryz.zeroValue5
  t9:=Tryz.underlying9
  a9:=Tryz.isAgg9
  z9:=Tryz.sizeOf9
  v9:=Tryz.zeroValue9
  t21:=Tryz.underlying21
  a21:=Tryz.isAgg21
  z21:=Tryz.sizeOf21
  v21:=Tryz.zeroValue21
  t31:=Tryz.underlying33
  a31:=Tryz.isAgg33
  z31:=Tryz.sizeOf33
  v31:=Tryz.zeroValue33
  t46:=Tryz.underlying117
  a46:=Tryz.isAgg117
  z46:=Tryz.sizeOf117
  v46:=Tryz.zeroValue117
  t51:=Tryz.underlying140
  a51:=Tryz.isAgg140
  z51:=Tryz.sizeOf140
  v51:=Tryz.zeroValue140
  t105:=Tryz.underlying171
  a105:=Tryz.isAgg171
  z105:=Tryz.sizeOf171
  v105:=Tryz.zeroValue171
  t119:=Tryz.underlying200
  a119:=Tryz.isAgg200
  z119:=Tryz.sizeOf200
  t138:=Tryz.underlying202
  a138:=Tryz.isAgg202
  z138:=Tryz.sizeOf202
  v138:=Tryz.zeroValue202
  t139:=Tryz.underlying203
  a139:=Tryz.isAgg203
  z139:=Tryz.sizeOf203
  v139:=Tryz.zeroValue203
  t146:=Tryz.underlying204
  a146:=Tryz.isAgg204
  z146:=Tryz.sizeOf204
  v146:=Tryz.zeroValue204
  g1:=by kernel_rfl
  g3:=by kernel_rfl
  g4:=by kernel_rfl }
open Go.RowKit Go.Lib in
theorem Tryz.strings_Split (s sep:ByteArray) (m:Int) (w:World) (hs:s.size < 4294967281) (hm:w.cell? ⟨2,0,none⟩ = some (.int .i64 m)) (h1:1≤sep.size) :
    Calls Tryz.prog 65 #[.string s,.string sep] w fun e w' =>
      e = .returned (.slice (some ⟨w.heap.size,0,none⟩) (Lib.countB s sep + 1) (Lib.countB s sep + 1))∧w' = w.alloc (.cells ((Lib.splitB sep 0 (Lib.countB s sep) s).map Value.string).toArray 9):=Any.strings_Split Tryz.lays146 (by kernel_rfl) s sep m w hs hm h1
def Tryz.laysM146_ren:Go.Shelf.Ren:=⟨fun|146=>65|221=>87|268=>114|138=>115|143=>116|195=>140|197=>141|218=>142|219=>143|260=>157|217=>158|225=>159|224=>160|267=>161|266=>169|314=>170|n=>n,fun|9=>9|31=>33|3=>3|4=>4|0=>0|105=>171|21=>21|5=>5|46=>117|119=>200|139=>203|138=>202|146=>204|51=>140|n=>n,fun|1=>2|3=>4|4=>5|n=>n⟩
theorem Tryz.laysM146:Go.Proofs.LaysM.n146 Tryz.prog Tryz.laysM146_ren:={
  mixed:=by kernel_rfl
  f138:=Tryz.func115.trans (congrArg some (by kernel_rfl))
  f143:=Tryz.func116.trans (congrArg some (by kernel_rfl))
  f146:=Tryz.func65.trans (congrArg some (by kernel_rfl))
  f195:=Tryz.func140.trans (congrArg some (by kernel_rfl))
  f197:=Tryz.func141.trans (congrArg some (by kernel_rfl))
  f217:=Tryz.func158.trans (congrArg some (by kernel_rfl))
  f218:=Tryz.func142.trans (congrArg some (by kernel_rfl))
  f219:=Tryz.func143.trans (congrArg some (by kernel_rfl))
  f221:=Tryz.func87.trans (congrArg some (by kernel_rfl))
  f224:=Tryz.func160.trans (congrArg some (by kernel_rfl))
  f225:=Tryz.func159.trans (congrArg some (by kernel_rfl))
  f260:=Tryz.func157.trans (congrArg some (by kernel_rfl))
  f266:=Tryz.func169.trans (congrArg some (by kernel_rfl))
  f267:=Tryz.func161.trans (congrArg some (by kernel_rfl))
  f268:=Tryz.func114.trans (congrArg some (by kernel_rfl))
  f314:=Tryz.func170.trans (congrArg some (by kernel_rfl))
  t0:=Tryz.underlying0
  a0:=Tryz.isAgg0
  z0:=Tryz.sizeOf0
  v0:=Tryz.zeroValue0
  t3:=Tryz.underlying3
  a3:=Tryz.isAgg3
  z3:=Tryz.sizeOf3
  v3:=Tryz.zeroValue3
  t4:=Tryz.underlying4
  a4:=Tryz.isAgg4
  z4:=Tryz.sizeOf4
  v4:=Tryz.zeroValue4
  t5:=Tryz.underlying5
  a5:=Tryz.isAgg5
  z5:=Tryz.sizeOf5
  v5:=Tryz.zeroValue5
  t9:=Tryz.underlying9
  a9:=Tryz.isAgg9
  z9:=Tryz.sizeOf9
  v9:=Tryz.zeroValue9
  t21:=Tryz.underlying21
  a21:=Tryz.isAgg21
  z21:=Tryz.sizeOf21
  v21:=Tryz.zeroValue21
  t31:=Tryz.underlying33
  a31:=Tryz.isAgg33
  z31:=Tryz.sizeOf33
  v31:=Tryz.zeroValue33
  t46:=Tryz.underlying117
  a46:=Tryz.isAgg117
  z46:=Tryz.sizeOf117
  v46:=Tryz.zeroValue117
  t51:=Tryz.underlying140
  a51:=Tryz.isAgg140
  z51:=Tryz.sizeOf140
  v51:=Tryz.zeroValue140
  t105:=Tryz.underlying171
  a105:=Tryz.isAgg171
  z105:=Tryz.sizeOf171
  v105:=Tryz.zeroValue171
  t119:=Tryz.underlying200
  a119:=Tryz.isAgg200
  z119:=Tryz.sizeOf200
  t138:=Tryz.underlying202
  a138:=Tryz.isAgg202
  z138:=Tryz.sizeOf202
  v138:=Tryz.zeroValue202
  t139:=Tryz.underlying203
  a139:=Tryz.isAgg203
  z139:=Tryz.sizeOf203
  v139:=Tryz.zeroValue203
  t146:=Tryz.underlying204
  a146:=Tryz.isAgg204
  z146:=Tryz.sizeOf204
  v146:=Tryz.zeroValue204
  g1:=by kernel_rfl
  g3:=by kernel_rfl
  g4:=by kernel_rfl
  i0:=by kernel_rfl
  i3:=by kernel_rfl
  i4:=by kernel_rfl
  i5:=by kernel_rfl
  i9:=by kernel_rfl
  i21:=by kernel_rfl
  i31:=by kernel_rfl
  i46:=by kernel_rfl
  i51:=by kernel_rfl
  i105:=by kernel_rfl
  i138:=by kernel_rfl
  i139:=by kernel_rfl
  i146:=by kernel_rfl
  m1:=by kernel_rfl
  s1_3:=fun w h=>Go.Proofs.cell_of_shapedOpen_int (zero:=#[.int .i64 0]) (t:=3) h (of_decide_eq_true (by kernel_rfl)) (by kernel_rfl) rfl (by kernel_rfl) (by kernel_rfl) Tryz.underlying3
  m3:=by kernel_rfl
  m4:=by kernel_rfl }
end Go.Proofs
end

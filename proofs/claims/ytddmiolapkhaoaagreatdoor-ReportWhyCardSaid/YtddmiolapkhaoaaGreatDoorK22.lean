/- The contracts of the library functions that the law reaches, laid at this seat. -/
import Derived.Shelf.Strings.Builder1
import Derived.Shelf.Strings.Builder2
import Derived.Shelf.Strings.OnBuilder
import Derived.Shelf.Small.Bits
import Derived.Shelf.Small.Strs
import Derived.Shelf.Strings.BuilderF
import Derived.Shelf.Strings.BuilderK
import Derived.Shelf.Strings.Builder2Cap
import Derived.Shelf.Strconv.Itoa0
import Derived.Shelf.Strconv.Itoa1
import Derived.Shelf.LaysM
import Derived.Shelf.Strconv.Itoa2
import Derived.Shelf.Strconv.Itoa3
import Derived.Shelf.Strings.Search1
import Derived.Shelf.Strings.Fields
import Derived.Shelf.Strings.SplitShaped
import Derived.Shelf.Unicode.Latin
import Derived.Shelf.Unicode.Is16White
import Derived.Shelf.Unicode.IsSpaceAny
import Derived.Shelf.Unicode.Is16Any
import Derived.Shelf.Unicode.Is32Any
import Derived.Shelf.Unicode.ExclAny
import Derived.Shelf.Slices.Reverse
import Derived.Ground.Names2Prog
import Derived.Shelf.Slices.ReverseS
import Derived.Shelf.Slices.Clone
import Derived.Shelf.Slices.CompactI
import Derived.Shelf.Slices.SearchI
import Derived.Shelf.Slices.Cells
import Derived.Shelf.Slices.Empties
import Derived.Ground.SlgnProg
import Derived.Shelf.SlicesE.Clone
import Derived.Ground.NamesProg
import Derived.Shelf.Spec.SlicesInsertGrow
import Derived.Test.YtddmiolapkhaoaaGreatDoorProg
import Derived.Test.YtddmiolapkhaoaaGreatDoorK13
set_option linter.unusedVariables false
set_option linter.unusedSimpArgs false
section
namespace Go.Proofs
open Go.Shelf
def Tryz.lays169_ren:Go.Shelf.Ren:=⟨fun|169=>20|n=>n,fun|70=>60|9=>9|0=>0|72=>63|37=>61|127=>88|3=>3|5=>5|n=>n,fun|n=>n⟩
theorem Tryz.lays169:Go.Proofs.Lays.n169 Tryz.prog Tryz.lays169_ren:={
 mixed:=by kernel_rfl
 f169:=Tryz.func20.trans (congrArg some (by kernel_rfl))
 t0:=Tryz.underlying0
 a0:=Tryz.isAgg0
 z0:=Tryz.sizeOf0
 v0:=Tryz.zeroValue0
 t3:=Tryz.underlying3
 a3:=Tryz.isAgg3
 z3:=Tryz.sizeOf3
 v3:=Tryz.zeroValue3
 t9:=Tryz.underlying9
 a9:=Tryz.isAgg9
 z9:=Tryz.sizeOf9
 v9:=Tryz.zeroValue9
 t37:=Tryz.underlying61
 a37:=Tryz.isAgg61
 z37:=Tryz.sizeOf61
 v37:=Tryz.zeroValue61
 t70:=Tryz.underlying60
 a70:=Tryz.isAgg60
 z70:=Tryz.sizeOf60
 v70:=Tryz.zeroValue60
 t72:=Tryz.underlying63
 a72:=Tryz.isAgg63
 z72:=Tryz.sizeOf63
 v72:=Tryz.zeroValue63
 t127:=Tryz.underlying88
 a127:=Tryz.isAgg88
 z127:=Tryz.sizeOf88
 v127:=Tryz.zeroValue88 }
theorem Tryz.Builder_Extra_169:Builder.Extra Tryz.prog Tryz.lays169_ren:={
 sizeBuilder:=by kernel_rfl
 liesBuilder:=by kernel_rfl
 t5:=Tryz.underlying5
 a5:=Tryz.isAgg5
 z5:=Tryz.sizeOf5
 v5:=Tryz.zeroValue5
 infoByte:=by kernel_rfl
 cellsByte:=by kernel_rfl
 sizeByte:=by kernel_rfl
 neB5:=by decide }
def Tryz.lays156_ren:Go.Shelf.Ren:=⟨fun|156=>57|165=>90|166=>19|169=>20|240=>43|241=>120|276=>72|277=>146|n=>n,fun|31=>91|9=>9|3=>3|4=>4|0=>0|20=>20|72=>63|76=>66|70=>60|37=>61|75=>65|127=>88|164=>133|5=>5|80=>68|n=>n,fun|n=>n⟩
theorem Tryz.lays156:Go.Proofs.Lays.n156 Tryz.prog Tryz.lays156_ren:={
 mixed:=by kernel_rfl
 f156:=Tryz.func57.trans (congrArg some (by kernel_rfl))
 f165:=Tryz.func90.trans (congrArg some (by kernel_rfl))
 f166:=Tryz.func19.trans (congrArg some (by kernel_rfl))
 f169:=Tryz.func20.trans (congrArg some (by kernel_rfl))
 f240:=Tryz.func43.trans (congrArg some (by kernel_rfl))
 f241:=Tryz.func120.trans (congrArg some (by kernel_rfl))
 f276:=Tryz.func72.trans (congrArg some (by kernel_rfl))
 f277:=Tryz.func146.trans (congrArg some (by kernel_rfl))
 t0:=Tryz.underlying0
 a0:=Tryz.isAgg0
 z0:=Tryz.sizeOf0
 v0:=Tryz.zeroValue0
 t3:=Tryz.underlying3
 a3:=Tryz.isAgg3
 z3:=Tryz.sizeOf3
 v3:=Tryz.zeroValue3
 t4:=Tryz.underlying4
 a4:=Tryz.isAgg4
 z4:=Tryz.sizeOf4
 v4:=Tryz.zeroValue4
 t9:=Tryz.underlying9
 a9:=Tryz.isAgg9
 z9:=Tryz.sizeOf9
 v9:=Tryz.zeroValue9
 t20:=Tryz.underlying20
 a20:=Tryz.isAgg20
 z20:=Tryz.sizeOf20
 v20:=Tryz.zeroValue20
 t31:=Tryz.underlying91
 a31:=Tryz.isAgg91
 z31:=Tryz.sizeOf91
 v31:=Tryz.zeroValue91
 t37:=Tryz.underlying61
 a37:=Tryz.isAgg61
 z37:=Tryz.sizeOf61
 v37:=Tryz.zeroValue61
 t70:=Tryz.underlying60
 a70:=Tryz.isAgg60
 z70:=Tryz.sizeOf60
 v70:=Tryz.zeroValue60
 t72:=Tryz.underlying63
 a72:=Tryz.isAgg63
 z72:=Tryz.sizeOf63
 v72:=Tryz.zeroValue63
 t75:=Tryz.underlying65
 a75:=Tryz.isAgg65
 z75:=Tryz.sizeOf65
 v75:=Tryz.zeroValue65
 t76:=Tryz.underlying66
 a76:=Tryz.isAgg66
 z76:=Tryz.sizeOf66
 v76:=Tryz.zeroValue66
 t127:=Tryz.underlying88
 a127:=Tryz.isAgg88
 z127:=Tryz.sizeOf88
 v127:=Tryz.zeroValue88
 t164:=Tryz.underlying133
 a164:=Tryz.isAgg133
 z164:=Tryz.sizeOf133
 v164:=Tryz.zeroValue133 }
theorem Tryz.Builder_Extra_156:Builder.Extra Tryz.prog Tryz.lays156_ren:={
 sizeBuilder:=by kernel_rfl
 liesBuilder:=by kernel_rfl
 t5:=Tryz.underlying5
 a5:=Tryz.isAgg5
 z5:=Tryz.sizeOf5
 v5:=Tryz.zeroValue5
 infoByte:=by kernel_rfl
 cellsByte:=by kernel_rfl
 sizeByte:=by kernel_rfl
 neB5:=by decide }
open Go.RowKit in
theorem Tryz.strings_Join_none (a:Option Addr) (c:Nat) (sep:ByteArray) (w:World) :
  Calls Tryz.prog 57 #[.slice a 0 c,.string sep] w fun e w'=>e = .returned (.string ⟨#[]⟩)∧w' = w:=Any.strings_Join_none Tryz.lays156 Tryz.Builder_Extra_156 a c sep w
open Go.RowKit in
theorem Tryz.strings_Join (bk o c:Nat) (xs:List ByteArray) (sep:ByteArray) (w:World) (hcells:∀ (j:Nat) x,xs[j]? = some x→w.cell? ⟨bk,o + j,none⟩ = some (.string x)) (hbk:bk < w.heap.size) (hN:xs.length≤140737488355328) (hcap:xs.length≤c) (hlen:(Lib.join (xs.map (·.data.toList)) sep.data.toList).length≤140737488355328) :
  Calls Tryz.prog 57 #[.slice (some ⟨bk,o,none⟩) xs.length c,.string sep] w fun e w'=>e = .returned (.string ⟨(Lib.join (xs.map (·.data.toList)) sep.data.toList).toArray⟩)∧Below w.heap.size w w':=Any.strings_Join Tryz.lays156 Tryz.Builder_Extra_156 bk o c xs sep w hcells hbk hN hcap hlen
def Tryz.lays106_ren:Go.Shelf.Ren:=⟨fun|106=>162|213=>206|265=>227|n=>n,fun|9=>9|3=>3|n=>n,fun|n=>n⟩
theorem Tryz.lays106:Go.Proofs.Lays.n106 Tryz.prog Tryz.lays106_ren:={
 mixed:=by kernel_rfl
 f106:=Tryz.func162.trans (congrArg some (by kernel_rfl))
 f213:=Tryz.func206.trans (congrArg some (by kernel_rfl))
 f265:=Tryz.func227.trans (congrArg some (by kernel_rfl))
 t3:=Tryz.underlying3
 a3:=Tryz.isAgg3
 z3:=Tryz.sizeOf3
 v3:=Tryz.zeroValue3
 t9:=Tryz.underlying9
 a9:=Tryz.isAgg9
 z9:=Tryz.sizeOf9
 v9:=Tryz.zeroValue9 }
open Go.RowKit in
theorem Tryz.strings_Compare (a b:ByteArray) (w:World) :
  Calls Tryz.prog 162 #[.string a,.string b] w fun e w'=>e = .returned (.int .i64 (Lib.compareBytes a.data.toList b.data.toList))∧w' = w:=Any.strings_Compare Tryz.lays106 a b w
open Go.RowKit in
def Tryz.laysM171_ren:Go.Shelf.Ren:=⟨fun|171=>44|243=>73|246=>111|283=>138|284=>139|285=>140|286=>141|129=>165|317=>164|318=>166|319=>167|320=>168|337=>208|338=>209|n=>n,fun|3=>3|9=>9|2=>2|4=>4|171=>208|0=>0|53=>209|37=>61|5=>5|173=>212|212=>244|51=>179|20=>20|213=>245|46=>242|232=>282|233=>283|n=>n,fun|17=>2|18=>4|19=>5|n=>n⟩
theorem Tryz.laysM171:Go.Proofs.LaysM.n171 Tryz.prog Tryz.laysM171_ren:={
 mixed:=by kernel_rfl
 f129:=Tryz.func165.trans (congrArg some (by kernel_rfl))
 f171:=Tryz.func44.trans (congrArg some (by kernel_rfl))
 f243:=Tryz.func73.trans (congrArg some (by kernel_rfl))
 f246:=Tryz.func111.trans (congrArg some (by kernel_rfl))
 f283:=Tryz.func138.trans (congrArg some (by kernel_rfl))
 f284:=Tryz.func139.trans (congrArg some (by kernel_rfl))
 f285:=Tryz.func140.trans (congrArg some (by kernel_rfl))
 f286:=Tryz.func141.trans (congrArg some (by kernel_rfl))
 f317:=Tryz.func164.trans (congrArg some (by kernel_rfl))
 f318:=Tryz.func166.trans (congrArg some (by kernel_rfl))
 f319:=Tryz.func167.trans (congrArg some (by kernel_rfl))
 f320:=Tryz.func168.trans (congrArg some (by kernel_rfl))
 f337:=Tryz.func208.trans (congrArg some (by kernel_rfl))
 f338:=Tryz.func209.trans (congrArg some (by kernel_rfl))
 t0:=Tryz.underlying0
 a0:=Tryz.isAgg0
 z0:=Tryz.sizeOf0
 v0:=Tryz.zeroValue0
 t2:=Tryz.underlying2
 a2:=Tryz.isAgg2
 z2:=Tryz.sizeOf2
 v2:=Tryz.zeroValue2
 t3:=Tryz.underlying3
 a3:=Tryz.isAgg3
 z3:=Tryz.sizeOf3
 v3:=Tryz.zeroValue3
 t4:=Tryz.underlying4
 a4:=Tryz.isAgg4
 z4:=Tryz.sizeOf4
 v4:=Tryz.zeroValue4
 t5:=Tryz.underlying5
 a5:=Tryz.isAgg5
 z5:=Tryz.sizeOf5
 v5:=Tryz.zeroValue5
 t9:=Tryz.underlying9
 a9:=Tryz.isAgg9
 z9:=Tryz.sizeOf9
 v9:=Tryz.zeroValue9
 t20:=Tryz.underlying20
 a20:=Tryz.isAgg20
 z20:=Tryz.sizeOf20
 v20:=Tryz.zeroValue20
 t37:=Tryz.underlying61
 a37:=Tryz.isAgg61
 z37:=Tryz.sizeOf61
 v37:=Tryz.zeroValue61
 t46:=Tryz.underlying242
 a46:=Tryz.isAgg242
 z46:=Tryz.sizeOf242
 v46:=Tryz.zeroValue242
 t51:=Tryz.underlying179
 a51:=Tryz.isAgg179
 z51:=Tryz.sizeOf179
 v51:=Tryz.zeroValue179
 t53:=Tryz.underlying209
 a53:=Tryz.isAgg209
 z53:=Tryz.sizeOf209
 v53:=Tryz.zeroValue209
 t171:=Tryz.underlying208
 a171:=Tryz.isAgg208
 z171:=Tryz.sizeOf208
 v171:=Tryz.zeroValue208
 t173:=Tryz.underlying212
 a173:=Tryz.isAgg212
 z173:=Tryz.sizeOf212
 v173:=Tryz.zeroValue212
 t212:=Tryz.underlying244
 a212:=Tryz.isAgg244
 z212:=Tryz.sizeOf244
 v212:=Tryz.zeroValue244
 t213:=Tryz.underlying245
 a213:=Tryz.isAgg245
 z213:=Tryz.sizeOf245
 t232:=Tryz.underlying282
 a232:=Tryz.isAgg282
 z232:=Tryz.sizeOf282
 v232:=Tryz.zeroValue282
 t233:=Tryz.underlying283
 a233:=Tryz.isAgg283
 z233:=Tryz.sizeOf283
 v233:=Tryz.zeroValue283
 g17:=by kernel_rfl
 g18:=by kernel_rfl
 g19:=by kernel_rfl
 i0:=by kernel_rfl
 i2:=by kernel_rfl
 i3:=by kernel_rfl
 i4:=by kernel_rfl
 i5:=by kernel_rfl
 i9:=by kernel_rfl
 i20:=by kernel_rfl
 i37:=by kernel_rfl
 i46:=by kernel_rfl
 i51:=by kernel_rfl
 i53:=by kernel_rfl
 i171:=by kernel_rfl
 i173:=by kernel_rfl
 i212:=by kernel_rfl
 i232:=by kernel_rfl
 i233:=by kernel_rfl
 m17:=by kernel_rfl
 m18:=by kernel_rfl
 m19:=by kernel_rfl }
open Go.RowKit Go.Sort Go.Lib in
theorem Tryz.strconv_Itoa (n:Int) (h0:-9223372036854775808≤n) (h1:n≤9223372036854775807) (w:World) (htab:Lib.TabIs Tryz.prog w "internal/strconv.uint64pow10" .u64 Lib.pow10Tab) :
  Calls Tryz.prog 44 #[.int .i64 n] w fun e w'=>e = .returned (.string ⟨(Lib.itoa n).toArray⟩)∧∃ k os,w' = grow (w.drewN k) os:=Any.strconv_Itoa Tryz.laysM171 n h0 h1 w htab
def Tryz.lays157_ren:Go.Shelf.Ren:=⟨fun|157=>54|229=>86|199=>87|261=>115|311=>144|312=>145|n=>n,fun|9=>9|31=>91|3=>3|5=>5|4=>4|119=>144|0=>0|40=>146|152=>176|21=>21|154=>178|51=>179|141=>181|196=>218|193=>215|198=>221|49=>219|194=>216|201=>224|226=>246|46=>242|227=>247|n=>n,fun|0=>0|6=>1|n=>n⟩
theorem Tryz.lays157:Go.Proofs.Lays.n157 Tryz.prog Tryz.lays157_ren:={
 mixed:=by kernel_rfl
 f157:=Tryz.func54.trans (congrArg some (by kernel_rfl))
 f199:=Tryz.func87.trans (congrArg some (by kernel_rfl))
 f229:=Tryz.func86.trans (congrArg some (by kernel_rfl))
 f261:=Tryz.func115.trans (congrArg some (by kernel_rfl))
 f311:=Tryz.func144.trans (congrArg some (by kernel_rfl))
 f312:=Tryz.func145.trans (congrArg some (by kernel_rfl))
 t0:=Tryz.underlying0
 a0:=Tryz.isAgg0
 z0:=Tryz.sizeOf0
 v0:=Tryz.zeroValue0
 t3:=Tryz.underlying3
 a3:=Tryz.isAgg3
 z3:=Tryz.sizeOf3
 v3:=Tryz.zeroValue3
 t4:=Tryz.underlying4
 a4:=Tryz.isAgg4
 z4:=Tryz.sizeOf4
 v4:=Tryz.zeroValue4
 t5:=Tryz.underlying5
 a5:=Tryz.isAgg5
 z5:=Tryz.sizeOf5
 v5:=Tryz.zeroValue5
 t9:=Tryz.underlying9
 a9:=Tryz.isAgg9
 z9:=Tryz.sizeOf9
 v9:=Tryz.zeroValue9
 t21:=Tryz.underlying21
 a21:=Tryz.isAgg21
 z21:=Tryz.sizeOf21
 v21:=Tryz.zeroValue21
 t31:=Tryz.underlying91
 a31:=Tryz.isAgg91
 z31:=Tryz.sizeOf91
 v31:=Tryz.zeroValue91
 t40:=Tryz.underlying146
 a40:=Tryz.isAgg146
 z40:=Tryz.sizeOf146
 v40:=Tryz.zeroValue146
 t46:=Tryz.underlying242
 a46:=Tryz.isAgg242
 z46:=Tryz.sizeOf242
 v46:=Tryz.zeroValue242
 t49:=Tryz.underlying219
 a49:=Tryz.isAgg219
 z49:=Tryz.sizeOf219
 v49:=Tryz.zeroValue219
 t51:=Tryz.underlying179
 a51:=Tryz.isAgg179
 z51:=Tryz.sizeOf179
 v51:=Tryz.zeroValue179
 t119:=Tryz.underlying144
 a119:=Tryz.isAgg144
 z119:=Tryz.sizeOf144
 t141:=Tryz.underlying181
 a141:=Tryz.isAgg181
 z141:=Tryz.sizeOf181
 v141:=Tryz.zeroValue181
 t152:=Tryz.underlying176
 a152:=Tryz.isAgg176
 z152:=Tryz.sizeOf176
 v152:=Tryz.zeroValue176
 t154:=Tryz.underlying178
 a154:=Tryz.isAgg178
 z154:=Tryz.sizeOf178
 v154:=Tryz.zeroValue178
 t193:=Tryz.underlying215
 a193:=Tryz.isAgg215
 z193:=Tryz.sizeOf215
 v193:=Tryz.zeroValue215
 t194:=Tryz.underlying216
 a194:=Tryz.isAgg216
 z194:=Tryz.sizeOf216
 v194:=Tryz.zeroValue216
 t196:=Tryz.underlying218
 a196:=Tryz.isAgg218
 z196:=Tryz.sizeOf218
 v196:=Tryz.zeroValue218
 t198:=Tryz.underlying221
 a198:=Tryz.isAgg221
 z198:=Tryz.sizeOf221
 v198:=Tryz.zeroValue221
 t201:=Tryz.underlying224
 a201:=Tryz.isAgg224
 z201:=Tryz.sizeOf224
 v201:=Tryz.zeroValue224
 t226:=Tryz.underlying246
 a226:=Tryz.isAgg246
 z226:=Tryz.sizeOf246
 v226:=Tryz.zeroValue246
 t227:=Tryz.underlying247
 a227:=Tryz.isAgg247
 z227:=Tryz.sizeOf247
 v227:=Tryz.zeroValue247
 g0:=by kernel_rfl
 g6:=by kernel_rfl }
open Go.RowKit Go.Lib in
theorem Tryz.strings_Fields (s:ByteArray) (w:World) (hs:s.size < 4294967281) (hascii:∀ (j:Nat) b,s.data.toList[j]? = some b→b.toNat < 128) (htab:Lib.TabIs Tryz.prog w "strings.asciiSpace" .u8 Lib.asciiSpaceTab) :
  Calls Tryz.prog 54 #[.string s] w fun e w' =>
   e = .returned (.slice (some ⟨w.heap.size,0,none⟩) (Lib.fields s.data.toList).length (Lib.fields s.data.toList).length)∧w' = w.alloc (.cells ((Lib.fields s.data.toList).map fun l=>Value.string ⟨l.toArray⟩).toArray 9):=Any.strings_Fields Tryz.lays157 (by kernel_rfl) (by kernel_rfl) s w hs hascii htab
def Tryz.lays240_ren:Go.Shelf.Ren:=⟨fun|240=>43|276=>72|n=>n,fun|70=>60|9=>9|0=>0|72=>63|4=>4|20=>20|164=>133|37=>61|n=>n,fun|n=>n⟩
theorem Tryz.lays240:Go.Proofs.Lays.n240 Tryz.prog Tryz.lays240_ren:={
 mixed:=by kernel_rfl
 f240:=Tryz.func43.trans (congrArg some (by kernel_rfl))
 f276:=Tryz.func72.trans (congrArg some (by kernel_rfl))
 t0:=Tryz.underlying0
 a0:=Tryz.isAgg0
 z0:=Tryz.sizeOf0
 v0:=Tryz.zeroValue0
 t4:=Tryz.underlying4
 a4:=Tryz.isAgg4
 z4:=Tryz.sizeOf4
 v4:=Tryz.zeroValue4
 t9:=Tryz.underlying9
 a9:=Tryz.isAgg9
 z9:=Tryz.sizeOf9
 v9:=Tryz.zeroValue9
 t20:=Tryz.underlying20
 a20:=Tryz.isAgg20
 z20:=Tryz.sizeOf20
 v20:=Tryz.zeroValue20
 t70:=Tryz.underlying60
 a70:=Tryz.isAgg60
 z70:=Tryz.sizeOf60
 v70:=Tryz.zeroValue60
 t72:=Tryz.underlying63
 a72:=Tryz.isAgg63
 z72:=Tryz.sizeOf63
 v72:=Tryz.zeroValue63
 t164:=Tryz.underlying133
 a164:=Tryz.isAgg133
 z164:=Tryz.sizeOf133
 v164:=Tryz.zeroValue133 }
theorem Tryz.Builder_X72_240:Builder.X72 Tryz.prog Tryz.lays240_ren:={
 sizeBuilder:=by kernel_rfl
 liesBuilder:=by kernel_rfl }
def Tryz.lays2I22_ren:Go.Shelf.Ren:=⟨fun|22=>153|29=>175|30=>176|36=>212|17=>228|n=>n,fun|24=>91|9=>9|3=>3|4=>4|0=>0|n=>n,fun|n=>n⟩
theorem Tryz.lays2I22:Go.Proofs.Lays2.n22 Tryz.prog Tryz.lays2I22_ren:={
 mixed:=by kernel_rfl
 f17:=Tryz.func228.trans (congrArg some (by kernel_rfl))
 f22:=Tryz.func153.trans (congrArg some (by kernel_rfl))
 f29:=Tryz.func175.trans (congrArg some (by kernel_rfl))
 f30:=Tryz.func176.trans (congrArg some (by kernel_rfl))
 f36:=Tryz.func212.trans (congrArg some (by kernel_rfl))
 t0:=Tryz.underlying0
 a0:=Tryz.isAgg0
 z0:=Tryz.sizeOf0
 v0:=Tryz.zeroValue0
 t3:=Tryz.underlying3
 a3:=Tryz.isAgg3
 z3:=Tryz.sizeOf3
 v3:=Tryz.zeroValue3
 t4:=Tryz.underlying4
 a4:=Tryz.isAgg4
 z4:=Tryz.sizeOf4
 v4:=Tryz.zeroValue4
 t9:=Tryz.underlying9
 a9:=Tryz.isAgg9
 z9:=Tryz.sizeOf9
 v9:=Tryz.zeroValue9
 t24:=Tryz.underlying91
 a24:=Tryz.isAgg91
 z24:=Tryz.sizeOf91
 v24:=Tryz.zeroValue91
 i9:=by kernel_rfl }
def Tryz.lays2I21_ren:Go.Shelf.Ren:=⟨fun|21=>155|27=>179|28=>180|35=>213|39=>229|n=>n,fun|22=>22|3=>3|4=>4|0=>0|n=>n,fun|n=>n⟩
theorem Tryz.lays2I21:Go.Proofs.Lays2.n21 Tryz.prog Tryz.lays2I21_ren:={
 mixed:=by kernel_rfl
 f21:=Tryz.func155.trans (congrArg some (by kernel_rfl))
 f27:=Tryz.func179.trans (congrArg some (by kernel_rfl))
 f28:=Tryz.func180.trans (congrArg some (by kernel_rfl))
 f35:=Tryz.func213.trans (congrArg some (by kernel_rfl))
 f39:=Tryz.func229.trans (congrArg some (by kernel_rfl))
 t0:=Tryz.underlying0
 a0:=Tryz.isAgg0
 z0:=Tryz.sizeOf0
 v0:=Tryz.zeroValue0
 t3:=Tryz.underlying3
 a3:=Tryz.isAgg3
 z3:=Tryz.sizeOf3
 v3:=Tryz.zeroValue3
 t4:=Tryz.underlying4
 a4:=Tryz.isAgg4
 z4:=Tryz.sizeOf4
 v4:=Tryz.zeroValue4
 t22:=Tryz.underlying22
 a22:=Tryz.isAgg22
 z22:=Tryz.sizeOf22
 v22:=Tryz.zeroValue22
 i3:=by kernel_rfl }
end Go.Proofs
end
section
namespace Go.Proofs
open Go Av Go.Shelf Go.RowKit
set_option maxRecDepth 100000
section
variable {P:Program} {ρ:Ren}
theorem ak9 {h:Array Obj} {b:Nat} {x:Obj} (f:Obj→Obj) (hb:h[b]? = some x):(h.modify b f)[b]? = some (f x):=by
 rw [kY];simp [hb]
theorem vB {h:Array Obj} {b k:Nat} (f:Obj→Obj) (hk:k≠b):(h.modify b f)[k]? = h[k]?:=by
 rw [kY,if_neg (fun e=>hk e.symm)]
theorem ar2 {w:World} {b o:Nat} {cs:Array Value} {ty:TypeId} {fr:Nat×Nat} (v:Value) (h:w.heap[b]? = some (.cells cs ty fr)):(w.setCell ⟨b,o,none⟩ v).heap[b]? = some (.cells (cs.setIfInBounds o v) ty fr):=by
 show (w.heap.modify b _)[b]? = _
 rw [ak9 _ h];rfl
theorem ar1 {w:World} {b o k:Nat} (v:Value) (h:k≠b):(w.setCell ⟨b,o,none⟩ v).heap[k]? = w.heap[k]?:=by
 show (w.heap.modify b _)[k]? = _
 exact vB _ h
theorem ap9 (w:World) (g n k i:Nat):(w.freeze ⟨g,0,none⟩ n).cell? ⟨k,i,none⟩ = w.cell? ⟨k,i,none⟩:=by
 unfold World.freeze
 split
 ·rfl
 ·by_cases hk:k = g
  ·subst hk
   unfold World.cell?
   simp only [kY]
   rcases w.heap[k]? with _|x
   ·rfl
   ·cases x<;>rfl
  ·unfold World.cell?
   simp only [vB _ hk]
theorem auu (w:World) (g n k:Nat) (h:k≠g):(w.freeze ⟨g,0,none⟩ n).heap[k]? = w.heap[k]?:=by
 unfold World.freeze
 split
 ·rfl
 ·exact vB _ h
theorem ap7 (w:World) (g n:Nat):(w.freeze ⟨g,0,none⟩ n).heap.size = w.heap.size:=by
 unfold World.freeze
 split
 ·rfl
 ·exact Array.size_modify
theorem ap8 (w:World) (g n:Nat):U7 w (w.freeze ⟨g,0,none⟩ n):=by
 unfold World.freeze
 split<;>exact ⟨rfl,rfl,rfl⟩
theorem aqO {w:World} {b:Nat} {cs:Array Value} {ty:TypeId} {fr:Nat×Nat} (h:w.heap[b]? = some (.cells cs ty fr)):w.shape? b = some (ty,cs.size):=by simp [World.shape?,h]
theorem atF {x y:Ob}:upd (fun k=>[x][k]?) 0 (some y) = fun k=>[y][k]?:=by
 funext k
 match k with
 | 0=>rfl
 | k + 1=>rfl
theorem aoz {C:Ctx} {ins:List Ob} {n:Nat} (hg:Av.Good C C.w0 C.Z0 C.μ0 fun k=>ins[k]?) (hn:n = ins.length) {w':World} (hsz:C.w0.heap.size≤w'.heap.size)
  (hf:∀ b,b < C.w0.heap.size→¬ C.F b→w'.heap[b]? = C.w0.heap[b]?) (hz:∀ b i,C.Z0 b i→w'.cell? ⟨b,i,none⟩ = C.w0.cell? ⟨b,i,none⟩) (ho:U7 C.w0 w') :
  Av.Good C w' C.Z0 C.μ0 fun k=>(List.replicate n Ob.dead)[k]?:=by
 have dd:∀ {a:Nat} {x:Ob},(List.replicate n Ob.dead)[a]? = some x→x = .dead∧a < n:=by
  intro a x h
  rw [bg] at h
  split at h
  ·exact ⟨(kQ h).symm,‹_›⟩
  ·cases h
 refine ⟨fun a x h=>?_,fun a b x y c d _ h _ _ _ lx=>?_,fun b i h=>Zm (hg.zlt b i h) hsz,hsz,hf,hg.zsub,hg.zsup,hz,fun _ _=>rfl,ho⟩
 ·obtain ⟨rfl,ha⟩:=dd h
  have ha2:a < ins.length:=by omega
  obtain ⟨c,hc,_⟩:=hg.ob a ins[a] (zb ha2)
  exact ⟨c,hc,trivial,fun h=>h.elim⟩
 ·obtain ⟨rfl,_⟩:=dd h
  exact lx.elim
theorem aro {C:Ctx} {v:Value} {T:TypeId} {a0 x:Value} {outs:List Ob} (h0:outs[0]? = some (.typ T (.box true [.sc a0,.sc x]))) (hg:Av.Good C C.w0 C.Z0 C.μ0 fun k=>outs[k]?) (hr:Rep C.w0 C.Z0 C.μ0 v (.ptr 0 0)) :
  ∃ c,C.μ0 0 = some c∧v = .pointer (some ⟨c.block,0,none⟩)∧C.w0.heap[c.block]? = some (.cells #[a0,x] T (0,0))∧c.void = false∧c.base = 0∧(∀ o,¬ C.Z0 c.block o)∧C.F c.block∧c.block < C.w0.heap.size∧a0.oneCell' = true∧x.oneCell' = true:=by
 obtain ⟨c,hc,rfl⟩:=hr.ptrE
 obtain ⟨c',hc',hok,hl⟩:=hg.ob 0 _ h0
 rw [hc] at hc';cases hc'
 obtain ⟨⟨hv,⟨cs,ty,hh,hs,hrr⟩,hz⟩,hb,ht⟩:=hok
 obtain ⟨cs2,fr2,e2⟩:=ht trivial
 rw [hh] at e2
 cases e2
 obtain ⟨l1,l2⟩:=hl trivial
 have hs2:cs.size = 2:=hs
 have r0:=hrr 0 (by simp) (by omega)
 have r1:=hrr 1 (by simp) (by omega)
 have q0:cs[0]'(by omega) = a0:=r0.1.scE.1
 have q1:cs[1]'(by omega) = x:=r1.1.scE.1
 have hcs:cs = #[a0,x]:=by
  apply bq
  ·exact hs2
  ·intro i h1 h2
   match i,h2 with
   | 0,_=>exact q0
   | 1,_=>exact q1
 subst hcs
 exact ⟨c,hc,rfl,hh,hv,hb,hz rfl,l2.resolve_left (by omega),l1,r0.1.scE.2,r1.1.scE.2⟩
theorem amA {cargs:Array Value} {a:V} (hsz:cargs.size = [a].length):∃ v,cargs = #[v]:=⟨cargs[0]'(by simp at hsz;omega),by
 have h2:cargs.size = 1:=hsz
 apply bq
 ·exact h2
 ·intro i h1 h3
  match i,h3 with
  | 0,_=>rfl⟩
theorem ay3 {Γ:Env} (L:Lays.n240 Γ.P ρ) (X:Builder.X72 Γ.P ρ) (hT:aw4 Γ.P = ρ.t 72) (own:Own Γ.P (ρ.f 240)):BCF Γ (ρ.f 240):=by
 constructor
 intro C cargs hP hm hmu hg hF hsz hrep
 subst hP
 obtain ⟨v0,rfl⟩:=amA hsz
 have r0:Rep C.w0 C.Z0 C.μ0 v0 (.ptr 0 0):=hrep 0 (by simp) (by simp)
 obtain ⟨c,hc,rfl,hh,hv,hb,hz,hFc,hlt,_,_⟩:=aro rfl hg r0
 rw [hT] at hh
 refine (XX own _ _ _).2 ((Any.Builder_copyCheck_fresh L X c.block C.w0 (by rw [cell?_of_heap hh];rfl) (aqO hh) (by rw [frozen?_of_heap hh];rfl)).mono ?_)
 rintro e w' ⟨rfl,rfl⟩
 refine ⟨_,C.Z0,C.μ0,rfl,.tup rfl (fun j h=>by simp at h),?_,hmu⟩
 have:=hg.write (w':=C.w0.setCell ⟨c.block,0,none⟩ (.pointer (some ⟨c.block,0,none⟩))) (a:=0) (x:=bX C.env as5 v8) (x':=bX C.env (.ptr 0 0) v8) (c:=c) rfl hc trivial (fun b hb=>ar1 _ hb) (by show (C.w0.heap.modify _ _).size = _;exact Array.size_modify) (fun i hi=>(hz i hi).elim) ?_ ⟨rfl,rfl,rfl⟩
 ·rw [atF] at this;exact this
 ·have hh2:=ar2 (o:=0) (.pointer (some ⟨c.block,0,none⟩)) hh
  have e2:(#[Value.pointer none,.slice none 0 0]:Array Value).setIfInBounds 0 (.pointer (some ⟨c.block,0,none⟩)) = #[.pointer (some ⟨c.block,0,none⟩),.slice none 0 0]:=rfl
  rw [e2] at hh2
  refine ⟨⟨hv,⟨_,_,hh2,rfl,fun j h h'=>?_⟩,fun _=>hz⟩,hb,fun _=>⟨_,_,hh2.trans (by rw [← hT])⟩⟩
  match j,h with
  | 0,_=>exact ⟨.ptr hc,rfl⟩
  | 1,_=>exact ⟨.sc rfl,rfl⟩
theorem atd {C:Ctx} {v:Value} {T:TypeId} {n:Nat} {y:Ob} (hg:Av.Good C C.w0 C.Z0 C.μ0 fun k=>[Ob.typ T (.box true [.ptr 0 0,.hd 1 0 n]),y][k]?) (hr:Rep C.w0 C.Z0 C.μ0 v (.ptr 0 0)) :
  ∃ c d x,C.μ0 0 = some c∧v = .pointer (some ⟨c.block,0,none⟩)∧C.w0.heap[c.block]? = some (.cells #[.pointer (some ⟨c.block,0,none⟩),x] T (0,0))∧C.μ0 1 = some d∧Hdr d 0 n x∧C.F c.block:=by
 obtain ⟨c,hc,rfl⟩:=hr.ptrE
 obtain ⟨c',hc',hok,hl⟩:=hg.ob 0 _ rfl
 rw [hc] at hc';cases hc'
 obtain ⟨⟨hv,⟨cs,ty,hh,hs,hrr⟩,hz⟩,hb,ht⟩:=hok
 obtain ⟨cs2,fr2,e2⟩:=ht trivial
 rw [hh] at e2
 cases e2
 obtain ⟨l1,l2⟩:=hl trivial
 have hs2:cs.size = 2:=hs
 have r0:Rep C.w0 C.Z0 C.μ0 (cs[0]'(by omega)) (.ptr 0 0):=(hrr 0 (by simp) (by omega)).1
 have r1:Rep C.w0 C.Z0 C.μ0 (cs[1]'(by omega)) (.hd 1 0 n):=(hrr 1 (by simp) (by omega)).1
 obtain ⟨c2,hc2,q0⟩:=r0.ptrE
 rw [hc] at hc2;cases hc2
 obtain ⟨d,hd,hh1⟩:=r1.hdE
 have hcs:cs = #[.pointer (some ⟨c.block,0,none⟩),cs[1]'(by omega)]:=by
  apply bq
  ·exact hs2
  ·intro i h1 h2
   match i,h2 with
   | 0,_=>exact q0
   | 1,_=>rfl
 rw [hcs] at hh
 exact ⟨c,d,cs[1]'(by omega),hc,rfl,hh,hd,hh1,l2.resolve_left (by omega)⟩
theorem ay2 {Γ:Env} (L:Lays.n240 Γ.P ρ) (X:Builder.X72 Γ.P ρ) (own:Own Γ.P (ρ.f 240)) (l:List UInt8):BCU Γ (ρ.f 240) l:=by
 constructor
 intro C cargs hP hm hmu hg hF hsz hrep
 subst hP
 obtain ⟨v0,rfl⟩:=amA hsz
 have r0:Rep C.w0 C.Z0 C.μ0 v0 (.ptr 0 0):=hrep 0 (by simp) (by simp)
 obtain ⟨c,d,x,hc,rfl,hh,hd,hh1,_⟩:=atd hg r0
 refine (XX own _ _ _).2 ((Any.Builder_copyCheck_used L X c.block C.w0 (by rw [cell?_of_heap hh];rfl)).mono ?_)
 rintro e w' ⟨rfl,rfl⟩
 exact ⟨_,C.Z0,C.μ0,rfl,.tup rfl (fun j h=>by simp at h),hg,hmu⟩
theorem ay1 {Γ:Env} (L:Lays.n169 Γ.P ρ) (X:Builder.Extra Γ.P ρ) (hT:aw4 Γ.P = ρ.t 72) (own:Own Γ.P (ρ.f 169)):BSF Γ (ρ.f 169):=by
 constructor
 intro C cargs hP hm hmu hg hF hsz hrep
 subst hP
 obtain ⟨v0,rfl⟩:=amA hsz
 have r0:Rep C.w0 C.Z0 C.μ0 v0 (.ptr 0 0):=hrep 0 (by simp) (by simp)
 obtain ⟨c,hc,rfl,hh,hv,hb,hz,hFc,hlt,_,_⟩:=aro rfl hg r0
 rw [hT] at hh
 refine (XX own _ _ _).2 ((Any.Builder_String_nil L X C.w0.heap.size c.block _ C.w0 hh).mono ?_)
 rintro e w' ⟨rfl,hbl⟩
 exact ⟨_,C.Z0,C.μ0,rfl,.sc rfl,aoz (n:=1) hg rfl hbl.size (fun b h _=>hbl.block b h) (fun b i h=>by simp [World.cell?,hbl.block b (hg.zlt b i h)]) ⟨hbl.os,hbl.tape,hbl.output⟩,hmu⟩
set_option maxHeartbeats 1000000 in
theorem anQ (L:Lays.n169 P ρ) (X:Builder.Extra P ρ) (b g cap:Nat) (p:Value) (cur:Array Value) (fr:Nat×Nat) (l:List UInt8) (w:World) (h0:l≠[]) (hn:l.length≤2 ^ 38) (hcap:l.length≤cap) (hcs:l.length≤cur.size)
  (hbk:w.heap[b]? = some (.cells #[p,.slice (some ⟨g,0,none⟩) l.length cap] (ρ.t 72) (0,0))) (hg:w.heap[g]? = some (.cells cur (ρ.t 5) fr)) (hcell:∀ (j:Nat) (x:UInt8),l[j]? = some x→cur[j]? = some (Value.int .u8 x.toNat)) :
  Calls P (ρ.f 169) #[.pointer (some ⟨b,0,none⟩)] w fun e w'=>e = .returned (.string ⟨l.toArray⟩)∧w' = w.drew.freeze ⟨g,0,none⟩ l.length:=by
 have hl0:l.length≠0:=by simpa using h0
 have c1:w.drew.cell? ⟨b,1,none⟩ = some (.slice (some ⟨g,0,none⟩) l.length cap):=by
  have:w.drew.heap[b]? = some (.cells #[p,.slice (some ⟨g,0,none⟩) l.length cap] (ρ.t 72) (0,0)):=hbk
  rw [Lib.cell_of_heap this];rfl
 have hSD:(Builtin.unsafeSliceData_ #[(ρ.t 37)] (ρ.t 127) #[.slice (some ⟨g,0,none⟩) l.length cap]).run P w.drew = .ok (.pointer (some ⟨g,0,none⟩)) w.drew :=
  Lib.run_unsafeSliceData_row _ _ _ _ _ _ (by omega)
 have hgd:w.drew.heap[g]? = some (.cells cur (ρ.t 5) fr):=hg
 have hUS:(Builtin.unsafeString_ #[(ρ.t 127),(ρ.t 3)] (ρ.t 9) #[.pointer (some ⟨g,0,none⟩),.int .i64 l.length]).run P w.drew = .ok (.string ⟨l.toArray⟩) (w.drew.freeze ⟨g,0,none⟩ l.length) :=
  Lib.run_unsafeString_row w.drew (ρ.t 127) (ρ.t 3) (ρ.t 9) (ρ.t 5) L.t127 X.cellsByte g cur.size (aqO hgd) l h0 hcs (by omega) fun j x hx=>by
   rw [show (⟨g,0,none⟩:Addr).add j = ⟨g,j,none⟩ by rw [Addr.add];split<;>simp_all,cell?_of_heap hgd];exact hcell j x hx
 have mixed:=L.mixed
 have t72:=L.t72;have a72:=L.a72;have z72:=L.z72;have v72:=L.v72;have u72:=run_underlying L.t72
 have t70:=L.t70;have a70:=L.a70;have z70:=L.z70;have v70:=L.v70;have u70:=run_underlying L.t70
 have t37:=L.t37;have a37:=L.a37;have z37:=L.z37;have v37:=L.v37;have u37:=run_underlying L.t37
 have t127:=L.t127;have a127:=L.a127;have z127:=L.z127;have v127:=L.v127;have aAc:=run_underlying L.t127
 have t3:=L.t3;have a3:=L.a3;have z3:=L.z3;have v3:=L.v3;have u3:=run_underlying L.t3
 have t9:=L.t9;have a9:=L.a9;have z9:=L.z9;have v9:=L.v9;have u9:=run_underlying L.t9
 have t5:=X.t5;have a5:=X.a5;have z5:=X.z5;have v5:=X.v5;have u5:=run_underlying X.t5
 go_enter L.f169,Body.n169_ntmps ρ
 go_wp2
 go_region_o
 all_goals (go_wp2;go_ret;exact ⟨rfl,rfl⟩)
theorem ay0 {Γ:Env} (L:Lays.n169 Γ.P ρ) (X:Builder.Extra Γ.P ρ) (hT:aw4 Γ.P = ρ.t 72) (hB:ayZ Γ.P = ρ.t 5) (own:Own Γ.P (ρ.f 169)) (l:List UInt8) (h0:l≠[]) (hn:l.length≤2 ^ 38):BSU Γ (ρ.f 169) l:=by
 constructor
 intro C cargs hP hm hmu hg hF hsz hrep
 subst hP
 obtain ⟨v0,rfl⟩:=amA hsz
 have r0:Rep C.w0 C.Z0 C.μ0 v0 (.ptr 0 0):=hrep 0 (by simp) (by simp)
 obtain ⟨c,d,x,hc,rfl,hh,hd,hh1,hFc⟩:=atd hg r0
 obtain ⟨d',hd',hok,hlv⟩:=hg.ob 1 _ rfl
 rw [hd] at hd';cases hd'
 obtain ⟨⟨hn1,hbuf⟩,hbase,hty⟩:=hok
 have hl0:0 < l.length:=by cases l with|nil=>exact absurd rfl h0|cons _ _=>simp
 have hlen:(byV l).length = l.length:=by simp
 have hvoid:d.void = false:=by
  rcases hv:d.void with _|_
  ·rfl
  ·rw [Hdr,if_pos hv] at hh1;omega
 rw [Hdr,if_neg (by simp [hvoid])] at hh1
 obtain ⟨ad,rfl,_,_,had⟩:=hh1
 obtain ⟨hsz1,hcap,hwz,hzb,hel,cs,ty,fr,hg1,hsize,hfrz,hcells⟩:=hbuf hvoid
 obtain ⟨cs2,fr2,e2⟩:=hty hvoid
 rw [hg1] at e2
 cases e2
 have had2:=had (by omega)
 rw [hbase] at had2
 simp only [Nat.zero_mul,Nat.add_zero] at had2
 subst had2
 obtain ⟨l1,l2⟩:=hlv hvoid
 have hFd:C.F d.block:=l2.resolve_left (by omega)
 rw [hT] at hh
 rw [hB] at hg1
 refine (XX own _ _ _).2 ((anQ L X c.block d.block (d.cap - 0) _ cs _ l C.w0 h0 hn (by omega) ?_ hh hg1 ?_).mono ?_)
 ·rw [hbase,hsz1] at hsize;omega
 ·intro j y hy
  obtain ⟨hj,hj2⟩:=zh.1 hy
  have hj3:j < (byV l).length:=by omega
  obtain ⟨v,e1,_,e3⟩:=hcells j hj3 0 (by simp [V.cells])
  rw [hbase,hsz1] at e1
  have e4:Rep C.w0 C.Z0 noμ v (V.sc (.int .u8 y.toNat)):=by
   have:(byV l)[j] = V.sc (.int .u8 y.toNat):=by simp [← hj2]
   simpa [this,V.cells] using e3
  obtain ⟨rfl,_⟩:=e4.scE
  simpa using e1
 ·rintro e w' ⟨rfl,rfl⟩
  refine ⟨_,C.Z0,C.μ0,rfl,.sc rfl,aoz (n:=2) hg rfl (by rw [ap7];exact zl _) (fun b h hFb=>?_) (fun b i h=>ap9 _ _ _ _ _) (ap8 _ _ _),hmu⟩
  rw [auu _ _ _ b (fun e=>hFb (by rw [e];exact hFd))];rfl
end
end Go.Proofs
end

/- The contracts of the library functions that the law reaches, laid at this seat. -/
import Derived.Shelf.Small.Strs
import Derived.Shelf.Strconv.Itoa0
import Derived.Shelf.Spec.SlicesInsertGrow
import Derived.Shelf.Spec.SlicesGrow
import Derived.Ground.NamesProg
import Derived.Ground.Names2Prog
import Derived.Ground.Names8Prog
import Derived.Test.YtlpaikjhphkioaaGreatProg
set_option linter.unusedVariables false
set_option linter.unusedSimpArgs false
section
namespace Go.Proofs
open Go.Shelf
def Tryz.lays2I22_ren:Go.Shelf.Ren:=⟨fun|22=>109|29=>129|30=>130|36=>170|17=>188|n=>n,fun|24=>56|9=>9|3=>3|4=>4|0=>0|n=>n,fun|n=>n⟩
theorem Tryz.lays2I22:Go.Proofs.Lays2.n22 Tryz.prog Tryz.lays2I22_ren:={
 mixed:=by kernel_rfl
 f17:=Tryz.func188.trans (congrArg some (by kernel_rfl))
 f22:=Tryz.func109.trans (congrArg some (by kernel_rfl))
 f29:=Tryz.func129.trans (congrArg some (by kernel_rfl))
 f30:=Tryz.func130.trans (congrArg some (by kernel_rfl))
 f36:=Tryz.func170.trans (congrArg some (by kernel_rfl))
 t0:=Tryz.underlying0
 a0:=Tryz.isAgg0
 z0:=Tryz.sizeOf0
 v0:=Tryz.zeroValue0
 t3:=Tryz.underlying3
 a3:=Tryz.isAgg3
 z3:=Tryz.sizeOf3
 v3:=Tryz.zeroValue3
 t4:=Tryz.underlying4
 a4:=Tryz.isAgg4
 z4:=Tryz.sizeOf4
 v4:=Tryz.zeroValue4
 t9:=Tryz.underlying9
 a9:=Tryz.isAgg9
 z9:=Tryz.sizeOf9
 v9:=Tryz.zeroValue9
 t24:=Tryz.underlying56
 a24:=Tryz.isAgg56
 z24:=Tryz.sizeOf56
 v24:=Tryz.zeroValue56
 i9:=by kernel_rfl }
def Tryz.lays2I21_ren:Go.Shelf.Ren:=⟨fun|21=>111|27=>133|28=>134|35=>171|39=>189|n=>n,fun|22=>22|3=>3|4=>4|0=>0|n=>n,fun|n=>n⟩
theorem Tryz.lays2I21:Go.Proofs.Lays2.n21 Tryz.prog Tryz.lays2I21_ren:={
 mixed:=by kernel_rfl
 f21:=Tryz.func111.trans (congrArg some (by kernel_rfl))
 f27:=Tryz.func133.trans (congrArg some (by kernel_rfl))
 f28:=Tryz.func134.trans (congrArg some (by kernel_rfl))
 f35:=Tryz.func171.trans (congrArg some (by kernel_rfl))
 f39:=Tryz.func189.trans (congrArg some (by kernel_rfl))
 t0:=Tryz.underlying0
 a0:=Tryz.isAgg0
 z0:=Tryz.sizeOf0
 v0:=Tryz.zeroValue0
 t3:=Tryz.underlying3
 a3:=Tryz.isAgg3
 z3:=Tryz.sizeOf3
 v3:=Tryz.zeroValue3
 t4:=Tryz.underlying4
 a4:=Tryz.isAgg4
 z4:=Tryz.sizeOf4
 v4:=Tryz.zeroValue4
 t22:=Tryz.underlying22
 a22:=Tryz.isAgg22
 z22:=Tryz.sizeOf22
 v22:=Tryz.zeroValue22
 i3:=by kernel_rfl }
def Tryz.lays8G65_ren:Go.Shelf.Ren:=⟨fun|4=>65|n=>n,fun|22=>45|25=>26|3=>3|4=>4|9=>9|20=>20|0=>0|n=>n,fun|n=>n⟩
theorem Tryz.lays8G65:Go.Proofs.Lays8.n4 Tryz.prog Tryz.lays8G65_ren:={
 mixed:=by kernel_rfl
 f4:=⟨Tryz.f65.name,by decide,Tryz.func65.trans (congrArg some (by kernel_rfl))⟩
 t0:=Tryz.underlying0
 a0:=Tryz.isAgg0
 z0:=Tryz.sizeOf0
 v0:=Tryz.zeroValue0
 t3:=Tryz.underlying3
 a3:=Tryz.isAgg3
 z3:=Tryz.sizeOf3
 v3:=Tryz.zeroValue3
 t4:=Tryz.underlying4
 a4:=Tryz.isAgg4
 z4:=Tryz.sizeOf4
 v4:=Tryz.zeroValue4
 t9:=Tryz.underlying9
 a9:=Tryz.isAgg9
 z9:=Tryz.sizeOf9
 v9:=Tryz.zeroValue9
 t20:=Tryz.underlying20
 a20:=Tryz.isAgg20
 z20:=Tryz.sizeOf20
 v20:=Tryz.zeroValue20
 t22:=Tryz.underlying45
 a22:=Tryz.isAgg45
 z22:=Tryz.sizeOf45
 v22:=Tryz.zeroValue45 }
def Tryz.lays106_ren:Go.Shelf.Ren:=⟨fun|106=>119|213=>163|265=>186|n=>n,fun|9=>9|3=>3|n=>n,fun|n=>n⟩
theorem Tryz.lays106:Go.Proofs.Lays.n106 Tryz.prog Tryz.lays106_ren:={
 mixed:=by kernel_rfl
 f106:=Tryz.func119.trans (congrArg some (by kernel_rfl))
 f213:=Tryz.func163.trans (congrArg some (by kernel_rfl))
 f265:=Tryz.func186.trans (congrArg some (by kernel_rfl))
 t3:=Tryz.underlying3
 a3:=Tryz.isAgg3
 z3:=Tryz.sizeOf3
 v3:=Tryz.zeroValue3
 t9:=Tryz.underlying9
 a9:=Tryz.isAgg9
 z9:=Tryz.sizeOf9
 v9:=Tryz.zeroValue9 }
end Go.Proofs
end

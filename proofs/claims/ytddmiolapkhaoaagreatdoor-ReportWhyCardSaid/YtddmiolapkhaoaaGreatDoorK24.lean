/- What the rules' rows of this seat give, and a world that meets their condition. -/
import Derived.Test.YtddmiolapkhaoaaGreatDoorRows
import Derived.WalkKit
import Derived.ProofKit
import Derived.OpenShut
import Derived.LaidLaws
import Derived.Lay
import Derived.Stop.LaidErr
import Derived.ChangeSame
import Derived.ChangeVars
import Derived.JoinedOf
import Derived.RowKit
import Derived.RowKitTokens
import Derived.Test.YtddmiolapkhaoaaGreatDoorK23
set_option linter.unusedVariables false
set_option linter.unusedSimpArgs false
section
namespace Go.Proofs.YtddmiolapkhaoaaGreatDoor
open Go Av Go.RowKit Go.ChangeShapes Go.WideShapes Go.ChangeAt
set_option maxRecDepth 100000
def ahz:List (String×DataW Unit):=[("math/bits.deBruijn32tab",Rows.laid_math_bits_deBruijn32tab),("math/bits.deBruijn64tab",Rows.laid_math_bits_deBruijn64tab),("internal/strconv.uint64pow10",Rows.laid_internal_strconv_uint64pow10),("unicode.White_Space",Rows.laid_unicode_White_Space),("strings.asciiSpace",Rows.laid_strings_asciiSpace)]
theorem Tryz.g3:Tryz.prog.globalNamed "internal/strconv.uint64pow10" = some 2:=by kernel_rfl
theorem Tryz.g3t:(Tryz.prog.globals[2]?).map (·.type) = some 244:=by kernel_rfl
theorem Tryz.cells244:Tryz.prog.cellsOf 244 = 20:=by kernel_rfl
theorem Tryz.g4:Tryz.prog.globalNamed "strings.asciiSpace" = some 0:=by kernel_rfl
theorem Tryz.g4t:(Tryz.prog.globals[0]?).map (·.type) = some 144:=by kernel_rfl
theorem Tryz.cells144:Tryz.prog.cellsOf 144 = 256:=by kernel_rfl
theorem wok {W:World} (hL:laidMet Tryz.prog ahz W) (_hsh:W.ShapedOpen Tryz.prog):WOK W:=by
 have h2:=hL.tail.tail
 have h5:=h2.tail.tail
 exact ⟨Lib.tabIs_of_head (zs:=Lib.pow10Tab) Tryz.g3 Tryz.g3t Tryz.underlying244 Tryz.underlying209 (by kernel_rfl) Tryz.cells244 h2,
  Lib.tabIs_of_head (zs:=Lib.asciiSpaceTab) Tryz.g4 Tryz.g4t Tryz.underlying144 Tryz.underlying5 (by kernel_rfl) Tryz.cells144 h5⟩
noncomputable def aon (os:Os):World:=World.laidAll Tryz.prog os ahz
theorem amK (os:Os) (args:Array Value):laidMet Tryz.prog ahz ((aon os).forCall (fun _ _=>0) ⟨#[],args,[]⟩).memory :=
 laidMet_laidAll args (by kernel_rfl) (by kernel_rfl)
end Go.Proofs.YtddmiolapkhaoaaGreatDoor
end

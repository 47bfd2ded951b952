/- What the catalog's rows of this seat give, and a world that meets their condition. -/
import Derived.Test.YtphclkkggijicaaGreatDoorRows
import Derived.WalkKit
import Derived.ProofKit
import Derived.OpenShut
import Derived.LaidLaws
import Derived.Lay
import Derived.Stop.LaidErr
import Derived.ChangeSame
import Derived.ChangeVars
import Derived.JoinedOf
import Derived.RowKit
import Derived.RowKitTokens
import Derived.Test.YtphclkkggijicaaGreatDoorB36
set_option linter.unusedVariables false
set_option linter.unusedSimpArgs false
section
namespace Go.Proofs.YtphclkkggijicaaGreatDoor
open Go Av Go.RowKit Go.ChangeShapes Go.WideShapes Go.ChangeAt
set_option maxRecDepth 100000
def af1:List (String×DataW Unit):=[("math/bits.deBruijn32tab",Rows.laid_math_bits_deBruijn32tab),("math/bits.deBruijn64tab",Rows.laid_math_bits_deBruijn64tab),("internal/strconv.uint64pow10",Rows.laid_internal_strconv_uint64pow10),("unicode/utf8.acceptRanges",Rows.laid_unicode_utf8_acceptRanges),("strconv.ErrRange",Rows.laid_strconv_ErrRange),("strconv.ErrSyntax",Rows.laid_strconv_ErrSyntax),("unicode/utf8.first",Rows.laid_unicode_utf8_first)]
theorem Tryz.star:"*"++"errors.errorString" = "*errors.errorString":=by decide
theorem Tryz.rowE (u:TypeId) (h:Tryz.prog.typeName? 3 u = some "*errors.errorString"):u = 322 :=
 typeName_ptr_named (nm:="errors.errorString") (by rw [Tryz.star];kernel_rfl) (by kernel_rfl) (by decide) u (by rw [Tryz.star];exact h)
theorem Tryz.g1:Tryz.prog.globalNamed "strconv.ErrSyntax" = some 2:=by kernel_rfl
theorem Tryz.g2:Tryz.prog.globalNamed "strconv.ErrRange" = some 3:=by kernel_rfl
theorem Tryz.g3:Tryz.prog.globalNamed "internal/strconv.uint64pow10" = some 1:=by kernel_rfl
theorem Tryz.g1t:(Tryz.prog.globals[2]?).map (·.type) = some 186:=by kernel_rfl
theorem Tryz.g2t:(Tryz.prog.globals[3]?).map (·.type) = some 186:=by kernel_rfl
theorem Tryz.g3t:(Tryz.prog.globals[1]?).map (·.type) = some 303:=by kernel_rfl
theorem Tryz.cells324:Tryz.prog.cellsOf 324 = 1:=by kernel_rfl
theorem Tryz.cells9:Tryz.prog.cellsOf 9 = 1:=by kernel_rfl
theorem Tryz.cells303:Tryz.prog.cellsOf 303 = 20:=by kernel_rfl
theorem wok {W:World} (hL:laidMet Tryz.prog af1 W) (hsh:W.ShapedOpen Tryz.prog):WOK W:=by
 have h2:=hL.tail.tail
 have h3:=h2.tail.tail
 have h4:=h3.tail
 obtain ⟨a0,s0,hv0,-,-,-⟩:=laid_sentinel h3 Tryz.g2 Tryz.g2t Tryz.underlying186 Tryz.rowE Tryz.underlying322 Tryz.underlying324 rfl rfl Tryz.underlying9 Tryz.cells324 Tryz.cells9
 obtain ⟨a1,s1,hv1,-,-,-⟩:=laid_sentinel h4 Tryz.g1 Tryz.g1t Tryz.underlying186 Tryz.rowE Tryz.underlying322 Tryz.underlying324 rfl rfl Tryz.underlying9 Tryz.cells324 Tryz.cells9
 refine ⟨Tryz.laysM146.s1_3 W hsh,?_,⟨_,_,by have h0:=World.var?_cell Tryz.g1 hv1 0;simpa using h0⟩,⟨_,_,by have h0:=World.var?_cell Tryz.g2 hv0 0;simpa using h0⟩⟩
 exact Lib.tabIs_of_head (zs:=Lib.pow10Tab) Tryz.g3 Tryz.g3t Tryz.underlying303 Tryz.underlying266 (by kernel_rfl) Tryz.cells303 h2
noncomputable def acU (os:Os):World:=World.laidAll Tryz.prog os af1
theorem afq (os:Os) (args:Array Value):laidMet Tryz.prog af1 ((acU os).forCall (fun _ _=>0) ⟨#[],args,[]⟩).memory :=
 laidMet_laidAll args (by kernel_rfl) (by kernel_rfl)
end Go.Proofs.YtphclkkggijicaaGreatDoor
end

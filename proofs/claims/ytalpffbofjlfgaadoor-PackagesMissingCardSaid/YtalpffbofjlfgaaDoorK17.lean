/- What the catalog's rows of this seat give, and a world that meets their condition. -/
import Derived.Test.YtalpffbofjlfgaaDoorRows
import Derived.WalkKit
import Derived.ProofKit
import Derived.OpenShut
import Derived.LaidLaws
import Derived.Lay
import Derived.Stop.LaidErr
import Derived.ChangeSame
import Derived.ChangeVars
import Derived.JoinedOf
import Derived.RowKit
import Derived.RowKitTokens
import Derived.Test.YtalpffbofjlfgaaDoorK16
set_option linter.unusedVariables false
set_option linter.unusedSimpArgs false
section
namespace Go.Proofs.YtalpffbofjlfgaaDoor
open Go Av Go.RowKit Go.ChangeShapes Go.WideShapes Go.ChangeAt
set_option maxRecDepth 100000
def qS : List (String × DataW Unit) := [("math/bits.deBruijn32tab", Rows.laid_math_bits_deBruijn32tab), ("math/bits.deBruijn64tab", Rows.laid_math_bits_deBruijn64tab), ("internal/strconv.uint64pow10", Rows.laid_internal_strconv_uint64pow10), ("unicode/utf8.acceptRanges", Rows.laid_unicode_utf8_acceptRanges), ("strconv.ErrRange", Rows.laid_strconv_ErrRange), ("strconv.ErrSyntax", Rows.laid_strconv_ErrSyntax), ("unicode/utf8.first", Rows.laid_unicode_utf8_first)]
theorem Tryd.star : "*" ++ "errors.errorString" = "*errors.errorString" := by decide
theorem Tryd.rowE (u : TypeId) (h : Tryd.prog.typeName? 3 u = some "*errors.errorString") : u = 117 :=
  typeName_ptr_named (nm := "errors.errorString") (by rw [Tryd.star]; kernel_rfl) (by kernel_rfl) (by decide) u (by rw [Tryd.star]; exact h)
theorem Tryd.g1 : Tryd.prog.globalNamed "strconv.ErrSyntax" = some 0 := by kernel_rfl
theorem Tryd.g2 : Tryd.prog.globalNamed "strconv.ErrRange" = some 1 := by kernel_rfl
theorem Tryd.g3 : Tryd.prog.globalNamed "internal/strconv.uint64pow10" = some 3 := by kernel_rfl
theorem Tryd.g1t : (Tryd.prog.globals[0]?).map (·.type) = some 68 := by kernel_rfl
theorem Tryd.g2t : (Tryd.prog.globals[1]?).map (·.type) = some 68 := by kernel_rfl
theorem Tryd.g3t : (Tryd.prog.globals[3]?).map (·.type) = some 121 := by kernel_rfl
theorem Tryd.cells119 : Tryd.prog.cellsOf 119 = 1 := by kernel_rfl
theorem Tryd.cells9 : Tryd.prog.cellsOf 9 = 1 := by kernel_rfl
theorem Tryd.cells121 : Tryd.prog.cellsOf 121 = 20 := by kernel_rfl
theorem wok {W : World} (hL : laidMet Tryd.prog qS W) (hsh : W.ShapedOpen Tryd.prog) : WOK W := by
  have h2 := hL.tail.tail
  have h3 := h2.tail.tail
  have h4 := h3.tail
  obtain ⟨a0, s0, hv0, -, -, -⟩ := laid_sentinel h3 Tryd.g2 Tryd.g2t Tryd.underlying68 Tryd.rowE Tryd.underlying117 Tryd.underlying119 rfl rfl Tryd.underlying9 Tryd.cells119 Tryd.cells9
  obtain ⟨a1, s1, hv1, -, -, -⟩ := laid_sentinel h4 Tryd.g1 Tryd.g1t Tryd.underlying68 Tryd.rowE Tryd.underlying117 Tryd.underlying119 rfl rfl Tryd.underlying9 Tryd.cells119 Tryd.cells9
  refine ⟨Tryd.laysM146.s1_3 W hsh, ?_, ⟨_, _, by have h0 := World.var?_cell Tryd.g1 hv1 0; simpa using h0⟩, ⟨_, _, by have h0 := World.var?_cell Tryd.g2 hv0 0; simpa using h0⟩⟩
  exact Lib.tabIs_of_head (zs := Lib.pow10Tab) Tryd.g3 Tryd.g3t Tryd.underlying121 Tryd.underlying100 (by kernel_rfl) Tryd.cells121 h2
noncomputable def xR (os : Os) : World := World.laidAll Tryd.prog os qS
theorem xf (os : Os) (args : Array Value) : laidMet Tryd.prog qS ((xR os).forCall (fun _ _ => 0) ⟨#[], args, []⟩).memory :=
  laidMet_laidAll args (by kernel_rfl) (by kernel_rfl)
end Go.Proofs.YtalpffbofjlfgaaDoor
end

/- What the rules' rows of this seat give, and a world that meets their condition. -/
import Derived.Test.YtheehngibnbflaaGreatDoorRows
import Derived.WalkKit
import Derived.ProofKit
import Derived.OpenShut
import Derived.LaidLaws
import Derived.Lay
import Derived.Stop.LaidErr
import Derived.ChangeSame
import Derived.ChangeVars
import Derived.JoinedOf
import Derived.RowKit
import Derived.RowKitTokens
import Derived.Test.YtheehngibnbflaaGreatDoorLib
import Derived.Test.YtheehngibnbflaaGreatDoorAvL
set_option linter.unusedVariables false
set_option linter.unusedSimpArgs false
section
namespace Go.Proofs.YtheehngibnbflaaGreatDoor
open Go Av Go.RowKit Go.ChangeShapes Go.WideShapes Go.ChangeAt
set_option maxRecDepth 100000
def KJ : List (String × DataW Unit) := [("math/bits.deBruijn32tab", Rows.laid_math_bits_deBruijn32tab), ("math/bits.deBruijn64tab", Rows.laid_math_bits_deBruijn64tab), ("internal/strconv.uint64pow10", Rows.laid_internal_strconv_uint64pow10), ("unicode/utf8.acceptRanges", Rows.laid_unicode_utf8_acceptRanges), ("unicode.White_Space", Rows.laid_unicode_White_Space), ("strings.asciiSpace", Rows.laid_strings_asciiSpace), ("unicode/utf8.first", Rows.laid_unicode_utf8_first)]
theorem Tryz.g3 : Tryz.prog.globalNamed "internal/strconv.uint64pow10" = some 5 := by kernel_rfl
theorem Tryz.g3t : (Tryz.prog.globals[5]?).map (·.type) = some 178 := by kernel_rfl
theorem Tryz.cells178 : Tryz.prog.cellsOf 178 = 20 := by kernel_rfl
theorem Tryz.g4 : Tryz.prog.globalNamed "strings.asciiSpace" = some 0 := by kernel_rfl
theorem Tryz.g4t : (Tryz.prog.globals[0]?).map (·.type) = some 94 := by kernel_rfl
theorem Tryz.cells94 : Tryz.prog.cellsOf 94 = 256 := by kernel_rfl
theorem wok {W : World} (hL : laidMet Tryz.prog KJ W) (hsh : W.ShapedOpen Tryz.prog) : WOK W := by
  have h2 := hL.tail.tail
  have h5 := h2.tail.tail.tail
  exact ⟨Tryz.laysM146.s1_3 W hsh,
    Lib.tabIs_of_head (zs := Lib.pow10Tab) Tryz.g3 Tryz.g3t Tryz.underlying178 Tryz.underlying159 (by kernel_rfl) Tryz.cells178 h2,
    Lib.tabIs_of_head (zs := Lib.asciiSpaceTab) Tryz.g4 Tryz.g4t Tryz.underlying94 Tryz.underlying5 (by kernel_rfl) Tryz.cells94 h5⟩
noncomputable def yH (os : Os) : World := World.laidAll Tryz.prog os KJ
theorem j6 (os : Os) (args : Array Value) : laidMet Tryz.prog KJ ((yH os).forCall (fun _ _ => 0) ⟨#[], args, []⟩).memory :=
  laidMet_laidAll args (by kernel_rfl) (by kernel_rfl)
end Go.Proofs.YtheehngibnbflaaGreatDoor
end
section
namespace Go.Proofs.YtheehngibnbflaaGreatDoor.Seat
open Go Av Go.RowKit
set_option maxRecDepth 100000
theorem own : ownKnob Tryz.prog.godebug = none := by kernel_rfl
theorem mix : Tryz.prog.follows .mixedOrders = true := by kernel_rfl
theorem kids : Kids Tryz.prog (· < Tryz.prog.types.size) := kids_rows (by kernel_rfl) (by kernel_rfl)
theorem full : ∀ t e, t < Tryz.prog.types.size → Tryz.prog.underlying t = some (.slice e) → 0 < Tryz.prog.cellsOf e := slices_full_of Tryz.prog (by kernel_rfl)
theorem small (l : List TypeId) (h : (l.all fun t => decide (t < Tryz.prog.types.size)) = true) : ∀ t ∈ l, t < Tryz.prog.types.size := fun t ht => by simpa using List.all_eq_true.1 h t ht
end Go.Proofs.YtheehngibnbflaaGreatDoor.Seat
end

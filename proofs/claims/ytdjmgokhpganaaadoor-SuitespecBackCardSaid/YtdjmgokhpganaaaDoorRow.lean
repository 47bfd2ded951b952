/- What the lists' rows of this seat give, and a world that meets their condition. -/
import Derived.Test.YtdjmgokhpganaaaDoorRows
import Derived.WalkKit
import Derived.ProofKit
import Derived.OpenShut
import Derived.LaidLaws
import Derived.ChangeSame
import Derived.ChangeVars
import Derived.JoinedOf
import Derived.RowKit
import Derived.RowKitTokens
import Derived.Test.YtdjmgokhpganaaaDoorLib
import Derived.Test.YtdjmgokhpganaaaDoorAvL
set_option linter.unusedVariables false
set_option linter.unusedSimpArgs false
section
namespace Go.Proofs.YtdjmgokhpganaaaDoor.S8
open Go Av Go.RowKit Go.ChangeShapes Go.WideShapes Go.ChangeAt
set_option maxRecDepth 100000
def catLaid : List (String × DataW Unit) := [("unicode/utf8.acceptRanges", Rows.laid_unicode_utf8_acceptRanges), ("unicode/utf8.first", Rows.laid_unicode_utf8_first)]
theorem wok {W : World} (_hL : laidMet Tryd.prog catLaid W) (hsh : W.ShapedOpen Tryd.prog) : WOK W := ⟨Tryd.laysM146.s1_3 W hsh⟩
def acceptZ : List Nat := [128, 191, 160, 191, 128, 159, 144, 191, 128, 143, 0, 0, 0, 0, 0, 0, 0, 0, 0, 0, 0, 0, 0, 0, 0, 0, 0, 0, 0, 0, 0, 0]
def u8Cells (l : List Nat) : Array Value := (l.map fun n : Nat => Value.int .u8 (n : Int)).toArray
def putCells (cs : Array Value) : Obj → Obj
  | .cells _ t frozen => .cells cs t frozen
  | o => o
noncomputable def laidWorld (os : Os) : World :=
  let w0 := World.holding Tryd.prog os ⟨#[], #[], []⟩
  { w0 with heap := (w0.heap.modify 5 (putCells (u8Cells acceptZ))).modify 4 (putCells (u8Cells Go.Pinned.utf8FirstZ)) }
noncomputable def laidPs : List MemPlace := (List.range 32).map (.cell 5) ++ (List.range 256).map (.cell 4)
theorem laidWorld_met (os : Os) (args : Array Value) : laidMet Tryd.prog catLaid ((laidWorld os).forCall (fun _ _ => 0) ⟨#[], args, []⟩).memory :=
  laidMet_of_run (ps := laidPs) 8 (by kernel_rfl) (by kernel_rfl) (by kernel_rfl)
theorem g4 : Tryd.prog.globalNamed "unicode/utf8.first" = some 4 := by kernel_rfl
theorem g5 : Tryd.prog.globalNamed "unicode/utf8.acceptRanges" = some 5 := by kernel_rfl
end Go.Proofs.YtdjmgokhpganaaaDoor.S8
end
section
namespace Go.Proofs.YtdjmgokhpganaaaDoor.Seat
open Go Av Go.RowKit
set_option maxRecDepth 100000
theorem own : ownKnob Tryd.prog.godebug = none := by kernel_rfl
theorem mix : Tryd.prog.follows .mixedOrders = true := by kernel_rfl
theorem kids : Kids Tryd.prog (· < Tryd.prog.types.size) := kids_rows (by kernel_rfl) (by kernel_rfl)
theorem full : ∀ t e, t < Tryd.prog.types.size → Tryd.prog.underlying t = some (.slice e) → 0 < Tryd.prog.cellsOf e := slices_full_of Tryd.prog (by kernel_rfl)
theorem small (l : List TypeId) (h : (l.all fun t => decide (t < Tryd.prog.types.size)) = true) : ∀ t ∈ l, t < Tryd.prog.types.size := fun t ht => by simpa using List.all_eq_true.1 h t ht
end Go.Proofs.YtdjmgokhpganaaaDoor.Seat
end

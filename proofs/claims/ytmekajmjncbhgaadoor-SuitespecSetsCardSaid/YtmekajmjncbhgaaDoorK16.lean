/- What the lists' rows of this seat give, and a world that meets their condition. -/
import Derived.Test.YtmekajmjncbhgaaDoorRows
import Derived.WalkKit
import Derived.ProofKit
import Derived.OpenShut
import Derived.LaidLaws
import Derived.ChangeSame
import Derived.ChangeVars
import Derived.JoinedOf
import Derived.RowKit
import Derived.RowKitTokens
import Derived.Test.YtmekajmjncbhgaaDoorK15
set_option linter.unusedVariables false
set_option linter.unusedSimpArgs false
section
namespace Go.Proofs.YtmekajmjncbhgaaDoor.S8
open Go Av Go.RowKit Go.ChangeShapes Go.WideShapes Go.ChangeAt
set_option maxRecDepth 100000
def vZ : List (String × DataW Unit) := [("unicode/utf8.acceptRanges", Rows.laid_unicode_utf8_acceptRanges), ("unicode/utf8.first", Rows.laid_unicode_utf8_first)]
theorem wok {W : World} (_hL : laidMet Tryd.prog vZ W) (hsh : W.ShapedOpen Tryd.prog) : WOK W := ⟨Tryd.laysM146.s1_3 W hsh⟩
def ah4 : List Nat := [128, 191, 160, 191, 128, 159, 144, 191, 128, 143, 0, 0, 0, 0, 0, 0, 0, 0, 0, 0, 0, 0, 0, 0, 0, 0, 0, 0, 0, 0, 0, 0]
def ae9 (l : List Nat) : Array Value := (l.map fun n : Nat => Value.int .u8 (n : Int)).toArray
def adL (cs : Array Value) : Obj → Obj
  | .cells _ t frozen => .cells cs t frozen
  | o => o
noncomputable def acq (os : Os) : World :=
  let w0 := World.holding Tryd.prog os ⟨#[], #[], []⟩
  { w0 with heap := (w0.heap.modify 2 (adL (ae9 ah4))).modify 1 (adL (ae9 Go.Pinned.utf8FirstZ)) }
noncomputable def ain : List MemPlace := (List.range 32).map (.cell 2) ++ (List.range 256).map (.cell 1)
theorem abw (os : Os) (args : Array Value) : laidMet Tryd.prog vZ ((acq os).forCall (fun _ _ => 0) ⟨#[], args, []⟩).memory :=
  laidMet_of_run (ps := ain) 8 (by kernel_rfl) (by kernel_rfl) (by kernel_rfl)
end Go.Proofs.YtmekajmjncbhgaaDoor.S8
end

/- A first world of the rows of this seat: nothing is laid. -/
import Derived.Test.YtjolhibbihejgaaGreatRows
import Derived.WalkKit
import Derived.ProofKit
import Derived.OpenShut
import Derived.LaidLaws
import Derived.ChangeSame
import Derived.ChangeVars
import Derived.JoinedOf
import Derived.RowKit
import Derived.RowKitTokens
import Derived.Test.YtjolhibbihejgaaGreatK43
set_option linter.unusedVariables false
set_option linter.unusedSimpArgs false
section
namespace Go.Proofs.YtjolhibbihejgaaGreat
open Go Av Go.RowKit Go.ChangeShapes Go.WideShapes Go.ChangeAt
set_option maxRecDepth 100000
noncomputable def an0 (os:Os):World:=World.holding Tryz.prog os ⟨#[],#[],[]⟩
end Go.Proofs.YtjolhibbihejgaaGreat
end

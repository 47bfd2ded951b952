/- Closed facts of the seat's program that each row asks. -/
import Derived.Test.YtjolhibbihejgaaGreatK44
import Derived.Test.YtjolhibbihejgaaGreatK45
set_option linter.unusedVariables false
set_option linter.unusedSimpArgs false
section
namespace Go.Proofs.YtjolhibbihejgaaGreat.Seat
open Go Av Go.RowKit
set_option maxRecDepth 100000
theorem own:ownKnob Tryz.prog.godebug = none:=by kernel_rfl
theorem mix:Tryz.prog.follows .mixedOrders = true:=by kernel_rfl
theorem kids:Kids Tryz.prog (· < Tryz.prog.types.size):=kids_rows (by kernel_rfl) (by kernel_rfl)
theorem full:∀ t e,t < Tryz.prog.types.size→Tryz.prog.underlying t = some (.slice e)→0 < Tryz.prog.cellsOf e:=slices_full_of Tryz.prog (by kernel_rfl)
theorem small (l:List TypeId) (h:(l.all fun t=>decide (t < Tryz.prog.types.size)) = true):∀ t∈l,t < Tryz.prog.types.size:=fun t ht=>by simpa using kw.1 h t ht
end Go.Proofs.YtjolhibbihejgaaGreat.Seat
end

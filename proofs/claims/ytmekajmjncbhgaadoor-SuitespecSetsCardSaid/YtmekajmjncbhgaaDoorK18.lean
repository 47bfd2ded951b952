/- Closed facts of the seat's program that each row asks. -/
import Derived.Test.YtmekajmjncbhgaaDoorK16
import Derived.Test.YtmekajmjncbhgaaDoorK17
set_option linter.unusedVariables false
set_option linter.unusedSimpArgs false
section
namespace Go.Proofs.YtmekajmjncbhgaaDoor.Seat
open Go Av Go.RowKit
set_option maxRecDepth 100000
theorem own : ownKnob Tryd.prog.godebug = none := by kernel_rfl
theorem mix : Tryd.prog.follows .mixedOrders = true := by kernel_rfl
theorem kids : Kids Tryd.prog (· < Tryd.prog.types.size) := kids_rows (by kernel_rfl) (by kernel_rfl)
theorem full : ∀ t e, t < Tryd.prog.types.size → Tryd.prog.underlying t = some (.slice e) → 0 < Tryd.prog.cellsOf e := slices_full_of Tryd.prog (by kernel_rfl)
theorem small (l : List TypeId) (h : (l.all fun t => decide (t < Tryd.prog.types.size)) = true) : ∀ t ∈ l, t < Tryd.prog.types.size := fun t ht => by simpa using List.all_eq_true.1 h t ht
end Go.Proofs.YtmekajmjncbhgaaDoor.Seat
end

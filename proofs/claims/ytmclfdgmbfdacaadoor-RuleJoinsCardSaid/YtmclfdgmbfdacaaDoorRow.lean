/- What the rules' rows of this seat give, and a world that meets their condition. -/
import Derived.Test.YtmclfdgmbfdacaaDoorRows
import Derived.WalkKit
import Derived.ProofKit
import Derived.OpenShut
import Derived.LaidLaws
import Derived.Stop.LaidErr
import Derived.ChangeSame
import Derived.ChangeVars
import Derived.JoinedOf
import Derived.RowKit
import Derived.RowKitTokens
import Derived.Test.YtmclfdgmbfdacaaDoorLib
import Derived.Test.YtmclfdgmbfdacaaDoorAvL
set_option linter.unusedVariables false
set_option linter.unusedSimpArgs false
section
namespace Go.Proofs.YtmclfdgmbfdacaaDoor
open Go Av Go.RowKit Go.ChangeShapes Go.WideShapes Go.ChangeAt
set_option maxRecDepth 100000
def catLaid : List (String × DataW Unit) := [("math/bits.deBruijn32tab", Rows.laid_math_bits_deBruijn32tab), ("math/bits.deBruijn64tab", Rows.laid_math_bits_deBruijn64tab), ("internal/strconv.uint64pow10", Rows.laid_internal_strconv_uint64pow10), ("unicode/utf8.acceptRanges", Rows.laid_unicode_utf8_acceptRanges), ("strconv.ErrRange", Rows.laid_strconv_ErrRange), ("strconv.ErrSyntax", Rows.laid_strconv_ErrSyntax), ("unicode/utf8.first", Rows.laid_unicode_utf8_first)]
theorem Tryd.star : "*" ++ "errors.errorString" = "*errors.errorString" := by decide
theorem Tryd.row153 (u : TypeId) (h : Tryd.prog.typeName? 3 u = some "*errors.errorString") : u = 153 :=
  typeName_ptr_named (nm := "errors.errorString") (by rw [Tryd.star]; kernel_rfl) (by kernel_rfl) (by decide) u (by rw [Tryd.star]; exact h)
theorem Tryd.g1 : Tryd.prog.globalNamed "strconv.ErrSyntax" = some 6 := by kernel_rfl
theorem Tryd.g2 : Tryd.prog.globalNamed "strconv.ErrRange" = some 7 := by kernel_rfl
theorem Tryd.g3 : Tryd.prog.globalNamed "internal/strconv.uint64pow10" = some 1 := by kernel_rfl
theorem Tryd.g1t : (Tryd.prog.globals[6]?).map (·.type) = some 59 := by kernel_rfl
theorem Tryd.g2t : (Tryd.prog.globals[7]?).map (·.type) = some 59 := by kernel_rfl
theorem Tryd.g3t : (Tryd.prog.globals[1]?).map (·.type) = some 125 := by kernel_rfl
theorem Tryd.cells155 : Tryd.prog.cellsOf 155 = 1 := by kernel_rfl
theorem Tryd.cells9 : Tryd.prog.cellsOf 9 = 1 := by kernel_rfl
theorem Tryd.cells125 : Tryd.prog.cellsOf 125 = 20 := by kernel_rfl
theorem wok {W : World} (hL : laidMet Tryd.prog catLaid W) (hsh : W.ShapedOpen Tryd.prog) : WOK W := by
  have h2 := hL.tail.tail
  have h3 := h2.tail.tail
  have h4 := h3.tail
  obtain ⟨a0, s0, hv0, -, -, -⟩ := laid_sentinel h3 Tryd.g2 Tryd.g2t Tryd.underlying59 Tryd.row153 Tryd.underlying153 Tryd.underlying155 rfl rfl Tryd.underlying9 Tryd.cells155 Tryd.cells9
  obtain ⟨a1, s1, hv1, -, -, -⟩ := laid_sentinel h4 Tryd.g1 Tryd.g1t Tryd.underlying59 Tryd.row153 Tryd.underlying153 Tryd.underlying155 rfl rfl Tryd.underlying9 Tryd.cells155 Tryd.cells9
  refine ⟨Tryd.laysM146.s1_3 W hsh, ?_, ⟨_, _, by have h0 := World.var?_cell Tryd.g1 hv1 0; simpa using h0⟩, ⟨_, _, by have h0 := World.var?_cell Tryd.g2 hv0 0; simpa using h0⟩⟩
  exact Lib.tabIs_of_head (zs := Lib.pow10Tab) Tryd.g3 Tryd.g3t Tryd.underlying125 Tryd.underlying115 (by kernel_rfl) Tryd.cells125 h2
def de32 : Array Value := #[.int .u8 0, .int .u8 1, .int .u8 28, .int .u8 2, .int .u8 29, .int .u8 14, .int .u8 24, .int .u8 3, .int .u8 30, .int .u8 22, .int .u8 20, .int .u8 15, .int .u8 25, .int .u8 17, .int .u8 4, .int .u8 8, .int .u8 31, .int .u8 27, .int .u8 13, .int .u8 23, .int .u8 21, .int .u8 19, .int .u8 16, .int .u8 7, .int .u8 26, .int .u8 12, .int .u8 18, .int .u8 6, .int .u8 11, .int .u8 5, .int .u8 10, .int .u8 9]
def de64 : Array Value := #[.int .u8 0, .int .u8 1, .int .u8 56, .int .u8 2, .int .u8 57, .int .u8 49, .int .u8 28, .int .u8 3, .int .u8 61, .int .u8 58, .int .u8 42, .int .u8 50, .int .u8 38, .int .u8 29, .int .u8 17, .int .u8 4, .int .u8 62, .int .u8 47, .int .u8 59, .int .u8 36, .int .u8 45, .int .u8 43, .int .u8 51, .int .u8 22, .int .u8 53, .int .u8 39, .int .u8 33, .int .u8 30, .int .u8 24, .int .u8 18, .int .u8 12, .int .u8 5, .int .u8 63, .int .u8 55, .int .u8 48, .int .u8 27, .int .u8 60, .int .u8 41, .int .u8 37, .int .u8 16, .int .u8 46, .int .u8 35, .int .u8 44, .int .u8 21, .int .u8 52, .int .u8 32, .int .u8 23, .int .u8 11, .int .u8 54, .int .u8 26, .int .u8 40, .int .u8 15, .int .u8 34, .int .u8 20, .int .u8 31, .int .u8 10, .int .u8 25, .int .u8 14, .int .u8 19, .int .u8 9, .int .u8 13, .int .u8 8, .int .u8 7, .int .u8 6]
def pow10 : Array Value := #[.int .u64 1, .int .u64 10, .int .u64 100, .int .u64 1000, .int .u64 10000, .int .u64 100000, .int .u64 1000000, .int .u64 10000000, .int .u64 100000000, .int .u64 1000000000, .int .u64 10000000000, .int .u64 100000000000, .int .u64 1000000000000, .int .u64 10000000000000, .int .u64 100000000000000, .int .u64 1000000000000000, .int .u64 10000000000000000, .int .u64 100000000000000000, .int .u64 1000000000000000000, .int .u64 10000000000000000000]
abbrev rngS : ByteArray := { data := #[118, 97, 108, 117, 101, 32, 111, 117, 116, 32, 111, 102, 32, 114, 97, 110, 103, 101] }
abbrev synS : ByteArray := { data := #[105, 110, 118, 97, 108, 105, 100, 32, 115, 121, 110, 116, 97, 120] }
noncomputable def low : Nat := (World.holding Tryd.prog default ⟨#[], #[], []⟩).heap.size
def putCells (cs : Array Value) : Obj → Obj
  | .cells _ t frozen => .cells cs t frozen
  | o => o
def acceptZ : List Nat := [128, 191, 160, 191, 128, 159, 144, 191, 128, 143, 0, 0, 0, 0, 0, 0, 0, 0, 0, 0, 0, 0, 0, 0, 0, 0, 0, 0, 0, 0, 0, 0]
def u8Cells (l : List Nat) : Array Value := (l.map fun n : Nat => Value.int .u8 (n : Int)).toArray
noncomputable def laidWorld (os : Os) : World :=
  let w0 := World.holding Tryd.prog os ⟨#[.cells #[.string rngS] 155, .cells #[.string synS] 155], #[], []⟩
  { w0 with heap := ((((((w0.heap.modify 4 (putCells de32)).modify 5 (putCells de64)).modify 1 (putCells pow10)).modify 3 (putCells (u8Cells acceptZ))).modify 7 (putCells #[.iface 153 (.pointer (some ⟨low, 0, none⟩))])).modify 6 (putCells #[.iface 153 (.pointer (some ⟨low + 1, 0, none⟩))])).modify 2 (putCells (u8Cells Go.Pinned.utf8FirstZ)) }
noncomputable def laidPs : List MemPlace := (List.range 32).map (.cell 4) ++ (List.range 64).map (.cell 5) ++ (List.range 20).map (.cell 1) ++ (List.range 32).map (.cell 3) ++ [.cell 7 0, .cell low 0, .cell 6 0, .cell (low + 1) 0] ++ (List.range 256).map (.cell 2)
theorem laidWorld_met (os : Os) (args : Array Value) : laidMet Tryd.prog catLaid ((laidWorld os).forCall (fun _ _ => 0) ⟨#[], args, []⟩).memory :=
  laidMet_of_run (ps := laidPs) 8 (by kernel_rfl) (by kernel_rfl) (by kernel_rfl)
end Go.Proofs.YtmclfdgmbfdacaaDoor
end
section
namespace Go.Proofs.YtmclfdgmbfdacaaDoor.Seat
open Go Av Go.RowKit
set_option maxRecDepth 100000
theorem own : ownKnob Tryd.prog.godebug = none := by kernel_rfl
theorem mix : Tryd.prog.follows .mixedOrders = true := by kernel_rfl
theorem kids : Kids Tryd.prog (· < Tryd.prog.types.size) := kids_rows (by kernel_rfl) (by kernel_rfl)
theorem full : ∀ t e, t < Tryd.prog.types.size → Tryd.prog.underlying t = some (.slice e) → 0 < Tryd.prog.cellsOf e := slices_full_of Tryd.prog (by kernel_rfl)
theorem small (l : List TypeId) (h : (l.all fun t => decide (t < Tryd.prog.types.size)) = true) : ∀ t ∈ l, t < Tryd.prog.types.size := fun t ht => by simpa using List.all_eq_true.1 h t ht
end Go.Proofs.YtmclfdgmbfdacaaDoor.Seat
end

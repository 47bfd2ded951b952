/- What the rules' rows of this seat give, and a world that meets their condition. -/
import Derived.Test.YtmclfdgmbfdacaaGreatDoorRows
import Derived.WalkKit
import Derived.ProofKit
import Derived.OpenShut
import Derived.LaidLaws
import Derived.Stop.LaidErr
import Derived.ChangeSame
import Derived.ChangeVars
import Derived.JoinedOf
import Derived.RowKit
import Derived.RowKitTokens
import Derived.Test.YtmclfdgmbfdacaaGreatDoorLib
import Derived.Test.YtmclfdgmbfdacaaGreatDoorAvL
set_option linter.unusedVariables false
set_option linter.unusedSimpArgs false
section
namespace Go.Proofs.YtmclfdgmbfdacaaGreatDoor
open Go Av Go.RowKit Go.ChangeShapes Go.WideShapes Go.ChangeAt
set_option maxRecDepth 100000
def vU : List (String × DataW Unit) := [("math/bits.deBruijn32tab", Rows.laid_math_bits_deBruijn32tab), ("math/bits.deBruijn64tab", Rows.laid_math_bits_deBruijn64tab), ("internal/strconv.uint64pow10", Rows.laid_internal_strconv_uint64pow10), ("unicode/utf8.acceptRanges", Rows.laid_unicode_utf8_acceptRanges), ("strconv.ErrRange", Rows.laid_strconv_ErrRange), ("strconv.ErrSyntax", Rows.laid_strconv_ErrSyntax), ("unicode/utf8.first", Rows.laid_unicode_utf8_first)]
theorem Tryz.star : "*" ++ "errors.errorString" = "*errors.errorString" := by decide
theorem Tryz.row150 (u : TypeId) (h : Tryz.prog.typeName? 3 u = some "*errors.errorString") : u = 150 :=
  typeName_ptr_named (nm := "errors.errorString") (by rw [Tryz.star]; kernel_rfl) (by kernel_rfl) (by decide) u (by rw [Tryz.star]; exact h)
theorem Tryz.g1 : Tryz.prog.globalNamed "strconv.ErrSyntax" = some 6 := by kernel_rfl
theorem Tryz.g2 : Tryz.prog.globalNamed "strconv.ErrRange" = some 7 := by kernel_rfl
theorem Tryz.g3 : Tryz.prog.globalNamed "internal/strconv.uint64pow10" = some 1 := by kernel_rfl
theorem Tryz.g1t : (Tryz.prog.globals[6]?).map (·.type) = some 58 := by kernel_rfl
theorem Tryz.g2t : (Tryz.prog.globals[7]?).map (·.type) = some 58 := by kernel_rfl
theorem Tryz.g3t : (Tryz.prog.globals[1]?).map (·.type) = some 123 := by kernel_rfl
theorem Tryz.cells152 : Tryz.prog.cellsOf 152 = 1 := by kernel_rfl
theorem Tryz.cells9 : Tryz.prog.cellsOf 9 = 1 := by kernel_rfl
theorem Tryz.cells123 : Tryz.prog.cellsOf 123 = 20 := by kernel_rfl
theorem wok {W : World} (hL : laidMet Tryz.prog vU W) (hsh : W.ShapedOpen Tryz.prog) : WOK W := by
  have h2 := hL.tail.tail
  have h3 := h2.tail.tail
  have h4 := h3.tail
  obtain ⟨a0, s0, hv0, -, -, -⟩ := laid_sentinel h3 Tryz.g2 Tryz.g2t Tryz.underlying58 Tryz.row150 Tryz.underlying150 Tryz.underlying152 rfl rfl Tryz.underlying9 Tryz.cells152 Tryz.cells9
  obtain ⟨a1, s1, hv1, -, -, -⟩ := laid_sentinel h4 Tryz.g1 Tryz.g1t Tryz.underlying58 Tryz.row150 Tryz.underlying150 Tryz.underlying152 rfl rfl Tryz.underlying9 Tryz.cells152 Tryz.cells9
  refine ⟨Tryz.laysM146.s1_3 W hsh, ?_, ⟨_, _, by have h0 := World.var?_cell Tryz.g1 hv1 0; simpa using h0⟩, ⟨_, _, by have h0 := World.var?_cell Tryz.g2 hv0 0; simpa using h0⟩⟩
  exact Lib.tabIs_of_head (zs := Lib.pow10Tab) Tryz.g3 Tryz.g3t Tryz.underlying123 Tryz.underlying112 (by kernel_rfl) Tryz.cells123 h2
def ajH : Array Value := #[.int .u8 0, .int .u8 1, .int .u8 28, .int .u8 2, .int .u8 29, .int .u8 14, .int .u8 24, .int .u8 3, .int .u8 30, .int .u8 22, .int .u8 20, .int .u8 15, .int .u8 25, .int .u8 17, .int .u8 4, .int .u8 8, .int .u8 31, .int .u8 27, .int .u8 13, .int .u8 23, .int .u8 21, .int .u8 19, .int .u8 16, .int .u8 7, .int .u8 26, .int .u8 12, .int .u8 18, .int .u8 6, .int .u8 11, .int .u8 5, .int .u8 10, .int .u8 9]
def ajG : Array Value := #[.int .u8 0, .int .u8 1, .int .u8 56, .int .u8 2, .int .u8 57, .int .u8 49, .int .u8 28, .int .u8 3, .int .u8 61, .int .u8 58, .int .u8 42, .int .u8 50, .int .u8 38, .int .u8 29, .int .u8 17, .int .u8 4, .int .u8 62, .int .u8 47, .int .u8 59, .int .u8 36, .int .u8 45, .int .u8 43, .int .u8 51, .int .u8 22, .int .u8 53, .int .u8 39, .int .u8 33, .int .u8 30, .int .u8 24, .int .u8 18, .int .u8 12, .int .u8 5, .int .u8 63, .int .u8 55, .int .u8 48, .int .u8 27, .int .u8 60, .int .u8 41, .int .u8 37, .int .u8 16, .int .u8 46, .int .u8 35, .int .u8 44, .int .u8 21, .int .u8 52, .int .u8 32, .int .u8 23, .int .u8 11, .int .u8 54, .int .u8 26, .int .u8 40, .int .u8 15, .int .u8 34, .int .u8 20, .int .u8 31, .int .u8 10, .int .u8 25, .int .u8 14, .int .u8 19, .int .u8 9, .int .u8 13, .int .u8 8, .int .u8 7, .int .u8 6]
def ai7 : Array Value := #[.int .u64 1, .int .u64 10, .int .u64 100, .int .u64 1000, .int .u64 10000, .int .u64 100000, .int .u64 1000000, .int .u64 10000000, .int .u64 100000000, .int .u64 1000000000, .int .u64 10000000000, .int .u64 100000000000, .int .u64 1000000000000, .int .u64 10000000000000, .int .u64 100000000000000, .int .u64 1000000000000000, .int .u64 10000000000000000, .int .u64 100000000000000000, .int .u64 1000000000000000000, .int .u64 10000000000000000000]
abbrev ajC : ByteArray := { data := #[118, 97, 108, 117, 101, 32, 111, 117, 116, 32, 111, 102, 32, 114, 97, 110, 103, 101] }
abbrev ajz : ByteArray := { data := #[105, 110, 118, 97, 108, 105, 100, 32, 115, 121, 110, 116, 97, 120] }
noncomputable def low : Nat := (World.holding Tryz.prog default ⟨#[], #[], []⟩).heap.size
def qV (cs : Array Value) : Obj → Obj
  | .cells _ t frozen => .cells cs t frozen
  | o => o
def ah9 : List Nat := [128, 191, 160, 191, 128, 159, 144, 191, 128, 143, 0, 0, 0, 0, 0, 0, 0, 0, 0, 0, 0, 0, 0, 0, 0, 0, 0, 0, 0, 0, 0, 0]
def ae8 (l : List Nat) : Array Value := (l.map fun n : Nat => Value.int .u8 (n : Int)).toArray
noncomputable def acb (os : Os) : World :=
  let w0 := World.holding Tryz.prog os ⟨#[.cells #[.string ajC] 152, .cells #[.string ajz] 152], #[], []⟩
  { w0 with heap := ((((((w0.heap.modify 4 (qV ajH)).modify 5 (qV ajG)).modify 1 (qV ai7)).modify 3 (qV (ae8 ah9))).modify 7 (qV #[.iface 150 (.pointer (some ⟨low, 0, none⟩))])).modify 6 (qV #[.iface 150 (.pointer (some ⟨low + 1, 0, none⟩))])).modify 2 (qV (ae8 Go.Pinned.utf8FirstZ)) }
noncomputable def aiu : List MemPlace := (List.range 32).map (.cell 4) ++ (List.range 64).map (.cell 5) ++ (List.range 20).map (.cell 1) ++ (List.range 32).map (.cell 3) ++ [.cell 7 0, .cell low 0, .cell 6 0, .cell (low + 1) 0] ++ (List.range 256).map (.cell 2)
theorem abg (os : Os) (args : Array Value) : laidMet Tryz.prog vU ((acb os).forCall (fun _ _ => 0) ⟨#[], args, []⟩).memory :=
  laidMet_of_run (ps := aiu) 8 (by kernel_rfl) (by kernel_rfl) (by kernel_rfl)
end Go.Proofs.YtmclfdgmbfdacaaGreatDoor
end
section
namespace Go.Proofs.YtmclfdgmbfdacaaGreatDoor.Seat
open Go Av Go.RowKit
set_option maxRecDepth 100000
theorem own : ownKnob Tryz.prog.godebug = none := by kernel_rfl
theorem mix : Tryz.prog.follows .mixedOrders = true := by kernel_rfl
theorem kids : Kids Tryz.prog (· < Tryz.prog.types.size) := kids_rows (by kernel_rfl) (by kernel_rfl)
theorem full : ∀ t e, t < Tryz.prog.types.size → Tryz.prog.underlying t = some (.slice e) → 0 < Tryz.prog.cellsOf e := slices_full_of Tryz.prog (by kernel_rfl)
theorem small (l : List TypeId) (h : (l.all fun t => decide (t < Tryz.prog.types.size)) = true) : ∀ t ∈ l, t < Tryz.prog.types.size := fun t ht => by simpa using List.all_eq_true.1 h t ht
end Go.Proofs.YtmclfdgmbfdacaaGreatDoor.Seat
end

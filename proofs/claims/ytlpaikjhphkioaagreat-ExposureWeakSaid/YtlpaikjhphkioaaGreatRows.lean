/-
  No cell of these rows narrows 'for every input' (looked for: loops, veiled, ifaces, maps, wideKeys, modest, calm, conditions, laid).
  DERIVED. THE GIVEN ROWS OF THIS SEAT. 3 by the template 'for every input the law returns true; each argument reads behind the call as it read before'; 0 by the template 'total and deterministic' (their statements: YtlpaikjhphkioaaGreatTotals.lean).
  GIVEN WITH THE SEED: the statements are not yours to turn. If you find one false, say at which input.
  Laid BY PROGRAM, IN A SANDBOX (cutbox-rows.mjs): the forced cells as the released guide's own fill.sh prints them over the translation b09667f19151621b… (all of the seat's roots in one cut). By AI agents, Wed Nov 11 2026. No macro, syntax, notation, axiom, sorry.
-/
import Derived.Test.YtlpaikjhphkioaaGreatChecked
import GoSem.Claim
import GoSem.ClaimJoined
import GoSem.ClaimMapViews
import Derived.JoinedTies
import Derived.KernelRfl
namespace Go.Proofs.YtlpaikjhphkioaaGreat
/- THE CELL 'sum', in the pinned program and in every row, IS THE sha256 OF THE DUMP (.gsa) THAT YtlpaikjhphkioaaGreatProg.lean LOADS. Nothing in Lean hashes anything: it is a label: what it is worth is what the hold of that sum in a sandbox is worth. -/
noncomputable def Tryz.pinned : Pinned := { name := "ytlpaikjhphkioaagreat", sum := "b09667f19151621b1e37bcca4dbf0555961a890d2af3462ba6ba41717e9ac2e6", checked := Tryz.checked }
namespace Rows
def none {H : Type} : Left H := { results := [], args := [] }

/-- 'cipherplanlaw23.ExposureFindings': WHATEVER THE INPUT: true; the input reads as it did. -/
def exposureFindingsSpec : ChangeSpec := { name := "exposureFindings", fn := fun _ => fun
  | [d1, d2, d3] => { results := [.lit (.bool true)], args := [d1, d2, d3] }
  | _ => none }
def exposureFindingsRow : OpenClaim := { program := "ytlpaikjhphkioaagreat", sum := "b09667f19151621b1e37bcca4dbf0555961a890d2af3462ba6ba41717e9ac2e6", func := "cipherplan/cipherplanlaw23.ExposureFindings", spec := "exposureFindings", inPlace := ["internal/bytealg.abigen_runtime_cmpstring", "slices.overlaps[string]", "slices.overlaps[int]"], unfollowed := true, recurses := true, plainKeys := false, apart := false }
def ExposureFindingsSaid : Prop := exposureFindingsRow.holds Tryz.pinned (OpenSpec.ofChange exposureFindingsSpec)

/-- ITS FALSE NEIGHBOUR: 'it returns false'. Refute it at one input. -/
def exposureFindingsWrong : ChangeSpec := { name := "exposureFindings", fn := fun _ => fun
  | [d1, d2, d3] => { results := [.lit (.bool false)], args := [d1, d2, d3] }
  | _ => none }
def ExposureFindingsWrongFalsely : Prop := exposureFindingsRow.holds Tryz.pinned (OpenSpec.ofChange exposureFindingsWrong)

/-- 'cipherplanlaw23.ExposureExplains': WHATEVER THE INPUT: true; the input reads as it did. -/
def exposureExplainsSpec : ChangeSpec := { name := "exposureExplains", fn := fun _ => fun
  | [d1, d2] => { results := [.lit (.bool true)], args := [d1, d2] }
  | _ => none }
def exposureExplainsRow : OpenClaim := { program := "ytlpaikjhphkioaagreat", sum := "b09667f19151621b1e37bcca4dbf0555961a890d2af3462ba6ba41717e9ac2e6", func := "cipherplan/cipherplanlaw23.ExposureExplains", spec := "exposureExplains", inPlace := ["internal/bytealg.abigen_runtime_cmpstring", "slices.overlaps[string]", "slices.overlaps[int]"], unfollowed := true, recurses := true, plainKeys := false, apart := false }
def ExposureExplainsSaid : Prop := exposureExplainsRow.holds Tryz.pinned (OpenSpec.ofChange exposureExplainsSpec)

/-- ITS FALSE NEIGHBOUR: 'it returns false'. Refute it at one input. -/
def exposureExplainsWrong : ChangeSpec := { name := "exposureExplains", fn := fun _ => fun
  | [d1, d2] => { results := [.lit (.bool false)], args := [d1, d2] }
  | _ => none }
def ExposureExplainsWrongFalsely : Prop := exposureExplainsRow.holds Tryz.pinned (OpenSpec.ofChange exposureExplainsWrong)

/-- 'cipherplanlaw23.ExposureWeak': WHATEVER THE INPUT: true; the input reads as it did. -/
def exposureWeakSpec : ChangeSpec := { name := "exposureWeak", fn := fun _ => fun
  | [d] => { results := [.lit (.bool true)], args := [d] }
  | _ => none }
def exposureWeakRow : OpenClaim := { program := "ytlpaikjhphkioaagreat", sum := "b09667f19151621b1e37bcca4dbf0555961a890d2af3462ba6ba41717e9ac2e6", func := "cipherplan/cipherplanlaw23.ExposureWeak", spec := "exposureWeak", inPlace := ["internal/bytealg.abigen_runtime_cmpstring", "slices.overlaps[string]", "slices.overlaps[int]"], unfollowed := true, recurses := true, plainKeys := false, apart := false }
def ExposureWeakSaid : Prop := exposureWeakRow.holds Tryz.pinned (OpenSpec.ofChange exposureWeakSpec)

/-- ITS FALSE NEIGHBOUR: 'it returns false'. Refute it at one input. -/
def exposureWeakWrong : ChangeSpec := { name := "exposureWeak", fn := fun _ => fun
  | [d] => { results := [.lit (.bool false)], args := [d] }
  | _ => none }
def ExposureWeakWrongFalsely : Prop := exposureWeakRow.holds Tryz.pinned (OpenSpec.ofChange exposureWeakWrong)

/- THE SECOND FORM. 'bulk': how many values and letters a reading holds, each counted each time it is reached (what is shared counts as often as it is met; a slice's spare places count too). A statement '..UptoSaid' is the law's where the arguments, and the package variables that the reading takes, are together of bulk at most 1048576: NARROWER than '..Said'. Prove '..Said' where nothing that the law and all that it calls make is longer than what came in: it says more and counts as full. Else prove '..UptoSaid'. A law counts once. -/
mutual
def uptoBulk {H : Type} : DataW H → Nat
  | .lit (.string bytes) => bytes.length + 1
  | .lit _ => 1
  | .nil => 1
  | .ptr d => uptoBulk d + 1
  | .slice elems spare => uptoBulkAll elems + uptoBulkAll spare + 1
  | .agg parts => uptoBulkAll parts + 1
  | .iface _ d => uptoBulk d + 1
  | .map entries => uptoBulkEntries entries + 1
  | .held _ => 1
def uptoBulkAll {H : Type} : List (DataW H) → Nat
  | [] => 0
  | d :: r => uptoBulk d + uptoBulkAll r
def uptoBulkEntries {H : Type} : List (Lit × DataW H) → Nat
  | [] => 0
  | x :: r => uptoBulkEntry x + uptoBulkEntries r
def uptoBulkEntry {H : Type} : Lit × DataW H → Nat
  | (.string bytes, d) => bytes.length + uptoBulk d + 1
  | (_, d) => uptoBulk d + 1
 end
def uptoSmall : (H : Type) → List (DataW H) → Bool := fun _ ds => decide (uptoBulkAll ds ≤ 1048576)
def OpenSpec.upto (s : _root_.Go.ChangeSpec) : _root_.Go.OpenSpec := { _root_.Go.OpenSpec.ofChange s with cond := some uptoSmall }

/-- 'cipherplanlaw23.ExposureFindings', WHERE WHAT IT READS IS OF BULK AT MOST 1048576: true; the input reads as it did. -/
def exposureFindingsUptoRow : OpenClaim := { program := "ytlpaikjhphkioaagreat", sum := "b09667f19151621b1e37bcca4dbf0555961a890d2af3462ba6ba41717e9ac2e6", func := "cipherplan/cipherplanlaw23.ExposureFindings", spec := "exposureFindings", inPlace := ["internal/bytealg.abigen_runtime_cmpstring", "slices.overlaps[string]", "slices.overlaps[int]"], unfollowed := true, recurses := true, plainKeys := false, apart := false, narrowed := true }
def ExposureFindingsUptoSaid : Prop := exposureFindingsUptoRow.holds Tryz.pinned (OpenSpec.upto exposureFindingsSpec)

/-- 'cipherplanlaw23.ExposureExplains', WHERE WHAT IT READS IS OF BULK AT MOST 1048576: true; the input reads as it did. -/
def exposureExplainsUptoRow : OpenClaim := { program := "ytlpaikjhphkioaagreat", sum := "b09667f19151621b1e37bcca4dbf0555961a890d2af3462ba6ba41717e9ac2e6", func := "cipherplan/cipherplanlaw23.ExposureExplains", spec := "exposureExplains", inPlace := ["internal/bytealg.abigen_runtime_cmpstring", "slices.overlaps[string]", "slices.overlaps[int]"], unfollowed := true, recurses := true, plainKeys := false, apart := false, narrowed := true }
def ExposureExplainsUptoSaid : Prop := exposureExplainsUptoRow.holds Tryz.pinned (OpenSpec.upto exposureExplainsSpec)

/-- 'cipherplanlaw23.ExposureWeak', WHERE WHAT IT READS IS OF BULK AT MOST 1048576: true; the input reads as it did. -/
def exposureWeakUptoRow : OpenClaim := { program := "ytlpaikjhphkioaagreat", sum := "b09667f19151621b1e37bcca4dbf0555961a890d2af3462ba6ba41717e9ac2e6", func := "cipherplan/cipherplanlaw23.ExposureWeak", spec := "exposureWeak", inPlace := ["internal/bytealg.abigen_runtime_cmpstring", "slices.overlaps[string]", "slices.overlaps[int]"], unfollowed := true, recurses := true, plainKeys := false, apart := false, narrowed := true }
def ExposureWeakUptoSaid : Prop := exposureWeakUptoRow.holds Tryz.pinned (OpenSpec.upto exposureWeakSpec)

end Rows
end Go.Proofs.YtlpaikjhphkioaaGreat

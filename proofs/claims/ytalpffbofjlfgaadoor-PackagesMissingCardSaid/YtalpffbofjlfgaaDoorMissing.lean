/- PackagesMissing: for every input the law returns true; each argument reads afterwards as it read before. Conditions: package-level variables as the program's text lays them (the card ties them). -/
import Derived.Test.YtalpffbofjlfgaaDoorK19
import Derived.Test.YtalpffbofjlfgaaDoorK23
import Derived.Test.YtalpffbofjlfgaaDoorCards
import Derived.Test.YtalpffbofjlfgaaDoorTie
set_option linter.unusedVariables false
set_option linter.unusedSimpArgs false
section
namespace Go.Proofs.YtalpffbofjlfgaaDoor
open Go Av Go.RowKit Go.ChangeShapes Go.WideShapes Go.ChangeAt
set_option maxRecDepth 100000
theorem Ko : Own Tryd.prog 3 := ⟨Tryd.f3, Tryd.func3, by decide, _, rfl⟩
theorem Uq (os : Os) (started : os.Started) (H : Type) (enc : TypeId × Value → H) :
    ReturnsInHanded {} Tryd.checked os 3 .any (fun w args => (Rows.packagesMissingSpec.pre enc Tryd.prog Tryd.f3 [] false w args ∧ laidMet Tryd.prog qS w) ∧ sizedMet enc Tryd.prog Tryd.f3 (OpenSpec.ofChange Rows.packagesMissingSpec) false w args)
      (Rows.packagesMissingSpec.post enc Tryd.prog Tryd.f3 false true false false) := by
  refine aac (C := Tryd.checked) (X := fun w => laidMet Tryd.prog qS w) (fun _ _ hh h => h.of_heap hh) Seat.own started (by kernel_rfl) Tryd.func3 H enc
    (ChangeSpec.witness_at (enc := enc) (C := Tryd.checked) (os := os) (X := fun w _ => laidMet Tryd.prog qS w) false (xR os) #[.slice none 0 0] 8 rfl (by kernel_rfl) (by kernel_rfl) (by kernel_rfl) (by kernel_rfl) (by kernel_rfl) (xf os _))
    Seat.kids (fun h => Seat.full _ _ h) (Seat.small Tryd.f3.params.toList (by kernel_rfl)) rfl
    (fun ds h => by match ds, h with | [_], _ => rfl) rfl Tryd.underlying4 ?_
  intro W args ds p hval hA hL hsh
  have hA : DataW.TrodAll enc Tryd.prog W 0 (fun _ => true) true Tryd.f3.params.toList args.toList ds p := hA
  have hval : ∀ (j : Nat) t v, Tryd.f3.params[j]? = some t → args[j]? = some v → Value.okWide Tryd.prog W .any 0 t v := hval
  rw [Tryd.params3] at hA hval
  obtain ⟨v0, vs0, d0, ds0, p0, q0, hargs0, rfl, rfl, h0, g0⟩ := trodAll_cons hA
  obtain ⟨he, rfl, rfl⟩ := trodAll_nil g0
  obtain rfl : args = #[v0] := by cases args; simp_all
  obtain ⟨a0, w0, x0, r0⟩ := acv Tryd.underlying22 Tryd.underlying3 (by kernel_rfl) (hval 0 22 v0 rfl rfl) h0
  unfold Go.maxLen at w0
  refine wV Seat.mix Ko (Uc W (wok hL hsh) a0 ) rfl fun i h h' => ?_
  match i, h with
  | 0, _ => exact r0
theorem Kn : Rows.PackagesMissingSaid :=
  OpenClaim.holds_of_wide 3 Tryd.f3 rfl rfl rfl rfl rfl rfl rfl ⟨rfl, rfl, rfl, rfl, rfl⟩ rfl rfl rfl rfl rfl (by kernel_rfl) Tryd.func3 (by kernel_rfl)
    (of_decide_eq_true (by kernel_rfl)) (by unfold Func.isWrapper; first | (rw [if_pos (by decide +kernel)]; kernel_rfl) | (rw [if_neg (by decide +kernel)]; exact ⟨rfl, rfl⟩))
    (fun os started H enc _ => Uq os started H enc)
theorem packagesMissing_card : Rows.PackagesMissingCardSaid :=
  Claim7.holds_tied_plain_at .later [] [.data, .data, .data, .data, .sentinel, .sentinel, .pinned] true (true, "3c74eb75a3743282e4978e7baa2fe316445351c6edc5d1abc55d753d6d1b7fec") true
    Kn (fun _ h => by cases h) (by kernel_rfl) (fun _ h => by cases h) packagesMissing_row_tie rfl ⟨rfl, rfl⟩ (by kernel_rfl) rfl
    (fun f fn hf hfn => by
      obtain rfl : f = 3 := Option.some.inj ((show Tryd.prog.funcNamed "cipherplan/cipherplanlaw12.PackagesMissing" = some 3 by kernel_rfl).symm.trans hf) |>.symm
      obtain rfl : fn = Tryd.f3 := (Option.some.inj (Tryd.func3.symm.trans hfn)).symm
      exact ⟨by kernel_rfl, fun j t ht => by
        rw [Tryd.params3] at ht
        have h3 : t = 22 := by
          rcases j with _ | j
          · simp at ht; exact ht.symm
          · simp at ht
        subst h3
        · exact (show Tryd.prog.wantsStandIn 22 = false by kernel_rfl)
        ⟩)
    (by kernel_rfl)
#print axioms packagesMissing_card
end Go.Proofs.YtalpffbofjlfgaaDoor
end

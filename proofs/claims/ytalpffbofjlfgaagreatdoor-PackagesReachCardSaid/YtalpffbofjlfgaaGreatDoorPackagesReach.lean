/- PackagesReach: for every input the law returns true; each argument reads afterwards as it read before. Conditions: package-level variables as the program's text lays them (the card ties them). -/
import Derived.Test.YtalpffbofjlfgaaGreatDoorK19
import Derived.Test.YtalpffbofjlfgaaGreatDoorK24
import Derived.Test.YtalpffbofjlfgaaGreatDoorCards
import Derived.Test.YtalpffbofjlfgaaGreatDoorTie
set_option linter.unusedVariables false
set_option linter.unusedSimpArgs false
section
namespace Go.Proofs.YtalpffbofjlfgaaGreatDoor
open Go Av Go.RowKit Go.ChangeShapes Go.WideShapes Go.ChangeAt
set_option maxRecDepth 100000
theorem aaj : Own Tryz.prog 3 := ⟨Tryz.f3, Tryz.func3, by decide, _, rfl⟩
theorem xD (os : Os) (started : os.Started) (H : Type) (enc : TypeId × Value → H) :
    ReturnsInHanded {} Tryz.checked os 3 .any (fun w args => (Rows.packagesReachSpec.pre enc Tryz.prog Tryz.f3 [] false w args ∧ laidMet Tryz.prog aaI w) ∧ sizedMet enc Tryz.prog Tryz.f3 (OpenSpec.ofChange Rows.packagesReachSpec) false w args)
      (Rows.packagesReachSpec.post enc Tryz.prog Tryz.f3 false true false false) := by
  refine agV (C := Tryz.checked) (X := fun w => laidMet Tryz.prog aaI w) (fun _ _ hh h => h.of_heap hh) Seat.own started (by kernel_rfl) Tryz.func3 H enc
    (ChangeSpec.witness_at (enc := enc) (C := Tryz.checked) (os := os) (X := fun w _ => laidMet Tryz.prog aaI w) false (aei os) #[.slice none 0 0] 8 rfl (by kernel_rfl) (by kernel_rfl) (by kernel_rfl) (by kernel_rfl) (by kernel_rfl) (ady os _))
    Seat.kids (fun h => Seat.full _ _ h) (Seat.small Tryz.f3.params.toList (by kernel_rfl)) rfl
    (fun ds h => by match ds, h with | [_], _ => rfl) rfl Tryz.underlying4 ?_
  intro W args ds p hval hA hL hsh
  have hA : DataW.TrodAll enc Tryz.prog W 0 (fun _ => true) true Tryz.f3.params.toList args.toList ds p := hA
  have hval : ∀ (j : Nat) t v, Tryz.f3.params[j]? = some t → args[j]? = some v → Value.okWide Tryz.prog W .any 0 t v := hval
  rw [Tryz.params3] at hA hval
  obtain ⟨v0, vs0, d0, ds0, p0, q0, hargs0, rfl, rfl, h0, g0⟩ := trodAll_cons hA
  obtain ⟨he, rfl, rfl⟩ := trodAll_nil g0
  obtain rfl : args = #[v0] := by cases args; simp_all
  obtain ⟨a0, w0, x0, r0⟩ := ajC Tryz.underlying22 Tryz.underlying3 (by kernel_rfl) (hval 0 22 v0 rfl rfl) h0
  unfold Go.maxLen at w0
  refine afA Seat.mix aaj (xf W (wok hL hsh) a0 ) rfl fun i h h' => ?_
  match i, h with
  | 0, _ => exact r0
theorem aai : Rows.PackagesReachSaid :=
  OpenClaim.holds_of_wide 3 Tryz.f3 rfl rfl rfl rfl rfl rfl rfl ⟨rfl, rfl, rfl, rfl, rfl⟩ rfl rfl rfl rfl rfl (by kernel_rfl) Tryz.func3 (by kernel_rfl)
    (of_decide_eq_true (by kernel_rfl)) (by unfold Func.isWrapper; first | (rw [if_pos (by decide +kernel)]; kernel_rfl) | (rw [if_neg (by decide +kernel)]; exact ⟨rfl, rfl⟩))
    (fun os started H enc _ => xD os started H enc)
theorem packagesReach_card : Rows.PackagesReachCardSaid :=
  Claim7.holds_tied_plain_at .later [] [.data, .data, .data, .data, .sentinel, .sentinel, .pinned] true (true, "8753e5862a72c8e58a9171d5e55daea90b8f6699036fd0dc6fea06a5c6ec0ad2") true
    aai (fun _ h => by cases h) (by kernel_rfl) (fun _ h => by cases h) packagesReach_row_tie rfl ⟨rfl, rfl⟩ (by kernel_rfl) rfl
    (fun f fn hf hfn => by
      obtain rfl : f = 3 := Option.some.inj ((show Tryz.prog.funcNamed "cipherplan/cipherplanlaw12.PackagesReach" = some 3 by kernel_rfl).symm.trans hf) |>.symm
      obtain rfl : fn = Tryz.f3 := (Option.some.inj (Tryz.func3.symm.trans hfn)).symm
      exact ⟨by kernel_rfl, fun j t ht => by
        rw [Tryz.params3] at ht
        have h3 : t = 22 := by
          rcases j with _ | j
          · simp at ht; exact ht.symm
          · simp at ht
        subst h3
        · exact (show Tryz.prog.wantsStandIn 22 = false by kernel_rfl)
        ⟩)
    (by kernel_rfl)
#print axioms packagesReach_card
end Go.Proofs.YtalpffbofjlfgaaGreatDoor
end

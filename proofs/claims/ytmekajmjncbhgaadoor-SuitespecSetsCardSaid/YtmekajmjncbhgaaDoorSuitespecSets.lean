/- SuitespecSets: for every input the law returns true; each argument reads afterwards as it read before. Conditions: package-level variables as the program's text lays them (the card ties them). -/
import Derived.Test.YtmekajmjncbhgaaDoorK18
import Derived.Test.YtmekajmjncbhgaaDoorK24
import Derived.Test.YtmekajmjncbhgaaDoorCards
import Derived.Test.YtmekajmjncbhgaaDoorTie
set_option linter.unusedVariables false
set_option linter.unusedSimpArgs false
section
namespace Go.Proofs.YtmekajmjncbhgaaDoor
open Go Av Go.RowKit Go.ChangeShapes Go.WideShapes Go.ChangeAt Go.Proofs.YtmekajmjncbhgaaDoor.S8
set_option maxRecDepth 100000
theorem xF : Own Tryd.prog 3 := ⟨Tryd.f3, Tryd.func3, by decide, _, rfl⟩
theorem ym (os : Os) (started : os.Started) (H : Type) (enc : TypeId × Value → H) :
    ReturnsInHanded {} Tryd.checked os 3 .any (fun w args => (Rows.suitespecSetsSpec.pre enc Tryd.prog Tryd.f3 [] false w args ∧ laidMet Tryd.prog vZ w) ∧ sizedMet enc Tryd.prog Tryd.f3 (OpenSpec.ofChange Rows.suitespecSetsSpec) false w args)
      (Rows.suitespecSetsSpec.post enc Tryd.prog Tryd.f3 false true false false) := by
  refine aeE (C := Tryd.checked) (X := fun w => laidMet Tryd.prog vZ w) (fun _ _ hh h => h.of_heap hh) Seat.own started (by kernel_rfl) Tryd.func3 H enc
    (ChangeSpec.witness_at (enc := enc) (C := Tryd.checked) (os := os) (X := fun w _ => laidMet Tryd.prog vZ w) false (acq os) #[.slice none 0 0, .string ⟨#[]⟩, .slice none 0 0] 8 rfl (by kernel_rfl) (by kernel_rfl) (by kernel_rfl) (by kernel_rfl) (by kernel_rfl) (abw os _))
    Seat.kids (fun h => Seat.full _ _ h) (Seat.small Tryd.f3.params.toList (by kernel_rfl)) rfl
    (fun ds h => by match ds, h with | [_, _, _], _ => rfl) rfl Tryd.underlying4 ?_
  intro W args ds p hval hA hL hsh
  have hA : DataW.TrodAll enc Tryd.prog W 0 (fun _ => true) true Tryd.f3.params.toList args.toList ds p := hA
  have hval : ∀ (j : Nat) t v, Tryd.f3.params[j]? = some t → args[j]? = some v → Value.okWide Tryd.prog W .any 0 t v := hval
  rw [Tryd.params3] at hA hval
  obtain ⟨v0, vs0, d0, ds0, p0, q0, hargs0, rfl, rfl, h0, g0⟩ := trodAll_cons hA
  obtain ⟨v1, vs1, d1, ds1, p1, q1, hargs1, rfl, rfl, h1, g1⟩ := trodAll_cons g0
  obtain ⟨v2, vs2, d2, ds2, p2, q2, hargs2, rfl, rfl, h2, g2⟩ := trodAll_cons g1
  obtain ⟨he, rfl, rfl⟩ := trodAll_nil g2
  obtain rfl : args = #[v0, v1, v2] := by cases args; simp_all
  obtain ⟨a0, w0, x0, r0⟩ := aea Tryd.underlying22 Tryd.underlying3 (by kernel_rfl) (hval 0 22 v0 rfl rfl) h0
  unfold Go.maxLen at w0
  obtain ⟨a1, w1, r1⟩ := ae2 Tryd.underlying9 (hval 1 9 v1 rfl rfl) h1
  unfold Go.maxLen at w1
  obtain ⟨a2, w2, x2, r2⟩ := aea Tryd.underlying22 Tryd.underlying3 (by kernel_rfl) (hval 2 22 v2 rfl rfl) h2
  unfold Go.maxLen at w2
  refine adB Seat.mix xF (j5 W (wok hL hsh) a0 a1 a2 ) rfl fun i h h' => ?_
  match i, h with
  | 0, _ => exact r0
  | 1, _ => exact r1
  | 2, _ => exact r2
theorem xE : Rows.SuitespecSetsSaid :=
  OpenClaim.holds_of_wide 3 Tryd.f3 rfl rfl rfl rfl rfl rfl rfl ⟨rfl, rfl, rfl, rfl, rfl⟩ rfl rfl rfl rfl rfl (by kernel_rfl) Tryd.func3 (by kernel_rfl)
    (of_decide_eq_true (by kernel_rfl)) (by unfold Func.isWrapper; first | (rw [if_pos (by decide +kernel)]; kernel_rfl) | (rw [if_neg (by decide +kernel)]; exact ⟨rfl, rfl⟩))
    (fun os started H enc _ => ym os started H enc)
theorem suitespecSets_card : Rows.SuitespecSetsCardSaid :=
  Claim7.holds_tied_plain_at .later [] [.data, .pinned] true (true, "32f5679b8101ca2fe166f34fda2a0c4b802ea38ae5593a8d40f6dccd12581aca") false
    xE (fun _ h => by cases h) (by kernel_rfl) (fun _ h => by cases h) suitespecSets_row_tie rfl ⟨rfl, rfl⟩ (by kernel_rfl) rfl
    (fun f fn hf hfn => by
      obtain rfl : f = 3 := Option.some.inj ((show Tryd.prog.funcNamed "cipherplan/cipherplanlaw08.SuitespecSets" = some 3 by kernel_rfl).symm.trans hf) |>.symm
      obtain rfl : fn = Tryd.f3 := (Option.some.inj (Tryd.func3.symm.trans hfn)).symm
      exact ⟨by kernel_rfl, fun j t ht => by
        rw [Tryd.params3] at ht
        have h3 : t = 22 ∨ t = 9 ∨ t = 22 := by
          rcases j with _ | _ | _ | j
          · simp at ht; exact .inl ht.symm
          · simp at ht; exact .inr (.inl ht.symm)
          · simp at ht; exact .inr (.inr (ht.symm))
          · simp at ht
        rcases h3 with rfl | rfl | rfl
        · exact (show Tryd.prog.wantsStandIn 22 = false by kernel_rfl)
        · exact (show Tryd.prog.wantsStandIn 9 = false by kernel_rfl)
        · exact (show Tryd.prog.wantsStandIn 22 = false by kernel_rfl)
        ⟩)
    (by kernel_rfl)
#print axioms suitespecSets_card
end Go.Proofs.YtmekajmjncbhgaaDoor
end

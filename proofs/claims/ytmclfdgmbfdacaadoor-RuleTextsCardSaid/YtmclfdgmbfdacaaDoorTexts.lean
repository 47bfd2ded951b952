/- RuleTexts: for every input the law returns true; each argument reads afterwards as it read before. Conditions: package-level variables as the program's text lays them (the card ties them). -/
import Derived.Test.YtmclfdgmbfdacaaDoorRow
import Derived.Test.YtmclfdgmbfdacaaDoorLc
import Derived.Test.YtmclfdgmbfdacaaDoorCards
import Derived.Test.YtmclfdgmbfdacaaDoorTie
set_option linter.unusedVariables false
set_option linter.unusedSimpArgs false
section
namespace Go.Proofs.YtmclfdgmbfdacaaDoor
open Go Av Go.RowKit Go.ChangeShapes Go.WideShapes Go.ChangeAt
set_option maxRecDepth 100000
theorem ruleTexts_own : Own Tryd.prog 3 := ⟨Tryd.f3, Tryd.func3, by decide, _, rfl⟩
theorem ruleTexts_lifted (os : Os) (started : os.Started) (H : Type) (enc : TypeId × Value → H) :
    ReturnsInHanded {} Tryd.checked os 3 .any (fun w args => (Rows.ruleTextsSpec.pre enc Tryd.prog Tryd.f3 [] false w args ∧ laidMet Tryd.prog catLaid w) ∧ sizedMet enc Tryd.prog Tryd.f3 (OpenSpec.ofChange Rows.ruleTextsSpec) false w args)
      (Rows.ruleTextsSpec.post enc Tryd.prog Tryd.f3 false true false false) := by
  refine law_lifted (C := Tryd.checked) (X := fun w => laidMet Tryd.prog catLaid w) (fun _ _ hh h => h.of_heap hh) Seat.own started (by kernel_rfl) Tryd.func3 H enc
    (ChangeSpec.witness_at (enc := enc) (C := Tryd.checked) (os := os) (X := fun w _ => laidMet Tryd.prog catLaid w) false (laidWorld os) #[.slice none 0 0, .string ⟨#[]⟩, .int .i64 0] 8 rfl (by kernel_rfl) (by kernel_rfl) (by kernel_rfl) (by kernel_rfl) (by kernel_rfl) (laidWorld_met os _))
    Seat.kids (fun h => Seat.full _ _ h) (Seat.small Tryd.f3.params.toList (by kernel_rfl)) rfl
    (fun ds h => by match ds, h with | [_, _, _], _ => rfl) rfl Tryd.underlying4 ?_
  intro W args ds p hval hA hL hsh
  have hA : DataW.TrodAll enc Tryd.prog W 0 (fun _ => true) true Tryd.f3.params.toList args.toList ds p := hA
  have hval : ∀ (j : Nat) t v, Tryd.f3.params[j]? = some t → args[j]? = some v → Value.okWide Tryd.prog W .any 0 t v := hval
  rw [Tryd.params3] at hA hval
  obtain ⟨v0, vs0, d0, ds0, p0, q0, hargs0, rfl, rfl, h0, g0⟩ := trodAll_cons hA
  obtain ⟨v1, vs1, d1, ds1, p1, q1, hargs1, rfl, rfl, h1, g1⟩ := trodAll_cons g0
  obtain ⟨v2, vs2, d2, ds2, p2, q2, hargs2, rfl, rfl, h2, g2⟩ := trodAll_cons g1
  obtain ⟨he, rfl, rfl⟩ := trodAll_nil g2
  obtain rfl : args = #[v0, v1, v2] := by cases args; simp_all
  obtain ⟨a0, w0, x0, r0⟩ := arg_ints Tryd.underlying22 Tryd.underlying3 (by kernel_rfl) (hval 0 22 v0 rfl rfl) h0
  unfold Go.maxLen at w0
  obtain ⟨a1, w1, r1⟩ := arg_string Tryd.underlying9 (hval 1 9 v1 rfl rfl) h1
  unfold Go.maxLen at w1
  obtain ⟨a2, w2, r2⟩ := arg_int Tryd.underlying3 (hval 2 3 v2 rfl rfl) h2
  refine calls_of_ev Seat.mix ruleTexts_own (E_law17_RuleTexts W (wok hL hsh) a0 a1 a2 ) rfl fun i h h' => ?_
  match i, h with
  | 0, _ => exact r0
  | 1, _ => exact r1
  | 2, _ => exact r2
theorem ruleTexts_row : Rows.RuleTextsSaid :=
  OpenClaim.holds_of_wide 3 Tryd.f3 rfl rfl rfl rfl rfl rfl rfl ⟨rfl, rfl, rfl, rfl, rfl⟩ rfl rfl rfl rfl rfl (by kernel_rfl) Tryd.func3 (by kernel_rfl)
    (of_decide_eq_true (by kernel_rfl)) (by unfold Func.isWrapper; first | (rw [if_pos (by decide +kernel)]; kernel_rfl) | (rw [if_neg (by decide +kernel)]; exact ⟨rfl, rfl⟩))
    (fun os started H enc _ => ruleTexts_lifted os started H enc)
theorem ruleTexts_card : Rows.RuleTextsCardSaid :=
  Claim7.holds_tied_plain_at .later [] [.data, .data, .data, .data, .sentinel, .sentinel, .pinned] true (true, "ce0fd0949d49f68fdfc50b860ebdf434a47cea6cddde52524e2a0a3551c5fa0a") true
    ruleTexts_row (fun _ h => by cases h) (by kernel_rfl) (fun _ h => by cases h) ruleTexts_row_tie rfl ⟨rfl, rfl⟩ (by kernel_rfl) rfl
    (fun f fn hf hfn => by
      obtain rfl : f = 3 := Option.some.inj ((show Tryd.prog.funcNamed "cipherplan/cipherplanlaw17.RuleTexts" = some 3 by kernel_rfl).symm.trans hf) |>.symm
      obtain rfl : fn = Tryd.f3 := (Option.some.inj (Tryd.func3.symm.trans hfn)).symm
      exact ⟨by kernel_rfl, fun j t ht => by
        rw [Tryd.params3] at ht
        have h3 : t = 22 ∨ t = 9 ∨ t = 3 := by
          rcases j with _ | _ | _ | j
          · simp at ht; exact .inl ht.symm
          · simp at ht; exact .inr (.inl ht.symm)
          · simp at ht; exact .inr (.inr (ht.symm))
          · simp at ht
        rcases h3 with rfl | rfl | rfl
        · exact (show Tryd.prog.wantsStandIn 22 = false by kernel_rfl)
        · exact (show Tryd.prog.wantsStandIn 9 = false by kernel_rfl)
        · exact (show Tryd.prog.wantsStandIn 3 = false by kernel_rfl)
        ⟩)
    (by kernel_rfl)
#print axioms ruleTexts_card
end Go.Proofs.YtmclfdgmbfdacaaDoor
end

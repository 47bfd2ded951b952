/- RuleLong: for every input the law returns true; each argument reads afterwards as it read before. Conditions: package-level variables as the program's text lays them (the card ties them). -/
import Derived.Test.YtmclfdgmbfdacaaDoorRow
import Derived.Test.YtmclfdgmbfdacaaDoorLc
import Derived.Test.YtmclfdgmbfdacaaDoorCards
import Derived.Test.YtmclfdgmbfdacaaDoorTie
set_option linter.unusedVariables false
set_option linter.unusedSimpArgs false
section
namespace Go.Proofs.YtmclfdgmbfdacaaDoor
open Go Av Go.RowKit Go.ChangeShapes Go.WideShapes Go.ChangeAt
set_option maxRecDepth 100000
theorem ruleLong_own : Own Tryd.prog 4 := ⟨Tryd.f4, Tryd.func4, by decide, _, rfl⟩
theorem ruleLong_lifted (os : Os) (started : os.Started) (H : Type) (enc : TypeId × Value → H) :
    ReturnsInHanded {} Tryd.checked os 4 .any (fun w args => (Rows.ruleLongSpec.pre enc Tryd.prog Tryd.f4 [] false w args ∧ laidMet Tryd.prog catLaid w) ∧ sizedMet enc Tryd.prog Tryd.f4 (OpenSpec.ofChange Rows.ruleLongSpec) false w args)
      (Rows.ruleLongSpec.post enc Tryd.prog Tryd.f4 false true false false) := by
  refine law_lifted (C := Tryd.checked) (X := fun w => laidMet Tryd.prog catLaid w) (fun _ _ hh h => h.of_heap hh) Seat.own started (by kernel_rfl) Tryd.func4 H enc
    (ChangeSpec.witness_at (enc := enc) (C := Tryd.checked) (os := os) (X := fun w _ => laidMet Tryd.prog catLaid w) false (laidWorld os) #[.int .u8 0, .int .u8 0, .int .u8 0] 8 rfl (by kernel_rfl) (by kernel_rfl) (by kernel_rfl) (by kernel_rfl) (by kernel_rfl) (laidWorld_met os _))
    Seat.kids (fun h => Seat.full _ _ h) (Seat.small Tryd.f4.params.toList (by kernel_rfl)) rfl
    (fun ds h => by match ds, h with | [_, _, _], _ => rfl) rfl Tryd.underlying4 ?_
  intro W args ds p hval hA hL hsh
  have hA : DataW.TrodAll enc Tryd.prog W 0 (fun _ => true) true Tryd.f4.params.toList args.toList ds p := hA
  have hval : ∀ (j : Nat) t v, Tryd.f4.params[j]? = some t → args[j]? = some v → Value.okWide Tryd.prog W .any 0 t v := hval
  rw [Tryd.params4] at hA hval
  obtain ⟨v0, vs0, d0, ds0, p0, q0, hargs0, rfl, rfl, h0, g0⟩ := trodAll_cons hA
  obtain ⟨v1, vs1, d1, ds1, p1, q1, hargs1, rfl, rfl, h1, g1⟩ := trodAll_cons g0
  obtain ⟨v2, vs2, d2, ds2, p2, q2, hargs2, rfl, rfl, h2, g2⟩ := trodAll_cons g1
  obtain ⟨he, rfl, rfl⟩ := trodAll_nil g2
  obtain rfl : args = #[v0, v1, v2] := by cases args; simp_all
  obtain ⟨a0, w0, r0⟩ := arg_int Tryd.underlying5 (hval 0 5 v0 rfl rfl) h0
  have b0 := bounds_u8 w0
  obtain ⟨a1, w1, r1⟩ := arg_int Tryd.underlying5 (hval 1 5 v1 rfl rfl) h1
  have b1 := bounds_u8 w1
  obtain ⟨a2, w2, r2⟩ := arg_int Tryd.underlying5 (hval 2 5 v2 rfl rfl) h2
  have b2 := bounds_u8 w2
  refine calls_of_ev Seat.mix ruleLong_own (E_law17_RuleLong W (wok hL hsh) a0 a1 a2 b0.1 b0.2 b1.1 b1.2 b2.1 b2.2) rfl fun i h h' => ?_
  match i, h with
  | 0, _ => exact r0
  | 1, _ => exact r1
  | 2, _ => exact r2
theorem ruleLong_row : Rows.RuleLongSaid :=
  OpenClaim.holds_of_wide 4 Tryd.f4 rfl rfl rfl rfl rfl rfl rfl ⟨rfl, rfl, rfl, rfl, rfl⟩ rfl rfl rfl rfl rfl (by kernel_rfl) Tryd.func4 (by kernel_rfl)
    (of_decide_eq_true (by kernel_rfl)) (by unfold Func.isWrapper; first | (rw [if_pos (by decide +kernel)]; kernel_rfl) | (rw [if_neg (by decide +kernel)]; exact ⟨rfl, rfl⟩))
    (fun os started H enc _ => ruleLong_lifted os started H enc)
theorem ruleLong_card : Rows.RuleLongCardSaid :=
  Claim7.holds_tied_plain_at .later [] [.data, .data, .data, .data, .sentinel, .sentinel, .pinned] true (true, "ce0fd0949d49f68fdfc50b860ebdf434a47cea6cddde52524e2a0a3551c5fa0a") true
    ruleLong_row (fun _ h => by cases h) (by kernel_rfl) (fun _ h => by cases h) ruleLong_row_tie rfl ⟨rfl, rfl⟩ (by kernel_rfl) rfl
    (fun f fn hf hfn => by
      obtain rfl : f = 4 := Option.some.inj ((show Tryd.prog.funcNamed "cipherplan/cipherplanlaw17.RuleLong" = some 4 by kernel_rfl).symm.trans hf) |>.symm
      obtain rfl : fn = Tryd.f4 := (Option.some.inj (Tryd.func4.symm.trans hfn)).symm
      exact ⟨by kernel_rfl, fun j t ht => by
        rw [Tryd.params4] at ht
        have h3 : t = 5 ∨ t = 5 ∨ t = 5 := by
          rcases j with _ | _ | _ | j
          · simp at ht; exact .inl ht.symm
          · simp at ht; exact .inr (.inl ht.symm)
          · simp at ht; exact .inr (.inr (ht.symm))
          · simp at ht
        rcases h3 with rfl | rfl | rfl
        · exact (show Tryd.prog.wantsStandIn 5 = false by kernel_rfl)
        · exact (show Tryd.prog.wantsStandIn 5 = false by kernel_rfl)
        · exact (show Tryd.prog.wantsStandIn 5 = false by kernel_rfl)
        ⟩)
    (by kernel_rfl)
#print axioms ruleLong_card
end Go.Proofs.YtmclfdgmbfdacaaDoor
end

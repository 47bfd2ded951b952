/- GoneSeen: for every input the law returns true; each argument reads afterwards as it read before. -/
import Derived.Test.YtlnkijmacdgahaaGreatK37
import Derived.Test.YtlnkijmacdgahaaGreatK40
set_option linter.unusedVariables false
set_option linter.unusedSimpArgs false
section
namespace Go.Proofs.YtlnkijmacdgahaaGreat
open Go Av Go.RowKit Go.ChangeShapes Go.WideShapes Go.ChangeAt
set_option maxRecDepth 100000
theorem af0 : Av.Own Tryz.prog 5 := ⟨Tryz.f5, Tryz.func5, by decide, _, rfl⟩
theorem acs (os : Os) (started : os.Started) (H : Type) (enc : TypeId × Value → H) :
    ReturnsInHanded {} Tryz.checked os 5 .any (fun w args => (Rows.goneSeenSpec.pre enc Tryz.prog Tryz.f5 [] false w args ∧ True) ∧ sizedMet enc Tryz.prog Tryz.f5 (OpenSpec.ofChange Rows.goneSeenSpec) false w args)
      (Rows.goneSeenSpec.post enc Tryz.prog Tryz.f5 false true false false) := by
  refine aai (C := Tryz.checked) (X := fun w => True) (fun _ _ _ h => h) Seat.own started (by kernel_rfl) Tryz.func5 H enc
    (ChangeSpec.witness_at (enc := enc) (C := Tryz.checked) (os := os) (X := fun w _ => True) false (aco os) #[.slice none 0 0, .int .u8 0] 8 rfl (by kernel_rfl) (by kernel_rfl) (by kernel_rfl) (by kernel_rfl) (by kernel_rfl) trivial)
    Seat.kids (fun h => Seat.full _ _ h) (Seat.small Tryz.f5.params.toList (by kernel_rfl)) rfl
    (fun ds h => by match ds, h with | [_, _], _ => rfl) rfl Tryz.underlying4 ?_
  intro W args ds p hval hA hL hsh
  have hA : DataW.TrodAll enc Tryz.prog W 0 (fun _ => true) true Tryz.f5.params.toList args.toList ds p := hA
  have hval : ∀ (j : Nat) t v, Tryz.f5.params[j]? = some t → args[j]? = some v → Value.okWide Tryz.prog W .any 0 t v := hval
  rw [Tryz.params5] at hA hval
  obtain ⟨v0, vs0, d0, ds0, p0, q0, hargs0, rfl, rfl, h0, g0⟩ := trodAll_cons hA
  obtain ⟨v1, vs1, d1, ds1, p1, q1, hargs1, rfl, rfl, h1, g1⟩ := trodAll_cons g0
  obtain ⟨he, rfl, rfl⟩ := trodAll_nil g1
  obtain rfl : args = #[v0, v1] := by cases args; simp_all
  obtain ⟨a0, w0, x0, r0⟩ := ae7 Tryz.underlying22 Tryz.underlying3 (by kernel_rfl) (hval 0 22 v0 rfl rfl) h0
  unfold Go.maxLen at w0
  obtain ⟨a1, w1, r1⟩ := ah6 Tryz.underlying5 (hval 1 5 v1 rfl rfl) h1
  have b1 := bounds_u8 w1
  refine wb Seat.mix af0 (@abG W ⟨⟨trivial⟩⟩ a0 a1 b1.1 b1.2) rfl fun i h h' => ?_
  match i, h with
  | 0, _ => exact r0
  | 1, _ => exact r1
theorem goneSeen_row : Rows.GoneSeenSaid :=
  OpenClaim.holds_of_wide 5 Tryz.f5 rfl rfl rfl rfl rfl rfl rfl ⟨rfl, rfl, rfl, rfl, rfl⟩ rfl rfl rfl rfl rfl (by kernel_rfl) Tryz.func5 (by kernel_rfl)
    (of_decide_eq_true (by kernel_rfl)) (by unfold Func.isWrapper; first | (rw [if_pos (by decide +kernel)]; kernel_rfl) | (rw [if_neg (by decide +kernel)]; exact ⟨rfl, rfl⟩))
    (fun os started H enc _ => by have h := acs os started H enc; simp only [and_true] at h; exact h)
#print axioms goneSeen_row
end Go.Proofs.YtlnkijmacdgahaaGreat
end

/- K20 -/
import Derived.Test.YtlnkijmacdgahaaGreatK19
import Derived.Test.YtlnkijmacdgahaaGreatK12
set_option linter.unusedVariables false
set_option linter.unusedSimpArgs false
noncomputable section
set_option maxRecDepth 10000
set_option maxHeartbeats 4000000
namespace Av
open Go
attribute [local irreducible] AWp VA K4 jR awS awC aa9 awQ abD QZ V9 aay awR Ug awB okR jL ris
def JQ := qd Proofs.Tryz.f93 []
def Yt (Γ : Env) (f : Nat) : Prop := ∀ (l : List Int) (hl : l.length < 2 ^ 34), EvW Γ f [.sl 1 (l.map V.int)] 1 (l.map V.int)
theorem K7 {Γ : Env} {f : Nat} (h : Has Γ.P f 8 JQ.1.1.ac JQ.1.2)  : Yt Γ f := by
  intro l hl
  refine VC h (by simp) (by first | exact afU _ | exact afv _) fun C hC hm => ?_
  subst hC
  simp only [JQ, qd, DC.ac]
  rcases l with _ | ⟨x, r⟩
  · repeat' (first | (refine zsk ?_; intro K' hK) | refine zsp ?_ | (refine zsc ?_ ?_ <;> intro hc <;> first | exact znh | try simp only [znz] at hc) | simp (maxSteps := 1000000) only [go_sem, Nat.reduceAdd, Nat.reduceMul, Nat.reduceEqDiff, Nat.reduceLeDiff, Nat.reduceLT, Nat.reduceSub, Int.reduceEq, Int.reduceBEq, Int.reduceLT, Int.reduceLE, Int.reduceAdd, Int.reduceToNat, reduceIte, reduceCtorEq] | (refine hK _ ?_; clear hK K') | apply zan | exact zsq | fail)
    intro t
    rcases t with _ | _
    · repeat' (first | (refine zsk ?_; intro K' hK) | refine zsp ?_ | (refine zsc ?_ ?_ <;> intro hc <;> first | exact znh | try simp only [znz] at hc) | simp (maxSteps := 1000000) only [go_sem, Nat.reduceAdd, Nat.reduceMul, Nat.reduceEqDiff, Nat.reduceLeDiff, Nat.reduceLT, Nat.reduceSub, Int.reduceEq, Int.reduceBEq, Int.reduceLT, Int.reduceLE, Int.reduceAdd, Int.reduceToNat, reduceIte, reduceCtorEq] | (refine hK _ ?_; clear hK K') | apply zan | exact zsq | fail)
      all_goals (refine yr (xs := []) _ _ rfl ?_ ?_ <;> first | rfl | (simp; done))
    · repeat' (first | (refine zsk ?_; intro K' hK) | refine zsp ?_ | (refine zsc ?_ ?_ <;> intro hc <;> first | exact znh | try simp only [znz] at hc) | simp (maxSteps := 1000000) only [go_sem, Nat.reduceAdd, Nat.reduceMul, Nat.reduceEqDiff, Nat.reduceLeDiff, Nat.reduceLT, Nat.reduceSub, Int.reduceEq, Int.reduceBEq, Int.reduceLT, Int.reduceLE, Int.reduceAdd, Int.reduceToNat, reduceIte, reduceCtorEq] | (refine hK _ ?_; clear hK K') | apply zan | exact zsq | fail)
      all_goals (refine yr (xs := []) _ _ rfl ?_ ?_ <;> first | rfl | (simp; done))
  · repeat' (first | (refine zsk ?_; intro K' hK) | refine zsp ?_ | (refine zsc ?_ ?_ <;> intro hc <;> first | exact znh | try simp only [znz] at hc) | simp (maxSteps := 1000000) only [go_sem, Nat.reduceAdd, Nat.reduceMul, Nat.reduceEqDiff, Nat.reduceLeDiff, Nat.reduceLT, Nat.reduceSub, Int.reduceEq, Int.reduceBEq, Int.reduceLT, Int.reduceLE, Int.reduceAdd, Int.reduceToNat, reduceIte, reduceCtorEq] | (refine hK _ ?_; clear hK K') | apply zan | exact zsq | fail)
    all_goals first
      | (simp only [List.length_map, List.length_cons] at hl ⊢; omega)
      | (refine yr (xs := V.int x :: List.map V.int r) _ _ rfl ?_ ?_ <;> first | rfl | (simp; done))
      | trace_state
end Av
end

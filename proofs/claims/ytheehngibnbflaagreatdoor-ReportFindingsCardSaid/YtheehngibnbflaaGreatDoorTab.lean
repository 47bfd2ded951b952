/- Tab -/
import Derived.Test.YtheehngibnbflaaGreatDoorPars
set_option linter.unusedVariables false
set_option linter.unusedSimpArgs false
section
set_option linter.unusedSimpArgs false
set_option linter.unusedVariables false
set_option maxRecDepth 10000
set_option maxHeartbeats 4000000
namespace Av
open Go
attribute [local irreducible] AWp Yd Yy YK awS awC XQ awQ XW Qr Jj XP awR Jk awB okR Yk ris
def yq : Jy := ⟨0, [], 0, 0, 0, 0, 0, 0, 0, 0, 0, 0⟩
def UA (c : Int) : Jy := if 1 ≤ c ∧ c ≤ 16 then Xo.getD (c - 1).toNat yq else yq
def KS (c : Int) : V := .tup [(UA c).v, V.int (if 1 ≤ c ∧ c ≤ 16 then 0 else 8)]
theorem UY (c : Int) : (KS c).closed := by simp only [KS, Jy.v, Jy.cells, V.closed, Qc, and_self]
theorem qo (c : Int) : (KS c).noSl := by simp only [KS, Jy.v, Jy.cells, V.noSl, Jh, and_self]
theorem jA : Xo.length = 16 := rfl
theorem y8 {c : Int} (h : 1 ≤ c ∧ c ≤ 16) : (Xo.map Jy.v)[(c - 1).toNat]? = some (UA c).v := by
  have hk : (c - 1).toNat < Xo.length := by rw [jA]; omega
  rw [List.getElem?_map, UA, if_pos h, List.getD_eq_getElem?_getD, List.getElem?_eq_getElem hk, Option.getD_some]; rfl
theorem y7 {c : Int} (h : ¬ (1 ≤ c ∧ c ≤ 16)) : UA c = yq := by rw [UA, if_neg h]
def WD (YY : Nat) : AC := Qt [0, 2] (.reg [xo 2 (.alloc [.val (.int .i64 0), .val (.string ⟨#[]⟩), .val (.int .i64 0), .val (.int .i64 0), .val (.int .i64 0), .val (.int .i64 0), .val (.int .i64 0), .val (.int .i64 0), .val (.int .i64 0), .val (.int .i64 0), .val (.int .i64 0), .val (.int .i64 0)]), mc 3 (V.int 0)]) (Qt [0, 2, 4] (.reg [cl 5 YY [], mv 4 5]) (Qt [0, 2, 4] (Qt [0, 2, 4, 13] (.reg [mv 6 0, bc 7 .lss 6 (V.int 1), mv 8 7, mg 9 0 8 false, mg 10 4 8 false, xg 11 (.lenL (.t 10)) 8 false, xg 12 (.bin .gtr (.t 9) (.t 11)) 8 false, xo 13 (.pick (.t 8) (.c (V.bool true)) (.t 12))]) (.cond (.t 13) (Qt [2, 3] (.reg [xo 14 (.build [(.int .i64 0), (.string ⟨#[]⟩), (.int .i64 0), (.int .i64 0), (.int .i64 0), (.int .i64 0), (.int .i64 0), (.int .i64 0), (.int .i64 0), (.int .i64 0), (.int .i64 0), (.int .i64 0)] []), xs 12 2 14, mc 3 (V.int 8)]) (.ret)) (.skip))) (Qt [2, 3] (.reg [mv 15 4, mv 16 0, bc 17 .sub 16 (V.int 1), ia 18 12 15 17, xo 19 (.load true 12 (.t 18)), xs 12 2 19, mc 3 (V.int 0)]) (.ret)))) def r_catalog_Suite : List YJ := [.cell 2 true 12, .tmp 3]
def Wj (Γ : Env) (f : Nat) : Prop := ∀ (c : Int), EvN Γ f [V.int c] (KS c)
theorem qb {Γ : Env} {f YY : Nat} (h : Has Γ.P f 20 (WD YY) r_catalog_Suite) (Wf : X0 Γ YY) : Wj Γ f := by
  intro c
  refine QA h (by simp) (by first | exact UY c | exact qo c) (by first | exact UY c | exact qo c) fun C hC hm => ?_
  subst hC
  unfold WD
  have hl := jA
  by_cases h : 1 ≤ c ∧ c ≤ 16
  · have hg := y8 h
    have hw : IntKind.i64.wrap (c - 1) = c - 1 := Wp (by omega) (by omega)
    have e1 : decide (c < 1) = false := by simp; omega
    have e2 : decide (c > 16) = false := by simp; omega
    have e3 : decide (c > (((Xo.map Jy.v).length : Nat) : Int)) = false := by simp [hl]; omega
    repeat' (first | refine Qi fun K' hK => ?_ | refine Ql fun K' hK => ?_ | refine Qj ?_ | refine Qk ?_ | refine Qd ?_ | ((first | refine Qn ⟨_, rfl, fun hc => ?_, fun hc => ?_⟩ | refine QV (fun hc => ?_) (fun hc => ?_) | refine QW (fun hc => ?_) (fun hc => ?_)) <;> first | exact Bool.noConfusion hc | ((try simp only [znz] at hc); first | exact znf | skip)) | refine Qq ?_ | refine Qm ?_ | simp (maxSteps := 1000000) only [go_sem, Nat.reduceAdd, Nat.reduceMul, Nat.reduceEqDiff, Nat.reduceLeDiff, Nat.reduceLT, Nat.reduceSub, Int.reduceEq, Int.reduceBEq, Int.reduceLT, Int.reduceLE, Int.reduceAdd, Int.reduceToNat, reduceIte, reduceCtorEq, hg, hw, e1, e2, e3, Jy.v, Jy.cells] | (refine hK _ ?_; clear hK; clear K') | refine And.intro ?_ ?_ | (apply QY; (focus first | exact EvC.b Wf)) | exact zlo | omega | exact zms)
    all_goals (simp only [KS, if_pos h, Jy.v, Jy.cells]; refine QF _ rfl ?_; simp only [go_sem, Nat.reduceEqDiff, Nat.reduceAdd, reduceIte, reduceCtorEq])
  · have h0 := y7 h
    by_cases h1 : c < 1
    · have e1 : decide (c < 1) = true := by simp; omega
      repeat' (first | refine Qi fun K' hK => ?_ | refine Ql fun K' hK => ?_ | refine Qj ?_ | refine Qk ?_ | refine Qd ?_ | ((first | refine Qn ⟨_, rfl, fun hc => ?_, fun hc => ?_⟩ | refine QV (fun hc => ?_) (fun hc => ?_) | refine QW (fun hc => ?_) (fun hc => ?_)) <;> first | exact Bool.noConfusion hc | ((try simp only [znz] at hc); first | exact znf | skip)) | refine Qq ?_ | refine Qm ?_ | simp (maxSteps := 1000000) only [go_sem, Nat.reduceAdd, Nat.reduceMul, Nat.reduceEqDiff, Nat.reduceLeDiff, Nat.reduceLT, Nat.reduceSub, Int.reduceEq, Int.reduceBEq, Int.reduceLT, Int.reduceLE, Int.reduceAdd, Int.reduceToNat, reduceIte, reduceCtorEq, e1] | (refine hK _ ?_; clear hK; clear K') | refine And.intro ?_ ?_ | (apply QY; (focus first | exact EvC.b Wf)) | exact zlo | omega | exact zms)
      all_goals (simp only [KS, if_neg h, h0, yq, Jy.v, Jy.cells]; refine QF _ rfl ?_; simp only [go_sem, Nat.reduceEqDiff, Nat.reduceAdd, reduceIte, reduceCtorEq])
    · have e1 : decide (c < 1) = false := by simp; omega
      have e2 : decide (c > (((Xo.map Jy.v).length : Nat) : Int)) = true := by simp [hl]; omega
      repeat' (first | refine Qi fun K' hK => ?_ | refine Ql fun K' hK => ?_ | refine Qj ?_ | refine Qk ?_ | refine Qd ?_ | ((first | refine Qn ⟨_, rfl, fun hc => ?_, fun hc => ?_⟩ | refine QV (fun hc => ?_) (fun hc => ?_) | refine QW (fun hc => ?_) (fun hc => ?_)) <;> first | exact Bool.noConfusion hc | ((try simp only [znz] at hc); first | exact znf | skip)) | refine Qq ?_ | refine Qm ?_ | simp (maxSteps := 1000000) only [go_sem, Nat.reduceAdd, Nat.reduceMul, Nat.reduceEqDiff, Nat.reduceLeDiff, Nat.reduceLT, Nat.reduceSub, Int.reduceEq, Int.reduceBEq, Int.reduceLT, Int.reduceLE, Int.reduceAdd, Int.reduceToNat, reduceIte, reduceCtorEq, e1, e2] | (refine hK _ ?_; clear hK; clear K') | refine And.intro ?_ ?_ | (apply QY; (focus first | exact EvC.b Wf)) | exact zlo | omega | exact zms)
      all_goals (simp only [KS, if_neg h, h0, yq, Jy.v, Jy.cells]; refine QF _ rfl ?_; simp only [go_sem, Nat.reduceEqDiff, Nat.reduceAdd, reduceIte, reduceCtorEq])
end Av
end
section
set_option linter.unusedSimpArgs false
set_option linter.unusedVariables false
set_option maxRecDepth 10000
set_option maxHeartbeats 4000000
namespace Av
open Go
attribute [local irreducible] AWp Yd Yy YK awS awC XQ awQ XW Qr Jj XP awR Jk awB okR Yk ris
def ads {α : Type} (p : α → Bool) : Nat → List α → Int
  | _, [] => -1
  | k, x :: r => if p x = true then k else ads p (k + 1) r
def adk (n : List UInt8) : Int := ads (fun s : Jy => s.name == n) 0 Xo + 1
end Av
end

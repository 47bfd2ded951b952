/- Pb -/
import Derived.Test.YtheehngibnbflaaGreatDoorPa
import Derived.KernelRfl
import Derived.Test.YtheehngibnbflaaGreatDoorAvM
set_option linter.unusedVariables false
set_option linter.unusedSimpArgs false
section
set_option linter.unusedSimpArgs false
set_option linter.unusedVariables false
set_option maxRecDepth 10000
set_option maxHeartbeats 4000000
namespace Av
open Go
attribute [local irreducible] AWp Yd Yy YK awS awC XQ awQ XW Qr Jj XP awR Jk awB okR Yk ris
end Av
end
section
set_option linter.unusedSimpArgs false
set_option linter.unusedVariables false
set_option maxRecDepth 10000
set_option maxHeartbeats 4000000
namespace Av
open Go
attribute [local irreducible] AWp Yd Yy YK awS awC XQ awQ XW Qr Jj XP awR Jk awB okR Yk ris
end Av
end
section
set_option linter.unusedSimpArgs false
set_option linter.unusedVariables false
set_option maxRecDepth 10000
set_option maxHeartbeats 4000000
namespace Av
open Go
attribute [local irreducible] AWp Yd Yy YK awS awC XQ awQ XW Qr Jj XP awR Jk awB okR Yk ris
end Av
end
section
set_option linter.unusedSimpArgs false
set_option linter.unusedVariables false
set_option maxRecDepth 10000
set_option maxHeartbeats 4000000
namespace Av
open Go
attribute [local irreducible] AWp Yd Yy YK awS awC XQ awQ XW Qr Jj XP awR Jk awB okR Yk ris
theorem qp (c : UInt8) : ∀ (r : List (List UInt8)) (x : List UInt8), (∀ y ∈ x :: r, c ∉ y) → Ys c ([c].intercalate (x :: r)) = x :: r
  | [], x, h => by
    have : [c].intercalate [x] = x := by simp [List.intercalate]
    rw [this, qq (h x (by simp))]
  | y :: r, x, h => by
    have ih := qp c r y fun z hz => h z (List.mem_cons_of_mem _ hz)
    have : [c].intercalate (x :: y :: r) = x ++ [c] ++ [c].intercalate (y :: r) := by rw [Kv, Kv]; simp
    rw [this, Uf, ih, qq (h x (by simp))]; rfl
end Av
end
section
set_option linter.unusedSimpArgs false
set_option linter.unusedVariables false
set_option maxRecDepth 10000
set_option maxHeartbeats 4000000
namespace Av
open Go
attribute [local irreducible] AWp Yd Yy YK awS awC XQ awQ XW Qr Jj XP awR Jk awB okR Yk ris
structure vk where
  name : List UInt8
  lo : List Int
  up : List Int
def vk.cells (n : vk) : List V := [V.str n.name, .sl 1 (n.lo.map V.int), .sl 1 (n.up.map V.int)]
def vk.v (n : vk) : V := .agg n.cells
structure abq where
  name : List UInt8
  ver : List Int
  needs : List vk
def abq.cells (p : abq) : List V := [V.str p.name, .sl 1 (p.ver.map V.int), .sl 3 (p.needs.map vk.v)]
def abq.v (p : abq) : V := .agg p.cells
end Av
end
section
set_option linter.unusedSimpArgs false
set_option linter.unusedVariables false
set_option maxRecDepth 10000
set_option maxHeartbeats 4000000
namespace Av
open Go
attribute [local irreducible] AWp Yd Yy YK awS awC XQ awQ XW Qr Jj XP awR Jk awB okR Yk ris
def wx (c : UInt8) : Bool := decide ((c.toNat : Int) ≤ 32) || decide ((c.toNat : Int) > 126)
def Ye (s : List UInt8) : Bool := !s.any wx && (decide ((s.length : Int) ≥ 1) && decide ((s.length : Int) ≤ 32))
def WE : AC := Qt [0] (.reg [mc 2 (V.bool false)]) (Qt [0] (Qt [0, 6, 7, 8] (.reg [mv 5 0, xo 6 (.convSB (.t 5)), ln 7 6, mc 8 (V.int 0)]) (.block 0 (jj [0, 6, 7, 8] (Qt [0, 6, 7, 8, 9] (.reg [bn 9 .lss 8 7]) (Qt [0, 6, 7, 8] (.cond (.t 9) (.skip) (.exit 0)) (Qt [0, 6, 7, 8] (.block 1 (Qt [0, 4, 6, 7, 8] (.reg [ia 10 1 6 8, ld 11 1 10, mv 4 11]) (Qt [0, 6, 7, 8, 17] (.reg [mv 12 4, bc 13 .leq 12 (.sc (.int .u8 32)), mv 14 13, mg 15 4 14 false, xg 16 (.bin .gtr (.t 15) (.c (.sc (.int .u8 126)))) 14 false, xo 17 (.pick (.t 14) (.c (V.bool true)) (.t 16))]) (.cond (.t 17) (Qt [2] (.reg [mc 2 (V.bool false)]) (.ret)) (.skip))))) (.reg [bc 18 .add 8 (V.int 1), mv 8 18]))))))) (Qt [2] (.reg [mv 19 0, xo 20 (.lenS (.t 19)), bc 21 .geq 20 (V.int 1), mv 22 21, mg 23 0 22 true, xg 24 (.lenS (.t 23)) 22 true, xg 25 (.bin .leq (.t 24) (.c (V.int 32))) 22 true, xo 26 (.pick (.t 22) (.t 25) (.c (V.bool false))), mv 2 26]) (.ret))) def r_catalog_Named : List YJ := [.tmp 2]
def Y0 (Γ : Env) (f : Nat) : Prop := ∀ (s : List UInt8) (hs : s.length < 2 ^ 60), EvN Γ f [V.str s] (V.bool (Ye s))
theorem qc {Γ : Env} {f : Nat} (h : Has Γ.P f 27 WE r_catalog_Named)  : Y0 Γ f := by
  intro s hs
  refine QA h (by simp) (by simp only [V.closed, Qc, V.noSl, Jh, and_self, and_true, true_and]) (by simp only [V.closed, Qc, V.noSl, Jh, and_self, and_true, true_and]) fun C hC hm => ?_
  subst hC
  unfold WE
  repeat' (first | refine Qi fun K' hK => ?_ | refine Ql fun K' hK => ?_ | refine Qj ?_ | refine Qk ?_ | refine Qd ?_ | ((first | refine Qn ⟨_, rfl, fun hc => ?_, fun hc => ?_⟩ | refine QV (fun hc => ?_) (fun hc => ?_) | refine QW (fun hc => ?_) (fun hc => ?_)) <;> first | exact Bool.noConfusion hc | ((try simp only [znz] at hc); first | exact znf | skip)) | refine Qq ?_ | refine Qm ?_ | simp (maxSteps := 1000000) only [go_sem, Nat.reduceAdd, Nat.reduceMul, Nat.reduceEqDiff, Nat.reduceLeDiff, Nat.reduceLT, Nat.reduceSub, Int.reduceEq, Int.reduceBEq, Int.reduceLT, Int.reduceLE, Int.reduceAdd, Int.reduceToNat, reduceIte, reduceCtorEq] | (refine hK _ ?_; clear hK; clear K') | refine And.intro ?_ ?_ | exact zlo | omega | exact zms)
  refine q9 (ι := Nat) (fun k => k ≤ s.length ∧ (s.drop k).any wx = s.any wx) (fun k => wJ [(0, V.str s), (6, .hd 0 0 s.length), (7, V.int s.length), (8, V.int k)] [(0, .buf true 1 (s.map fun c => V.sc (.int .u8 c.toNat)))] 1) (fun k => s.length - k) 0 ⟨by omega, by simp⟩ (Yq [(0, 2000)]) (xJ [(0, 2000)] (by simp only [go_sem, Nat.reduceAdd, Nat.reduceMul, Nat.reduceEqDiff, Nat.reduceLT, Int.reduceToNat, reduceIte, reduceCtorEq, and_true, true_and, implies_true, Option.some.injEq, exists_eq_left', Q5, Jg]; (repeat' (first | rfl | refine And.intro ?_ ?_ | omega | exact fun h => h | exact Exists.intro _ rfl))) (by simp only [go_sem, Nat.reduceAdd, Nat.reduceMul, Nat.reduceEqDiff, Nat.reduceLT, Int.reduceToNat, reduceIte, reduceCtorEq, and_true, true_and, implies_true, Option.some.injEq, exists_eq_left', Q5, Jg]; (repeat' (first | rfl | refine And.intro ?_ ?_ | omega | exact fun h => h | exact Exists.intro _ rfl))) (by simp [Yq]) (by simp; omega) (by omega)) fun k hk K' hL => ?_
  obtain ⟨hk, hinv⟩ := hk
  rcases hd : s.drop k with _ | ⟨c, r⟩
  · have hkl := wc hd
    rw [hd] at hinv
    have e1 : decide ((k : Int) < ((s.length : Nat) : Int)) = false := by simp; omega
    have hok : Ye s = (decide ((s.length : Int) ≥ 1) && decide ((s.length : Int) ≤ 32)) := by rw [Ye, ← hinv]; rfl
    rw [hok]
    rcases hq : decide ((s.length : Int) ≥ 1) with _ | _
    · repeat' (first | refine Qi fun K' hK => ?_ | refine Ql fun K' hK => ?_ | refine Qj ?_ | refine Qk ?_ | refine Qd ?_ | ((first | refine Qn ⟨_, rfl, fun hc => ?_, fun hc => ?_⟩ | refine QV (fun hc => ?_) (fun hc => ?_) | refine QW (fun hc => ?_) (fun hc => ?_)) <;> first | exact Bool.noConfusion hc | ((try simp only [znz] at hc); first | exact znf | skip)) | refine Qq ?_ | refine Qm ?_ | simp (maxSteps := 1000000) only [go_sem, Nat.reduceAdd, Nat.reduceMul, Nat.reduceEqDiff, Nat.reduceLeDiff, Nat.reduceLT, Nat.reduceSub, Int.reduceEq, Int.reduceBEq, Int.reduceLT, Int.reduceLE, Int.reduceAdd, Int.reduceToNat, reduceIte, reduceCtorEq, wJ, e1, hq] | (refine hK _ ?_; clear hK; clear K') | refine And.intro ?_ ?_ | exact zlo | omega | exact zms)
      all_goals first | (refine QF _ rfl ?_; simp only [go_sem, Nat.reduceEqDiff, Nat.reduceAdd, reduceIte, reduceCtorEq]; done) | trace_state
    · repeat' (first | refine Qi fun K' hK => ?_ | refine Ql fun K' hK => ?_ | refine Qj ?_ | refine Qk ?_ | refine Qd ?_ | ((first | refine Qn ⟨_, rfl, fun hc => ?_, fun hc => ?_⟩ | refine QV (fun hc => ?_) (fun hc => ?_) | refine QW (fun hc => ?_) (fun hc => ?_)) <;> first | exact Bool.noConfusion hc | ((try simp only [znz] at hc); first | exact znf | skip)) | refine Qq ?_ | refine Qm ?_ | simp (maxSteps := 1000000) only [go_sem, Nat.reduceAdd, Nat.reduceMul, Nat.reduceEqDiff, Nat.reduceLeDiff, Nat.reduceLT, Nat.reduceSub, Int.reduceEq, Int.reduceBEq, Int.reduceLT, Int.reduceLE, Int.reduceAdd, Int.reduceToNat, reduceIte, reduceCtorEq, wJ, e1, hq] | (refine hK _ ?_; clear hK; clear K') | refine And.intro ?_ ?_ | exact zlo | omega | exact zms)
      all_goals first | (refine QF _ rfl ?_; simp only [go_sem, Nat.reduceEqDiff, Nat.reduceAdd, reduceIte, reduceCtorEq]; done) | (refine QF _ rfl ?_; simp only [go_sem, Nat.reduceEqDiff, Nat.reduceAdd, reduceIte, reduceCtorEq]; simp; done) | trace_state
  · obtain ⟨hk', hget, hr⟩ := yT hd
    rw [hd] at hinv
    have hw := UW (k := k) (by omega)
    have e1 : decide ((k : Int) < ((s.length : Nat) : Int)) = true := by simp; omega
    rcases h1 : decide ((c.toNat : Int) ≤ 32) with _ | _
    · rcases h2 : decide ((c.toNat : Int) > 126) with _ | _
      · repeat' (first | refine Qi fun K' hK => ?_ | refine Ql fun K' hK => ?_ | refine Qj ?_ | refine Qk ?_ | refine Qd ?_ | ((first | refine Qn ⟨_, rfl, fun hc => ?_, fun hc => ?_⟩ | refine QV (fun hc => ?_) (fun hc => ?_) | refine QW (fun hc => ?_) (fun hc => ?_)) <;> first | exact Bool.noConfusion hc | ((try simp only [znz] at hc); first | exact znf | skip)) | refine Qq ?_ | refine Qm ?_ | simp (maxSteps := 1000000) only [go_sem, Nat.reduceAdd, Nat.reduceMul, Nat.reduceEqDiff, Nat.reduceLeDiff, Nat.reduceLT, Nat.reduceSub, Int.reduceEq, Int.reduceBEq, Int.reduceLT, Int.reduceLE, Int.reduceAdd, Int.reduceToNat, reduceIte, reduceCtorEq, wJ, e1, hw, Int.toNat_natCast, List.getElem?_map, hget, h1, h2] | (refine hK _ ?_; clear hK; clear K') | refine And.intro ?_ ?_ | exact zlo | omega | exact zms)
        all_goals first
          | exact hL _ (k + 1) (Yq [(0, 0)]) ⟨by omega, by rw [hr, ← hinv]; simp only [List.any_cons, wx, h1, h2, Bool.or_self, Bool.false_or]⟩ (by omega) (xJ [(0, 0)] (by simp only [go_sem, Nat.reduceAdd, Nat.reduceMul, Nat.reduceEqDiff, Nat.reduceLT, Int.reduceToNat, reduceIte, reduceCtorEq, and_true, true_and, implies_true, Option.some.injEq, exists_eq_left', Q5, Jg]; (repeat' (first | rfl | refine And.intro ?_ ?_ | omega | exact fun h => h | exact Exists.intro _ rfl))) (by simp only [go_sem, Nat.reduceAdd, Nat.reduceMul, Nat.reduceEqDiff, Nat.reduceLT, Int.reduceToNat, reduceIte, reduceCtorEq, and_true, true_and, implies_true, Option.some.injEq, exists_eq_left', Q5, Jg]; (repeat' (first | rfl | refine And.intro ?_ ?_ | omega | exact fun h => h | exact Exists.intro _ rfl))) (by simp [Yq]) (by simp; omega) (by omega))
          | trace_state
      · have hok : Ye s = false := by rw [Ye, ← hinv]; simp only [List.any_cons, wx, h2, Bool.or_true, Bool.true_or, Bool.not_true, Bool.false_and]
        rw [hok]
        repeat' (first | refine Qi fun K' hK => ?_ | refine Ql fun K' hK => ?_ | refine Qj ?_ | refine Qk ?_ | refine Qd ?_ | ((first | refine Qn ⟨_, rfl, fun hc => ?_, fun hc => ?_⟩ | refine QV (fun hc => ?_) (fun hc => ?_) | refine QW (fun hc => ?_) (fun hc => ?_)) <;> first | exact Bool.noConfusion hc | ((try simp only [znz] at hc); first | exact znf | skip)) | refine Qq ?_ | refine Qm ?_ | simp (maxSteps := 1000000) only [go_sem, Nat.reduceAdd, Nat.reduceMul, Nat.reduceEqDiff, Nat.reduceLeDiff, Nat.reduceLT, Nat.reduceSub, Int.reduceEq, Int.reduceBEq, Int.reduceLT, Int.reduceLE, Int.reduceAdd, Int.reduceToNat, reduceIte, reduceCtorEq, wJ, e1, hw, Int.toNat_natCast, List.getElem?_map, hget, h1, h2] | (refine hK _ ?_; clear hK; clear K') | refine And.intro ?_ ?_ | exact zlo | omega | exact zms)
        all_goals first | (refine QF _ rfl ?_; simp only [go_sem, Nat.reduceEqDiff, Nat.reduceAdd, reduceIte, reduceCtorEq]; done) | trace_state
    · have hok : Ye s = false := by rw [Ye, ← hinv]; simp only [List.any_cons, wx, h1, Bool.or_true, Bool.true_or, Bool.not_true, Bool.false_and]
      rw [hok]
      repeat' (first | refine Qi fun K' hK => ?_ | refine Ql fun K' hK => ?_ | refine Qj ?_ | refine Qk ?_ | refine Qd ?_ | ((first | refine Qn ⟨_, rfl, fun hc => ?_, fun hc => ?_⟩ | refine QV (fun hc => ?_) (fun hc => ?_) | refine QW (fun hc => ?_) (fun hc => ?_)) <;> first | exact Bool.noConfusion hc | ((try simp only [znz] at hc); first | exact znf | skip)) | refine Qq ?_ | refine Qm ?_ | simp (maxSteps := 1000000) only [go_sem, Nat.reduceAdd, Nat.reduceMul, Nat.reduceEqDiff, Nat.reduceLeDiff, Nat.reduceLT, Nat.reduceSub, Int.reduceEq, Int.reduceBEq, Int.reduceLT, Int.reduceLE, Int.reduceAdd, Int.reduceToNat, reduceIte, reduceCtorEq, wJ, e1, hw, Int.toNat_natCast, List.getElem?_map, hget, h1] | (refine hK _ ?_; clear hK; clear K') | refine And.intro ?_ ?_ | exact zlo | omega | exact zms)
      all_goals first | (refine QF _ rfl ?_; simp only [go_sem, Nat.reduceEqDiff, Nat.reduceAdd, reduceIte, reduceCtorEq]; done) | trace_state
end Av
end

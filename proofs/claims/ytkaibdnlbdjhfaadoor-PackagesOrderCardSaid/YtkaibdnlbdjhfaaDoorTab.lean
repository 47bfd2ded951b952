/- Tab -/
import Derived.Test.YtkaibdnlbdjhfaaDoorPars
set_option linter.unusedVariables false
set_option linter.unusedSimpArgs false
section
set_option linter.unusedSimpArgs false
set_option linter.unusedVariables false
set_option maxRecDepth 10000
set_option maxHeartbeats 4000000
namespace Av
open Go
attribute [local irreducible] AWp runO runP runG awS awC awCv awQ awRd awCallR awCvR awQR awR awRdR awB okR plan ris
end Av
end
section
set_option linter.unusedSimpArgs false
set_option linter.unusedVariables false
set_option maxRecDepth 10000
set_option maxHeartbeats 4000000
namespace Av
open Go
attribute [local irreducible] AWp runO runP runG awS awC awCv awQ awRd awCallR awCvR awQR awR awRdR awB okR plan ris
def idxF {α : Type} (p : α → Bool) : Nat → List α → Int
  | _, [] => -1
  | k, x :: r => if p x = true then k else idxF p (k + 1) r
def codeN (n : List UInt8) : Int := idxF (fun s : CSuite => s.name == n) 0 suitesL + 1
def o_ref02_SameInts_0 : List AO := [mv 17 0, mv 18 5, ia 19 1 17 18, ld 20 1 19, mv 21 1, mv 22 5, ia 23 1 21 22, ld 24 1 23, bn 25 .neq 20 24]
def a_ref02_SameInts_0 : List (List Nat) := [[], [], [0, 1], [2], [], [], [4, 5], [6], [3, 7]]
def t_ref02_SameInts_0 : OT := .one 0 (.one 1 (.one 2 (.one 3 (.one 4 (.one 5 (.one 6 (.one 7 (.one 8 (.done)))))))))
def p_ref02_SameInts_0 : OP := .one 0 false [] (mv 17 0) (.one 1 false [] (mv 18 5) (.one 2 false [] (ia 19 1 17 18) (.one 3 false [] (ld 20 1 19) (.one 4 false [] (mv 21 1) (.one 5 false [] (mv 22 5) (.one 6 false [] (ia 23 1 21 22) (.one 7 false [] (ld 24 1 23) (.one 8 false [] (bn 25 .neq 20 24) (.done)))))))))
theorem k_ref02_SameInts_0 : okR (o_ref02_SameInts_0) a_ref02_SameInts_0 [] t_ref02_SameInts_0 = true := by kernel_rfl
theorem q_ref02_SameInts_0 : plan (ris (o_ref02_SameInts_0) a_ref02_SameInts_0 []) t_ref02_SameInts_0 = p_ref02_SameInts_0 := by kernel_rfl def c_ref02_SameInts : AC := seqK [0, 1] (.reg [mc 4 (V.bool false)]) (seqK [0, 1] (seqK [0, 1, 10] (.reg [mv 6 0, ln 7 6, mv 8 1, ln 9 8, bn 10 .neq 7 9]) (.cond (.t 10) (seqK [4] (.reg [mc 4 (V.bool false)]) (.ret)) (.skip))) (seqK [] (seqK [0, 1, 5] (.reg [mc 5 (V.int 0)]) (.block 0 (loopK [0, 1, 5] (seqK [0, 1, 5] (seqK [0, 1, 5, 14] (.reg [mv 11 5, mv 12 0, ln 13 12, bn 14 .lss 11 13]) (.cond (.t 14) (.skip) (.exit 0))) (seqK [0, 1, 5] (.block 1 (seqK [0, 1, 5, 25] (regK [] t_ref02_SameInts_0 (p_ref02_SameInts_0) (o_ref02_SameInts_0) a_ref02_SameInts_0) (.cond (.t 25) (seqK [4] (.reg [mc 4 (V.bool false)]) (.ret)) (.skip)))) (.reg [mv 15 5, bc 16 .add 15 (V.int 1), mv 5 16])))))) (seqK [4] (.reg [mc 4 (V.bool true)]) (.ret)))) def r_ref02_SameInts : List ARes := [.tmp 4]
def CE_ref02_SameInts (Γ : Env) (f : Nat) : Prop := ∀ (a b : List Int) (hl : a.length < 2 ^ 62), EvN Γ f [.sl 1 (a.map V.int), .sl 1 (b.map V.int)] (V.bool (a == b))
theorem ev_ref02_SameInts {Γ : Env} {f : Nat} (h : Has Γ.P f 26 c_ref02_SameInts r_ref02_SameInts)  : CE_ref02_SameInts Γ f := by
  intro a b hl
  refine evN_of_body h (by simp) (by simp only [V.closed, closedL, V.noSl, noSlL, and_self, and_true, true_and]) (by simp only [V.closed, closedL, V.noSl, noSlL, and_self, and_true, true_and]) fun C hC hm => ?_
  subst hC
  unfold c_ref02_SameInts
  by_cases hlen : a.length = b.length
  · have e0 : ((((a.map V.int).length : Nat) : Int) != (((b.map V.int).length : Nat) : Int)) = false := by simp [hlen]
    repeat' (first | refine awp_seqR fun K' hK => ?_ | refine awp_regR fun K' hK => ?_ | refine awp_seqP 9 (fun _ => true) rfl (k_ref02_SameInts_0) (q_ref02_SameInts_0) fun K' hK => ?_ | refine awp_regP 9 (fun _ => true) rfl (k_ref02_SameInts_0) (q_ref02_SameInts_0) fun K' hK => ?_ | refine awp_seqK ?_ | refine awp_skip ?_ | refine awp_block ?_ | ((first | refine awp_cond ⟨_, rfl, fun hc => ?_, fun hc => ?_⟩ | refine awB_t (fun hc => ?_) (fun hc => ?_) | refine awB_f (fun hc => ?_) (fun hc => ?_)) <;> first | exact Bool.noConfusion hc | ((try simp only [decide_eq_true_eq, decide_eq_false_iff_not, beq_iff_eq, beq_eq_false_iff_ne, ne_eq, Bool.not_eq_true', Bool.not_eq_false'] at hc); first | (exfalso; simp only [List.length_map] at hc; omega) | (exfalso; omega) | skip)) | refine awp_ret ?_ | refine awp_exit ?_ | simp (maxSteps := 1000000) only [go_sem, Nat.reduceAdd, Nat.reduceMul, Nat.reduceEqDiff, Nat.reduceLeDiff, Nat.reduceLT, Nat.reduceSub, Int.reduceEq, Int.reduceBEq, Int.reduceLT, Int.reduceLE, Int.reduceAdd, Int.reduceToNat, reduceIte, reduceCtorEq, e0, p_ref02_SameInts_0] | (refine hK _ ?_; clear hK; clear K') | refine And.intro ?_ ?_ | (simp only [List.length_append, List.length_cons, List.length_nil, List.length_map, Nat.reducePow, Nat.reduceAdd]; omega) | omega | exact List.mem_singleton_self _)
    refine awp_loopP (ι := Nat) (fun k => k ≤ a.length ∧ (a.drop k == b.drop k) = (a == b)) (fun k => [(5, V.int k)]) (fun k => a.length - k) 0 (by omega) ⟨by simp, by simp⟩ (by repeat' first | exact ltO_none | refine ltO_upd (by omega) (by simp only [Ob.lt, ltL, V.lt, and_self, and_true]; try omega) ?_) (fun i hi => by simp only [ovT, lookD, Nat.reduceEqDiff, reduceIte]; (repeat' first | exact ltT_nil | refine ltT_cons ?_ ?_ | simp only [V.lt, ltL, and_self, and_true] | omega)) (by simp only [Nat.reduceAdd, ovT, lookD, Nat.reduceEqDiff, reduceIte, eqT_cons, eqT_nil, renI, u32, u33, u34, u35, u36, u37, u38, u39, and_self, and_true, true_and] <;> rfl) fun k hk K' hL => ?_
    obtain ⟨hk, hinv⟩ := hk
    simp only [ovT, lookD, Nat.reduceEqDiff, reduceIte]
    rcases hd : a.drop k with _ | ⟨y, r⟩
    · have := drop_nil hd
      have hd2 : b.drop k = [] := List.drop_eq_nil_of_le (by omega)
      rw [hd, hd2] at hinv
      repeat' (first | refine awp_seqR fun K' hK => ?_ | refine awp_regR fun K' hK => ?_ | refine awp_seqP 9 (fun _ => true) rfl (k_ref02_SameInts_0) (q_ref02_SameInts_0) fun K' hK => ?_ | refine awp_regP 9 (fun _ => true) rfl (k_ref02_SameInts_0) (q_ref02_SameInts_0) fun K' hK => ?_ | refine awp_seqK ?_ | refine awp_skip ?_ | refine awp_block ?_ | ((first | refine awp_cond ⟨_, rfl, fun hc => ?_, fun hc => ?_⟩ | refine awB_t (fun hc => ?_) (fun hc => ?_) | refine awB_f (fun hc => ?_) (fun hc => ?_)) <;> first | exact Bool.noConfusion hc | ((try simp only [decide_eq_true_eq, decide_eq_false_iff_not, beq_iff_eq, beq_eq_false_iff_ne, ne_eq, Bool.not_eq_true', Bool.not_eq_false'] at hc); first | (exfalso; simp only [List.length_map] at hc; omega) | (exfalso; omega) | skip)) | refine awp_ret ?_ | refine awp_exit ?_ | simp (maxSteps := 1000000) only [go_sem, Nat.reduceAdd, Nat.reduceMul, Nat.reduceEqDiff, Nat.reduceLeDiff, Nat.reduceLT, Nat.reduceSub, Int.reduceEq, Int.reduceBEq, Int.reduceLT, Int.reduceLE, Int.reduceAdd, Int.reduceToNat, reduceIte, reduceCtorEq, p_ref02_SameInts_0] | (refine hK _ ?_; clear hK; clear K') | refine And.intro ?_ ?_ | (simp only [List.length_append, List.length_cons, List.length_nil, List.length_map, Nat.reducePow, Nat.reduceAdd]; omega) | omega | exact List.mem_singleton_self _)
      all_goals (refine ends_r _ rfl ?_; simp only [go_sem, Nat.reduceEqDiff, Nat.reduceAdd, reduceIte, reduceCtorEq]; rw [← hinv]; rfl)
    · obtain ⟨hk', hget, hr⟩ := drop_cons hd
      rcases hd2 : b.drop k with _ | ⟨z, r2⟩
      · have := drop_nil hd2; omega
      · obtain ⟨hk2, hget2, hr2⟩ := drop_cons hd2
        rw [hd, hd2] at hinv
        have hw := wrap_succ (k := k) (by omega)
        by_cases hyz : y = z
        · have e2 : (y != z) = false := by simp [hyz]
          repeat' (first | refine awp_seqR fun K' hK => ?_ | refine awp_regR fun K' hK => ?_ | refine awp_seqP 9 (fun _ => true) rfl (k_ref02_SameInts_0) (q_ref02_SameInts_0) fun K' hK => ?_ | refine awp_regP 9 (fun _ => true) rfl (k_ref02_SameInts_0) (q_ref02_SameInts_0) fun K' hK => ?_ | refine awp_seqK ?_ | refine awp_skip ?_ | refine awp_block ?_ | ((first | refine awp_cond ⟨_, rfl, fun hc => ?_, fun hc => ?_⟩ | refine awB_t (fun hc => ?_) (fun hc => ?_) | refine awB_f (fun hc => ?_) (fun hc => ?_)) <;> first | exact Bool.noConfusion hc | ((try simp only [decide_eq_true_eq, decide_eq_false_iff_not, beq_iff_eq, beq_eq_false_iff_ne, ne_eq, Bool.not_eq_true', Bool.not_eq_false'] at hc); first | (exfalso; simp only [List.length_map] at hc; omega) | (exfalso; omega) | skip)) | refine awp_ret ?_ | refine awp_exit ?_ | simp (maxSteps := 1000000) only [go_sem, Nat.reduceAdd, Nat.reduceMul, Nat.reduceEqDiff, Nat.reduceLeDiff, Nat.reduceLT, Nat.reduceSub, Int.reduceEq, Int.reduceBEq, Int.reduceLT, Int.reduceLE, Int.reduceAdd, Int.reduceToNat, reduceIte, reduceCtorEq, Int.toNat_natCast, List.getElem?_map, hget, hget2, hw, e2, p_ref02_SameInts_0] | (refine hK _ ?_; clear hK; clear K') | refine And.intro ?_ ?_ | (simp only [List.length_append, List.length_cons, List.length_nil, List.length_map, Nat.reducePow, Nat.reduceAdd]; omega) | omega | exact List.mem_singleton_self _)
          refine hL _ (k + 1) (by simp only [Nat.reduceAdd, ovT, lookD, Nat.reduceEqDiff, reduceIte, eqT_cons, eqT_nil, renI, u32, u33, u34, u35, u36, u37, u38, u39, and_self, and_true, true_and]) ⟨by omega, ?_⟩ (by omega) (fun a ha => by simp only [u32, u33, u34, u35, u36, u37, u38, u39]; repeat rw [if_neg (by omega)])
          rw [hr, hr2, ← hinv]; simp [hyz]
        · have e2 : (y != z) = true := by simp [hyz]
          repeat' (first | refine awp_seqR fun K' hK => ?_ | refine awp_regR fun K' hK => ?_ | refine awp_seqP 9 (fun _ => true) rfl (k_ref02_SameInts_0) (q_ref02_SameInts_0) fun K' hK => ?_ | refine awp_regP 9 (fun _ => true) rfl (k_ref02_SameInts_0) (q_ref02_SameInts_0) fun K' hK => ?_ | refine awp_seqK ?_ | refine awp_skip ?_ | refine awp_block ?_ | ((first | refine awp_cond ⟨_, rfl, fun hc => ?_, fun hc => ?_⟩ | refine awB_t (fun hc => ?_) (fun hc => ?_) | refine awB_f (fun hc => ?_) (fun hc => ?_)) <;> first | exact Bool.noConfusion hc | ((try simp only [decide_eq_true_eq, decide_eq_false_iff_not, beq_iff_eq, beq_eq_false_iff_ne, ne_eq, Bool.not_eq_true', Bool.not_eq_false'] at hc); first | (exfalso; simp only [List.length_map] at hc; omega) | (exfalso; omega) | skip)) | refine awp_ret ?_ | refine awp_exit ?_ | simp (maxSteps := 1000000) only [go_sem, Nat.reduceAdd, Nat.reduceMul, Nat.reduceEqDiff, Nat.reduceLeDiff, Nat.reduceLT, Nat.reduceSub, Int.reduceEq, Int.reduceBEq, Int.reduceLT, Int.reduceLE, Int.reduceAdd, Int.reduceToNat, reduceIte, reduceCtorEq, Int.toNat_natCast, List.getElem?_map, hget, hget2, hw, e2, p_ref02_SameInts_0] | (refine hK _ ?_; clear hK; clear K') | refine And.intro ?_ ?_ | (simp only [List.length_append, List.length_cons, List.length_nil, List.length_map, Nat.reducePow, Nat.reduceAdd]; omega) | omega | exact List.mem_singleton_self _)
          all_goals (refine ends_r _ rfl ?_; simp only [go_sem, Nat.reduceEqDiff, Nat.reduceAdd, reduceIte, reduceCtorEq]; rw [← hinv]; simp [hyz])
  · have e0 : ((((a.map V.int).length : Nat) : Int) != (((b.map V.int).length : Nat) : Int)) = true := by simp; omega
    have e1 : (a == b) = false := by
      simp only [beq_eq_false_iff_ne, ne_eq]
      intro h; exact hlen (by rw [h])
    repeat' (first | refine awp_seqR fun K' hK => ?_ | refine awp_regR fun K' hK => ?_ | refine awp_seqP 9 (fun _ => true) rfl (k_ref02_SameInts_0) (q_ref02_SameInts_0) fun K' hK => ?_ | refine awp_regP 9 (fun _ => true) rfl (k_ref02_SameInts_0) (q_ref02_SameInts_0) fun K' hK => ?_ | refine awp_seqK ?_ | refine awp_skip ?_ | refine awp_block ?_ | ((first | refine awp_cond ⟨_, rfl, fun hc => ?_, fun hc => ?_⟩ | refine awB_t (fun hc => ?_) (fun hc => ?_) | refine awB_f (fun hc => ?_) (fun hc => ?_)) <;> first | exact Bool.noConfusion hc | ((try simp only [decide_eq_true_eq, decide_eq_false_iff_not, beq_iff_eq, beq_eq_false_iff_ne, ne_eq, Bool.not_eq_true', Bool.not_eq_false'] at hc); first | (exfalso; simp only [List.length_map] at hc; omega) | (exfalso; omega) | skip)) | refine awp_ret ?_ | refine awp_exit ?_ | simp (maxSteps := 1000000) only [go_sem, Nat.reduceAdd, Nat.reduceMul, Nat.reduceEqDiff, Nat.reduceLeDiff, Nat.reduceLT, Nat.reduceSub, Int.reduceEq, Int.reduceBEq, Int.reduceLT, Int.reduceLE, Int.reduceAdd, Int.reduceToNat, reduceIte, reduceCtorEq, e0, p_ref02_SameInts_0] | (refine hK _ ?_; clear hK; clear K') | refine And.intro ?_ ?_ | (simp only [List.length_append, List.length_cons, List.length_nil, List.length_map, Nat.reducePow, Nat.reduceAdd]; omega) | omega | exact List.mem_singleton_self _)
    all_goals (refine ends_r _ rfl ?_; simp only [go_sem, Nat.reduceEqDiff, Nat.reduceAdd, reduceIte, reduceCtorEq]; rw [e1])
end Av
end

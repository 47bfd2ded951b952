/- Dice -/
import Derived.Test.YtdjmgokhpganaaaDoorCat
import Derived.Test.YtdjmgokhpganaaaDoorAvM
set_option linter.unusedVariables false
set_option linter.unusedSimpArgs false
section
set_option linter.unusedSimpArgs false
set_option linter.unusedVariables false
set_option maxRecDepth 10000
set_option maxHeartbeats 4000000
namespace Av
open Go
attribute [local irreducible] AWp runO runP runG awS awC awCv awQ awRd awCallR awCvR awQR awR awRdR awB okR plan ris
def dcell (l : List Int) (k : Nat) : List V := [.sl 1 (l.map V.int), V.int k]
theorem dcell_closed (l : List Int) (k : Nat) : closedL (dcell l k) := by simp only [dcell, V.closed, closedL, and_self]
def nextD (l : List Int) (k : Nat) (n : Int) : Int × Nat := if k < l.length then (modV (l.getD k 0) n, k + 1) else (0, k)
theorem nextD_le {l : List Int} {k : Nat} {n : Int} (hk : k ≤ l.length) : (nextD l k n).2 ≤ l.length := by
  unfold nextD; split
  · show k + 1 ≤ l.length; omega
  · exact hk
theorem modV_range {a n : Int} (h1 : 1 ≤ n) (h2 : n < 2 ^ 62) : 0 ≤ modV a n ∧ modV a n < n := by
  unfold modV
  rw [if_neg (by omega)]
  have ha := Int.tmod_lt_of_pos a (show 0 < n by omega)
  have hb : -n < a.tmod n := by
    have := Int.tmod_lt_of_pos (-a) (show 0 < n by omega)
    rw [Int.neg_tmod] at this; omega
  rw [wrap_id (by omega) (by omega)]
  exact ⟨Int.tmod_nonneg _ (by omega), Int.tmod_lt_of_pos _ (by omega)⟩
theorem nextD_range {l : List Int} {k : Nat} {n : Int} (h1 : 1 ≤ n) (h2 : n < 2 ^ 62) : 0 ≤ (nextD l k n).1 ∧ (nextD l k n).1 < n := by
  unfold nextD; split
  · exact modV_range h1 h2
  · show (0 : Int) ≤ 0 ∧ (0 : Int) < n; omega
def c_make_Light : AC := seqK [0] (.reg [mc 2 (V.bool false)]) (seqK [2] (.reg [mv 3 0, ln 4 3, bc 5 .leq 4 (V.int 400), mv 2 5]) (.ret)) def r_make_Light : List ARes := [.tmp 2]
def CE_make_Light (Γ : Env) (f : Nat) : Prop := ∀ (l : List Int), EvN Γ f [.sl 1 (l.map V.int)] (V.bool (decide ((l.length : Int) ≤ 400)))
theorem ev_make_Light {Γ : Env} {f : Nat} (h : Has Γ.P f 6 c_make_Light r_make_Light)  : CE_make_Light Γ f := by
  intro l
  refine evN_of_body h (by simp) (by simp only [V.closed, closedL, V.noSl, noSlL, and_self, and_true, true_and]) (by simp only [V.closed, closedL, V.noSl, noSlL, and_self, and_true, true_and]) fun C hC hm => ?_
  subst hC
  unfold c_make_Light
  repeat' (first | refine awp_seqR fun K' hK => ?_ | refine awp_regR fun K' hK => ?_ | refine awp_seqK ?_ | refine awp_skip ?_ | refine awp_block ?_ | ((first | refine awp_cond ⟨_, rfl, fun hc => ?_, fun hc => ?_⟩ | refine awB_t (fun hc => ?_) (fun hc => ?_) | refine awB_f (fun hc => ?_) (fun hc => ?_)) <;> first | exact Bool.noConfusion hc | ((try simp only [decide_eq_true_eq, decide_eq_false_iff_not, beq_iff_eq, beq_eq_false_iff_ne, ne_eq, Bool.not_eq_true', Bool.not_eq_false'] at hc); first | (exfalso; simp only [List.length_map] at hc; omega) | (exfalso; omega) | skip)) | refine awp_ret ?_ | refine awp_exit ?_ | simp (maxSteps := 1000000) only [go_sem, Nat.reduceAdd, Nat.reduceMul, Nat.reduceEqDiff, Nat.reduceLeDiff, Nat.reduceLT, Nat.reduceSub, Int.reduceEq, Int.reduceBEq, Int.reduceLT, Int.reduceLE, Int.reduceAdd, Int.reduceToNat, reduceIte, reduceCtorEq, List.length_map] | (refine hK _ ?_; clear hK; clear K') | refine And.intro ?_ ?_ | (simp only [List.length_append, List.length_cons, List.length_nil, List.length_map, Nat.reducePow, Nat.reduceAdd]; omega) | omega | exact List.mem_singleton_self _)
  refine ends_r _ rfl ?_; simp only [go_sem, Nat.reduceEqDiff, Nat.reduceAdd, reduceIte, reduceCtorEq]
def c_make_Roll : AC := seqK [0] (.reg [mc 2 (.sc (.pointer none))]) (seqK [2] (.reg [mv 3 0, xo 4 (.build [(.slice none 0 0), (.int .i64 0)] [(0, 1, (.t 3))]), xo 5 (.box true 2 (.t 4)), mv 2 5]) (.ret)) def r_make_Roll : List ARes := [.tmp 2]
def CE_make_Roll (Γ : Env) (f : Nat) : Prop := ∀ (l : List Int), EvR Γ f [.sl 1 (l.map V.int)] (dcell l 0)
theorem ev_make_Roll {Γ : Env} {f : Nat} (h : Has Γ.P f 6 c_make_Roll r_make_Roll)  : CE_make_Roll Γ f := by
  intro l
  refine evR_of_body h (by simp) (by simp only [dcell, V.closed, closedL, and_self]) fun C hC hm => ?_
  subst hC
  unfold c_make_Roll
  repeat' (first | refine awp_seqR fun K' hK => ?_ | refine awp_regR fun K' hK => ?_ | refine awp_seqK ?_ | refine awp_skip ?_ | refine awp_block ?_ | ((first | refine awp_cond ⟨_, rfl, fun hc => ?_, fun hc => ?_⟩ | refine awB_t (fun hc => ?_) (fun hc => ?_) | refine awB_f (fun hc => ?_) (fun hc => ?_)) <;> first | exact Bool.noConfusion hc | ((try simp only [decide_eq_true_eq, decide_eq_false_iff_not, beq_iff_eq, beq_eq_false_iff_ne, ne_eq, Bool.not_eq_true', Bool.not_eq_false'] at hc); first | (exfalso; simp only [List.length_map] at hc; omega) | (exfalso; omega) | skip)) | refine awp_ret ?_ | refine awp_exit ?_ | simp (maxSteps := 1000000) only [go_sem, Nat.reduceAdd, Nat.reduceMul, Nat.reduceEqDiff, Nat.reduceLeDiff, Nat.reduceLT, Nat.reduceSub, Int.reduceEq, Int.reduceBEq, Int.reduceLT, Int.reduceLE, Int.reduceAdd, Int.reduceToNat, reduceIte, reduceCtorEq] | (refine hK _ ?_; clear hK; clear K') | refine And.intro ?_ ?_ | (simp only [List.length_append, List.length_cons, List.length_nil, List.length_map, Nat.reducePow, Nat.reduceAdd]; omega) | omega | exact List.mem_singleton_self _)
  refine ends_n _ rfl rfl (by simp only [dcell, V.closed, closedL, and_self])

-- REGION make_Dice__Next 0: 10 operations, 1 orders, L [], X false, ok true
def o_make_Dice__Next_0 : List AO := [mv 5 0, nk 6 5, fa 7 1 6, ld 8 1 7, mv 9 0, nk 10 9, fa 11 0 10, ld 12 1 11, ln 13 12, bn 14 .geq 8 13]
def a_make_Dice__Next_0 : List (List Nat) := [[], [0], [1], [2], [], [4], [5], [6], [7], [3, 8]]
def t_make_Dice__Next_0 : OT := .one 0 (.one 1 (.one 2 (.one 3 (.one 4 (.one 5 (.one 6 (.one 7 (.one 8 (.one 9 (.done))))))))))
def p_make_Dice__Next_0 : OP := .one 0 false [] (mv 5 0) (.one 1 false [] (nk 6 5) (.one 2 false [] (fa 7 1 6) (.one 3 false [] (ld 8 1 7) (.one 4 false [] (mv 9 0) (.one 5 false [] (nk 10 9) (.one 6 false [] (fa 11 0 10) (.one 7 false [] (ld 12 1 11) (.one 8 false [] (ln 13 12) (.one 9 false [] (bn 14 .geq 8 13) (.done))))))))))
theorem k_make_Dice__Next_0 : okR (o_make_Dice__Next_0) a_make_Dice__Next_0 [] t_make_Dice__Next_0 = true := by kernel_rfl
theorem q_make_Dice__Next_0 : plan (ris (o_make_Dice__Next_0) a_make_Dice__Next_0 []) t_make_Dice__Next_0 = p_make_Dice__Next_0 := by kernel_rfl -- REGION make_Dice__Next 1: 14 operations, 1 orders, L [], X false, ok true
def o_make_Dice__Next_1 (f_make_Mod : Nat) : List AO := [mv 22 0, nk 23 22, fa 24 0 23, ld 25 1 24, mv 26 0, nk 27 26, fa 28 1 27, ld 29 1 28, bc 30 .sub 29 (V.int 1), ia 31 1 25 30, ld 32 1 31, mv 33 1, cl 34 f_make_Mod [32, 33], mv 4 34]
def a_make_Dice__Next_1 : List (List Nat) := [[], [0], [1], [2], [], [4], [5], [6], [7], [3, 8], [9], [], [10, 11], [12, 12, 0, 1, 2, 3, 4, 5, 6, 7, 8, 9, 10, 11, 12]]
def t_make_Dice__Next_1 : OT := .one 0 (.one 1 (.one 2 (.one 3 (.one 4 (.one 5 (.one 6 (.one 7 (.one 8 (.one 9 (.one 10 (.one 11 (.one 12 (.one 13 (.done))))))))))))))
def p_make_Dice__Next_1 (f_make_Mod : Nat) : OP := .one 0 false [] (mv 22 0) (.one 1 false [] (nk 23 22) (.one 2 false [] (fa 24 0 23) (.one 3 false [] (ld 25 1 24) (.one 4 false [] (mv 26 0) (.one 5 false [] (nk 27 26) (.one 6 false [] (fa 28 1 27) (.one 7 false [] (ld 29 1 28) (.one 8 false [] (bc 30 .sub 29 (V.int 1)) (.one 9 false [] (ia 31 1 25 30) (.one 10 false [] (ld 32 1 31) (.one 11 false [] (mv 33 1) (.one 12 false [] (cl 34 f_make_Mod [32, 33]) (.one 13 false [12] (mv 4 34) (.done))))))))))))))
theorem k_make_Dice__Next_1 (f_make_Mod : Nat) : okR (o_make_Dice__Next_1 f_make_Mod) a_make_Dice__Next_1 [] t_make_Dice__Next_1 = true := by kernel_rfl
theorem q_make_Dice__Next_1 (f_make_Mod : Nat) : plan (ris (o_make_Dice__Next_1 f_make_Mod) a_make_Dice__Next_1 []) t_make_Dice__Next_1 = p_make_Dice__Next_1 f_make_Mod := by kernel_rfl def c_make_Dice__Next (f_make_Mod : Nat) : AC := seqK [0, 1] (.reg [mc 4 (V.int 0)]) (seqK [0, 1] (seqK [0, 1, 14] (regK [] t_make_Dice__Next_0 (p_make_Dice__Next_0) (o_make_Dice__Next_0) a_make_Dice__Next_0) (.cond (.t 14) (seqK [4] (.reg [mc 4 (V.int 0)]) (.ret)) (.skip))) (seqK [0, 1] (.reg [mv 15 0, nk 16 15, fa 17 1 16, ld 18 1 17, bc 19 .add 18 (V.int 1), nk 20 15, fa 21 1 20, xs 1 21 19]) (seqK [4] (regK [] t_make_Dice__Next_1 (p_make_Dice__Next_1 f_make_Mod) (o_make_Dice__Next_1 f_make_Mod) a_make_Dice__Next_1) (.ret)))) def r_make_Dice__Next : List ARes := [.tmp 4]
def CE_make_Dice__Next (Γ : Env) (f : Nat) : Prop := ∀ (l : List Int) (k : Nat) (n : Int) (hl : l.length ≤ 400) (hk : k ≤ l.length), EvD Γ f [V.int n] (dcell l k) (V.int (nextD l k n).1) (dcell l (nextD l k n).2)
theorem ev_make_Dice__Next {Γ : Env} {f f_make_Mod : Nat} (h : Has Γ.P f 35 (c_make_Dice__Next f_make_Mod) r_make_Dice__Next) (h_make_Mod : CE_make_Mod Γ f_make_Mod) : CE_make_Dice__Next Γ f := by
  intro l k n hl hk
  refine evD_of_body h (by simp) (by simp only [V.closed, closedL, V.noSl, noSlL, and_self, and_true, true_and]) (by first | exact dcell_closed _ _ | simp only [V.closed, closedL, and_self, and_true, true_and]) (by first | exact dcell_closed _ _ | simp only [V.closed, closedL, and_self, and_true, true_and]) fun C hC hm => ?_
  subst hC
  unfold c_make_Dice__Next
  by_cases h1 : k < l.length
  · have e1 : decide ((k : Int) ≥ (((l.map V.int).length : Nat) : Int)) = false := by simp; omega
    have hget : l[k]? = some (l.getD k 0) := by simp [List.getD_eq_getElem?_getD, List.getElem?_eq_getElem h1]
    have hw := wrap_succ (k := k) (by omega)
    have hw2 : IntKind.i64.wrap (((k + 1 : Nat) : Int) - 1) = (k : Int) := by rw [wrap_id (by omega) (by omega)]; omega
    have hn : nextD l k n = (modV (l.getD k 0) n, k + 1) := by rw [nextD, if_pos h1]
    rw [hn]
    repeat' (first | refine awp_seqR fun K' hK => ?_ | refine awp_regR fun K' hK => ?_ | refine awp_seqP 10 (fun _ => true) rfl (k_make_Dice__Next_0) (q_make_Dice__Next_0) fun K' hK => ?_ | refine awp_regP 10 (fun _ => true) rfl (k_make_Dice__Next_0) (q_make_Dice__Next_0) fun K' hK => ?_ | refine awp_seqP 14 (fun _ => true) rfl (k_make_Dice__Next_1 _) (q_make_Dice__Next_1 _) fun K' hK => ?_ | refine awp_regP 14 (fun _ => true) rfl (k_make_Dice__Next_1 _) (q_make_Dice__Next_1 _) fun K' hK => ?_ | refine awp_seqK ?_ | refine awp_skip ?_ | refine awp_block ?_ | ((first | refine awp_cond ⟨_, rfl, fun hc => ?_, fun hc => ?_⟩ | refine awB_t (fun hc => ?_) (fun hc => ?_) | refine awB_f (fun hc => ?_) (fun hc => ?_)) <;> first | exact Bool.noConfusion hc | ((try simp only [decide_eq_true_eq, decide_eq_false_iff_not, beq_iff_eq, beq_eq_false_iff_ne, ne_eq, Bool.not_eq_true', Bool.not_eq_false'] at hc); first | (exfalso; simp only [List.length_map] at hc; omega) | (exfalso; omega) | skip)) | refine awp_ret ?_ | refine awp_exit ?_ | simp (maxSteps := 1000000) only [go_sem, Nat.reduceAdd, Nat.reduceMul, Nat.reduceEqDiff, Nat.reduceLeDiff, Nat.reduceLT, Nat.reduceSub, Int.reduceEq, Int.reduceBEq, Int.reduceLT, Int.reduceLE, Int.reduceAdd, Int.reduceToNat, reduceIte, reduceCtorEq, dcell, e1, hw, hw2, Int.toNat_natCast, List.getElem?_map, hget, p_make_Dice__Next_0, p_make_Dice__Next_1] | (refine hK _ ?_; clear hK; clear K') | refine And.intro ?_ ?_ | ((first | apply awCs_A | apply awCRs_A); (focus (first | exact (h_make_Mod _ _).b))) | (simp only [List.length_append, List.length_cons, List.length_nil, List.length_map, Nat.reducePow, Nat.reduceAdd]; omega) | omega | exact List.mem_singleton_self _)
    all_goals (refine ends_d _ rfl rfl (by simp only [V.closed, closedL, and_self, and_true, true_and]) ?_; simp only [go_sem, Nat.reduceEqDiff, Nat.reduceAdd, reduceIte, reduceCtorEq])
  · have e1 : decide ((k : Int) ≥ (((l.map V.int).length : Nat) : Int)) = true := by simp; omega
    have hn : nextD l k n = (0, k) := by rw [nextD, if_neg h1]
    rw [hn]
    repeat' (first | refine awp_seqR fun K' hK => ?_ | refine awp_regR fun K' hK => ?_ | refine awp_seqP 10 (fun _ => true) rfl (k_make_Dice__Next_0) (q_make_Dice__Next_0) fun K' hK => ?_ | refine awp_regP 10 (fun _ => true) rfl (k_make_Dice__Next_0) (q_make_Dice__Next_0) fun K' hK => ?_ | refine awp_seqP 14 (fun _ => true) rfl (k_make_Dice__Next_1 _) (q_make_Dice__Next_1 _) fun K' hK => ?_ | refine awp_regP 14 (fun _ => true) rfl (k_make_Dice__Next_1 _) (q_make_Dice__Next_1 _) fun K' hK => ?_ | refine awp_seqK ?_ | refine awp_skip ?_ | refine awp_block ?_ | ((first | refine awp_cond ⟨_, rfl, fun hc => ?_, fun hc => ?_⟩ | refine awB_t (fun hc => ?_) (fun hc => ?_) | refine awB_f (fun hc => ?_) (fun hc => ?_)) <;> first | exact Bool.noConfusion hc | ((try simp only [decide_eq_true_eq, decide_eq_false_iff_not, beq_iff_eq, beq_eq_false_iff_ne, ne_eq, Bool.not_eq_true', Bool.not_eq_false'] at hc); first | (exfalso; simp only [List.length_map] at hc; omega) | (exfalso; omega) | skip)) | refine awp_ret ?_ | refine awp_exit ?_ | simp (maxSteps := 1000000) only [go_sem, Nat.reduceAdd, Nat.reduceMul, Nat.reduceEqDiff, Nat.reduceLeDiff, Nat.reduceLT, Nat.reduceSub, Int.reduceEq, Int.reduceBEq, Int.reduceLT, Int.reduceLE, Int.reduceAdd, Int.reduceToNat, reduceIte, reduceCtorEq, dcell, e1, p_make_Dice__Next_0, p_make_Dice__Next_1] | (refine hK _ ?_; clear hK; clear K') | refine And.intro ?_ ?_ | ((first | apply awCs_A | apply awCRs_A); (focus (first | exact (h_make_Mod _ _).b))) | (simp only [List.length_append, List.length_cons, List.length_nil, List.length_map, Nat.reducePow, Nat.reduceAdd]; omega) | omega | exact List.mem_singleton_self _)
    all_goals (refine ends_d _ rfl rfl (by simp only [V.closed, closedL, and_self, and_true, true_and]) ?_; simp only [go_sem, Nat.reduceEqDiff, Nat.reduceAdd, reduceIte, reduceCtorEq])
end Av
end
section
set_option linter.unusedSimpArgs false
set_option linter.unusedVariables false
set_option maxRecDepth 10000
set_option maxHeartbeats 4000000
namespace Av
open Go
attribute [local irreducible] AWp runO runP runG awS awC awCv awQ awRd awCallR awCvR awQR awR awRdR awB okR plan ris
theorem nextD_ge (l : List Int) (k : Nat) (n : Int) : k ≤ (nextD l k n).2 := by
  unfold nextD; split
  · show k ≤ k + 1; omega
  · exact Nat.le_refl _
def c_make_Dice__One (f_make_Dice__Next : Nat) : AC := seqK [0, 1] (.reg [mc 4 (V.bool false)]) (seqK [4] (.reg [mv 5 0, mv 6 1, cl 7 f_make_Dice__Next [5, 6], mv 8 1, bc 9 .sub 8 (V.int 1), bn 10 .eql 7 9, mv 4 10]) (.ret)) def r_make_Dice__One : List ARes := [.tmp 4]
def CE_make_Dice__One (Γ : Env) (f : Nat) : Prop := ∀ (l : List Int) (k : Nat) (n : Int) (hl : l.length ≤ 400) (hk : k ≤ l.length) (h1 : 1 ≤ n) (h2 : n < 2 ^ 62), EvD Γ f [V.int n] (dcell l k) (V.bool ((nextD l k n).1 == n - 1)) (dcell l (nextD l k n).2)
theorem ev_make_Dice__One {Γ : Env} {f f_make_Dice__Next : Nat} (h : Has Γ.P f 11 (c_make_Dice__One f_make_Dice__Next) r_make_Dice__One) (h_make_Dice__Next : CE_make_Dice__Next Γ f_make_Dice__Next) : CE_make_Dice__One Γ f := by
  intro l k n hl hk h1 h2
  refine evD_of_body h (by simp) (by simp only [V.closed, closedL, V.noSl, noSlL, and_self, and_true, true_and]) (by first | exact dcell_closed _ _ | simp only [V.closed, closedL, and_self, and_true, true_and]) (by first | exact dcell_closed _ _ | simp only [V.closed, closedL, and_self, and_true, true_and]) fun C hC hm => ?_
  subst hC
  unfold c_make_Dice__One
  have hn := h_make_Dice__Next l k n hl hk
  have hw : IntKind.i64.wrap (n - 1) = n - 1 := wrap_id (by omega) (by omega)
  simp only [dcell] at hn
  repeat' (first | refine awp_seqR fun K' hK => ?_ | refine awp_regR fun K' hK => ?_ | refine awp_seqK ?_ | refine awp_skip ?_ | refine awp_block ?_ | ((first | refine awp_cond ⟨_, rfl, fun hc => ?_, fun hc => ?_⟩ | refine awB_t (fun hc => ?_) (fun hc => ?_) | refine awB_f (fun hc => ?_) (fun hc => ?_)) <;> first | exact Bool.noConfusion hc | ((try simp only [decide_eq_true_eq, decide_eq_false_iff_not, beq_iff_eq, beq_eq_false_iff_ne, ne_eq, Bool.not_eq_true', Bool.not_eq_false'] at hc); first | (exfalso; simp only [List.length_map] at hc; omega) | (exfalso; omega) | skip)) | refine awp_ret ?_ | refine awp_exit ?_ | simp (maxSteps := 1000000) only [go_sem, Nat.reduceAdd, Nat.reduceMul, Nat.reduceEqDiff, Nat.reduceLeDiff, Nat.reduceLT, Nat.reduceSub, Int.reduceEq, Int.reduceBEq, Int.reduceLT, Int.reduceLE, Int.reduceAdd, Int.reduceToNat, reduceIte, reduceCtorEq, dcell, hw] | (refine hK _ ?_; clear hK; clear K') | refine And.intro ?_ ?_ | (apply awCs_D; (focus (exact rfl)); (focus (first | exact hn | exact (h_make_Dice__Next _ _ _ (by first | assumption | omega | (simp; done)) (by first | assumption | omega | (simp; done))))); (focus (exact rfl)); (focus (exact rfl))) | (simp only [List.length_append, List.length_cons, List.length_nil, List.length_map, Nat.reducePow, Nat.reduceAdd]; omega) | omega | exact List.mem_singleton_self _)
  refine ends_d _ rfl rfl (by simp only [V.closed, closedL, and_self, and_true, true_and]) ?_; simp only [go_sem, Nat.reduceEqDiff, Nat.reduceAdd, reduceIte, reduceCtorEq]
def wordD (l : List Int) (k : Nat) (xs : List (List UInt8)) : List UInt8 × Nat := (xs.getD (nextD l k xs.length).1.toNat [], (nextD l k xs.length).2)
theorem wordD_mem {l : List Int} {k : Nat} {xs : List (List UInt8)} (h1 : 1 ≤ xs.length) (h2 : xs.length < 2 ^ 62) : (wordD l k xs).1 ∈ xs := by
  have := nextD_range (l := l) (k := k) (n := xs.length) (by omega) (by omega)
  have hk : (nextD l k xs.length).1.toNat < xs.length := by omega
  unfold wordD
  simp only [List.getD_eq_getElem?_getD, List.getElem?_eq_getElem hk, Option.getD_some]
  exact List.getElem_mem hk
theorem wordD_le {l : List Int} {k : Nat} {xs : List (List UInt8)} (hk : k ≤ l.length) : (wordD l k xs).2 ≤ l.length := nextD_le hk
theorem wordD_ge (l : List Int) (k : Nat) (xs : List (List UInt8)) : k ≤ (wordD l k xs).2 := nextD_ge _ _ _
def c_make_Dice__Word (f_make_Dice__Next : Nat) : AC := seqK [0, 1] (.reg [mc 4 (V.str [])]) (seqK [4] (.reg [mv 5 1, mv 6 0, mv 7 1, ln 8 7, cl 9 f_make_Dice__Next [6, 8], ia 10 1 5 9, ld 11 1 10, mv 4 11]) (.ret)) def r_make_Dice__Word : List ARes := [.tmp 4]
def CE_make_Dice__Word (Γ : Env) (f : Nat) : Prop := ∀ (l : List Int) (k : Nat) (xs : List (List UInt8)) (hl : l.length ≤ 400) (hk : k ≤ l.length) (hx : 1 ≤ xs.length) (hx2 : xs.length < 2 ^ 62), EvD Γ f [.sl 1 (xs.map V.str)] (dcell l k) (V.str (wordD l k xs).1) (dcell l (wordD l k xs).2)
theorem ev_make_Dice__Word {Γ : Env} {f f_make_Dice__Next : Nat} (h : Has Γ.P f 12 (c_make_Dice__Word f_make_Dice__Next) r_make_Dice__Word) (h_make_Dice__Next : CE_make_Dice__Next Γ f_make_Dice__Next) : CE_make_Dice__Word Γ f := by
  intro l k xs hl hk hx hx2
  refine evD_of_body h (by simp) (by simp only [V.closed, closedL, V.noSl, noSlL, and_self, and_true, true_and]) (by first | exact dcell_closed _ _ | simp only [V.closed, closedL, and_self, and_true, true_and]) (by first | exact dcell_closed _ _ | simp only [V.closed, closedL, and_self, and_true, true_and]) fun C hC hm => ?_
  subst hC
  unfold c_make_Dice__Word
  have hr := nextD_range (l := l) (k := k) (n := xs.length) (by omega) (by omega)
  have hget : xs[(nextD l k xs.length).1.toNat]? = some (wordD l k xs).1 := by
    have hk : (nextD l k xs.length).1.toNat < xs.length := by omega
    simp [wordD, List.getD_eq_getElem?_getD, List.getElem?_eq_getElem hk]
  have hn := h_make_Dice__Next l k xs.length hl hk
  have e2 : dcell l (wordD l k xs).2 = dcell l (nextD l k xs.length).2 := rfl
  rw [e2]
  simp only [dcell] at hn
  repeat' (first | refine awp_seqR fun K' hK => ?_ | refine awp_regR fun K' hK => ?_ | refine awp_seqK ?_ | refine awp_skip ?_ | refine awp_block ?_ | ((first | refine awp_cond ⟨_, rfl, fun hc => ?_, fun hc => ?_⟩ | refine awB_t (fun hc => ?_) (fun hc => ?_) | refine awB_f (fun hc => ?_) (fun hc => ?_)) <;> first | exact Bool.noConfusion hc | ((try simp only [decide_eq_true_eq, decide_eq_false_iff_not, beq_iff_eq, beq_eq_false_iff_ne, ne_eq, Bool.not_eq_true', Bool.not_eq_false'] at hc); first | (exfalso; simp only [List.length_map] at hc; omega) | (exfalso; omega) | skip)) | refine awp_ret ?_ | refine awp_exit ?_ | simp (maxSteps := 1000000) only [go_sem, Nat.reduceAdd, Nat.reduceMul, Nat.reduceEqDiff, Nat.reduceLeDiff, Nat.reduceLT, Nat.reduceSub, Int.reduceEq, Int.reduceBEq, Int.reduceLT, Int.reduceLE, Int.reduceAdd, Int.reduceToNat, reduceIte, reduceCtorEq, dcell, List.length_map, List.getElem?_map, hget] | (refine hK _ ?_; clear hK; clear K') | refine And.intro ?_ ?_ | (apply awCs_D; (focus (exact rfl)); (focus (first | exact hn | exact (h_make_Dice__Next _ _ _ (by first | assumption | omega | (simp; done)) (by first | assumption | omega | (simp; done))))); (focus (exact rfl)); (focus (exact rfl))) | (simp only [List.length_append, List.length_cons, List.length_nil, List.length_map, Nat.reducePow, Nat.reduceAdd]; omega) | omega | exact List.mem_singleton_self _)
  refine ends_d _ rfl rfl (by simp only [V.closed, closedL, and_self, and_true, true_and]) ?_; simp only [go_sem, Nat.reduceEqDiff, Nat.reduceAdd, reduceIte, reduceCtorEq]
def names1 : List (List UInt8) := [[97, 108, 108], [104, 105, 103, 104], [109, 101, 100, 105, 117, 109], [108, 111, 119], [114, 115, 97], [101, 99, 100, 115, 97], [97, 101, 115, 103, 99, 109], [104, 109, 97, 99, 115, 104, 97, 49], [118, 49], [118, 51], [118, 52], [99, 104, 97, 99, 104, 97], [114, 99, 52], [114, 115, 97, 45, 114, 99, 52, 45, 109, 100, 53], [97, 101, 115, 49, 50, 56, 45, 103, 99, 109], [109, 108, 107, 101, 109], [100, 104, 101]]
def names2 : List (List UInt8) := [[101, 99, 100, 104, 101], [118, 51], [104, 105, 103, 104], [114, 115, 97], [97, 101, 97, 100]]
def namesGo (l : List Int) (s : List UInt8) (k : Nat) : List UInt8 × Nat :=
  if h : k < l.length ∧ (nextD l k 4).1 = 3 then namesGo l (s ++ [43] ++ (wordD l (k + 1) names2).1) (wordD l (k + 1) names2).2
  else (s, (nextD l k 4).2)
termination_by l.length - k
decreasing_by have := wordD_ge l (k + 1) names2; omega
def namesD (l : List Int) (k : Nat) : List UInt8 × Nat := namesGo l (wordD l k names1).1 (wordD l k names1).2
theorem names1_len : ∀ x ∈ names1, x.length ≤ 11 := by decide
theorem names2_len : ∀ x ∈ names2, x.length ≤ 11 := by decide
theorem namesGo_le (l : List Int) (s : List UInt8) (k : Nat) (hk : k ≤ l.length) : (namesGo l s k).2 ≤ l.length := by
  rw [namesGo]
  split
  · exact namesGo_le l _ _ (wordD_le (by omega))
  · exact nextD_le hk
termination_by l.length - k
decreasing_by have := wordD_ge l (k + 1) names2; omega
theorem namesD_le {l : List Int} {k : Nat} (hk : k ≤ l.length) : (namesD l k).2 ≤ l.length := namesGo_le _ _ _ (wordD_le hk)
theorem namesGo_len (l : List Int) (s : List UInt8) (k : Nat) (hk : k ≤ l.length) (hs : s.length ≤ 11 + 12 * k) : (namesGo l s k).1.length ≤ 11 + 12 * l.length := by
  rw [namesGo]
  split
  · have h1 := names2_len _ (wordD_mem (l := l) (k := k + 1) (xs := names2) (by decide) (by decide))
    have h2 := wordD_ge l (k + 1) names2
    exact namesGo_len l _ _ (wordD_le (by omega)) (by simp; omega)
  · show s.length ≤ _; omega
termination_by l.length - k
decreasing_by have := wordD_ge l (k + 1) names2; omega
theorem namesD_len {l : List Int} {k : Nat} (hk : k ≤ l.length) : (namesD l k).1.length ≤ 11 + 12 * l.length := by
  have h1 := names1_len _ (wordD_mem (l := l) (k := k) (xs := names1) (by decide) (by decide))
  exact namesGo_len _ _ _ (wordD_le hk) (by omega)
def c_law08_names (f_make_Dice__Word f_make_Dice__One : Nat) : AC := seqK [0] (.reg [mc 2 (V.str [])]) (seqK [0, 3] (.reg [mv 4 0, xo 5 (.bslice 17 1 false [(.string ⟨#[]⟩)] [(0, (.c (V.str [97, 108, 108]))), (1, (.c (V.str [104, 105, 103, 104]))), (2, (.c (V.str [109, 101, 100, 105, 117, 109]))), (3, (.c (V.str [108, 111, 119]))), (4, (.c (V.str [114, 115, 97]))), (5, (.c (V.str [101, 99, 100, 115, 97]))), (6, (.c (V.str [97, 101, 115, 103, 99, 109]))), (7, (.c (V.str [104, 109, 97, 99, 115, 104, 97, 49]))), (8, (.c (V.str [118, 49]))), (9, (.c (V.str [118, 51]))), (10, (.c (V.str [118, 52]))), (11, (.c (V.str [99, 104, 97, 99, 104, 97]))), (12, (.c (V.str [114, 99, 52]))), (13, (.c (V.str [114, 115, 97, 45, 114, 99, 52, 45, 109, 100, 53]))), (14, (.c (V.str [97, 101, 115, 49, 50, 56, 45, 103, 99, 109]))), (15, (.c (V.str [109, 108, 107, 101, 109]))), (16, (.c (V.str [100, 104, 101])))]), cl 6 f_make_Dice__Word [4, 5], mv 3 6]) (seqK [3] (.block 0 (loopK [0, 3] (seqK [0, 3] (seqK [0, 3, 8] (.reg [mv 7 0, xo 8 (.call f_make_Dice__One [(.t 7), (.c (V.int 4))])]) (.cond (.t 8) (.skip) (.exit 0))) (.block 1 (.reg [mv 9 3, bc 10 .add 9 (V.str [43]), mv 11 0, xo 12 (.bslice 5 1 false [(.string ⟨#[]⟩)] [(0, (.c (V.str [101, 99, 100, 104, 101]))), (1, (.c (V.str [118, 51]))), (2, (.c (V.str [104, 105, 103, 104]))), (3, (.c (V.str [114, 115, 97]))), (4, (.c (V.str [97, 101, 97, 100])))]), cl 13 f_make_Dice__Word [11, 12], bn 14 .add 10 13, mv 3 14]))))) (seqK [2] (.reg [mv 15 3, mv 2 15]) (.ret)))) def r_law08_names : List ARes := [.tmp 2]
def CE_law08_names (Γ : Env) (f : Nat) : Prop := ∀ (l : List Int) (k : Nat) (hl : l.length ≤ 400) (hk : k ≤ l.length), EvD Γ f [] (dcell l k) (V.str (namesD l k).1) (dcell l (namesD l k).2)
theorem ev_law08_names {Γ : Env} {f f_make_Dice__Word f_make_Dice__One : Nat} (h : Has Γ.P f 16 (c_law08_names f_make_Dice__Word f_make_Dice__One) r_law08_names) (h_make_Dice__Word : CE_make_Dice__Word Γ f_make_Dice__Word) (h_make_Dice__One : CE_make_Dice__One Γ f_make_Dice__One) : CE_law08_names Γ f := by
  intro l k hl hk
  refine evD_of_body h (by simp) (by simp only [V.closed, closedL, V.noSl, noSlL, and_self, and_true, true_and]) (by first | exact dcell_closed _ _ | simp only [V.closed, closedL, and_self, and_true, true_and]) (by first | exact dcell_closed _ _ | simp only [V.closed, closedL, and_self, and_true, true_and]) fun C hC hm => ?_
  subst hC
  unfold c_law08_names
  have w1 := h_make_Dice__Word l k names1 hl hk (by decide) (by decide)
  have wl := names1_len _ (wordD_mem (l := l) (k := k) (xs := names1) (by decide) (by decide))
  have wk := wordD_le (xs := names1) hk
  have e2 : namesD l k = namesGo l (wordD l k names1).1 (wordD l k names1).2 := rfl
  rw [e2]
  generalize wordD l k names1 = w at *
  obtain ⟨s0, k0⟩ := w
  simp only [dcell, names1] at w1 wl wk ⊢
  repeat' (first | refine awp_seqR fun K' hK => ?_ | refine awp_regR fun K' hK => ?_ | refine awp_seqK ?_ | refine awp_skip ?_ | refine awp_block ?_ | ((first | refine awp_cond ⟨_, rfl, fun hc => ?_, fun hc => ?_⟩ | refine awB_t (fun hc => ?_) (fun hc => ?_) | refine awB_f (fun hc => ?_) (fun hc => ?_)) <;> first | exact Bool.noConfusion hc | ((try simp only [decide_eq_true_eq, decide_eq_false_iff_not, beq_iff_eq, beq_eq_false_iff_ne, ne_eq, Bool.not_eq_true', Bool.not_eq_false'] at hc); first | (exfalso; simp only [List.length_map] at hc; omega) | (exfalso; omega) | skip)) | refine awp_ret ?_ | refine awp_exit ?_ | simp (maxSteps := 1000000) only [go_sem, Nat.reduceAdd, Nat.reduceMul, Nat.reduceEqDiff, Nat.reduceLeDiff, Nat.reduceLT, Nat.reduceSub, Int.reduceEq, Int.reduceBEq, Int.reduceLT, Int.reduceLE, Int.reduceAdd, Int.reduceToNat, reduceIte, reduceCtorEq, dcell] | (refine hK _ ?_; clear hK; clear K') | refine And.intro ?_ ?_ | (apply awCs_D; (focus (exact rfl)); (focus (first | exact w1 | exact (h_make_Dice__Word _ _ _ (by first | assumption | omega | (simp; done)) (by first | assumption | omega | (simp; done)) (by first | assumption | omega | (simp; done)) (by first | assumption | omega | (simp; done))) | exact (h_make_Dice__One _ _ _ (by first | assumption | omega | (simp; done)) (by first | assumption | omega | (simp; done)) (by first | assumption | omega | (simp; done)) (by first | assumption | omega | (simp; done))))); (focus (exact rfl)); (focus (exact rfl))) | (simp only [List.length_append, List.length_cons, List.length_nil, List.length_map, Nat.reducePow, Nat.reduceAdd]; omega) | omega | exact List.mem_singleton_self _)
  refine awp_loopV (ι := List UInt8 × Nat) (fun p => p.2 ≤ l.length ∧ p.1.length ≤ 11 + 12 * p.2 ∧ namesGo l p.1 p.2 = namesGo l s0 k0) (fun p => mkSt [(0, .ptr 0 0), (3, V.str p.1)] [(0, .box true [.sl 1 (l.map V.int), V.int p.2])] 1) (fun p => l.length + 1 - p.2) (s0, k0) ⟨wk, by simp only; omega, rfl⟩ (lookN []) (weak_g [] (by simp only [go_sem, Nat.reduceAdd, Nat.reduceMul, Nat.reduceEqDiff, Nat.reduceLT, Int.reduceToNat, reduceIte, reduceCtorEq, and_true, true_and, implies_true, Option.some.injEq, exists_eq_left', closedL_ren, closed_ren]; (repeat' (first | rfl | refine And.intro ?_ ?_ | omega | exact fun h => h | exact Exists.intro _ rfl))) (by simp only [go_sem, Nat.reduceAdd, Nat.reduceMul, Nat.reduceEqDiff, Nat.reduceLT, Int.reduceToNat, reduceIte, reduceCtorEq, and_true, true_and, implies_true, Option.some.injEq, exists_eq_left', closedL_ren, closed_ren]; (repeat' (first | rfl | refine And.intro ?_ ?_ | omega | exact fun h => h | exact Exists.intro _ rfl))) (by simp) (by simp) (by omega)) fun p hp K' hL => ?_
  obtain ⟨s, k⟩ := p
  obtain ⟨hk, hs, hinv⟩ := hp
  simp only at hk hs hinv
  have o1 := h_make_Dice__One l k 4 hl hk (by omega) (by omega)
  by_cases h1 : k < l.length ∧ (nextD l k 4).1 = 3
  · have e1 : ((nextD l k 4).1 == 4 - 1) = true := by simp [h1.2]
    have e3 : (nextD l k 4).2 = k + 1 := by rw [nextD, if_pos h1.1]
    rw [e1, e3] at o1
    have w2 := h_make_Dice__Word l (k + 1) names2 hl (by omega) (by decide) (by decide)
    have hwl := names2_len _ (wordD_mem (l := l) (k := k + 1) (xs := names2) (by decide) (by decide))
    have hwk := wordD_le (l := l) (k := k + 1) (xs := names2) (by omega)
    have hwg := wordD_ge l (k + 1) names2
    rw [namesGo, dif_pos h1] at hinv
    generalize wordD l (k + 1) names2 = w at *
    obtain ⟨t, k2⟩ := w
    simp only [dcell, names2] at o1 w2 hwl hwk hwg hinv
    repeat' (first | refine awp_seqR fun K' hK => ?_ | refine awp_regR fun K' hK => ?_ | refine awp_seqK ?_ | refine awp_skip ?_ | refine awp_block ?_ | ((first | refine awp_cond ⟨_, rfl, fun hc => ?_, fun hc => ?_⟩ | refine awB_t (fun hc => ?_) (fun hc => ?_) | refine awB_f (fun hc => ?_) (fun hc => ?_)) <;> first | exact Bool.noConfusion hc | ((try simp only [decide_eq_true_eq, decide_eq_false_iff_not, beq_iff_eq, beq_eq_false_iff_ne, ne_eq, Bool.not_eq_true', Bool.not_eq_false'] at hc); first | (exfalso; simp only [List.length_map] at hc; omega) | (exfalso; omega) | skip)) | refine awp_ret ?_ | refine awp_exit ?_ | simp (maxSteps := 1000000) only [go_sem, Nat.reduceAdd, Nat.reduceMul, Nat.reduceEqDiff, Nat.reduceLeDiff, Nat.reduceLT, Nat.reduceSub, Int.reduceEq, Int.reduceBEq, Int.reduceLT, Int.reduceLE, Int.reduceAdd, Int.reduceToNat, reduceIte, reduceCtorEq, mkSt] | (refine hK _ ?_; clear hK; clear K') | refine And.intro ?_ ?_ | (apply awCs_D; (focus (exact rfl)); (focus (first | exact o1 | exact w2 | exact (h_make_Dice__Word _ _ _ (by first | assumption | omega | (simp; done)) (by first | assumption | omega | (simp; done)) (by first | assumption | omega | (simp; done)) (by first | assumption | omega | (simp; done))) | exact (h_make_Dice__One _ _ _ (by first | assumption | omega | (simp; done)) (by first | assumption | omega | (simp; done)) (by first | assumption | omega | (simp; done)) (by first | assumption | omega | (simp; done))))); (focus (exact rfl)); (focus (exact rfl))) | (simp only [List.length_append, List.length_cons, List.length_nil, List.length_map, Nat.reducePow, Nat.reduceAdd]; omega) | omega | exact List.mem_singleton_self _)
    refine hL _ (s ++ [43] ++ t, k2) (lookN []) ⟨by show k2 ≤ l.length; omega, by simp only [List.length_append, List.length_singleton]; omega, hinv⟩ (by show l.length + 1 - k2 < l.length + 1 - k; omega) (weak_g [] (by simp only [go_sem, Nat.reduceAdd, Nat.reduceMul, Nat.reduceEqDiff, Nat.reduceLT, Int.reduceToNat, reduceIte, reduceCtorEq, and_true, true_and, implies_true, Option.some.injEq, exists_eq_left', closedL_ren, closed_ren]; (repeat' (first | rfl | refine And.intro ?_ ?_ | omega | exact fun h => h | exact Exists.intro _ rfl))) (by simp only [go_sem, Nat.reduceAdd, Nat.reduceMul, Nat.reduceEqDiff, Nat.reduceLT, Int.reduceToNat, reduceIte, reduceCtorEq, and_true, true_and, implies_true, Option.some.injEq, exists_eq_left', closedL_ren, closed_ren]; (repeat' (first | rfl | refine And.intro ?_ ?_ | omega | exact fun h => h | exact Exists.intro _ rfl))) (by simp) (by simp) (by omega))
  · have e1 : ((nextD l k 4).1 == 4 - 1) = false := by
      simp only [beq_eq_false_iff_ne, ne_eq]
      intro h
      by_cases hk2 : k < l.length
      · exact h1 ⟨hk2, by omega⟩
      · rw [nextD, if_neg hk2] at h; simp at h
    rw [e1] at o1
    rw [namesGo, dif_neg h1] at hinv
    rw [← hinv]
    simp only [dcell] at o1
    repeat' (first | refine awp_seqR fun K' hK => ?_ | refine awp_regR fun K' hK => ?_ | refine awp_seqK ?_ | refine awp_skip ?_ | refine awp_block ?_ | ((first | refine awp_cond ⟨_, rfl, fun hc => ?_, fun hc => ?_⟩ | refine awB_t (fun hc => ?_) (fun hc => ?_) | refine awB_f (fun hc => ?_) (fun hc => ?_)) <;> first | exact Bool.noConfusion hc | ((try simp only [decide_eq_true_eq, decide_eq_false_iff_not, beq_iff_eq, beq_eq_false_iff_ne, ne_eq, Bool.not_eq_true', Bool.not_eq_false'] at hc); first | (exfalso; simp only [List.length_map] at hc; omega) | (exfalso; omega) | skip)) | refine awp_ret ?_ | refine awp_exit ?_ | simp (maxSteps := 1000000) only [go_sem, Nat.reduceAdd, Nat.reduceMul, Nat.reduceEqDiff, Nat.reduceLeDiff, Nat.reduceLT, Nat.reduceSub, Int.reduceEq, Int.reduceBEq, Int.reduceLT, Int.reduceLE, Int.reduceAdd, Int.reduceToNat, reduceIte, reduceCtorEq, mkSt, dcell] | (refine hK _ ?_; clear hK; clear K') | refine And.intro ?_ ?_ | (apply awCs_D; (focus (exact rfl)); (focus (first | exact o1 | exact (h_make_Dice__Word _ _ _ (by first | assumption | omega | (simp; done)) (by first | assumption | omega | (simp; done)) (by first | assumption | omega | (simp; done)) (by first | assumption | omega | (simp; done))) | exact (h_make_Dice__One _ _ _ (by first | assumption | omega | (simp; done)) (by first | assumption | omega | (simp; done)) (by first | assumption | omega | (simp; done)) (by first | assumption | omega | (simp; done))))); (focus (exact rfl)); (focus (exact rfl))) | (simp only [List.length_append, List.length_cons, List.length_nil, List.length_map, Nat.reducePow, Nat.reduceAdd]; omega) | omega | exact List.mem_singleton_self _)
    refine ends_d _ rfl rfl (by simp only [V.closed, closedL, and_self, and_true, true_and]) ?_; simp only [go_sem, Nat.reduceEqDiff, Nat.reduceAdd, reduceIte, reduceCtorEq]
def specW (l : List Int) (k : Nat) (c : Int) : List UInt8 × Nat :=
  if c = 0 then ([64, 115, 116, 114, 101, 110, 103, 116, 104], k) else if c = 1 then ([33] ++ (namesD l k).1, (namesD l k).2) else if c = 2 then ([45] ++ (namesD l k).1, (namesD l k).2)
  else if c = 3 then ([43] ++ (namesD l k).1, (namesD l k).2) else namesD l k
def specGo (l : List Int) : Nat → List UInt8 → Nat → List UInt8 × Nat
  | 0, s, k => (s, k)
  | i + 1, s, k => specGo l i ((if s = [] then s else s ++ [58]) ++ (specW l (nextD l k 9).2 (nextD l k 9).1).1) (specW l (nextD l k 9).2 (nextD l k 9).1).2
def specD (l : List Int) (k : Nat) : List UInt8 × Nat := specGo l (nextD l k 7).1.toNat [] (nextD l k 7).2
theorem specW_le {l : List Int} {k : Nat} {c : Int} (hk : k ≤ l.length) : (specW l k c).2 ≤ l.length := by
  have := namesD_le hk
  unfold specW; repeat' split
  all_goals first | exact hk | exact this
theorem specW_len {l : List Int} {k : Nat} {c : Int} (hk : k ≤ l.length) : (specW l k c).1.length ≤ 12 + 12 * l.length := by
  have := namesD_len hk
  unfold specW; repeat' split
  all_goals (try simp only [List.length_append, List.length_cons, List.length_nil])
  all_goals omega
theorem specGo_le (l : List Int) : ∀ (i : Nat) (s : List UInt8) (k : Nat), k ≤ l.length → (specGo l i s k).2 ≤ l.length
  | 0, s, k, hk => hk
  | i + 1, s, k, hk => specGo_le l i _ _ (specW_le (nextD_le hk))
theorem specD_le {l : List Int} {k : Nat} (hk : k ≤ l.length) : (specD l k).2 ≤ l.length := specGo_le l _ _ _ (nextD_le hk)
theorem specGo_len (l : List Int) : ∀ (i : Nat) (s : List UInt8) (k : Nat), k ≤ l.length → (specGo l i s k).1.length ≤ s.length + i * (13 + 12 * l.length)
  | 0, s, k, hk => by simp [specGo]
  | i + 1, s, k, hk => by
    have h1 := specW_len (c := (nextD l k 9).1) (nextD_le (n := 9) hk)
    have h2 := specGo_len l i ((if s = [] then s else s ++ [58]) ++ (specW l (nextD l k 9).2 (nextD l k 9).1).1) _ (specW_le (c := (nextD l k 9).1) (nextD_le (n := 9) hk))
    simp only [specGo]
    refine Nat.le_trans h2 ?_
    rw [Nat.add_mul i 1, Nat.one_mul, List.length_append]
    have h3 : (if s = [] then s else s ++ [58]).length ≤ s.length + 1 := by split <;> simp
    omega
theorem specD_len {l : List Int} {k : Nat} (hk : k ≤ l.length) (hl : l.length ≤ 400) : (specD l k).1.length ≤ 30000 := by
  have h := specGo_len l (nextD l k 7).1.toNat [] (nextD l k 7).2 (nextD_le hk)
  have hr := nextD_range (l := l) (k := k) (n := 7) (by omega) (by omega)
  have h2 : (nextD l k 7).1.toNat * (13 + 12 * l.length) ≤ 6 * (13 + 12 * l.length) := Nat.mul_le_mul_right _ (by omega)
  unfold specD
  simp only [List.length_nil] at h
  omega
def c_law08_spec (f_make_Dice__Next f_law08_names : Nat) : AC := seqK [0] (.reg [mc 2 (V.str [])]) (seqK [0, 3] (.reg [mc 3 (V.str [])]) (seqK [3] (seqK [0, 3, 4] (.reg [mv 5 0, xo 6 (.call f_make_Dice__Next [(.t 5), (.c (V.int 7))]), mv 4 6]) (.block 0 (loopK [0, 3, 4] (seqK [0, 3, 4] (seqK [0, 3, 4, 8] (.reg [mv 7 4, bc 8 .gtr 7 (V.int 0)]) (.cond (.t 8) (.skip) (.exit 0))) (seqK [0, 3, 4] (.block 1 (seqK [0, 3, 4] (seqK [0, 3, 4, 12] (.reg [mv 11 3, bc 12 .neq 11 (V.str [])]) (.cond (.t 12) (.reg [mv 13 3, bc 14 .add 13 (V.str [58]), mv 3 14]) (.skip))) (seqK [0, 3, 4, 16] (.reg [mv 15 0, xo 16 (.call f_make_Dice__Next [(.t 15), (.c (V.int 9))])]) (.block 2 (seqK [0, 3, 4, 16, 21] (.reg [bc 22 .eql 16 (V.int 0), mv 21 22]) (.cond (.t 21) (.reg [mv 23 3, bc 24 .add 23 (V.str [64, 115, 116, 114, 101, 110, 103, 116, 104]), mv 3 24]) (seqK [0, 3, 4, 16, 25] (.reg [bc 26 .eql 16 (V.int 1), mv 25 26]) (.cond (.t 25) (.reg [mv 27 3, bc 28 .add 27 (V.str [33]), mv 29 0, cl 30 f_law08_names [29], bn 31 .add 28 30, mv 3 31]) (seqK [0, 3, 4, 16, 32] (.reg [bc 33 .eql 16 (V.int 2), mv 32 33]) (.cond (.t 32) (.reg [mv 34 3, bc 35 .add 34 (V.str [45]), mv 36 0, cl 37 f_law08_names [36], bn 38 .add 35 37, mv 3 38]) (seqK [0, 3, 4, 39] (.reg [bc 40 .eql 16 (V.int 3), mv 39 40]) (.cond (.t 39) (.reg [mv 41 3, bc 42 .add 41 (V.str [43]), mv 43 0, cl 44 f_law08_names [43], bn 45 .add 42 44, mv 3 45]) (.reg [mv 17 3, mv 18 0, cl 19 f_law08_names [18], bn 20 .add 17 19, mv 3 20]))))))))))))) (.reg [mv 9 4, bc 10 .sub 9 (V.int 1), mv 4 10])))))) (seqK [2] (.reg [mv 46 3, mv 2 46]) (.ret)))) def r_law08_spec : List ARes := [.tmp 2]
def CE_law08_spec (Γ : Env) (f : Nat) : Prop := ∀ (l : List Int) (k : Nat) (hl : l.length ≤ 400) (hk : k ≤ l.length), EvD Γ f [] (dcell l k) (V.str (specD l k).1) (dcell l (specD l k).2)
theorem ev_law08_spec {Γ : Env} {f f_make_Dice__Next f_law08_names : Nat} (h : Has Γ.P f 47 (c_law08_spec f_make_Dice__Next f_law08_names) r_law08_spec) (h_make_Dice__Next : CE_make_Dice__Next Γ f_make_Dice__Next) (h_law08_names : CE_law08_names Γ f_law08_names) : CE_law08_spec Γ f := by
  intro l k hl hk
  refine evD_of_body h (by simp) (by simp only [V.closed, closedL, V.noSl, noSlL, and_self, and_true, true_and]) (by first | exact dcell_closed _ _ | simp only [V.closed, closedL, and_self, and_true, true_and]) (by first | exact dcell_closed _ _ | simp only [V.closed, closedL, and_self, and_true, true_and]) fun C hC hm => ?_
  subst hC
  unfold c_law08_spec
  have n0 := h_make_Dice__Next l k 7 hl hk
  have hr := nextD_range (l := l) (k := k) (n := 7) (by omega) (by omega)
  have hk0 := nextD_le (n := 7) hk
  have e2 : specD l k = specGo l (nextD l k 7).1.toNat [] (nextD l k 7).2 := rfl
  rw [e2]
  generalize nextD l k 7 = w at *
  obtain ⟨i0, k0⟩ := w
  obtain ⟨i0, rfl⟩ : ∃ j : Nat, i0 = (j : Int) := ⟨i0.toNat, by simp only at hr; omega⟩
  simp only [dcell, Int.toNat_natCast] at n0 hr hk0 ⊢
  repeat' (first | refine awp_seqR fun K' hK => ?_ | refine awp_regR fun K' hK => ?_ | refine awp_seqK ?_ | refine awp_skip ?_ | refine awp_block ?_ | ((first | refine awp_cond ⟨_, rfl, fun hc => ?_, fun hc => ?_⟩ | refine awB_t (fun hc => ?_) (fun hc => ?_) | refine awB_f (fun hc => ?_) (fun hc => ?_)) <;> first | exact Bool.noConfusion hc | ((try simp only [decide_eq_true_eq, decide_eq_false_iff_not, beq_iff_eq, beq_eq_false_iff_ne, ne_eq, Bool.not_eq_true', Bool.not_eq_false'] at hc); first | (exfalso; simp only [List.length_map] at hc; omega) | (exfalso; omega) | skip)) | refine awp_ret ?_ | refine awp_exit ?_ | simp (maxSteps := 1000000) only [go_sem, Nat.reduceAdd, Nat.reduceMul, Nat.reduceEqDiff, Nat.reduceLeDiff, Nat.reduceLT, Nat.reduceSub, Int.reduceEq, Int.reduceBEq, Int.reduceLT, Int.reduceLE, Int.reduceAdd, Int.reduceToNat, reduceIte, reduceCtorEq, dcell] | (refine hK _ ?_; clear hK; clear K') | refine And.intro ?_ ?_ | (apply awCs_D; (focus (exact rfl)); (focus (first | exact n0 | exact (h_make_Dice__Next _ _ _ (by first | assumption | omega | (simp; done)) (by first | assumption | omega | (simp; done))) | exact (h_law08_names _ _ (by first | assumption | omega | (simp; done)) (by first | assumption | omega | (simp; done))))); (focus (exact rfl)); (focus (exact rfl))) | (simp only [List.length_append, List.length_cons, List.length_nil, List.length_map, Nat.reducePow, Nat.reduceAdd]; omega) | omega | exact List.mem_singleton_self _)
  refine awp_loopV (ι := Nat × List UInt8 × Nat) (fun p => p.1 ≤ 6 ∧ p.2.2 ≤ l.length ∧ p.2.1.length + p.1 * 4813 ≤ 30000 ∧ specGo l p.1 p.2.1 p.2.2 = specGo l i0 [] k0) (fun p => mkSt [(0, .ptr 0 0), (3, V.str p.2.1), (4, V.int p.1)] [(0, .box true [.sl 1 (l.map V.int), V.int p.2.2])] 1) (fun p => p.1) (i0, [], k0) ⟨(by show i0 ≤ 6; omega), hk0, (by show 0 + i0 * 4813 ≤ 30000; omega), rfl⟩ (lookN []) (weak_g [] (by simp only [go_sem, Nat.reduceAdd, Nat.reduceMul, Nat.reduceEqDiff, Nat.reduceLT, Int.reduceToNat, reduceIte, reduceCtorEq, and_true, true_and, implies_true, Option.some.injEq, exists_eq_left', closedL_ren, closed_ren]; (repeat' (first | rfl | refine And.intro ?_ ?_ | omega | exact fun h => h | exact Exists.intro _ rfl))) (by simp only [go_sem, Nat.reduceAdd, Nat.reduceMul, Nat.reduceEqDiff, Nat.reduceLT, Int.reduceToNat, reduceIte, reduceCtorEq, and_true, true_and, implies_true, Option.some.injEq, exists_eq_left', closedL_ren, closed_ren]; (repeat' (first | rfl | refine And.intro ?_ ?_ | omega | exact fun h => h | exact Exists.intro _ rfl))) (by simp) (by simp) (by omega)) fun p hp K' hL => ?_
  obtain ⟨i, s, k⟩ := p
  obtain ⟨hi, hk, hs, hinv⟩ := hp
  simp only at hi hk hs hinv
  rcases i with _ | i
  · rw [← hinv]
    repeat' (first | refine awp_seqR fun K' hK => ?_ | refine awp_regR fun K' hK => ?_ | refine awp_seqK ?_ | refine awp_skip ?_ | refine awp_block ?_ | ((first | refine awp_cond ⟨_, rfl, fun hc => ?_, fun hc => ?_⟩ | refine awB_t (fun hc => ?_) (fun hc => ?_) | refine awB_f (fun hc => ?_) (fun hc => ?_)) <;> first | exact Bool.noConfusion hc | ((try simp only [decide_eq_true_eq, decide_eq_false_iff_not, beq_iff_eq, beq_eq_false_iff_ne, ne_eq, Bool.not_eq_true', Bool.not_eq_false'] at hc); first | (exfalso; simp only [List.length_map] at hc; omega) | (exfalso; omega) | skip)) | refine awp_ret ?_ | refine awp_exit ?_ | simp (maxSteps := 1000000) only [go_sem, Nat.reduceAdd, Nat.reduceMul, Nat.reduceEqDiff, Nat.reduceLeDiff, Nat.reduceLT, Nat.reduceSub, Int.reduceEq, Int.reduceBEq, Int.reduceLT, Int.reduceLE, Int.reduceAdd, Int.reduceToNat, reduceIte, reduceCtorEq, mkSt, dcell, specGo] | (refine hK _ ?_; clear hK; clear K') | refine And.intro ?_ ?_ | (apply awCs_D; (focus (exact rfl)); (focus (first | exact (h_make_Dice__Next _ _ _ (by first | assumption | omega | (simp; done)) (by first | assumption | omega | (simp; done))) | exact (h_law08_names _ _ (by first | assumption | omega | (simp; done)) (by first | assumption | omega | (simp; done))))); (focus (exact rfl)); (focus (exact rfl))) | (simp only [List.length_append, List.length_cons, List.length_nil, List.length_map, Nat.reducePow, Nat.reduceAdd]; omega) | omega | exact List.mem_singleton_self _)
    all_goals (refine ends_d _ rfl rfl (by simp only [V.closed, closedL, and_self, and_true, true_and]) ?_; simp only [go_sem, Nat.reduceEqDiff, Nat.reduceAdd, reduceIte, reduceCtorEq])
  · have n1 := h_make_Dice__Next l k 9 hl hk
    have hr := nextD_range (l := l) (k := k) (n := 9) (by omega) (by omega)
    have hk1 := nextD_le (n := 9) hk
    have hw := specW_le (c := (nextD l k 9).1) hk1
    have hwl := specW_len (c := (nextD l k 9).1) hk1
    simp only [specGo] at hinv
    generalize nextD l k 9 = u at *
    obtain ⟨c, k1⟩ := u
    simp only [dcell] at n1 hr hk1 hw hwl hinv
    have n2 := h_law08_names l k1 hl hk1
    have hnl := namesD_len hk1
    simp only [dcell] at n2
    have e1 : decide (((i + 1 : Nat) : Int) > 0) = true := decide_eq_true (by omega)
    have ew : IntKind.i64.wrap (((i + 1 : Nat) : Int) - 1) = (i : Int) := by rw [wrap_id (by omega) (by omega)]; omega
    have step : ∀ t : List UInt8, t = ((if s = [] then s else s ++ [58]) ++ (specW l k1 c).1) → t.length + i * 4813 ≤ 30000 := by
      intro t ht
      have h3 : (if s = [] then s else s ++ [58]).length ≤ s.length + 1 := by split <;> simp
      rw [ht, List.length_append]; omega
    have hback : ∀ (s2 : List UInt8) (k2 : Nat), specGo l i s2 k2 = specGo l i0 [] k0 → k2 ≤ l.length → s2.length + i * 4813 ≤ 30000 → ∀ st : St, Weak C.m (lookN []) st (mkSt [(0, .ptr 0 0), (3, V.str s2), (4, V.int i)] [(0, .box true [.sl 1 (l.map V.int), V.int k2])] 1) → K' st :=
      fun s2 k2 h1 h2 h3 st hw => hL st (i, s2, k2) (lookN []) ⟨by show i ≤ 6; omega, h2, h3, h1⟩ (by show i < i + 1; omega) hw
    rcases (by omega : c = 0 ∨ c = 1 ∨ c = 2 ∨ c = 3 ∨ (4 ≤ c ∧ c ≤ 8)) with rfl | rfl | rfl | rfl | hc
    all_goals
      by_cases hse : s = []
      · subst hse
        first
          | (have c0 : (c == 0) = false := by simp; omega
             have c1 : (c == 1) = false := by simp; omega
             have c2 : (c == 2) = false := by simp; omega
             have c3 : (c == 3) = false := by simp; omega
             have hsp : specW l k1 c = namesD l k1 := by rw [specW, if_neg (by omega), if_neg (by omega), if_neg (by omega), if_neg (by omega)]
             rw [hsp] at hinv step hw
             repeat' (first | refine awp_seqR fun K' hK => ?_ | refine awp_regR fun K' hK => ?_ | refine awp_seqK ?_ | refine awp_skip ?_ | refine awp_block ?_ | ((first | refine awp_cond ⟨_, rfl, fun hc => ?_, fun hc => ?_⟩ | refine awB_t (fun hc => ?_) (fun hc => ?_) | refine awB_f (fun hc => ?_) (fun hc => ?_)) <;> first | exact Bool.noConfusion hc | ((try simp only [decide_eq_true_eq, decide_eq_false_iff_not, beq_iff_eq, beq_eq_false_iff_ne, ne_eq, Bool.not_eq_true', Bool.not_eq_false'] at hc); first | (exfalso; simp only [List.length_map] at hc; omega) | (exfalso; omega) | skip)) | refine awp_ret ?_ | refine awp_exit ?_ | simp (maxSteps := 1000000) only [go_sem, Nat.reduceAdd, Nat.reduceMul, Nat.reduceEqDiff, Nat.reduceLeDiff, Nat.reduceLT, Nat.reduceSub, Int.reduceEq, Int.reduceBEq, Int.reduceLT, Int.reduceLE, Int.reduceAdd, Int.reduceToNat, reduceIte, reduceCtorEq, mkSt, e1, ew, c0, c1, c2, c3] | (refine hK _ ?_; clear hK; clear K') | refine And.intro ?_ ?_ | (apply awCs_D; (focus (exact rfl)); (focus (first | exact n1 | exact n2 | exact (h_make_Dice__Next _ _ _ (by first | assumption | omega | (simp; done)) (by first | assumption | omega | (simp; done))) | exact (h_law08_names _ _ (by first | assumption | omega | (simp; done)) (by first | assumption | omega | (simp; done))))); (focus (exact rfl)); (focus (exact rfl))) | (simp only [List.length_append, List.length_cons, List.length_nil, List.length_map, Nat.reducePow, Nat.reduceAdd]; omega) | omega | exact List.mem_singleton_self _)
             exact hback _ _ hinv hw (step _ rfl) _ (weak_g [] (by simp only [go_sem, Nat.reduceAdd, Nat.reduceMul, Nat.reduceEqDiff, Nat.reduceLT, Int.reduceToNat, reduceIte, reduceCtorEq, and_true, true_and, implies_true, Option.some.injEq, exists_eq_left', closedL_ren, closed_ren]; (repeat' (first | rfl | refine And.intro ?_ ?_ | omega | exact fun h => h | exact Exists.intro _ rfl))) (by simp only [go_sem, Nat.reduceAdd, Nat.reduceMul, Nat.reduceEqDiff, Nat.reduceLT, Int.reduceToNat, reduceIte, reduceCtorEq, and_true, true_and, implies_true, Option.some.injEq, exists_eq_left', closedL_ren, closed_ren]; (repeat' (first | rfl | refine And.intro ?_ ?_ | omega | exact fun h => h | exact Exists.intro _ rfl))) (by simp) (by simp) (by omega)))
          | (repeat' (first | refine awp_seqR fun K' hK => ?_ | refine awp_regR fun K' hK => ?_ | refine awp_seqK ?_ | refine awp_skip ?_ | refine awp_block ?_ | ((first | refine awp_cond ⟨_, rfl, fun hc => ?_, fun hc => ?_⟩ | refine awB_t (fun hc => ?_) (fun hc => ?_) | refine awB_f (fun hc => ?_) (fun hc => ?_)) <;> first | exact Bool.noConfusion hc | ((try simp only [decide_eq_true_eq, decide_eq_false_iff_not, beq_iff_eq, beq_eq_false_iff_ne, ne_eq, Bool.not_eq_true', Bool.not_eq_false'] at hc); first | (exfalso; simp only [List.length_map] at hc; omega) | (exfalso; omega) | skip)) | refine awp_ret ?_ | refine awp_exit ?_ | simp (maxSteps := 1000000) only [go_sem, Nat.reduceAdd, Nat.reduceMul, Nat.reduceEqDiff, Nat.reduceLeDiff, Nat.reduceLT, Nat.reduceSub, Int.reduceEq, Int.reduceBEq, Int.reduceLT, Int.reduceLE, Int.reduceAdd, Int.reduceToNat, reduceIte, reduceCtorEq, mkSt, e1, ew] | (refine hK _ ?_; clear hK; clear K') | refine And.intro ?_ ?_ | (apply awCs_D; (focus (exact rfl)); (focus (first | exact n1 | exact n2 | exact (h_make_Dice__Next _ _ _ (by first | assumption | omega | (simp; done)) (by first | assumption | omega | (simp; done))) | exact (h_law08_names _ _ (by first | assumption | omega | (simp; done)) (by first | assumption | omega | (simp; done))))); (focus (exact rfl)); (focus (exact rfl))) | (simp only [List.length_append, List.length_cons, List.length_nil, List.length_map, Nat.reducePow, Nat.reduceAdd]; omega) | omega | exact List.mem_singleton_self _)
             exact hback _ _ hinv hw (step _ rfl) _ (weak_g [] (by simp only [go_sem, Nat.reduceAdd, Nat.reduceMul, Nat.reduceEqDiff, Nat.reduceLT, Int.reduceToNat, reduceIte, reduceCtorEq, and_true, true_and, implies_true, Option.some.injEq, exists_eq_left', closedL_ren, closed_ren]; (repeat' (first | rfl | refine And.intro ?_ ?_ | omega | exact fun h => h | exact Exists.intro _ rfl))) (by simp only [go_sem, Nat.reduceAdd, Nat.reduceMul, Nat.reduceEqDiff, Nat.reduceLT, Int.reduceToNat, reduceIte, reduceCtorEq, and_true, true_and, implies_true, Option.some.injEq, exists_eq_left', closedL_ren, closed_ren]; (repeat' (first | rfl | refine And.intro ?_ ?_ | omega | exact fun h => h | exact Exists.intro _ rfl))) (by simp) (by simp) (by omega)))
      · have e5 : (s == []) = false := by simpa using hse
        simp only [if_neg hse] at hinv step
        first
          | (have c0 : (c == 0) = false := by simp; omega
             have c1 : (c == 1) = false := by simp; omega
             have c2 : (c == 2) = false := by simp; omega
             have c3 : (c == 3) = false := by simp; omega
             have hsp : specW l k1 c = namesD l k1 := by rw [specW, if_neg (by omega), if_neg (by omega), if_neg (by omega), if_neg (by omega)]
             rw [hsp] at hinv step hw
             repeat' (first | refine awp_seqR fun K' hK => ?_ | refine awp_regR fun K' hK => ?_ | refine awp_seqK ?_ | refine awp_skip ?_ | refine awp_block ?_ | ((first | refine awp_cond ⟨_, rfl, fun hc => ?_, fun hc => ?_⟩ | refine awB_t (fun hc => ?_) (fun hc => ?_) | refine awB_f (fun hc => ?_) (fun hc => ?_)) <;> first | exact Bool.noConfusion hc | ((try simp only [decide_eq_true_eq, decide_eq_false_iff_not, beq_iff_eq, beq_eq_false_iff_ne, ne_eq, Bool.not_eq_true', Bool.not_eq_false'] at hc); first | (exfalso; simp only [List.length_map] at hc; omega) | (exfalso; omega) | skip)) | refine awp_ret ?_ | refine awp_exit ?_ | simp (maxSteps := 1000000) only [go_sem, Nat.reduceAdd, Nat.reduceMul, Nat.reduceEqDiff, Nat.reduceLeDiff, Nat.reduceLT, Nat.reduceSub, Int.reduceEq, Int.reduceBEq, Int.reduceLT, Int.reduceLE, Int.reduceAdd, Int.reduceToNat, reduceIte, reduceCtorEq, mkSt, e1, ew, e5, c0, c1, c2, c3] | (refine hK _ ?_; clear hK; clear K') | refine And.intro ?_ ?_ | (apply awCs_D; (focus (exact rfl)); (focus (first | exact n1 | exact n2 | exact (h_make_Dice__Next _ _ _ (by first | assumption | omega | (simp; done)) (by first | assumption | omega | (simp; done))) | exact (h_law08_names _ _ (by first | assumption | omega | (simp; done)) (by first | assumption | omega | (simp; done))))); (focus (exact rfl)); (focus (exact rfl))) | (simp only [List.length_append, List.length_cons, List.length_nil, List.length_map, Nat.reducePow, Nat.reduceAdd]; omega) | omega | exact List.mem_singleton_self _)
             exact hback _ _ hinv hw (step _ rfl) _ (weak_g [] (by simp only [go_sem, Nat.reduceAdd, Nat.reduceMul, Nat.reduceEqDiff, Nat.reduceLT, Int.reduceToNat, reduceIte, reduceCtorEq, and_true, true_and, implies_true, Option.some.injEq, exists_eq_left', closedL_ren, closed_ren]; (repeat' (first | rfl | refine And.intro ?_ ?_ | omega | exact fun h => h | exact Exists.intro _ rfl))) (by simp only [go_sem, Nat.reduceAdd, Nat.reduceMul, Nat.reduceEqDiff, Nat.reduceLT, Int.reduceToNat, reduceIte, reduceCtorEq, and_true, true_and, implies_true, Option.some.injEq, exists_eq_left', closedL_ren, closed_ren]; (repeat' (first | rfl | refine And.intro ?_ ?_ | omega | exact fun h => h | exact Exists.intro _ rfl))) (by simp) (by simp) (by omega)))
          | (simp only [specW, Int.reduceEq, reduceIte, ← List.append_assoc] at hinv step hw
             repeat' (first | refine awp_seqR fun K' hK => ?_ | refine awp_regR fun K' hK => ?_ | refine awp_seqK ?_ | refine awp_skip ?_ | refine awp_block ?_ | ((first | refine awp_cond ⟨_, rfl, fun hc => ?_, fun hc => ?_⟩ | refine awB_t (fun hc => ?_) (fun hc => ?_) | refine awB_f (fun hc => ?_) (fun hc => ?_)) <;> first | exact Bool.noConfusion hc | ((try simp only [decide_eq_true_eq, decide_eq_false_iff_not, beq_iff_eq, beq_eq_false_iff_ne, ne_eq, Bool.not_eq_true', Bool.not_eq_false'] at hc); first | (exfalso; simp only [List.length_map] at hc; omega) | (exfalso; omega) | skip)) | refine awp_ret ?_ | refine awp_exit ?_ | simp (maxSteps := 1000000) only [go_sem, Nat.reduceAdd, Nat.reduceMul, Nat.reduceEqDiff, Nat.reduceLeDiff, Nat.reduceLT, Nat.reduceSub, Int.reduceEq, Int.reduceBEq, Int.reduceLT, Int.reduceLE, Int.reduceAdd, Int.reduceToNat, reduceIte, reduceCtorEq, mkSt, e1, ew, e5] | (refine hK _ ?_; clear hK; clear K') | refine And.intro ?_ ?_ | (apply awCs_D; (focus (exact rfl)); (focus (first | exact n1 | exact n2 | exact (h_make_Dice__Next _ _ _ (by first | assumption | omega | (simp; done)) (by first | assumption | omega | (simp; done))) | exact (h_law08_names _ _ (by first | assumption | omega | (simp; done)) (by first | assumption | omega | (simp; done))))); (focus (exact rfl)); (focus (exact rfl))) | (simp only [List.length_append, List.length_cons, List.length_nil, List.length_map, Nat.reducePow, Nat.reduceAdd]; omega) | omega | exact List.mem_singleton_self _)
             exact hback _ _ hinv hw (step _ rfl) _ (weak_g [] (by simp only [go_sem, Nat.reduceAdd, Nat.reduceMul, Nat.reduceEqDiff, Nat.reduceLT, Int.reduceToNat, reduceIte, reduceCtorEq, and_true, true_and, implies_true, Option.some.injEq, exists_eq_left', closedL_ren, closed_ren]; (repeat' (first | rfl | refine And.intro ?_ ?_ | omega | exact fun h => h | exact Exists.intro _ rfl))) (by simp only [go_sem, Nat.reduceAdd, Nat.reduceMul, Nat.reduceEqDiff, Nat.reduceLT, Int.reduceToNat, reduceIte, reduceCtorEq, and_true, true_and, implies_true, Option.some.injEq, exists_eq_left', closedL_ren, closed_ren]; (repeat' (first | rfl | refine And.intro ?_ ?_ | omega | exact fun h => h | exact Exists.intro _ rfl))) (by simp) (by simp) (by omega)))
end Av
end

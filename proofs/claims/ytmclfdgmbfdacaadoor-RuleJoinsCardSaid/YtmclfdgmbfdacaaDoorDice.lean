/- Dice -/
import Derived.Test.YtmclfdgmbfdacaaDoorCat
import Derived.Test.YtmclfdgmbfdacaaDoorAvM
set_option linter.unusedVariables false
set_option linter.unusedSimpArgs false
section
set_option linter.unusedSimpArgs false
set_option linter.unusedVariables false
set_option maxRecDepth 10000
set_option maxHeartbeats 4000000
namespace Av
open Go
attribute [local irreducible] AWp runO runP runG awS awC awCv awQ awRd awCallR awCvR awQR awR awRdR awB okR plan ris
def dcell (l : List Int) (k : Nat) : List V := [.sl 1 (l.map V.int), V.int k]
theorem dcell_closed (l : List Int) (k : Nat) : closedL (dcell l k) := by simp only [dcell, V.closed, closedL, and_self]
def nextD (l : List Int) (k : Nat) (n : Int) : Int × Nat := if k < l.length then (modV (l.getD k 0) n, k + 1) else (0, k)
theorem nextD_le {l : List Int} {k : Nat} {n : Int} (hk : k ≤ l.length) : (nextD l k n).2 ≤ l.length := by
  unfold nextD; split
  · show k + 1 ≤ l.length; omega
  · exact hk
theorem modV_range {a n : Int} (h1 : 1 ≤ n) (h2 : n < 2 ^ 62) : 0 ≤ modV a n ∧ modV a n < n := by
  unfold modV
  rw [if_neg (by omega)]
  have ha := Int.tmod_lt_of_pos a (show 0 < n by omega)
  have hb : -n < a.tmod n := by
    have := Int.tmod_lt_of_pos (-a) (show 0 < n by omega)
    rw [Int.neg_tmod] at this; omega
  rw [wrap_id (by omega) (by omega)]
  exact ⟨Int.tmod_nonneg _ (by omega), Int.tmod_lt_of_pos _ (by omega)⟩
theorem nextD_range {l : List Int} {k : Nat} {n : Int} (h1 : 1 ≤ n) (h2 : n < 2 ^ 62) : 0 ≤ (nextD l k n).1 ∧ (nextD l k n).1 < n := by
  unfold nextD; split
  · exact modV_range h1 h2
  · show (0 : Int) ≤ 0 ∧ (0 : Int) < n; omega
def c_make_Light : AC := seqK [0] (.reg [mc 2 (V.bool false)]) (seqK [2] (.reg [mv 3 0, ln 4 3, bc 5 .leq 4 (V.int 400), mv 2 5]) (.ret)) def r_make_Light : List ARes := [.tmp 2]
def CE_make_Light (Γ : Env) (f : Nat) : Prop := ∀ (l : List Int), EvN Γ f [.sl 1 (l.map V.int)] (V.bool (decide ((l.length : Int) ≤ 400)))
theorem ev_make_Light {Γ : Env} {f : Nat} (h : Has Γ.P f 6 c_make_Light r_make_Light)  : CE_make_Light Γ f := by
  intro l
  refine evN_of_body h (by simp) (by simp only [V.closed, closedL, V.noSl, noSlL, and_self, and_true, true_and]) (by simp only [V.closed, closedL, V.noSl, noSlL, and_self, and_true, true_and]) fun C hC hm => ?_
  subst hC
  unfold c_make_Light
  repeat' (first | refine awp_seqR fun K' hK => ?_ | refine awp_regR fun K' hK => ?_ | refine awp_seqK ?_ | refine awp_skip ?_ | refine awp_block ?_ | ((first | refine awp_cond ⟨_, rfl, fun hc => ?_, fun hc => ?_⟩ | refine awB_t (fun hc => ?_) (fun hc => ?_) | refine awB_f (fun hc => ?_) (fun hc => ?_)) <;> first | exact Bool.noConfusion hc | ((try simp only [decide_eq_true_eq, decide_eq_false_iff_not, beq_iff_eq, beq_eq_false_iff_ne, ne_eq, Bool.not_eq_true', Bool.not_eq_false'] at hc); first | (exfalso; simp only [List.length_map] at hc; omega) | (exfalso; omega) | skip)) | refine awp_ret ?_ | refine awp_exit ?_ | simp (maxSteps := 1000000) only [go_sem, Nat.reduceAdd, Nat.reduceMul, Nat.reduceEqDiff, Nat.reduceLeDiff, Nat.reduceLT, Nat.reduceSub, Int.reduceEq, Int.reduceBEq, Int.reduceLT, Int.reduceLE, Int.reduceAdd, Int.reduceToNat, reduceIte, reduceCtorEq, List.length_map] | (refine hK _ ?_; clear hK; clear K') | refine And.intro ?_ ?_ | (simp only [List.length_append, List.length_cons, List.length_nil, List.length_map, Nat.reducePow, Nat.reduceAdd]; omega) | omega | exact List.mem_singleton_self _)
  refine ends_r _ rfl ?_; simp only [go_sem, Nat.reduceEqDiff, Nat.reduceAdd, reduceIte, reduceCtorEq]
def c_make_Roll : AC := seqK [0] (.reg [mc 2 (.sc (.pointer none))]) (seqK [2] (.reg [mv 3 0, xo 4 (.build [(.slice none 0 0), (.int .i64 0)] [(0, 1, (.t 3))]), xo 5 (.box true 2 (.t 4)), mv 2 5]) (.ret)) def r_make_Roll : List ARes := [.tmp 2]
def CE_make_Roll (Γ : Env) (f : Nat) : Prop := ∀ (l : List Int), EvR Γ f [.sl 1 (l.map V.int)] (dcell l 0)
theorem ev_make_Roll {Γ : Env} {f : Nat} (h : Has Γ.P f 6 c_make_Roll r_make_Roll)  : CE_make_Roll Γ f := by
  intro l
  refine evR_of_body h (by simp) (by simp only [dcell, V.closed, closedL, and_self]) fun C hC hm => ?_
  subst hC
  unfold c_make_Roll
  repeat' (first | refine awp_seqR fun K' hK => ?_ | refine awp_regR fun K' hK => ?_ | refine awp_seqK ?_ | refine awp_skip ?_ | refine awp_block ?_ | ((first | refine awp_cond ⟨_, rfl, fun hc => ?_, fun hc => ?_⟩ | refine awB_t (fun hc => ?_) (fun hc => ?_) | refine awB_f (fun hc => ?_) (fun hc => ?_)) <;> first | exact Bool.noConfusion hc | ((try simp only [decide_eq_true_eq, decide_eq_false_iff_not, beq_iff_eq, beq_eq_false_iff_ne, ne_eq, Bool.not_eq_true', Bool.not_eq_false'] at hc); first | (exfalso; simp only [List.length_map] at hc; omega) | (exfalso; omega) | skip)) | refine awp_ret ?_ | refine awp_exit ?_ | simp (maxSteps := 1000000) only [go_sem, Nat.reduceAdd, Nat.reduceMul, Nat.reduceEqDiff, Nat.reduceLeDiff, Nat.reduceLT, Nat.reduceSub, Int.reduceEq, Int.reduceBEq, Int.reduceLT, Int.reduceLE, Int.reduceAdd, Int.reduceToNat, reduceIte, reduceCtorEq] | (refine hK _ ?_; clear hK; clear K') | refine And.intro ?_ ?_ | (simp only [List.length_append, List.length_cons, List.length_nil, List.length_map, Nat.reducePow, Nat.reduceAdd]; omega) | omega | exact List.mem_singleton_self _)
  refine ends_n _ rfl rfl (by simp only [dcell, V.closed, closedL, and_self])

-- REGION make_Dice__Next 0: 10 operations, 1 orders, L [], X false, ok true
def o_make_Dice__Next_0 : List AO := [mv 5 0, nk 6 5, fa 7 1 6, ld 8 1 7, mv 9 0, nk 10 9, fa 11 0 10, ld 12 1 11, ln 13 12, bn 14 .geq 8 13]
def a_make_Dice__Next_0 : List (List Nat) := [[], [0], [1], [2], [], [4], [5], [6], [7], [3, 8]]
def t_make_Dice__Next_0 : OT := .one 0 (.one 1 (.one 2 (.one 3 (.one 4 (.one 5 (.one 6 (.one 7 (.one 8 (.one 9 (.done))))))))))
def p_make_Dice__Next_0 : OP := .one 0 false [] (mv 5 0) (.one 1 false [] (nk 6 5) (.one 2 false [] (fa 7 1 6) (.one 3 false [] (ld 8 1 7) (.one 4 false [] (mv 9 0) (.one 5 false [] (nk 10 9) (.one 6 false [] (fa 11 0 10) (.one 7 false [] (ld 12 1 11) (.one 8 false [] (ln 13 12) (.one 9 false [] (bn 14 .geq 8 13) (.done))))))))))
theorem k_make_Dice__Next_0 : okR (o_make_Dice__Next_0) a_make_Dice__Next_0 [] t_make_Dice__Next_0 = true := by kernel_rfl
theorem q_make_Dice__Next_0 : plan (ris (o_make_Dice__Next_0) a_make_Dice__Next_0 []) t_make_Dice__Next_0 = p_make_Dice__Next_0 := by kernel_rfl -- REGION make_Dice__Next 1: 14 operations, 1 orders, L [], X false, ok true
def o_make_Dice__Next_1 (f_make_Mod : Nat) : List AO := [mv 22 0, nk 23 22, fa 24 0 23, ld 25 1 24, mv 26 0, nk 27 26, fa 28 1 27, ld 29 1 28, bc 30 .sub 29 (V.int 1), ia 31 1 25 30, ld 32 1 31, mv 33 1, cl 34 f_make_Mod [32, 33], mv 4 34]
def a_make_Dice__Next_1 : List (List Nat) := [[], [0], [1], [2], [], [4], [5], [6], [7], [3, 8], [9], [], [10, 11], [12, 12, 0, 1, 2, 3, 4, 5, 6, 7, 8, 9, 10, 11, 12]]
def t_make_Dice__Next_1 : OT := .one 0 (.one 1 (.one 2 (.one 3 (.one 4 (.one 5 (.one 6 (.one 7 (.one 8 (.one 9 (.one 10 (.one 11 (.one 12 (.one 13 (.done))))))))))))))
def p_make_Dice__Next_1 (f_make_Mod : Nat) : OP := .one 0 false [] (mv 22 0) (.one 1 false [] (nk 23 22) (.one 2 false [] (fa 24 0 23) (.one 3 false [] (ld 25 1 24) (.one 4 false [] (mv 26 0) (.one 5 false [] (nk 27 26) (.one 6 false [] (fa 28 1 27) (.one 7 false [] (ld 29 1 28) (.one 8 false [] (bc 30 .sub 29 (V.int 1)) (.one 9 false [] (ia 31 1 25 30) (.one 10 false [] (ld 32 1 31) (.one 11 false [] (mv 33 1) (.one 12 false [] (cl 34 f_make_Mod [32, 33]) (.one 13 false [12] (mv 4 34) (.done))))))))))))))
theorem k_make_Dice__Next_1 (f_make_Mod : Nat) : okR (o_make_Dice__Next_1 f_make_Mod) a_make_Dice__Next_1 [] t_make_Dice__Next_1 = true := by kernel_rfl
theorem q_make_Dice__Next_1 (f_make_Mod : Nat) : plan (ris (o_make_Dice__Next_1 f_make_Mod) a_make_Dice__Next_1 []) t_make_Dice__Next_1 = p_make_Dice__Next_1 f_make_Mod := by kernel_rfl def c_make_Dice__Next (f_make_Mod : Nat) : AC := seqK [0, 1] (.reg [mc 4 (V.int 0)]) (seqK [0, 1] (seqK [0, 1, 14] (regK [] t_make_Dice__Next_0 (p_make_Dice__Next_0) (o_make_Dice__Next_0) a_make_Dice__Next_0) (.cond (.t 14) (seqK [4] (.reg [mc 4 (V.int 0)]) (.ret)) (.skip))) (seqK [0, 1] (.reg [mv 15 0, nk 16 15, fa 17 1 16, ld 18 1 17, bc 19 .add 18 (V.int 1), nk 20 15, fa 21 1 20, xs 1 21 19]) (seqK [4] (regK [] t_make_Dice__Next_1 (p_make_Dice__Next_1 f_make_Mod) (o_make_Dice__Next_1 f_make_Mod) a_make_Dice__Next_1) (.ret)))) def r_make_Dice__Next : List ARes := [.tmp 4]
def CE_make_Dice__Next (Γ : Env) (f : Nat) : Prop := ∀ (l : List Int) (k : Nat) (n : Int) (hl : l.length ≤ 400) (hk : k ≤ l.length), EvD Γ f [V.int n] (dcell l k) (V.int (nextD l k n).1) (dcell l (nextD l k n).2)
theorem ev_make_Dice__Next {Γ : Env} {f f_make_Mod : Nat} (h : Has Γ.P f 35 (c_make_Dice__Next f_make_Mod) r_make_Dice__Next) (h_make_Mod : CE_make_Mod Γ f_make_Mod) : CE_make_Dice__Next Γ f := by
  intro l k n hl hk
  refine evD_of_body h (by simp) (by simp only [V.closed, closedL, V.noSl, noSlL, and_self, and_true, true_and]) (by first | exact dcell_closed _ _ | simp only [V.closed, closedL, and_self, and_true, true_and]) (by first | exact dcell_closed _ _ | simp only [V.closed, closedL, and_self, and_true, true_and]) fun C hC hm => ?_
  subst hC
  unfold c_make_Dice__Next
  by_cases h1 : k < l.length
  · have e1 : decide ((k : Int) ≥ (((l.map V.int).length : Nat) : Int)) = false := by simp; omega
    have hget : l[k]? = some (l.getD k 0) := by simp [List.getD_eq_getElem?_getD, List.getElem?_eq_getElem h1]
    have hw := wrap_succ (k := k) (by omega)
    have hw2 : IntKind.i64.wrap (((k + 1 : Nat) : Int) - 1) = (k : Int) := by rw [wrap_id (by omega) (by omega)]; omega
    have hn : nextD l k n = (modV (l.getD k 0) n, k + 1) := by rw [nextD, if_pos h1]
    rw [hn]
    repeat' (first | refine awp_seqR fun K' hK => ?_ | refine awp_regR fun K' hK => ?_ | refine awp_seqP 10 (fun _ => true) rfl (k_make_Dice__Next_0) (q_make_Dice__Next_0) fun K' hK => ?_ | refine awp_regP 10 (fun _ => true) rfl (k_make_Dice__Next_0) (q_make_Dice__Next_0) fun K' hK => ?_ | refine awp_seqP 14 (fun _ => true) rfl (k_make_Dice__Next_1 _) (q_make_Dice__Next_1 _) fun K' hK => ?_ | refine awp_regP 14 (fun _ => true) rfl (k_make_Dice__Next_1 _) (q_make_Dice__Next_1 _) fun K' hK => ?_ | refine awp_seqK ?_ | refine awp_skip ?_ | refine awp_block ?_ | ((first | refine awp_cond ⟨_, rfl, fun hc => ?_, fun hc => ?_⟩ | refine awB_t (fun hc => ?_) (fun hc => ?_) | refine awB_f (fun hc => ?_) (fun hc => ?_)) <;> first | exact Bool.noConfusion hc | ((try simp only [decide_eq_true_eq, decide_eq_false_iff_not, beq_iff_eq, beq_eq_false_iff_ne, ne_eq, Bool.not_eq_true', Bool.not_eq_false'] at hc); first | (exfalso; simp only [List.length_map] at hc; omega) | (exfalso; omega) | skip)) | refine awp_ret ?_ | refine awp_exit ?_ | simp (maxSteps := 1000000) only [go_sem, Nat.reduceAdd, Nat.reduceMul, Nat.reduceEqDiff, Nat.reduceLeDiff, Nat.reduceLT, Nat.reduceSub, Int.reduceEq, Int.reduceBEq, Int.reduceLT, Int.reduceLE, Int.reduceAdd, Int.reduceToNat, reduceIte, reduceCtorEq, dcell, e1, hw, hw2, Int.toNat_natCast, List.getElem?_map, hget, p_make_Dice__Next_0, p_make_Dice__Next_1] | (refine hK _ ?_; clear hK; clear K') | refine And.intro ?_ ?_ | ((first | apply awCs_A | apply awCRs_A); (focus (first | exact (h_make_Mod _ _).b))) | (simp only [List.length_append, List.length_cons, List.length_nil, List.length_map, Nat.reducePow, Nat.reduceAdd]; omega) | omega | exact List.mem_singleton_self _)
    all_goals (refine ends_d _ rfl rfl (by simp only [V.closed, closedL, and_self, and_true, true_and]) ?_; simp only [go_sem, Nat.reduceEqDiff, Nat.reduceAdd, reduceIte, reduceCtorEq])
  · have e1 : decide ((k : Int) ≥ (((l.map V.int).length : Nat) : Int)) = true := by simp; omega
    have hn : nextD l k n = (0, k) := by rw [nextD, if_neg h1]
    rw [hn]
    repeat' (first | refine awp_seqR fun K' hK => ?_ | refine awp_regR fun K' hK => ?_ | refine awp_seqP 10 (fun _ => true) rfl (k_make_Dice__Next_0) (q_make_Dice__Next_0) fun K' hK => ?_ | refine awp_regP 10 (fun _ => true) rfl (k_make_Dice__Next_0) (q_make_Dice__Next_0) fun K' hK => ?_ | refine awp_seqP 14 (fun _ => true) rfl (k_make_Dice__Next_1 _) (q_make_Dice__Next_1 _) fun K' hK => ?_ | refine awp_regP 14 (fun _ => true) rfl (k_make_Dice__Next_1 _) (q_make_Dice__Next_1 _) fun K' hK => ?_ | refine awp_seqK ?_ | refine awp_skip ?_ | refine awp_block ?_ | ((first | refine awp_cond ⟨_, rfl, fun hc => ?_, fun hc => ?_⟩ | refine awB_t (fun hc => ?_) (fun hc => ?_) | refine awB_f (fun hc => ?_) (fun hc => ?_)) <;> first | exact Bool.noConfusion hc | ((try simp only [decide_eq_true_eq, decide_eq_false_iff_not, beq_iff_eq, beq_eq_false_iff_ne, ne_eq, Bool.not_eq_true', Bool.not_eq_false'] at hc); first | (exfalso; simp only [List.length_map] at hc; omega) | (exfalso; omega) | skip)) | refine awp_ret ?_ | refine awp_exit ?_ | simp (maxSteps := 1000000) only [go_sem, Nat.reduceAdd, Nat.reduceMul, Nat.reduceEqDiff, Nat.reduceLeDiff, Nat.reduceLT, Nat.reduceSub, Int.reduceEq, Int.reduceBEq, Int.reduceLT, Int.reduceLE, Int.reduceAdd, Int.reduceToNat, reduceIte, reduceCtorEq, dcell, e1, p_make_Dice__Next_0, p_make_Dice__Next_1] | (refine hK _ ?_; clear hK; clear K') | refine And.intro ?_ ?_ | ((first | apply awCs_A | apply awCRs_A); (focus (first | exact (h_make_Mod _ _).b))) | (simp only [List.length_append, List.length_cons, List.length_nil, List.length_map, Nat.reducePow, Nat.reduceAdd]; omega) | omega | exact List.mem_singleton_self _)
    all_goals (refine ends_d _ rfl rfl (by simp only [V.closed, closedL, and_self, and_true, true_and]) ?_; simp only [go_sem, Nat.reduceEqDiff, Nat.reduceAdd, reduceIte, reduceCtorEq])
def ofD (l : List Int) (k : Nat) (xs : List Int) : Int × Nat := (xs.getD (nextD l k xs.length).1.toNat 0, (nextD l k xs.length).2)
theorem ofD_mem {l : List Int} {k : Nat} {xs : List Int} (h : xs ≠ []) (h2 : xs.length < 2 ^ 62) : (ofD l k xs).1 ∈ xs := by
  have h1 : 1 ≤ xs.length := by cases xs with | nil => exact (h rfl).elim | cons _ _ => simp
  have := nextD_range (l := l) (k := k) (n := xs.length) (by omega) (by omega)
  have hk : (nextD l k xs.length).1.toNat < xs.length := by omega
  unfold ofD
  simp only [List.getD_eq_getElem?_getD, List.getElem?_eq_getElem hk, Option.getD_some]
  exact List.getElem_mem hk
theorem ofD_le {l : List Int} {k : Nat} {xs : List Int} (hk : k ≤ l.length) : (ofD l k xs).2 ≤ l.length := nextD_le hk
def c_make_Dice__Of (f_make_Dice__Next : Nat) : AC := seqK [0, 1] (.reg [mc 4 (V.int 0)]) (seqK [4] (.reg [mv 5 1, mv 6 0, mv 7 1, ln 8 7, cl 9 f_make_Dice__Next [6, 8], ia 10 1 5 9, ld 11 1 10, mv 4 11]) (.ret)) def r_make_Dice__Of : List ARes := [.tmp 4]
def CE_make_Dice__Of (Γ : Env) (f : Nat) : Prop := ∀ (l : List Int) (k : Nat) (xs : List Int) (hl : l.length ≤ 400) (hk : k ≤ l.length) (hx : 1 ≤ xs.length) (hx2 : xs.length < 2 ^ 62), EvD Γ f [.sl 1 (xs.map V.int)] (dcell l k) (V.int (ofD l k xs).1) (dcell l (ofD l k xs).2)
theorem ev_make_Dice__Of {Γ : Env} {f f_make_Dice__Next : Nat} (h : Has Γ.P f 12 (c_make_Dice__Of f_make_Dice__Next) r_make_Dice__Of) (h_make_Dice__Next : CE_make_Dice__Next Γ f_make_Dice__Next) : CE_make_Dice__Of Γ f := by
  intro l k xs hl hk hx hx2
  refine evD_of_body h (by simp) (by simp only [V.closed, closedL, V.noSl, noSlL, and_self, and_true, true_and]) (by first | exact dcell_closed _ _ | simp only [V.closed, closedL, and_self, and_true, true_and]) (by first | exact dcell_closed _ _ | simp only [V.closed, closedL, and_self, and_true, true_and]) fun C hC hm => ?_
  subst hC
  unfold c_make_Dice__Of
  have hr := nextD_range (l := l) (k := k) (n := xs.length) (by omega) (by omega)
  have hget : xs[(nextD l k xs.length).1.toNat]? = some (ofD l k xs).1 := by
    have hk : (nextD l k xs.length).1.toNat < xs.length := by omega
    simp [ofD, List.getD_eq_getElem?_getD, List.getElem?_eq_getElem hk]
  have hn := h_make_Dice__Next l k xs.length hl hk
  have e2 : dcell l (ofD l k xs).2 = dcell l (nextD l k xs.length).2 := rfl
  rw [e2]
  simp only [dcell] at hn
  repeat' (first | refine awp_seqR fun K' hK => ?_ | refine awp_regR fun K' hK => ?_ | refine awp_seqK ?_ | refine awp_skip ?_ | refine awp_block ?_ | ((first | refine awp_cond ⟨_, rfl, fun hc => ?_, fun hc => ?_⟩ | refine awB_t (fun hc => ?_) (fun hc => ?_) | refine awB_f (fun hc => ?_) (fun hc => ?_)) <;> first | exact Bool.noConfusion hc | ((try simp only [decide_eq_true_eq, decide_eq_false_iff_not, beq_iff_eq, beq_eq_false_iff_ne, ne_eq, Bool.not_eq_true', Bool.not_eq_false'] at hc); first | (exfalso; simp only [List.length_map] at hc; omega) | (exfalso; omega) | skip)) | refine awp_ret ?_ | refine awp_exit ?_ | simp (maxSteps := 1000000) only [go_sem, Nat.reduceAdd, Nat.reduceMul, Nat.reduceEqDiff, Nat.reduceLeDiff, Nat.reduceLT, Nat.reduceSub, Int.reduceEq, Int.reduceBEq, Int.reduceLT, Int.reduceLE, Int.reduceAdd, Int.reduceToNat, reduceIte, reduceCtorEq, dcell, List.length_map, List.getElem?_map, hget] | (refine hK _ ?_; clear hK; clear K') | refine And.intro ?_ ?_ | (apply awCs_D; (focus (exact rfl)); (focus (first | exact hn | exact (h_make_Dice__Next _ _ _ (by first | assumption | omega | (simp; done)) (by first | assumption | omega | (simp; done))))); (focus (exact rfl)); (focus (exact rfl))) | (simp only [List.length_append, List.length_cons, List.length_nil, List.length_map, Nat.reducePow, Nat.reduceAdd]; omega) | omega | exact List.mem_singleton_self _)
  refine ends_d _ rfl rfl (by simp only [V.closed, closedL, and_self, and_true, true_and]) ?_; simp only [go_sem, Nat.reduceEqDiff, Nat.reduceAdd, reduceIte, reduceCtorEq]
end Av
end
section
set_option linter.unusedSimpArgs false
set_option linter.unusedVariables false
set_option maxRecDepth 10000
set_option maxHeartbeats 4000000
namespace Av
open Go
attribute [local irreducible] AWp runO runP runG awS awC awCv awQ awRd awCallR awCvR awQR awR awRdR awB okR plan ris
def c_make_Dice__One (f_make_Dice__Next : Nat) : AC := seqK [0, 1] (.reg [mc 4 (V.bool false)]) (seqK [4] (.reg [mv 5 0, mv 6 1, cl 7 f_make_Dice__Next [5, 6], mv 8 1, bc 9 .sub 8 (V.int 1), bn 10 .eql 7 9, mv 4 10]) (.ret)) def r_make_Dice__One : List ARes := [.tmp 4]
def CE_make_Dice__One (Γ : Env) (f : Nat) : Prop := ∀ (l : List Int) (k : Nat) (n : Int) (hl : l.length ≤ 400) (hk : k ≤ l.length) (h1 : 1 ≤ n) (h2 : n < 2 ^ 62), EvD Γ f [V.int n] (dcell l k) (V.bool ((nextD l k n).1 == n - 1)) (dcell l (nextD l k n).2)
theorem ev_make_Dice__One {Γ : Env} {f f_make_Dice__Next : Nat} (h : Has Γ.P f 11 (c_make_Dice__One f_make_Dice__Next) r_make_Dice__One) (h_make_Dice__Next : CE_make_Dice__Next Γ f_make_Dice__Next) : CE_make_Dice__One Γ f := by
  intro l k n hl hk h1 h2
  refine evD_of_body h (by simp) (by simp only [V.closed, closedL, V.noSl, noSlL, and_self, and_true, true_and]) (by first | exact dcell_closed _ _ | simp only [V.closed, closedL, and_self, and_true, true_and]) (by first | exact dcell_closed _ _ | simp only [V.closed, closedL, and_self, and_true, true_and]) fun C hC hm => ?_
  subst hC
  unfold c_make_Dice__One
  have hn := h_make_Dice__Next l k n hl hk
  have hw : IntKind.i64.wrap (n - 1) = n - 1 := wrap_id (by omega) (by omega)
  simp only [dcell] at hn
  repeat' (first | refine awp_seqR fun K' hK => ?_ | refine awp_regR fun K' hK => ?_ | refine awp_seqK ?_ | refine awp_skip ?_ | refine awp_block ?_ | ((first | refine awp_cond ⟨_, rfl, fun hc => ?_, fun hc => ?_⟩ | refine awB_t (fun hc => ?_) (fun hc => ?_) | refine awB_f (fun hc => ?_) (fun hc => ?_)) <;> first | exact Bool.noConfusion hc | ((try simp only [decide_eq_true_eq, decide_eq_false_iff_not, beq_iff_eq, beq_eq_false_iff_ne, ne_eq, Bool.not_eq_true', Bool.not_eq_false'] at hc); first | (exfalso; simp only [List.length_map] at hc; omega) | (exfalso; omega) | skip)) | refine awp_ret ?_ | refine awp_exit ?_ | simp (maxSteps := 1000000) only [go_sem, Nat.reduceAdd, Nat.reduceMul, Nat.reduceEqDiff, Nat.reduceLeDiff, Nat.reduceLT, Nat.reduceSub, Int.reduceEq, Int.reduceBEq, Int.reduceLT, Int.reduceLE, Int.reduceAdd, Int.reduceToNat, reduceIte, reduceCtorEq, dcell, hw] | (refine hK _ ?_; clear hK; clear K') | refine And.intro ?_ ?_ | (apply awCs_D; (focus (exact rfl)); (focus (first | exact hn | exact (h_make_Dice__Next _ _ _ (by first | assumption | omega | (simp; done)) (by first | assumption | omega | (simp; done))))); (focus (exact rfl)); (focus (exact rfl))) | (simp only [List.length_append, List.length_cons, List.length_nil, List.length_map, Nat.reducePow, Nat.reduceAdd]; omega) | omega | exact List.mem_singleton_self _)
  refine ends_d _ rfl rfl (by simp only [V.closed, closedL, and_self, and_true, true_and]) ?_; simp only [go_sem, Nat.reduceEqDiff, Nat.reduceAdd, reduceIte, reduceCtorEq]
def wordD (l : List Int) (k : Nat) (xs : List (List UInt8)) : List UInt8 × Nat := (xs.getD (nextD l k xs.length).1.toNat [], (nextD l k xs.length).2)
theorem wordD_mem {l : List Int} {k : Nat} {xs : List (List UInt8)} (h1 : 1 ≤ xs.length) (h2 : xs.length < 2 ^ 62) : (wordD l k xs).1 ∈ xs := by
  have := nextD_range (l := l) (k := k) (n := xs.length) (by omega) (by omega)
  have hk : (nextD l k xs.length).1.toNat < xs.length := by omega
  unfold wordD
  simp only [List.getD_eq_getElem?_getD, List.getElem?_eq_getElem hk, Option.getD_some]
  exact List.getElem_mem hk
theorem wordD_le {l : List Int} {k : Nat} {xs : List (List UInt8)} (hk : k ≤ l.length) : (wordD l k xs).2 ≤ l.length := nextD_le hk
def c_make_Dice__Word (f_make_Dice__Next : Nat) : AC := seqK [0, 1] (.reg [mc 4 (V.str [])]) (seqK [4] (.reg [mv 5 1, mv 6 0, mv 7 1, ln 8 7, cl 9 f_make_Dice__Next [6, 8], ia 10 1 5 9, ld 11 1 10, mv 4 11]) (.ret)) def r_make_Dice__Word : List ARes := [.tmp 4]
def CE_make_Dice__Word (Γ : Env) (f : Nat) : Prop := ∀ (l : List Int) (k : Nat) (xs : List (List UInt8)) (hl : l.length ≤ 400) (hk : k ≤ l.length) (hx : 1 ≤ xs.length) (hx2 : xs.length < 2 ^ 62), EvD Γ f [.sl 1 (xs.map V.str)] (dcell l k) (V.str (wordD l k xs).1) (dcell l (wordD l k xs).2)
theorem ev_make_Dice__Word {Γ : Env} {f f_make_Dice__Next : Nat} (h : Has Γ.P f 12 (c_make_Dice__Word f_make_Dice__Next) r_make_Dice__Word) (h_make_Dice__Next : CE_make_Dice__Next Γ f_make_Dice__Next) : CE_make_Dice__Word Γ f := by
  intro l k xs hl hk hx hx2
  refine evD_of_body h (by simp) (by simp only [V.closed, closedL, V.noSl, noSlL, and_self, and_true, true_and]) (by first | exact dcell_closed _ _ | simp only [V.closed, closedL, and_self, and_true, true_and]) (by first | exact dcell_closed _ _ | simp only [V.closed, closedL, and_self, and_true, true_and]) fun C hC hm => ?_
  subst hC
  unfold c_make_Dice__Word
  have hr := nextD_range (l := l) (k := k) (n := xs.length) (by omega) (by omega)
  have hget : xs[(nextD l k xs.length).1.toNat]? = some (wordD l k xs).1 := by
    have hk : (nextD l k xs.length).1.toNat < xs.length := by omega
    simp [wordD, List.getD_eq_getElem?_getD, List.getElem?_eq_getElem hk]
  have hn := h_make_Dice__Next l k xs.length hl hk
  have e2 : dcell l (wordD l k xs).2 = dcell l (nextD l k xs.length).2 := rfl
  rw [e2]
  simp only [dcell] at hn
  repeat' (first | refine awp_seqR fun K' hK => ?_ | refine awp_regR fun K' hK => ?_ | refine awp_seqK ?_ | refine awp_skip ?_ | refine awp_block ?_ | ((first | refine awp_cond ⟨_, rfl, fun hc => ?_, fun hc => ?_⟩ | refine awB_t (fun hc => ?_) (fun hc => ?_) | refine awB_f (fun hc => ?_) (fun hc => ?_)) <;> first | exact Bool.noConfusion hc | ((try simp only [decide_eq_true_eq, decide_eq_false_iff_not, beq_iff_eq, beq_eq_false_iff_ne, ne_eq, Bool.not_eq_true', Bool.not_eq_false'] at hc); first | (exfalso; simp only [List.length_map] at hc; omega) | (exfalso; omega) | skip)) | refine awp_ret ?_ | refine awp_exit ?_ | simp (maxSteps := 1000000) only [go_sem, Nat.reduceAdd, Nat.reduceMul, Nat.reduceEqDiff, Nat.reduceLeDiff, Nat.reduceLT, Nat.reduceSub, Int.reduceEq, Int.reduceBEq, Int.reduceLT, Int.reduceLE, Int.reduceAdd, Int.reduceToNat, reduceIte, reduceCtorEq, dcell, List.length_map, List.getElem?_map, hget] | (refine hK _ ?_; clear hK; clear K') | refine And.intro ?_ ?_ | (apply awCs_D; (focus (exact rfl)); (focus (first | exact hn | exact (h_make_Dice__Next _ _ _ (by first | assumption | omega | (simp; done)) (by first | assumption | omega | (simp; done))))); (focus (exact rfl)); (focus (exact rfl))) | (simp only [List.length_append, List.length_cons, List.length_nil, List.length_map, Nat.reducePow, Nat.reduceAdd]; omega) | omega | exact List.mem_singleton_self _)
  refine ends_d _ rfl rfl (by simp only [V.closed, closedL, and_self, and_true, true_and]) ?_; simp only [go_sem, Nat.reduceEqDiff, Nat.reduceAdd, reduceIte, reduceCtorEq]
def names2 : List (List UInt8) := [[101, 99, 100, 104, 101], [118, 51], [104, 105, 103, 104], [114, 115, 97], [97, 101, 97, 100]]
end Av
end

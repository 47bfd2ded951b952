/- Rc -/
import Derived.Test.YtmclfdgmbfdacaaDoorRb
set_option linter.unusedVariables false
set_option linter.unusedSimpArgs false
section
-- ALL all2.txt
set_option linter.unusedSimpArgs false
set_option linter.unusedVariables false
set_option maxRecDepth 10000
set_option maxHeartbeats 4000000
namespace Av
open Go
attribute [local irreducible] AWp runO runP runG awS awC awCv awQ awRd awCallR awCvR awQR awR awRdR awB okR plan ris
def loopR : List (List UInt8 × (List UInt8 → Int × Bool) × Nat) → PRule → WS → PRule × Bool
  | [], r, u => (r, u.isEmpty)
  | _ :: t, r, [] => loopR t r []
  | (w, rd, k) :: t, r, x :: u =>
    if x = w then
      match u with
      | [] => (r, false)
      | y :: v => if (rd y).2 = true then loopR t (r.setF k (rd y).1) v else (r.setF k (rd y).1, false)
    else loopR t r (x :: u)
def tblR : List (List UInt8 × (List UInt8 → Int × Bool) × Nat) := [([98, 101, 108, 111, 119], numR, 2), ([102, 111, 114], rdP, 3), ([102, 114, 111, 109], numR, 4), ([117, 110, 116, 105, 108], numR, 5)]
def ruleR : WS → PRule × Bool
  | [] => (⟨false, 0, 0, 0, 0, 40001⟩, false)
  | [x] => (⟨x == [97, 108, 108, 111, 119], 0, 0, 0, 0, 40001⟩, false)
  | x :: y :: u => if y ≠ [97, 110, 121] ∧ algP y = 0 then (⟨x == [97, 108, 108, 111, 119], 0, 0, 0, 0, 40001⟩, false) else loopR tblR ⟨x == [97, 108, 108, 111, 119], algP y, 0, 0, 0, 40001⟩ u
theorem loopR_ne {w : List UInt8} {rd : List UInt8 → Int × Bool} {k : Nat} {t : List (List UInt8 × (List UInt8 → Int × Bool) × Nat)} {r : PRule} {x : List UInt8} {u : WS} (h : ¬ x = w) : loopR ((w, rd, k) :: t) r (x :: u) = loopR t r (x :: u) := by
  cases u <;> (conv => lhs; unfold loopR) <;> simp only [if_neg h]
def o_ref17_rule_0 : List AO := [mv 39 5, mv 40 0, ln 41 40, bn 42 .geq 39 41, mv 43 42, mg 44 0 43 false, mg 45 5 43 false, xg 46 (.iaddr 1 (.t 44) (.t 45)) 43 false, xg 47 (.load false 1 (.t 46)) 43 false, mg 48 6 43 false, mg 49 7 43 false, xg 50 (.iaddr 1 (.t 48) (.t 49)) 43 false, xg 51 (.load false 1 (.t 50)) 43 false, xg 52 (.bin .neq (.t 47) (.t 51)) 43 false, xo 53 (.pick (.t 43) (.c (V.bool true)) (.t 52))]
def a_ref17_rule_0 : List (List Nat) := [[], [], [1], [0, 2], [3], [4], [4], [5, 6, 4], [7, 4], [4], [4], [9, 10, 4], [11, 4], [8, 12, 4], [4, 13]]
def t_ref17_rule_0 : OT := .one 0 (.one 1 (.one 2 (.one 3 (.one 4 (.one 5 (.one 6 (.one 7 (.one 8 (.one 9 (.one 10 (.one 11 (.one 12 (.one 13 (.one 14 (.done)))))))))))))))
def p_ref17_rule_0 : OP := .one 0 false [] (mv 39 5) (.one 1 false [] (mv 40 0) (.one 2 false [] (ln 41 40) (.one 3 false [] (bn 42 .geq 39 41) (.one 4 false [] (mv 43 42) (.one 5 false [] (mg 44 0 43 false) (.one 6 false [] (mg 45 5 43 false) (.one 7 false [] (xg 46 (.iaddr 1 (.t 44) (.t 45)) 43 false) (.one 8 false [] (xg 47 (.load false 1 (.t 46)) 43 false) (.one 9 false [] (mg 48 6 43 false) (.one 10 false [] (mg 49 7 43 false) (.one 11 false [] (xg 50 (.iaddr 1 (.t 48) (.t 49)) 43 false) (.one 12 false [] (xg 51 (.load false 1 (.t 50)) 43 false) (.one 13 false [] (xg 52 (.bin .neq (.t 47) (.t 51)) 43 false) (.one 14 false [] (xo 53 (.pick (.t 43) (.c (V.bool true)) (.t 52))) (.done)))))))))))))))
theorem k_ref17_rule_0 : okR (o_ref17_rule_0) a_ref17_rule_0 [] t_ref17_rule_0 = true := by kernel_rfl
theorem q_ref17_rule_0 : plan (ris (o_ref17_rule_0) a_ref17_rule_0 []) t_ref17_rule_0 = p_ref17_rule_0 := by kernel_rfl def c_ref17_rule (f_ref02_Find f_ref02_Number f_ref17_Purpose : Nat) : AC := seqK [0, 2] (.reg [xo 2 (.alloc [.val (.bool false), .val (.int .i64 0), .val (.int .i64 0), .val (.int .i64 0), .val (.int .i64 0), .val (.int .i64 0)]), mc 3 (V.bool false)]) (seqK [0, 2, 4] (.reg [mv 10 0, xo 11 (.iaddr 1 (.t 10) (.c (V.int 0))), ld 12 1 11, bc 13 .eql 12 (V.str [97, 108, 108, 111, 119]), xo 14 (.build [(.bool false), (.int .i64 0), (.int .i64 0), (.int .i64 0), (.int .i64 0), (.int .i64 0)] [(0, 1, (.t 13)), (5, 1, (.c (V.int 40001)))]), xo 4 (.alloc [.val (.bool false), .val (.int .i64 0), .val (.int .i64 0), .val (.int .i64 0), .val (.int .i64 0), .val (.int .i64 0)]), xs 6 4 14]) (seqK [0, 2, 4] (seqK [0, 2, 4, 17] (.reg [mv 15 0, ln 16 15, bc 17 .lss 16 (V.int 2)]) (.cond (.t 17) (seqK [2, 3] (.reg [xo 18 (.load true 6 (.t 4)), xs 6 2 18, mc 3 (V.bool false)]) (.ret)) (.skip))) (seqK [0, 2, 4] (seqK [0, 2, 4, 22] (.reg [mv 19 0, xo 20 (.iaddr 1 (.t 19) (.c (V.int 1))), ld 21 1 20, bc 22 .neq 21 (V.str [97, 110, 121])]) (.cond (.t 22) (seqK [0, 2, 4] (.reg [mv 23 0, xo 24 (.iaddr 1 (.t 23) (.c (V.int 1))), ld 25 1 24, cl 26 f_ref02_Find [25], fa 27 1 4, xs 1 27 26]) (seqK [0, 2, 4, 30] (.reg [fa 28 1 4, ld 29 1 28, bc 30 .eql 29 (V.int 0)]) (.cond (.t 30) (seqK [2, 3] (.reg [xo 31 (.load true 6 (.t 4)), xs 6 2 31, mc 3 (V.bool false)]) (.ret)) (.skip)))) (.skip))) (seqK [0, 2, 4, 5] (.reg [mc 5 (V.int 2)]) (seqK [0, 2, 4, 5, 6] (.reg [xo 32 (.bslice 4 1 false [(.string ⟨#[]⟩)] [(0, (.c (V.str [98, 101, 108, 111, 119]))), (1, (.c (V.str [102, 111, 114]))), (2, (.c (V.str [102, 114, 111, 109]))), (3, (.c (V.str [117, 110, 116, 105, 108])))]), mv 6 32]) (seqK [0, 2, 4, 5] (seqK [0, 2, 4, 5, 6, 7] (.reg [mc 7 (V.int 0)]) (.block 0 (loopK [0, 2, 4, 5, 6, 7] (seqK [0, 2, 4, 5, 6, 7] (seqK [0, 2, 4, 5, 6, 7, 36] (.reg [mv 33 7, mv 34 6, ln 35 34, bn 36 .lss 33 35]) (.cond (.t 36) (.skip) (.exit 0))) (seqK [0, 2, 4, 5, 6, 7] (.block 1 (seqK [0, 2, 4, 5, 6, 7] (seqK [0, 2, 4, 5, 6, 7, 53] (regK [] t_ref17_rule_0 (p_ref17_rule_0) (o_ref17_rule_0) a_ref17_rule_0) (.cond (.t 53) (.exit 1) (.skip))) (seqK [0, 2, 4, 5, 6, 7] (seqK [0, 2, 4, 5, 6, 7, 58] (.reg [mv 54 5, bc 55 .add 54 (V.int 1), mv 56 0, ln 57 56, bn 58 .geq 55 57]) (.cond (.t 58) (seqK [2, 3] (.reg [xo 59 (.load true 6 (.t 4)), xs 6 2 59, mc 3 (V.bool false)]) (.ret)) (.skip))) (seqK [0, 2, 4, 5, 6, 7, 8, 9] (.reg [mv 61 0, mv 62 5, bc 63 .add 62 (V.int 1), ia 64 1 61 63, ld 65 1 64, cl 66 f_ref02_Number [65], mv 60 66, ex 67 60 0, ex 68 60 1, mv 8 67, mv 9 68]) (seqK [0, 2, 4, 5, 6, 7, 9] (seqK [0, 2, 4, 5, 6, 7, 8, 9, 69] (.reg [mv 69 7]) (.block 2 (seqK [0, 2, 4, 5, 6, 7, 8, 9, 69, 72] (.reg [bc 73 .eql 69 (V.int 0), mv 72 73]) (.cond (.t 72) (.reg [mv 74 8, fa 75 2 4, xs 1 75 74]) (seqK [0, 2, 4, 5, 6, 7, 8, 9, 69, 76] (.reg [bc 77 .eql 69 (V.int 1), mv 76 77]) (.cond (.t 76) (seqK [0, 2, 4, 5, 6, 7] (.reg [mv 78 0, mv 79 5, bc 80 .add 79 (V.int 1), ia 81 1 78 80, ld 82 1 81, cl 83 f_ref17_Purpose [82], fa 84 3 4, xs 1 84 83]) (.reg [fa 85 3 4, ld 86 1 85, bc 87 .gtr 86 (V.int 0), mv 9 87])) (seqK [0, 2, 4, 5, 6, 7, 8, 9, 88] (.reg [bc 89 .eql 69 (V.int 2), mv 88 89]) (.cond (.t 88) (.reg [mv 90 8, fa 91 4 4, xs 1 91 90]) (.reg [mv 70 8, fa 71 5 4, xs 1 71 70]))))))))) (seqK [0, 2, 4, 5, 6, 7] (seqK [0, 2, 4, 5, 6, 7, 93] (.reg [mv 92 9, xo 93 (.un .not (.t 92))]) (.cond (.t 93) (seqK [2, 3] (.reg [xo 94 (.load true 6 (.t 4)), xs 6 2 94, mc 3 (V.bool false)]) (.ret)) (.skip))) (.reg [mv 95 5, bc 96 .add 95 (V.int 2), mv 5 96]))))))) (.reg [mv 37 7, bc 38 .add 37 (V.int 1), mv 7 38])))))) (seqK [2, 3] (.reg [xo 97 (.load true 6 (.t 4)), mv 98 5, mv 99 0, ln 100 99, bn 101 .eql 98 100, xs 6 2 97, mv 3 101]) (.ret)))))))) def r_ref17_rule : List ARes := [.cell 2 true 6, .tmp 3]
def CE_ref17_rule (Γ : Env) (f : Nat) : Prop := ∀ (x : List UInt8) (t : WS) (ht : t.length < 2 ^ 40), EvN Γ f [.sl 1 ((x :: t).map V.str)] (.tup [(ruleR (x :: t)).1.v, V.bool (ruleR (x :: t)).2])
theorem ev_ref17_rule {Γ : Env} {f f_ref02_Find f_ref02_Number f_ref17_Purpose : Nat} (h : Has Γ.P f 102 (c_ref17_rule f_ref02_Find f_ref02_Number f_ref17_Purpose) r_ref17_rule) (h_ref02_Find : CE_ref02_Find Γ f_ref02_Find) (h_ref02_Number : CE_ref02_Number Γ f_ref02_Number) (h_ref17_Purpose : CE_ref17_Purpose Γ f_ref17_Purpose) : CE_ref17_rule Γ f := by
  intro x t ht
  refine evN_of_body h (by simp) (by first | exact ⟨PRule.cells_closed _, trivial, trivial⟩ | exact ⟨by simp only [PRule.v, PRule.cells, V.noSl, noSlL, and_self], trivial, trivial⟩) (by first | exact ⟨PRule.cells_closed _, trivial, trivial⟩ | exact ⟨by simp only [PRule.v, PRule.cells, V.noSl, noSlL, and_self], trivial, trivial⟩) fun C hC hm => ?_
  subst hC
  unfold c_ref17_rule
  rcases t with _ | ⟨y, u⟩
  · have hr : ruleR [x] = (⟨x == [97, 108, 108, 111, 119], 0, 0, 0, 0, 40001⟩, false) := rfl
    rw [hr]
    simp only [PRule.v, PRule.cells]
    repeat' (first | refine awp_seqR fun K' hK => ?_ | refine awp_regR fun K' hK => ?_ | refine awp_seqP 15 (fun _ => true) rfl (k_ref17_rule_0) (q_ref17_rule_0) fun K' hK => ?_ | refine awp_regP 15 (fun _ => true) rfl (k_ref17_rule_0) (q_ref17_rule_0) fun K' hK => ?_ | refine awp_seqK ?_ | refine awp_skip ?_ | refine awp_block ?_ | ((first | refine awp_cond ⟨_, rfl, fun hc => ?_, fun hc => ?_⟩ | refine awB_t (fun hc => ?_) (fun hc => ?_) | refine awB_f (fun hc => ?_) (fun hc => ?_)) <;> first | exact Bool.noConfusion hc | ((try simp only [decide_eq_true_eq, decide_eq_false_iff_not, beq_iff_eq, beq_eq_false_iff_ne, ne_eq, Bool.not_eq_true', Bool.not_eq_false'] at hc); first | (exfalso; simp only [List.length_map] at hc; omega) | (exfalso; omega) | skip)) | refine awp_ret ?_ | refine awp_exit ?_ | simp (maxSteps := 1000000) only [go_sem, Nat.reduceAdd, Nat.reduceMul, Nat.reduceEqDiff, Nat.reduceLeDiff, Nat.reduceLT, Nat.reduceSub, Int.reduceEq, Int.reduceBEq, Int.reduceLT, Int.reduceLE, Int.reduceAdd, Int.reduceToNat, reduceIte, reduceCtorEq, p_ref17_rule_0] | (refine hK _ ?_; clear hK; clear K') | refine And.intro ?_ ?_ | ((first | apply awCs_A | apply awCRs_A); (focus (first | exact (h_ref02_Find _).b | exact (h_ref02_Number _).b | exact (h_ref17_Purpose _).b))) | (simp only [List.length_append, List.length_cons, List.length_nil, List.length_map, Nat.reducePow, Nat.reduceAdd]; omega) | omega | exact List.mem_singleton_self _)
    all_goals first | (refine ends_r _ rfl ?_; simp only [go_sem, Nat.reduceEqDiff, Nat.reduceAdd, reduceIte, reduceCtorEq]; done) | trace_state
  have e3 : decide (((u.length + 1 + 1 : Nat) : Int) < 2) = false := by simp; omega
  have n3 := (h_ref02_Find y).b
  obtain ⟨L, hL⟩ : ∃ L, L = x :: y :: u := ⟨_, rfl⟩
  have hLl : L.length < 2 ^ 41 := by rw [hL]; simp only [List.length_cons] at ht ⊢; omega
  have hdr : L.drop 2 = u := by rw [hL]; rfl
  have hL2 : 2 ≤ L.length := by rw [hL]; simp
  refine awp_seqR fun K' hK => ?_
  simp (maxSteps := 1000000) only [go_sem, Nat.reduceAdd, Nat.reduceMul, Nat.reduceEqDiff, Nat.reduceLeDiff, Nat.reduceLT, Nat.reduceSub, Int.reduceEq, Int.reduceBEq, Int.reduceLT, Int.reduceLE, Int.reduceAdd, Int.reduceToNat, reduceIte, reduceCtorEq]
  refine hK _ ?_
  clear hK
  clear K'
  (try simp only [go_sem, Nat.reduceAdd, Nat.reduceMul, Nat.reduceEqDiff, Nat.reduceLeDiff, Nat.reduceLT, Nat.reduceSub, Int.reduceEq, Int.reduceBEq, Int.reduceLT, Int.reduceLE, Int.reduceAdd, Int.reduceToNat, reduceIte, reduceCtorEq])
  refine awp_seqR fun K' hK => ?_
  simp (maxSteps := 1000000) only [go_sem, Nat.reduceAdd, Nat.reduceMul, Nat.reduceEqDiff, Nat.reduceLeDiff, Nat.reduceLT, Nat.reduceSub, Int.reduceEq, Int.reduceBEq, Int.reduceLT, Int.reduceLE, Int.reduceAdd, Int.reduceToNat, reduceIte, reduceCtorEq]
  refine hK _ ?_
  clear hK
  clear K'
  (try simp only [go_sem, Nat.reduceAdd, Nat.reduceMul, Nat.reduceEqDiff, Nat.reduceLeDiff, Nat.reduceLT, Nat.reduceSub, Int.reduceEq, Int.reduceBEq, Int.reduceLT, Int.reduceLE, Int.reduceAdd, Int.reduceToNat, reduceIte, reduceCtorEq])
  refine awp_seqK ?_
  refine awp_seqR fun K' hK => ?_
  simp (maxSteps := 1000000) only [go_sem, Nat.reduceAdd, Nat.reduceMul, Nat.reduceEqDiff, Nat.reduceLeDiff, Nat.reduceLT, Nat.reduceSub, Int.reduceEq, Int.reduceBEq, Int.reduceLT, Int.reduceLE, Int.reduceAdd, Int.reduceToNat, reduceIte, reduceCtorEq, e3, List.map_cons, List.length_cons, List.length_map]
  refine hK _ ?_
  clear hK
  clear K'
  (try simp only [go_sem, Nat.reduceAdd, Nat.reduceMul, Nat.reduceEqDiff, Nat.reduceLeDiff, Nat.reduceLT, Nat.reduceSub, Int.reduceEq, Int.reduceBEq, Int.reduceLT, Int.reduceLE, Int.reduceAdd, Int.reduceToNat, reduceIte, reduceCtorEq])
  refine awp_cond ⟨_, rfl, fun hc => Bool.noConfusion hc, fun hc => ?_⟩
  refine awp_skip ?_
  (try simp only [go_sem])
  refine awp_cutK (ι := Unit) (fun _ => ¬ (y ≠ [97, 110, 121] ∧ algP y = 0)) (fun _ => mkSt [(0, .sl 1 (L.map V.str)), (2, .ptr 0 0), (4, .ptr 1 0)] [(0, .box true [V.bool false, V.int 0, V.int 0, V.int 0, V.int 0, V.int 0]), (1, .box true [V.bool (x == [97, 108, 108, 111, 119]), V.int (algP y), V.int 0, V.int 0, V.int 0, V.int 40001])] 2) (fun K' hK' => ?_) (fun _ hn => ?_)
  · subst hL
    simp only [List.map_cons] at hK'
    by_cases hy : y = [97, 110, 121]
    · have ha : algP y = 0 := by rw [algP, if_pos hy]
      have e4 : (y == [97, 110, 121]) = true := by simpa using hy
      rw [ha] at hK'
      repeat' (first | refine awp_seqR fun K' hK => ?_ | refine awp_regR fun K' hK => ?_ | refine awp_seqP 15 (fun _ => true) rfl (k_ref17_rule_0) (q_ref17_rule_0) fun K' hK => ?_ | refine awp_regP 15 (fun _ => true) rfl (k_ref17_rule_0) (q_ref17_rule_0) fun K' hK => ?_ | refine awp_seqK ?_ | refine awp_skip ?_ | refine awp_block ?_ | ((first | refine awp_cond ⟨_, rfl, fun hc => ?_, fun hc => ?_⟩ | refine awB_t (fun hc => ?_) (fun hc => ?_) | refine awB_f (fun hc => ?_) (fun hc => ?_)) <;> first | exact Bool.noConfusion hc | ((try simp only [decide_eq_true_eq, decide_eq_false_iff_not, beq_iff_eq, beq_eq_false_iff_ne, ne_eq, Bool.not_eq_true', Bool.not_eq_false'] at hc); first | (exfalso; simp only [List.length_map] at hc; omega) | (exfalso; omega) | skip)) | refine awp_ret ?_ | refine awp_exit ?_ | simp (maxSteps := 1000000) only [go_sem, Nat.reduceAdd, Nat.reduceMul, Nat.reduceEqDiff, Nat.reduceLeDiff, Nat.reduceLT, Nat.reduceSub, Int.reduceEq, Int.reduceBEq, Int.reduceLT, Int.reduceLE, Int.reduceAdd, Int.reduceToNat, reduceIte, reduceCtorEq, e4, List.map_cons, p_ref17_rule_0] | (refine hK _ ?_; clear hK; clear K') | refine And.intro ?_ ?_ | ((first | apply awCs_A | apply awCRs_A); (focus (first | exact (h_ref02_Find _).b | exact (h_ref02_Number _).b | exact (h_ref17_Purpose _).b))) | (simp only [List.length_append, List.length_cons, List.length_nil, List.length_map, Nat.reducePow, Nat.reduceAdd]; omega) | omega | exact List.mem_singleton_self _)
      all_goals first | exact hK' _ () (lookN [(1, 7000)]) (fun h => h.1 hy) (weak_g [(1, 7000)] (by simp only [go_sem, Nat.reduceAdd, Nat.reduceMul, Nat.reduceEqDiff, Nat.reduceLT, Int.reduceToNat, reduceIte, reduceCtorEq, and_true, true_and, implies_true, Option.some.injEq, exists_eq_left', closedL_ren, closed_ren]; (repeat' (first | rfl | refine And.intro ?_ ?_ | omega | exact fun h => h | exact Exists.intro _ rfl))) (by simp only [go_sem, Nat.reduceAdd, Nat.reduceMul, Nat.reduceEqDiff, Nat.reduceLT, Int.reduceToNat, reduceIte, reduceCtorEq, and_true, true_and, implies_true, Option.some.injEq, exists_eq_left', closedL_ren, closed_ren]; (repeat' (first | rfl | refine And.intro ?_ ?_ | omega | exact fun h => h | exact Exists.intro _ rfl))) (by simp [lookN]) (by simp; omega) (by omega)) | trace_state
    · have ha : algP y = findR y 0 rowsL := by rw [algP, if_neg hy]
      have e4 : (y == [97, 110, 121]) = false := by simpa using hy
      rw [← ha] at n3
      by_cases hg : algP y = 0
      · have hr : ruleR (x :: y :: u) = (⟨x == [97, 108, 108, 111, 119], 0, 0, 0, 0, 40001⟩, false) := by rw [ruleR, if_pos ⟨hy, hg⟩]
        rw [hr]
        rw [hg] at n3
        simp only [PRule.v, PRule.cells]
        repeat' (first | refine awp_seqR fun K' hK => ?_ | refine awp_regR fun K' hK => ?_ | refine awp_seqP 15 (fun _ => true) rfl (k_ref17_rule_0) (q_ref17_rule_0) fun K' hK => ?_ | refine awp_regP 15 (fun _ => true) rfl (k_ref17_rule_0) (q_ref17_rule_0) fun K' hK => ?_ | refine awp_seqK ?_ | refine awp_skip ?_ | refine awp_block ?_ | ((first | refine awp_cond ⟨_, rfl, fun hc => ?_, fun hc => ?_⟩ | refine awB_t (fun hc => ?_) (fun hc => ?_) | refine awB_f (fun hc => ?_) (fun hc => ?_)) <;> first | exact Bool.noConfusion hc | ((try simp only [decide_eq_true_eq, decide_eq_false_iff_not, beq_iff_eq, beq_eq_false_iff_ne, ne_eq, Bool.not_eq_true', Bool.not_eq_false'] at hc); first | (exfalso; simp only [List.length_map] at hc; omega) | (exfalso; omega) | skip)) | refine awp_ret ?_ | refine awp_exit ?_ | simp (maxSteps := 1000000) only [go_sem, Nat.reduceAdd, Nat.reduceMul, Nat.reduceEqDiff, Nat.reduceLeDiff, Nat.reduceLT, Nat.reduceSub, Int.reduceEq, Int.reduceBEq, Int.reduceLT, Int.reduceLE, Int.reduceAdd, Int.reduceToNat, reduceIte, reduceCtorEq, e4, List.map_cons, p_ref17_rule_0] | (refine hK _ ?_; clear hK; clear K') | refine And.intro ?_ ?_ | ((first | apply awCs_A | apply awCRs_A); (focus (first | exact n3 | exact (h_ref02_Find _).b | exact (h_ref02_Number _).b | exact (h_ref17_Purpose _).b))) | (simp only [List.length_append, List.length_cons, List.length_nil, List.length_map, Nat.reducePow, Nat.reduceAdd]; omega) | omega | exact List.mem_singleton_self _)
        all_goals first | (refine ends_r _ rfl ?_; simp only [go_sem, Nat.reduceEqDiff, Nat.reduceAdd, reduceIte, reduceCtorEq]; done) | trace_state
      · have e5 : (algP y == 0) = false := by simpa using hg
        repeat' (first | refine awp_seqR fun K' hK => ?_ | refine awp_regR fun K' hK => ?_ | refine awp_seqP 15 (fun _ => true) rfl (k_ref17_rule_0) (q_ref17_rule_0) fun K' hK => ?_ | refine awp_regP 15 (fun _ => true) rfl (k_ref17_rule_0) (q_ref17_rule_0) fun K' hK => ?_ | refine awp_seqK ?_ | refine awp_skip ?_ | refine awp_block ?_ | ((first | refine awp_cond ⟨_, rfl, fun hc => ?_, fun hc => ?_⟩ | refine awB_t (fun hc => ?_) (fun hc => ?_) | refine awB_f (fun hc => ?_) (fun hc => ?_)) <;> first | exact Bool.noConfusion hc | ((try simp only [decide_eq_true_eq, decide_eq_false_iff_not, beq_iff_eq, beq_eq_false_iff_ne, ne_eq, Bool.not_eq_true', Bool.not_eq_false'] at hc); first | (exfalso; simp only [List.length_map] at hc; omega) | (exfalso; omega) | skip)) | refine awp_ret ?_ | refine awp_exit ?_ | simp (maxSteps := 1000000) only [go_sem, Nat.reduceAdd, Nat.reduceMul, Nat.reduceEqDiff, Nat.reduceLeDiff, Nat.reduceLT, Nat.reduceSub, Int.reduceEq, Int.reduceBEq, Int.reduceLT, Int.reduceLE, Int.reduceAdd, Int.reduceToNat, reduceIte, reduceCtorEq, e4, e5, List.map_cons, p_ref17_rule_0] | (refine hK _ ?_; clear hK; clear K') | refine And.intro ?_ ?_ | ((first | apply awCs_A | apply awCRs_A); (focus (first | exact n3 | exact (h_ref02_Find _).b | exact (h_ref02_Number _).b | exact (h_ref17_Purpose _).b))) | (simp only [List.length_append, List.length_cons, List.length_nil, List.length_map, Nat.reducePow, Nat.reduceAdd]; omega) | omega | exact List.mem_singleton_self _)
        all_goals first | exact hK' _ () (lookN [(1, 7000)]) (fun h => hg h.2) (weak_g [(1, 7000)] (by simp only [go_sem, Nat.reduceAdd, Nat.reduceMul, Nat.reduceEqDiff, Nat.reduceLT, Int.reduceToNat, reduceIte, reduceCtorEq, and_true, true_and, implies_true, Option.some.injEq, exists_eq_left', closedL_ren, closed_ren]; (repeat' (first | rfl | refine And.intro ?_ ?_ | omega | exact fun h => h | exact Exists.intro _ rfl))) (by simp only [go_sem, Nat.reduceAdd, Nat.reduceMul, Nat.reduceEqDiff, Nat.reduceLT, Int.reduceToNat, reduceIte, reduceCtorEq, and_true, true_and, implies_true, Option.some.injEq, exists_eq_left', closedL_ren, closed_ren]; (repeat' (first | rfl | refine And.intro ?_ ?_ | omega | exact fun h => h | exact Exists.intro _ rfl))) (by simp [lookN]) (by simp; omega) (by omega)) | trace_state
  have hr : ruleR (x :: y :: u) = loopR tblR ⟨x == [97, 108, 108, 111, 119], algP y, 0, 0, 0, 40001⟩ u := by rw [ruleR, if_neg hn]
  rw [hr]
  generalize algP y = g at *
  generalize (x == [97, 108, 108, 111, 119]) = al at *
  generalize hRR : loopR tblR ⟨al, g, 0, 0, 0, 40001⟩ u = RR at *
  have w1 : IntKind.i64.wrap 1 = 1 := by decide
  have w2 : IntKind.i64.wrap 2 = 2 := by decide
  have w3 : IntKind.i64.wrap 3 = 3 := by decide
  have w4 : IntKind.i64.wrap 4 = 4 := by decide
  simp only [PRule.v, PRule.cells]
  repeat' (first | refine awp_seqR fun K' hK => ?_ | refine awp_regR fun K' hK => ?_ | refine awp_seqP 15 (fun _ => true) rfl (k_ref17_rule_0) (q_ref17_rule_0) fun K' hK => ?_ | refine awp_regP 15 (fun _ => true) rfl (k_ref17_rule_0) (q_ref17_rule_0) fun K' hK => ?_ | refine awp_seqK ?_ | refine awp_skip ?_ | refine awp_block ?_ | ((first | refine awp_cond ⟨_, rfl, fun hc => ?_, fun hc => ?_⟩ | refine awB_t (fun hc => ?_) (fun hc => ?_) | refine awB_f (fun hc => ?_) (fun hc => ?_)) <;> first | exact Bool.noConfusion hc | ((try simp only [decide_eq_true_eq, decide_eq_false_iff_not, beq_iff_eq, beq_eq_false_iff_ne, ne_eq, Bool.not_eq_true', Bool.not_eq_false'] at hc); first | (exfalso; simp only [List.length_map] at hc; omega) | (exfalso; omega) | skip)) | refine awp_ret ?_ | refine awp_exit ?_ | simp (maxSteps := 1000000) only [go_sem, Nat.reduceAdd, Nat.reduceMul, Nat.reduceEqDiff, Nat.reduceLeDiff, Nat.reduceLT, Nat.reduceSub, Int.reduceEq, Int.reduceBEq, Int.reduceLT, Int.reduceLE, Int.reduceAdd, Int.reduceToNat, reduceIte, reduceCtorEq, mkSt, p_ref17_rule_0] | (refine hK _ ?_; clear hK; clear K') | refine And.intro ?_ ?_ | ((first | apply awCs_A | apply awCRs_A); (focus (first | exact (h_ref02_Find _).b | exact (h_ref02_Number _).b | exact (h_ref17_Purpose _).b))) | (simp only [List.length_append, List.length_cons, List.length_nil, List.length_map, Nat.reducePow, Nat.reduceAdd]; omega) | omega | exact List.mem_singleton_self _)
  refine awp_loopV (ι := Nat × Nat × PRule) (fun q => q.1 ≤ 4 ∧ 2 ≤ q.2.1 ∧ q.2.1 ≤ L.length ∧ loopR (tblR.drop q.1) q.2.2 (L.drop q.2.1) = RR)
    (fun q => mkSt [(0, .sl 1 (L.map V.str)), (2, .ptr 0 0), (4, .ptr 1 0), (5, V.int q.2.1), (6, .hd 2 0 4), (7, V.int q.1)] [(0, .box true [V.bool false, V.int 0, V.int 0, V.int 0, V.int 0, V.int 0]), (1, .box true [V.bool q.2.2.allow, V.int q.2.2.alg, V.int q.2.2.below, V.int q.2.2.purp, V.int q.2.2.frm, V.int q.2.2.til]), (2, .buf true 1 [V.str [98, 101, 108, 111, 119], V.str [102, 111, 114], V.str [102, 114, 111, 109], V.str [117, 110, 116, 105, 108]])] 3)
    (fun q => 4 - q.1) (0, 2, ⟨al, g, 0, 0, 0, 40001⟩) ⟨by simp, by simp, hL2, by simp only [List.drop_zero]; rw [hdr, hRR]⟩ (lookN [(2, 1002)]) (weak_g [(2, 1002)] (by simp only [go_sem, Nat.reduceAdd, Nat.reduceMul, Nat.reduceEqDiff, Nat.reduceLT, Int.reduceToNat, reduceIte, reduceCtorEq, and_true, true_and, implies_true, Option.some.injEq, exists_eq_left', closedL_ren, closed_ren]; (repeat' (first | rfl | refine And.intro ?_ ?_ | omega | exact fun h => h | exact Exists.intro _ rfl))) (by simp only [go_sem, Nat.reduceAdd, Nat.reduceMul, Nat.reduceEqDiff, Nat.reduceLT, Int.reduceToNat, reduceIte, reduceCtorEq, and_true, true_and, implies_true, Option.some.injEq, exists_eq_left', closedL_ren, closed_ren]; (repeat' (first | rfl | refine And.intro ?_ ?_ | omega | exact fun h => h | exact Exists.intro _ rfl))) (by simp [lookN]) (by simp; omega) (by omega)) fun q hq K' hK' => ?_
  obtain ⟨j, a, r⟩ := q
  obtain ⟨j4, a2, aL, hinv⟩ := hq
  simp only at j4 a2 aL hinv
  simp only
  have hwa : IntKind.i64.wrap ((a : Int) + 1) = ((a + 1 : Nat) : Int) := wrap_succ (by omega)
  have hwb : IntKind.i64.wrap ((a : Int) + 2) = ((a + 2 : Nat) : Int) := by rw [wrap_id (by omega) (by omega)]; rfl
  rcases (by omega : j = 4 ∨ j = 0 ∨ j = 1 ∨ j = 2 ∨ j = 3) with rfl | rfl | rfl | rfl | rfl
  · have hd : tblR.drop 4 = [] := rfl
    rw [hd, loopR] at hinv
    rw [← hinv]
    have e5 : ((a : Int) == (((L.map V.str).length : Nat) : Int)) = (L.drop a).isEmpty := by
      rw [List.length_map, Bool.eq_iff_iff]; simp only [beq_iff_eq, List.isEmpty_iff, List.drop_eq_nil_iff]; omega
    repeat' (first | refine awp_seqR fun K' hK => ?_ | refine awp_regR fun K' hK => ?_ | refine awp_seqP 15 (fun _ => true) rfl (k_ref17_rule_0) (q_ref17_rule_0) fun K' hK => ?_ | refine awp_regP 15 (fun _ => true) rfl (k_ref17_rule_0) (q_ref17_rule_0) fun K' hK => ?_ | refine awp_seqK ?_ | refine awp_skip ?_ | refine awp_block ?_ | ((first | refine awp_cond ⟨_, rfl, fun hc => ?_, fun hc => ?_⟩ | refine awB_t (fun hc => ?_) (fun hc => ?_) | refine awB_f (fun hc => ?_) (fun hc => ?_)) <;> first | exact Bool.noConfusion hc | ((try simp only [decide_eq_true_eq, decide_eq_false_iff_not, beq_iff_eq, beq_eq_false_iff_ne, ne_eq, Bool.not_eq_true', Bool.not_eq_false'] at hc); first | (exfalso; simp only [List.length_map] at hc; omega) | (exfalso; omega) | skip)) | refine awp_ret ?_ | refine awp_exit ?_ | simp (maxSteps := 1000000) only [go_sem, Nat.reduceAdd, Nat.reduceMul, Nat.reduceEqDiff, Nat.reduceLeDiff, Nat.reduceLT, Nat.reduceSub, Int.reduceEq, Int.reduceBEq, Int.reduceLT, Int.reduceLE, Int.reduceAdd, Int.reduceToNat, reduceIte, reduceCtorEq, mkSt, e5, p_ref17_rule_0] | (refine hK _ ?_; clear hK; clear K') | refine And.intro ?_ ?_ | ((first | apply awCs_A | apply awCRs_A); (focus (first | exact (h_ref02_Find _).b | exact (h_ref02_Number _).b | exact (h_ref17_Purpose _).b))) | (simp only [List.length_append, List.length_cons, List.length_nil, List.length_map, Nat.reducePow, Nat.reduceAdd]; omega) | omega | exact List.mem_singleton_self _)
    all_goals first | (refine ends_r _ rfl ?_; simp only [go_sem, Nat.reduceEqDiff, Nat.reduceAdd, reduceIte, reduceCtorEq]; done) | trace_state
  · have hd : tblR.drop 0 = ([98, 101, 108, 111, 119], numR, 2) :: tblR.drop 1 := rfl
    rw [hd] at hinv
    rcases hda : L.drop a with _ | ⟨z, v⟩
    · have haL := drop_nil hda
      have e5 : decide ((a : Int) ≥ (((L.map V.str).length : Nat) : Int)) = true := by simp; omega
      have hinv : loopR (tblR.drop 1) r (L.drop a) = RR := by rw [hda] at hinv ⊢; exact hinv
      repeat' (first | refine awp_seqR fun K' hK => ?_ | refine awp_regR fun K' hK => ?_ | refine awp_seqP 15 (fun _ => true) rfl (k_ref17_rule_0) (q_ref17_rule_0) fun K' hK => ?_ | refine awp_regP 15 (fun _ => true) rfl (k_ref17_rule_0) (q_ref17_rule_0) fun K' hK => ?_ | refine awp_seqK ?_ | refine awp_skip ?_ | refine awp_block ?_ | ((first | refine awp_cond ⟨_, rfl, fun hc => ?_, fun hc => ?_⟩ | refine awB_t (fun hc => ?_) (fun hc => ?_) | refine awB_f (fun hc => ?_) (fun hc => ?_)) <;> first | exact Bool.noConfusion hc | ((try simp only [decide_eq_true_eq, decide_eq_false_iff_not, beq_iff_eq, beq_eq_false_iff_ne, ne_eq, Bool.not_eq_true', Bool.not_eq_false'] at hc); first | (exfalso; simp only [List.length_map] at hc; omega) | (exfalso; omega) | skip)) | refine awp_ret ?_ | refine awp_exit ?_ | simp (maxSteps := 1000000) only [go_sem, Nat.reduceAdd, Nat.reduceMul, Nat.reduceEqDiff, Nat.reduceLeDiff, Nat.reduceLT, Nat.reduceSub, Int.reduceEq, Int.reduceBEq, Int.reduceLT, Int.reduceLE, Int.reduceAdd, Int.reduceToNat, reduceIte, reduceCtorEq, mkSt, e5, w1, w2, w3, w4, p_ref17_rule_0] | (refine hK _ ?_; clear hK; clear K') | refine And.intro ?_ ?_ | ((first | apply awCs_A | apply awCRs_A); (focus (first | exact (h_ref02_Find _).b | exact (h_ref02_Number _).b | exact (h_ref17_Purpose _).b))) | (simp only [List.length_append, List.length_cons, List.length_nil, List.length_map, Nat.reducePow, Nat.reduceAdd]; omega) | omega | exact List.mem_singleton_self _)
      all_goals first
        | exact hK' _ (1, a, r) (lookN []) ⟨by simp only; omega, by simp only; omega, by simp only; omega, by simp only; exact hinv⟩ (by simp only; omega) (weak_g [] (by simp only [go_sem, Nat.reduceAdd, Nat.reduceMul, Nat.reduceEqDiff, Nat.reduceLT, Int.reduceToNat, reduceIte, reduceCtorEq, and_true, true_and, implies_true, Option.some.injEq, exists_eq_left', closedL_ren, closed_ren]; (repeat' (first | rfl | refine And.intro ?_ ?_ | omega | exact fun h => h | exact Exists.intro _ rfl))) (by simp only [go_sem, Nat.reduceAdd, Nat.reduceMul, Nat.reduceEqDiff, Nat.reduceLT, Int.reduceToNat, reduceIte, reduceCtorEq, and_true, true_and, implies_true, Option.some.injEq, exists_eq_left', closedL_ren, closed_ren]; (repeat' (first | rfl | refine And.intro ?_ ?_ | omega | exact fun h => h | exact Exists.intro _ rfl))) (by simp [lookN]) (by simp) (by omega))
        | trace_state
    · obtain ⟨ha', hget, hr2⟩ := drop_cons hda
      have e5 : decide ((a : Int) ≥ (((L.map V.str).length : Nat) : Int)) = false := by simp; omega
      by_cases hz : z = [98, 101, 108, 111, 119]
      · have e6 : (z == [98, 101, 108, 111, 119]) = true := by simpa using hz
        rcases v with _ | ⟨s, v⟩
        · have hal : ¬ a + 1 < L.length := by
            intro h; have := congrArg List.length hr2; simp only [List.length_drop, List.length_nil] at this; omega
          have e7 : decide (((a + 1 : Nat) : Int) ≥ (((L.map V.str).length : Nat) : Int)) = true := by simp; omega
          have hR2 : RR = (r, false) := by rw [← hinv, hda, loopR, if_pos hz]
          rw [hR2]
          repeat' (first | refine awp_seqR fun K' hK => ?_ | refine awp_regR fun K' hK => ?_ | refine awp_seqP 15 (fun _ => true) rfl (k_ref17_rule_0) (q_ref17_rule_0) fun K' hK => ?_ | refine awp_regP 15 (fun _ => true) rfl (k_ref17_rule_0) (q_ref17_rule_0) fun K' hK => ?_ | refine awp_seqK ?_ | refine awp_skip ?_ | refine awp_block ?_ | ((first | refine awp_cond ⟨_, rfl, fun hc => ?_, fun hc => ?_⟩ | refine awB_t (fun hc => ?_) (fun hc => ?_) | refine awB_f (fun hc => ?_) (fun hc => ?_)) <;> first | exact Bool.noConfusion hc | ((try simp only [decide_eq_true_eq, decide_eq_false_iff_not, beq_iff_eq, beq_eq_false_iff_ne, ne_eq, Bool.not_eq_true', Bool.not_eq_false'] at hc); first | (exfalso; simp only [List.length_map] at hc; omega) | (exfalso; omega) | skip)) | refine awp_ret ?_ | refine awp_exit ?_ | simp (maxSteps := 1000000) only [go_sem, Nat.reduceAdd, Nat.reduceMul, Nat.reduceEqDiff, Nat.reduceLeDiff, Nat.reduceLT, Nat.reduceSub, Int.reduceEq, Int.reduceBEq, Int.reduceLT, Int.reduceLE, Int.reduceAdd, Int.reduceToNat, reduceIte, reduceCtorEq, mkSt, e5, e6, e7, hwa, Int.toNat_natCast, List.getElem?_map, hget, p_ref17_rule_0] | (refine hK _ ?_; clear hK; clear K') | refine And.intro ?_ ?_ | ((first | apply awCs_A | apply awCRs_A); (focus (first | exact (h_ref02_Find _).b | exact (h_ref02_Number _).b | exact (h_ref17_Purpose _).b))) | (simp only [List.length_append, List.length_cons, List.length_nil, List.length_map, Nat.reducePow, Nat.reduceAdd]; omega) | omega | exact List.mem_singleton_self _)
          all_goals first | (refine ends_r _ rfl ?_; simp only [go_sem, Nat.reduceEqDiff, Nat.reduceAdd, reduceIte, reduceCtorEq]; done) | trace_state
        · obtain ⟨hbb, hget2, hr3⟩ := drop_cons hr2
          have e7 : decide (((a + 1 : Nat) : Int) ≥ (((L.map V.str).length : Nat) : Int)) = false := by simp; omega
          have n1 := (h_ref02_Number s).b
          have n2 := (h_ref17_Purpose s).b
          rw [hda, loopR, if_pos hz] at hinv
          generalize hns : numR s = ns at *
          obtain ⟨n, ok⟩ := ns
          simp only [numV] at n1 hinv
          rcases ok with _ | _
          · have hR2 : RR = (⟨r.allow, r.alg, n, r.purp, r.frm, r.til⟩, false) := by rw [← hinv, if_neg (fun h => Bool.noConfusion h)]; rfl
            rw [hR2]
            repeat' (first | refine awp_seqR fun K' hK => ?_ | refine awp_regR fun K' hK => ?_ | refine awp_seqP 15 (fun _ => true) rfl (k_ref17_rule_0) (q_ref17_rule_0) fun K' hK => ?_ | refine awp_regP 15 (fun _ => true) rfl (k_ref17_rule_0) (q_ref17_rule_0) fun K' hK => ?_ | refine awp_seqK ?_ | refine awp_skip ?_ | refine awp_block ?_ | ((first | refine awp_cond ⟨_, rfl, fun hc => ?_, fun hc => ?_⟩ | refine awB_t (fun hc => ?_) (fun hc => ?_) | refine awB_f (fun hc => ?_) (fun hc => ?_)) <;> first | exact Bool.noConfusion hc | ((try simp only [decide_eq_true_eq, decide_eq_false_iff_not, beq_iff_eq, beq_eq_false_iff_ne, ne_eq, Bool.not_eq_true', Bool.not_eq_false'] at hc); first | (exfalso; simp only [List.length_map] at hc; omega) | (exfalso; omega) | skip)) | refine awp_ret ?_ | refine awp_exit ?_ | simp (maxSteps := 1000000) only [go_sem, Nat.reduceAdd, Nat.reduceMul, Nat.reduceEqDiff, Nat.reduceLeDiff, Nat.reduceLT, Nat.reduceSub, Int.reduceEq, Int.reduceBEq, Int.reduceLT, Int.reduceLE, Int.reduceAdd, Int.reduceToNat, reduceIte, reduceCtorEq, mkSt, e5, e6, e7, hwa, Int.toNat_natCast, List.getElem?_map, hget, hget2, p_ref17_rule_0] | (refine hK _ ?_; clear hK; clear K') | refine And.intro ?_ ?_ | ((first | apply awCs_A | apply awCRs_A); (focus (first | exact n1 | exact (h_ref02_Find _).b | exact (h_ref02_Number _).b | exact (h_ref17_Purpose _).b))) | (simp only [List.length_append, List.length_cons, List.length_nil, List.length_map, Nat.reducePow, Nat.reduceAdd]; omega) | omega | exact List.mem_singleton_self _)
            all_goals first | (refine ends_r _ rfl ?_; simp only [go_sem, Nat.reduceEqDiff, Nat.reduceAdd, reduceIte, reduceCtorEq]; done) | trace_state
          · rw [if_pos rfl, ← hr3] at hinv
            repeat' (first | refine awp_seqR fun K' hK => ?_ | refine awp_regR fun K' hK => ?_ | refine awp_seqP 15 (fun _ => true) rfl (k_ref17_rule_0) (q_ref17_rule_0) fun K' hK => ?_ | refine awp_regP 15 (fun _ => true) rfl (k_ref17_rule_0) (q_ref17_rule_0) fun K' hK => ?_ | refine awp_seqK ?_ | refine awp_skip ?_ | refine awp_block ?_ | ((first | refine awp_cond ⟨_, rfl, fun hc => ?_, fun hc => ?_⟩ | refine awB_t (fun hc => ?_) (fun hc => ?_) | refine awB_f (fun hc => ?_) (fun hc => ?_)) <;> first | exact Bool.noConfusion hc | ((try simp only [decide_eq_true_eq, decide_eq_false_iff_not, beq_iff_eq, beq_eq_false_iff_ne, ne_eq, Bool.not_eq_true', Bool.not_eq_false'] at hc); first | (exfalso; simp only [List.length_map] at hc; omega) | (exfalso; omega) | skip)) | refine awp_ret ?_ | refine awp_exit ?_ | simp (maxSteps := 1000000) only [go_sem, Nat.reduceAdd, Nat.reduceMul, Nat.reduceEqDiff, Nat.reduceLeDiff, Nat.reduceLT, Nat.reduceSub, Int.reduceEq, Int.reduceBEq, Int.reduceLT, Int.reduceLE, Int.reduceAdd, Int.reduceToNat, reduceIte, reduceCtorEq, mkSt, e5, e6, e7, hwa, hwb, w1, w2, w3, w4, Int.toNat_natCast, List.getElem?_map, hget, hget2, p_ref17_rule_0] | (refine hK _ ?_; clear hK; clear K') | refine And.intro ?_ ?_ | ((first | apply awCs_A | apply awCRs_A); (focus (first | exact n1 | exact (h_ref02_Find _).b | exact (h_ref02_Number _).b | exact (h_ref17_Purpose _).b))) | (simp only [List.length_append, List.length_cons, List.length_nil, List.length_map, Nat.reducePow, Nat.reduceAdd]; omega) | omega | exact List.mem_singleton_self _)
            all_goals first
              | exact hK' _ (1, a + 2, ⟨r.allow, r.alg, n, r.purp, r.frm, r.til⟩) (lookN []) ⟨by simp only; omega, by simp only; omega, by simp only; omega, by simp only; exact hinv⟩ (by simp only; omega) (weak_g [] (by simp only [go_sem, Nat.reduceAdd, Nat.reduceMul, Nat.reduceEqDiff, Nat.reduceLT, Int.reduceToNat, reduceIte, reduceCtorEq, and_true, true_and, implies_true, Option.some.injEq, exists_eq_left', closedL_ren, closed_ren]; (repeat' (first | rfl | refine And.intro ?_ ?_ | omega | exact fun h => h | exact Exists.intro _ rfl))) (by simp only [go_sem, Nat.reduceAdd, Nat.reduceMul, Nat.reduceEqDiff, Nat.reduceLT, Int.reduceToNat, reduceIte, reduceCtorEq, and_true, true_and, implies_true, Option.some.injEq, exists_eq_left', closedL_ren, closed_ren]; (repeat' (first | rfl | refine And.intro ?_ ?_ | omega | exact fun h => h | exact Exists.intro _ rfl))) (by simp [lookN]) (by simp) (by omega))
              | trace_state
      · have e6 : (z == [98, 101, 108, 111, 119]) = false := by simpa using hz
        have hinv : loopR (tblR.drop 1) r (L.drop a) = RR := by rw [hda] at hinv ⊢; rw [loopR_ne hz] at hinv; exact hinv
        repeat' (first | refine awp_seqR fun K' hK => ?_ | refine awp_regR fun K' hK => ?_ | refine awp_seqP 15 (fun _ => true) rfl (k_ref17_rule_0) (q_ref17_rule_0) fun K' hK => ?_ | refine awp_regP 15 (fun _ => true) rfl (k_ref17_rule_0) (q_ref17_rule_0) fun K' hK => ?_ | refine awp_seqK ?_ | refine awp_skip ?_ | refine awp_block ?_ | ((first | refine awp_cond ⟨_, rfl, fun hc => ?_, fun hc => ?_⟩ | refine awB_t (fun hc => ?_) (fun hc => ?_) | refine awB_f (fun hc => ?_) (fun hc => ?_)) <;> first | exact Bool.noConfusion hc | ((try simp only [decide_eq_true_eq, decide_eq_false_iff_not, beq_iff_eq, beq_eq_false_iff_ne, ne_eq, Bool.not_eq_true', Bool.not_eq_false'] at hc); first | (exfalso; simp only [List.length_map] at hc; omega) | (exfalso; omega) | skip)) | refine awp_ret ?_ | refine awp_exit ?_ | simp (maxSteps := 1000000) only [go_sem, Nat.reduceAdd, Nat.reduceMul, Nat.reduceEqDiff, Nat.reduceLeDiff, Nat.reduceLT, Nat.reduceSub, Int.reduceEq, Int.reduceBEq, Int.reduceLT, Int.reduceLE, Int.reduceAdd, Int.reduceToNat, reduceIte, reduceCtorEq, mkSt, e5, e6, hwa, w1, w2, w3, w4, Int.toNat_natCast, List.getElem?_map, hget, p_ref17_rule_0] | (refine hK _ ?_; clear hK; clear K') | refine And.intro ?_ ?_ | ((first | apply awCs_A | apply awCRs_A); (focus (first | exact (h_ref02_Find _).b | exact (h_ref02_Number _).b | exact (h_ref17_Purpose _).b))) | (simp only [List.length_append, List.length_cons, List.length_nil, List.length_map, Nat.reducePow, Nat.reduceAdd]; omega) | omega | exact List.mem_singleton_self _)
        all_goals first
          | exact hK' _ (1, a, r) (lookN []) ⟨by simp only; omega, by simp only; omega, by simp only; omega, by simp only; exact hinv⟩ (by simp only; omega) (weak_g [] (by simp only [go_sem, Nat.reduceAdd, Nat.reduceMul, Nat.reduceEqDiff, Nat.reduceLT, Int.reduceToNat, reduceIte, reduceCtorEq, and_true, true_and, implies_true, Option.some.injEq, exists_eq_left', closedL_ren, closed_ren]; (repeat' (first | rfl | refine And.intro ?_ ?_ | omega | exact fun h => h | exact Exists.intro _ rfl))) (by simp only [go_sem, Nat.reduceAdd, Nat.reduceMul, Nat.reduceEqDiff, Nat.reduceLT, Int.reduceToNat, reduceIte, reduceCtorEq, and_true, true_and, implies_true, Option.some.injEq, exists_eq_left', closedL_ren, closed_ren]; (repeat' (first | rfl | refine And.intro ?_ ?_ | omega | exact fun h => h | exact Exists.intro _ rfl))) (by simp [lookN]) (by simp) (by omega))
          | trace_state
  · have hd : tblR.drop 1 = ([102, 111, 114], rdP, 3) :: tblR.drop 2 := rfl
    rw [hd] at hinv
    rcases hda : L.drop a with _ | ⟨z, v⟩
    · have haL := drop_nil hda
      have e5 : decide ((a : Int) ≥ (((L.map V.str).length : Nat) : Int)) = true := by simp; omega
      have hinv : loopR (tblR.drop 2) r (L.drop a) = RR := by rw [hda] at hinv ⊢; exact hinv
      repeat' (first | refine awp_seqR fun K' hK => ?_ | refine awp_regR fun K' hK => ?_ | refine awp_seqP 15 (fun _ => true) rfl (k_ref17_rule_0) (q_ref17_rule_0) fun K' hK => ?_ | refine awp_regP 15 (fun _ => true) rfl (k_ref17_rule_0) (q_ref17_rule_0) fun K' hK => ?_ | refine awp_seqK ?_ | refine awp_skip ?_ | refine awp_block ?_ | ((first | refine awp_cond ⟨_, rfl, fun hc => ?_, fun hc => ?_⟩ | refine awB_t (fun hc => ?_) (fun hc => ?_) | refine awB_f (fun hc => ?_) (fun hc => ?_)) <;> first | exact Bool.noConfusion hc | ((try simp only [decide_eq_true_eq, decide_eq_false_iff_not, beq_iff_eq, beq_eq_false_iff_ne, ne_eq, Bool.not_eq_true', Bool.not_eq_false'] at hc); first | (exfalso; simp only [List.length_map] at hc; omega) | (exfalso; omega) | skip)) | refine awp_ret ?_ | refine awp_exit ?_ | simp (maxSteps := 1000000) only [go_sem, Nat.reduceAdd, Nat.reduceMul, Nat.reduceEqDiff, Nat.reduceLeDiff, Nat.reduceLT, Nat.reduceSub, Int.reduceEq, Int.reduceBEq, Int.reduceLT, Int.reduceLE, Int.reduceAdd, Int.reduceToNat, reduceIte, reduceCtorEq, mkSt, e5, w1, w2, w3, w4, p_ref17_rule_0] | (refine hK _ ?_; clear hK; clear K') | refine And.intro ?_ ?_ | ((first | apply awCs_A | apply awCRs_A); (focus (first | exact (h_ref02_Find _).b | exact (h_ref02_Number _).b | exact (h_ref17_Purpose _).b))) | (simp only [List.length_append, List.length_cons, List.length_nil, List.length_map, Nat.reducePow, Nat.reduceAdd]; omega) | omega | exact List.mem_singleton_self _)
      all_goals first
        | exact hK' _ (2, a, r) (lookN []) ⟨by simp only; omega, by simp only; omega, by simp only; omega, by simp only; exact hinv⟩ (by simp only; omega) (weak_g [] (by simp only [go_sem, Nat.reduceAdd, Nat.reduceMul, Nat.reduceEqDiff, Nat.reduceLT, Int.reduceToNat, reduceIte, reduceCtorEq, and_true, true_and, implies_true, Option.some.injEq, exists_eq_left', closedL_ren, closed_ren]; (repeat' (first | rfl | refine And.intro ?_ ?_ | omega | exact fun h => h | exact Exists.intro _ rfl))) (by simp only [go_sem, Nat.reduceAdd, Nat.reduceMul, Nat.reduceEqDiff, Nat.reduceLT, Int.reduceToNat, reduceIte, reduceCtorEq, and_true, true_and, implies_true, Option.some.injEq, exists_eq_left', closedL_ren, closed_ren]; (repeat' (first | rfl | refine And.intro ?_ ?_ | omega | exact fun h => h | exact Exists.intro _ rfl))) (by simp [lookN]) (by simp) (by omega))
        | trace_state
    · obtain ⟨ha', hget, hr2⟩ := drop_cons hda
      have e5 : decide ((a : Int) ≥ (((L.map V.str).length : Nat) : Int)) = false := by simp; omega
      by_cases hz : z = [102, 111, 114]
      · have e6 : (z == [102, 111, 114]) = true := by simpa using hz
        rcases v with _ | ⟨s, v⟩
        · have hal : ¬ a + 1 < L.length := by
            intro h; have := congrArg List.length hr2; simp only [List.length_drop, List.length_nil] at this; omega
          have e7 : decide (((a + 1 : Nat) : Int) ≥ (((L.map V.str).length : Nat) : Int)) = true := by simp; omega
          have hR2 : RR = (r, false) := by rw [← hinv, hda, loopR, if_pos hz]
          rw [hR2]
          repeat' (first | refine awp_seqR fun K' hK => ?_ | refine awp_regR fun K' hK => ?_ | refine awp_seqP 15 (fun _ => true) rfl (k_ref17_rule_0) (q_ref17_rule_0) fun K' hK => ?_ | refine awp_regP 15 (fun _ => true) rfl (k_ref17_rule_0) (q_ref17_rule_0) fun K' hK => ?_ | refine awp_seqK ?_ | refine awp_skip ?_ | refine awp_block ?_ | ((first | refine awp_cond ⟨_, rfl, fun hc => ?_, fun hc => ?_⟩ | refine awB_t (fun hc => ?_) (fun hc => ?_) | refine awB_f (fun hc => ?_) (fun hc => ?_)) <;> first | exact Bool.noConfusion hc | ((try simp only [decide_eq_true_eq, decide_eq_false_iff_not, beq_iff_eq, beq_eq_false_iff_ne, ne_eq, Bool.not_eq_true', Bool.not_eq_false'] at hc); first | (exfalso; simp only [List.length_map] at hc; omega) | (exfalso; omega) | skip)) | refine awp_ret ?_ | refine awp_exit ?_ | simp (maxSteps := 1000000) only [go_sem, Nat.reduceAdd, Nat.reduceMul, Nat.reduceEqDiff, Nat.reduceLeDiff, Nat.reduceLT, Nat.reduceSub, Int.reduceEq, Int.reduceBEq, Int.reduceLT, Int.reduceLE, Int.reduceAdd, Int.reduceToNat, reduceIte, reduceCtorEq, mkSt, e5, e6, e7, hwa, Int.toNat_natCast, List.getElem?_map, hget, p_ref17_rule_0] | (refine hK _ ?_; clear hK; clear K') | refine And.intro ?_ ?_ | ((first | apply awCs_A | apply awCRs_A); (focus (first | exact (h_ref02_Find _).b | exact (h_ref02_Number _).b | exact (h_ref17_Purpose _).b))) | (simp only [List.length_append, List.length_cons, List.length_nil, List.length_map, Nat.reducePow, Nat.reduceAdd]; omega) | omega | exact List.mem_singleton_self _)
          all_goals first | (refine ends_r _ rfl ?_; simp only [go_sem, Nat.reduceEqDiff, Nat.reduceAdd, reduceIte, reduceCtorEq]; done) | trace_state
        · obtain ⟨hbb, hget2, hr3⟩ := drop_cons hr2
          have e7 : decide (((a + 1 : Nat) : Int) ≥ (((L.map V.str).length : Nat) : Int)) = false := by simp; omega
          have n1 := (h_ref02_Number s).b
          have n2 := (h_ref17_Purpose s).b
          rw [hda, loopR, if_pos hz] at hinv
          generalize numR s = ns at *
          obtain ⟨n, ok⟩ := ns
          simp only [numV] at n1
          simp only [rdP] at hinv
          generalize purpS s = pp at *
          rcases hgp : decide (pp > 0) with _ | _
          · have hR2 : RR = (⟨r.allow, r.alg, r.below, pp, r.frm, r.til⟩, false) := by rw [← hinv, hgp, if_neg (fun h => Bool.noConfusion h)]; rfl
            rw [hR2]
            repeat' (first | refine awp_seqR fun K' hK => ?_ | refine awp_regR fun K' hK => ?_ | refine awp_seqP 15 (fun _ => true) rfl (k_ref17_rule_0) (q_ref17_rule_0) fun K' hK => ?_ | refine awp_regP 15 (fun _ => true) rfl (k_ref17_rule_0) (q_ref17_rule_0) fun K' hK => ?_ | refine awp_seqK ?_ | refine awp_skip ?_ | refine awp_block ?_ | ((first | refine awp_cond ⟨_, rfl, fun hc => ?_, fun hc => ?_⟩ | refine awB_t (fun hc => ?_) (fun hc => ?_) | refine awB_f (fun hc => ?_) (fun hc => ?_)) <;> first | exact Bool.noConfusion hc | ((try simp only [decide_eq_true_eq, decide_eq_false_iff_not, beq_iff_eq, beq_eq_false_iff_ne, ne_eq, Bool.not_eq_true', Bool.not_eq_false'] at hc); first | (exfalso; simp only [List.length_map] at hc; omega) | (exfalso; omega) | skip)) | refine awp_ret ?_ | refine awp_exit ?_ | simp (maxSteps := 1000000) only [go_sem, Nat.reduceAdd, Nat.reduceMul, Nat.reduceEqDiff, Nat.reduceLeDiff, Nat.reduceLT, Nat.reduceSub, Int.reduceEq, Int.reduceBEq, Int.reduceLT, Int.reduceLE, Int.reduceAdd, Int.reduceToNat, reduceIte, reduceCtorEq, mkSt, e5, e6, e7, hwa, hgp, Int.toNat_natCast, List.getElem?_map, hget, hget2, p_ref17_rule_0] | (refine hK _ ?_; clear hK; clear K') | refine And.intro ?_ ?_ | ((first | apply awCs_A | apply awCRs_A); (focus (first | exact n1 | exact n2 | exact (h_ref02_Find _).b | exact (h_ref02_Number _).b | exact (h_ref17_Purpose _).b))) | (simp only [List.length_append, List.length_cons, List.length_nil, List.length_map, Nat.reducePow, Nat.reduceAdd]; omega) | omega | exact List.mem_singleton_self _)
            all_goals first | (refine ends_r _ rfl ?_; simp only [go_sem, Nat.reduceEqDiff, Nat.reduceAdd, reduceIte, reduceCtorEq]; done) | trace_state
          · rw [hgp, if_pos rfl, ← hr3] at hinv
            repeat' (first | refine awp_seqR fun K' hK => ?_ | refine awp_regR fun K' hK => ?_ | refine awp_seqP 15 (fun _ => true) rfl (k_ref17_rule_0) (q_ref17_rule_0) fun K' hK => ?_ | refine awp_regP 15 (fun _ => true) rfl (k_ref17_rule_0) (q_ref17_rule_0) fun K' hK => ?_ | refine awp_seqK ?_ | refine awp_skip ?_ | refine awp_block ?_ | ((first | refine awp_cond ⟨_, rfl, fun hc => ?_, fun hc => ?_⟩ | refine awB_t (fun hc => ?_) (fun hc => ?_) | refine awB_f (fun hc => ?_) (fun hc => ?_)) <;> first | exact Bool.noConfusion hc | ((try simp only [decide_eq_true_eq, decide_eq_false_iff_not, beq_iff_eq, beq_eq_false_iff_ne, ne_eq, Bool.not_eq_true', Bool.not_eq_false'] at hc); first | (exfalso; simp only [List.length_map] at hc; omega) | (exfalso; omega) | skip)) | refine awp_ret ?_ | refine awp_exit ?_ | simp (maxSteps := 1000000) only [go_sem, Nat.reduceAdd, Nat.reduceMul, Nat.reduceEqDiff, Nat.reduceLeDiff, Nat.reduceLT, Nat.reduceSub, Int.reduceEq, Int.reduceBEq, Int.reduceLT, Int.reduceLE, Int.reduceAdd, Int.reduceToNat, reduceIte, reduceCtorEq, mkSt, e5, e6, e7, hwa, hwb, hgp, w1, w2, w3, w4, Int.toNat_natCast, List.getElem?_map, hget, hget2, p_ref17_rule_0] | (refine hK _ ?_; clear hK; clear K') | refine And.intro ?_ ?_ | ((first | apply awCs_A | apply awCRs_A); (focus (first | exact n1 | exact n2 | exact (h_ref02_Find _).b | exact (h_ref02_Number _).b | exact (h_ref17_Purpose _).b))) | (simp only [List.length_append, List.length_cons, List.length_nil, List.length_map, Nat.reducePow, Nat.reduceAdd]; omega) | omega | exact List.mem_singleton_self _)
            all_goals first
              | exact hK' _ (2, a + 2, ⟨r.allow, r.alg, r.below, pp, r.frm, r.til⟩) (lookN []) ⟨by simp only; omega, by simp only; omega, by simp only; omega, by simp only; exact hinv⟩ (by simp only; omega) (weak_g [] (by simp only [go_sem, Nat.reduceAdd, Nat.reduceMul, Nat.reduceEqDiff, Nat.reduceLT, Int.reduceToNat, reduceIte, reduceCtorEq, and_true, true_and, implies_true, Option.some.injEq, exists_eq_left', closedL_ren, closed_ren]; (repeat' (first | rfl | refine And.intro ?_ ?_ | omega | exact fun h => h | exact Exists.intro _ rfl))) (by simp only [go_sem, Nat.reduceAdd, Nat.reduceMul, Nat.reduceEqDiff, Nat.reduceLT, Int.reduceToNat, reduceIte, reduceCtorEq, and_true, true_and, implies_true, Option.some.injEq, exists_eq_left', closedL_ren, closed_ren]; (repeat' (first | rfl | refine And.intro ?_ ?_ | omega | exact fun h => h | exact Exists.intro _ rfl))) (by simp [lookN]) (by simp) (by omega))
              | trace_state
      · have e6 : (z == [102, 111, 114]) = false := by simpa using hz
        have hinv : loopR (tblR.drop 2) r (L.drop a) = RR := by rw [hda] at hinv ⊢; rw [loopR_ne hz] at hinv; exact hinv
        repeat' (first | refine awp_seqR fun K' hK => ?_ | refine awp_regR fun K' hK => ?_ | refine awp_seqP 15 (fun _ => true) rfl (k_ref17_rule_0) (q_ref17_rule_0) fun K' hK => ?_ | refine awp_regP 15 (fun _ => true) rfl (k_ref17_rule_0) (q_ref17_rule_0) fun K' hK => ?_ | refine awp_seqK ?_ | refine awp_skip ?_ | refine awp_block ?_ | ((first | refine awp_cond ⟨_, rfl, fun hc => ?_, fun hc => ?_⟩ | refine awB_t (fun hc => ?_) (fun hc => ?_) | refine awB_f (fun hc => ?_) (fun hc => ?_)) <;> first | exact Bool.noConfusion hc | ((try simp only [decide_eq_true_eq, decide_eq_false_iff_not, beq_iff_eq, beq_eq_false_iff_ne, ne_eq, Bool.not_eq_true', Bool.not_eq_false'] at hc); first | (exfalso; simp only [List.length_map] at hc; omega) | (exfalso; omega) | skip)) | refine awp_ret ?_ | refine awp_exit ?_ | simp (maxSteps := 1000000) only [go_sem, Nat.reduceAdd, Nat.reduceMul, Nat.reduceEqDiff, Nat.reduceLeDiff, Nat.reduceLT, Nat.reduceSub, Int.reduceEq, Int.reduceBEq, Int.reduceLT, Int.reduceLE, Int.reduceAdd, Int.reduceToNat, reduceIte, reduceCtorEq, mkSt, e5, e6, hwa, w1, w2, w3, w4, Int.toNat_natCast, List.getElem?_map, hget, p_ref17_rule_0] | (refine hK _ ?_; clear hK; clear K') | refine And.intro ?_ ?_ | ((first | apply awCs_A | apply awCRs_A); (focus (first | exact (h_ref02_Find _).b | exact (h_ref02_Number _).b | exact (h_ref17_Purpose _).b))) | (simp only [List.length_append, List.length_cons, List.length_nil, List.length_map, Nat.reducePow, Nat.reduceAdd]; omega) | omega | exact List.mem_singleton_self _)
        all_goals first
          | exact hK' _ (2, a, r) (lookN []) ⟨by simp only; omega, by simp only; omega, by simp only; omega, by simp only; exact hinv⟩ (by simp only; omega) (weak_g [] (by simp only [go_sem, Nat.reduceAdd, Nat.reduceMul, Nat.reduceEqDiff, Nat.reduceLT, Int.reduceToNat, reduceIte, reduceCtorEq, and_true, true_and, implies_true, Option.some.injEq, exists_eq_left', closedL_ren, closed_ren]; (repeat' (first | rfl | refine And.intro ?_ ?_ | omega | exact fun h => h | exact Exists.intro _ rfl))) (by simp only [go_sem, Nat.reduceAdd, Nat.reduceMul, Nat.reduceEqDiff, Nat.reduceLT, Int.reduceToNat, reduceIte, reduceCtorEq, and_true, true_and, implies_true, Option.some.injEq, exists_eq_left', closedL_ren, closed_ren]; (repeat' (first | rfl | refine And.intro ?_ ?_ | omega | exact fun h => h | exact Exists.intro _ rfl))) (by simp [lookN]) (by simp) (by omega))
          | trace_state
  · have hd : tblR.drop 2 = ([102, 114, 111, 109], numR, 4) :: tblR.drop 3 := rfl
    rw [hd] at hinv
    rcases hda : L.drop a with _ | ⟨z, v⟩
    · have haL := drop_nil hda
      have e5 : decide ((a : Int) ≥ (((L.map V.str).length : Nat) : Int)) = true := by simp; omega
      have hinv : loopR (tblR.drop 3) r (L.drop a) = RR := by rw [hda] at hinv ⊢; exact hinv
      repeat' (first | refine awp_seqR fun K' hK => ?_ | refine awp_regR fun K' hK => ?_ | refine awp_seqP 15 (fun _ => true) rfl (k_ref17_rule_0) (q_ref17_rule_0) fun K' hK => ?_ | refine awp_regP 15 (fun _ => true) rfl (k_ref17_rule_0) (q_ref17_rule_0) fun K' hK => ?_ | refine awp_seqK ?_ | refine awp_skip ?_ | refine awp_block ?_ | ((first | refine awp_cond ⟨_, rfl, fun hc => ?_, fun hc => ?_⟩ | refine awB_t (fun hc => ?_) (fun hc => ?_) | refine awB_f (fun hc => ?_) (fun hc => ?_)) <;> first | exact Bool.noConfusion hc | ((try simp only [decide_eq_true_eq, decide_eq_false_iff_not, beq_iff_eq, beq_eq_false_iff_ne, ne_eq, Bool.not_eq_true', Bool.not_eq_false'] at hc); first | (exfalso; simp only [List.length_map] at hc; omega) | (exfalso; omega) | skip)) | refine awp_ret ?_ | refine awp_exit ?_ | simp (maxSteps := 1000000) only [go_sem, Nat.reduceAdd, Nat.reduceMul, Nat.reduceEqDiff, Nat.reduceLeDiff, Nat.reduceLT, Nat.reduceSub, Int.reduceEq, Int.reduceBEq, Int.reduceLT, Int.reduceLE, Int.reduceAdd, Int.reduceToNat, reduceIte, reduceCtorEq, mkSt, e5, w1, w2, w3, w4, p_ref17_rule_0] | (refine hK _ ?_; clear hK; clear K') | refine And.intro ?_ ?_ | ((first | apply awCs_A | apply awCRs_A); (focus (first | exact (h_ref02_Find _).b | exact (h_ref02_Number _).b | exact (h_ref17_Purpose _).b))) | (simp only [List.length_append, List.length_cons, List.length_nil, List.length_map, Nat.reducePow, Nat.reduceAdd]; omega) | omega | exact List.mem_singleton_self _)
      all_goals first
        | exact hK' _ (3, a, r) (lookN []) ⟨by simp only; omega, by simp only; omega, by simp only; omega, by simp only; exact hinv⟩ (by simp only; omega) (weak_g [] (by simp only [go_sem, Nat.reduceAdd, Nat.reduceMul, Nat.reduceEqDiff, Nat.reduceLT, Int.reduceToNat, reduceIte, reduceCtorEq, and_true, true_and, implies_true, Option.some.injEq, exists_eq_left', closedL_ren, closed_ren]; (repeat' (first | rfl | refine And.intro ?_ ?_ | omega | exact fun h => h | exact Exists.intro _ rfl))) (by simp only [go_sem, Nat.reduceAdd, Nat.reduceMul, Nat.reduceEqDiff, Nat.reduceLT, Int.reduceToNat, reduceIte, reduceCtorEq, and_true, true_and, implies_true, Option.some.injEq, exists_eq_left', closedL_ren, closed_ren]; (repeat' (first | rfl | refine And.intro ?_ ?_ | omega | exact fun h => h | exact Exists.intro _ rfl))) (by simp [lookN]) (by simp) (by omega))
        | trace_state
    · obtain ⟨ha', hget, hr2⟩ := drop_cons hda
      have e5 : decide ((a : Int) ≥ (((L.map V.str).length : Nat) : Int)) = false := by simp; omega
      by_cases hz : z = [102, 114, 111, 109]
      · have e6 : (z == [102, 114, 111, 109]) = true := by simpa using hz
        rcases v with _ | ⟨s, v⟩
        · have hal : ¬ a + 1 < L.length := by
            intro h; have := congrArg List.length hr2; simp only [List.length_drop, List.length_nil] at this; omega
          have e7 : decide (((a + 1 : Nat) : Int) ≥ (((L.map V.str).length : Nat) : Int)) = true := by simp; omega
          have hR2 : RR = (r, false) := by rw [← hinv, hda, loopR, if_pos hz]
          rw [hR2]
          repeat' (first | refine awp_seqR fun K' hK => ?_ | refine awp_regR fun K' hK => ?_ | refine awp_seqP 15 (fun _ => true) rfl (k_ref17_rule_0) (q_ref17_rule_0) fun K' hK => ?_ | refine awp_regP 15 (fun _ => true) rfl (k_ref17_rule_0) (q_ref17_rule_0) fun K' hK => ?_ | refine awp_seqK ?_ | refine awp_skip ?_ | refine awp_block ?_ | ((first | refine awp_cond ⟨_, rfl, fun hc => ?_, fun hc => ?_⟩ | refine awB_t (fun hc => ?_) (fun hc => ?_) | refine awB_f (fun hc => ?_) (fun hc => ?_)) <;> first | exact Bool.noConfusion hc | ((try simp only [decide_eq_true_eq, decide_eq_false_iff_not, beq_iff_eq, beq_eq_false_iff_ne, ne_eq, Bool.not_eq_true', Bool.not_eq_false'] at hc); first | (exfalso; simp only [List.length_map] at hc; omega) | (exfalso; omega) | skip)) | refine awp_ret ?_ | refine awp_exit ?_ | simp (maxSteps := 1000000) only [go_sem, Nat.reduceAdd, Nat.reduceMul, Nat.reduceEqDiff, Nat.reduceLeDiff, Nat.reduceLT, Nat.reduceSub, Int.reduceEq, Int.reduceBEq, Int.reduceLT, Int.reduceLE, Int.reduceAdd, Int.reduceToNat, reduceIte, reduceCtorEq, mkSt, e5, e6, e7, hwa, Int.toNat_natCast, List.getElem?_map, hget, p_ref17_rule_0] | (refine hK _ ?_; clear hK; clear K') | refine And.intro ?_ ?_ | ((first | apply awCs_A | apply awCRs_A); (focus (first | exact (h_ref02_Find _).b | exact (h_ref02_Number _).b | exact (h_ref17_Purpose _).b))) | (simp only [List.length_append, List.length_cons, List.length_nil, List.length_map, Nat.reducePow, Nat.reduceAdd]; omega) | omega | exact List.mem_singleton_self _)
          all_goals first | (refine ends_r _ rfl ?_; simp only [go_sem, Nat.reduceEqDiff, Nat.reduceAdd, reduceIte, reduceCtorEq]; done) | trace_state
        · obtain ⟨hbb, hget2, hr3⟩ := drop_cons hr2
          have e7 : decide (((a + 1 : Nat) : Int) ≥ (((L.map V.str).length : Nat) : Int)) = false := by simp; omega
          have n1 := (h_ref02_Number s).b
          have n2 := (h_ref17_Purpose s).b
          rw [hda, loopR, if_pos hz] at hinv
          generalize hns : numR s = ns at *
          obtain ⟨n, ok⟩ := ns
          simp only [numV] at n1 hinv
          rcases ok with _ | _
          · have hR2 : RR = (⟨r.allow, r.alg, r.below, r.purp, n, r.til⟩, false) := by rw [← hinv, if_neg (fun h => Bool.noConfusion h)]; rfl
            rw [hR2]
            repeat' (first | refine awp_seqR fun K' hK => ?_ | refine awp_regR fun K' hK => ?_ | refine awp_seqP 15 (fun _ => true) rfl (k_ref17_rule_0) (q_ref17_rule_0) fun K' hK => ?_ | refine awp_regP 15 (fun _ => true) rfl (k_ref17_rule_0) (q_ref17_rule_0) fun K' hK => ?_ | refine awp_seqK ?_ | refine awp_skip ?_ | refine awp_block ?_ | ((first | refine awp_cond ⟨_, rfl, fun hc => ?_, fun hc => ?_⟩ | refine awB_t (fun hc => ?_) (fun hc => ?_) | refine awB_f (fun hc => ?_) (fun hc => ?_)) <;> first | exact Bool.noConfusion hc | ((try simp only [decide_eq_true_eq, decide_eq_false_iff_not, beq_iff_eq, beq_eq_false_iff_ne, ne_eq, Bool.not_eq_true', Bool.not_eq_false'] at hc); first | (exfalso; simp only [List.length_map] at hc; omega) | (exfalso; omega) | skip)) | refine awp_ret ?_ | refine awp_exit ?_ | simp (maxSteps := 1000000) only [go_sem, Nat.reduceAdd, Nat.reduceMul, Nat.reduceEqDiff, Nat.reduceLeDiff, Nat.reduceLT, Nat.reduceSub, Int.reduceEq, Int.reduceBEq, Int.reduceLT, Int.reduceLE, Int.reduceAdd, Int.reduceToNat, reduceIte, reduceCtorEq, mkSt, e5, e6, e7, hwa, Int.toNat_natCast, List.getElem?_map, hget, hget2, p_ref17_rule_0] | (refine hK _ ?_; clear hK; clear K') | refine And.intro ?_ ?_ | ((first | apply awCs_A | apply awCRs_A); (focus (first | exact n1 | exact (h_ref02_Find _).b | exact (h_ref02_Number _).b | exact (h_ref17_Purpose _).b))) | (simp only [List.length_append, List.length_cons, List.length_nil, List.length_map, Nat.reducePow, Nat.reduceAdd]; omega) | omega | exact List.mem_singleton_self _)
            all_goals first | (refine ends_r _ rfl ?_; simp only [go_sem, Nat.reduceEqDiff, Nat.reduceAdd, reduceIte, reduceCtorEq]; done) | trace_state
          · rw [if_pos rfl, ← hr3] at hinv
            repeat' (first | refine awp_seqR fun K' hK => ?_ | refine awp_regR fun K' hK => ?_ | refine awp_seqP 15 (fun _ => true) rfl (k_ref17_rule_0) (q_ref17_rule_0) fun K' hK => ?_ | refine awp_regP 15 (fun _ => true) rfl (k_ref17_rule_0) (q_ref17_rule_0) fun K' hK => ?_ | refine awp_seqK ?_ | refine awp_skip ?_ | refine awp_block ?_ | ((first | refine awp_cond ⟨_, rfl, fun hc => ?_, fun hc => ?_⟩ | refine awB_t (fun hc => ?_) (fun hc => ?_) | refine awB_f (fun hc => ?_) (fun hc => ?_)) <;> first | exact Bool.noConfusion hc | ((try simp only [decide_eq_true_eq, decide_eq_false_iff_not, beq_iff_eq, beq_eq_false_iff_ne, ne_eq, Bool.not_eq_true', Bool.not_eq_false'] at hc); first | (exfalso; simp only [List.length_map] at hc; omega) | (exfalso; omega) | skip)) | refine awp_ret ?_ | refine awp_exit ?_ | simp (maxSteps := 1000000) only [go_sem, Nat.reduceAdd, Nat.reduceMul, Nat.reduceEqDiff, Nat.reduceLeDiff, Nat.reduceLT, Nat.reduceSub, Int.reduceEq, Int.reduceBEq, Int.reduceLT, Int.reduceLE, Int.reduceAdd, Int.reduceToNat, reduceIte, reduceCtorEq, mkSt, e5, e6, e7, hwa, hwb, w1, w2, w3, w4, Int.toNat_natCast, List.getElem?_map, hget, hget2, p_ref17_rule_0] | (refine hK _ ?_; clear hK; clear K') | refine And.intro ?_ ?_ | ((first | apply awCs_A | apply awCRs_A); (focus (first | exact n1 | exact (h_ref02_Find _).b | exact (h_ref02_Number _).b | exact (h_ref17_Purpose _).b))) | (simp only [List.length_append, List.length_cons, List.length_nil, List.length_map, Nat.reducePow, Nat.reduceAdd]; omega) | omega | exact List.mem_singleton_self _)
            all_goals first
              | exact hK' _ (3, a + 2, ⟨r.allow, r.alg, r.below, r.purp, n, r.til⟩) (lookN []) ⟨by simp only; omega, by simp only; omega, by simp only; omega, by simp only; exact hinv⟩ (by simp only; omega) (weak_g [] (by simp only [go_sem, Nat.reduceAdd, Nat.reduceMul, Nat.reduceEqDiff, Nat.reduceLT, Int.reduceToNat, reduceIte, reduceCtorEq, and_true, true_and, implies_true, Option.some.injEq, exists_eq_left', closedL_ren, closed_ren]; (repeat' (first | rfl | refine And.intro ?_ ?_ | omega | exact fun h => h | exact Exists.intro _ rfl))) (by simp only [go_sem, Nat.reduceAdd, Nat.reduceMul, Nat.reduceEqDiff, Nat.reduceLT, Int.reduceToNat, reduceIte, reduceCtorEq, and_true, true_and, implies_true, Option.some.injEq, exists_eq_left', closedL_ren, closed_ren]; (repeat' (first | rfl | refine And.intro ?_ ?_ | omega | exact fun h => h | exact Exists.intro _ rfl))) (by simp [lookN]) (by simp) (by omega))
              | trace_state
      · have e6 : (z == [102, 114, 111, 109]) = false := by simpa using hz
        have hinv : loopR (tblR.drop 3) r (L.drop a) = RR := by rw [hda] at hinv ⊢; rw [loopR_ne hz] at hinv; exact hinv
        repeat' (first | refine awp_seqR fun K' hK => ?_ | refine awp_regR fun K' hK => ?_ | refine awp_seqP 15 (fun _ => true) rfl (k_ref17_rule_0) (q_ref17_rule_0) fun K' hK => ?_ | refine awp_regP 15 (fun _ => true) rfl (k_ref17_rule_0) (q_ref17_rule_0) fun K' hK => ?_ | refine awp_seqK ?_ | refine awp_skip ?_ | refine awp_block ?_ | ((first | refine awp_cond ⟨_, rfl, fun hc => ?_, fun hc => ?_⟩ | refine awB_t (fun hc => ?_) (fun hc => ?_) | refine awB_f (fun hc => ?_) (fun hc => ?_)) <;> first | exact Bool.noConfusion hc | ((try simp only [decide_eq_true_eq, decide_eq_false_iff_not, beq_iff_eq, beq_eq_false_iff_ne, ne_eq, Bool.not_eq_true', Bool.not_eq_false'] at hc); first | (exfalso; simp only [List.length_map] at hc; omega) | (exfalso; omega) | skip)) | refine awp_ret ?_ | refine awp_exit ?_ | simp (maxSteps := 1000000) only [go_sem, Nat.reduceAdd, Nat.reduceMul, Nat.reduceEqDiff, Nat.reduceLeDiff, Nat.reduceLT, Nat.reduceSub, Int.reduceEq, Int.reduceBEq, Int.reduceLT, Int.reduceLE, Int.reduceAdd, Int.reduceToNat, reduceIte, reduceCtorEq, mkSt, e5, e6, hwa, w1, w2, w3, w4, Int.toNat_natCast, List.getElem?_map, hget, p_ref17_rule_0] | (refine hK _ ?_; clear hK; clear K') | refine And.intro ?_ ?_ | ((first | apply awCs_A | apply awCRs_A); (focus (first | exact (h_ref02_Find _).b | exact (h_ref02_Number _).b | exact (h_ref17_Purpose _).b))) | (simp only [List.length_append, List.length_cons, List.length_nil, List.length_map, Nat.reducePow, Nat.reduceAdd]; omega) | omega | exact List.mem_singleton_self _)
        all_goals first
          | exact hK' _ (3, a, r) (lookN []) ⟨by simp only; omega, by simp only; omega, by simp only; omega, by simp only; exact hinv⟩ (by simp only; omega) (weak_g [] (by simp only [go_sem, Nat.reduceAdd, Nat.reduceMul, Nat.reduceEqDiff, Nat.reduceLT, Int.reduceToNat, reduceIte, reduceCtorEq, and_true, true_and, implies_true, Option.some.injEq, exists_eq_left', closedL_ren, closed_ren]; (repeat' (first | rfl | refine And.intro ?_ ?_ | omega | exact fun h => h | exact Exists.intro _ rfl))) (by simp only [go_sem, Nat.reduceAdd, Nat.reduceMul, Nat.reduceEqDiff, Nat.reduceLT, Int.reduceToNat, reduceIte, reduceCtorEq, and_true, true_and, implies_true, Option.some.injEq, exists_eq_left', closedL_ren, closed_ren]; (repeat' (first | rfl | refine And.intro ?_ ?_ | omega | exact fun h => h | exact Exists.intro _ rfl))) (by simp [lookN]) (by simp) (by omega))
          | trace_state
  · have hd : tblR.drop 3 = ([117, 110, 116, 105, 108], numR, 5) :: tblR.drop 4 := rfl
    rw [hd] at hinv
    rcases hda : L.drop a with _ | ⟨z, v⟩
    · have haL := drop_nil hda
      have e5 : decide ((a : Int) ≥ (((L.map V.str).length : Nat) : Int)) = true := by simp; omega
      have hinv : loopR (tblR.drop 4) r (L.drop a) = RR := by rw [hda] at hinv ⊢; exact hinv
      repeat' (first | refine awp_seqR fun K' hK => ?_ | refine awp_regR fun K' hK => ?_ | refine awp_seqP 15 (fun _ => true) rfl (k_ref17_rule_0) (q_ref17_rule_0) fun K' hK => ?_ | refine awp_regP 15 (fun _ => true) rfl (k_ref17_rule_0) (q_ref17_rule_0) fun K' hK => ?_ | refine awp_seqK ?_ | refine awp_skip ?_ | refine awp_block ?_ | ((first | refine awp_cond ⟨_, rfl, fun hc => ?_, fun hc => ?_⟩ | refine awB_t (fun hc => ?_) (fun hc => ?_) | refine awB_f (fun hc => ?_) (fun hc => ?_)) <;> first | exact Bool.noConfusion hc | ((try simp only [decide_eq_true_eq, decide_eq_false_iff_not, beq_iff_eq, beq_eq_false_iff_ne, ne_eq, Bool.not_eq_true', Bool.not_eq_false'] at hc); first | (exfalso; simp only [List.length_map] at hc; omega) | (exfalso; omega) | skip)) | refine awp_ret ?_ | refine awp_exit ?_ | simp (maxSteps := 1000000) only [go_sem, Nat.reduceAdd, Nat.reduceMul, Nat.reduceEqDiff, Nat.reduceLeDiff, Nat.reduceLT, Nat.reduceSub, Int.reduceEq, Int.reduceBEq, Int.reduceLT, Int.reduceLE, Int.reduceAdd, Int.reduceToNat, reduceIte, reduceCtorEq, mkSt, e5, w1, w2, w3, w4, p_ref17_rule_0] | (refine hK _ ?_; clear hK; clear K') | refine And.intro ?_ ?_ | ((first | apply awCs_A | apply awCRs_A); (focus (first | exact (h_ref02_Find _).b | exact (h_ref02_Number _).b | exact (h_ref17_Purpose _).b))) | (simp only [List.length_append, List.length_cons, List.length_nil, List.length_map, Nat.reducePow, Nat.reduceAdd]; omega) | omega | exact List.mem_singleton_self _)
      all_goals first
        | exact hK' _ (4, a, r) (lookN []) ⟨by simp only; omega, by simp only; omega, by simp only; omega, by simp only; exact hinv⟩ (by simp only; omega) (weak_g [] (by simp only [go_sem, Nat.reduceAdd, Nat.reduceMul, Nat.reduceEqDiff, Nat.reduceLT, Int.reduceToNat, reduceIte, reduceCtorEq, and_true, true_and, implies_true, Option.some.injEq, exists_eq_left', closedL_ren, closed_ren]; (repeat' (first | rfl | refine And.intro ?_ ?_ | omega | exact fun h => h | exact Exists.intro _ rfl))) (by simp only [go_sem, Nat.reduceAdd, Nat.reduceMul, Nat.reduceEqDiff, Nat.reduceLT, Int.reduceToNat, reduceIte, reduceCtorEq, and_true, true_and, implies_true, Option.some.injEq, exists_eq_left', closedL_ren, closed_ren]; (repeat' (first | rfl | refine And.intro ?_ ?_ | omega | exact fun h => h | exact Exists.intro _ rfl))) (by simp [lookN]) (by simp) (by omega))
        | trace_state
    · obtain ⟨ha', hget, hr2⟩ := drop_cons hda
      have e5 : decide ((a : Int) ≥ (((L.map V.str).length : Nat) : Int)) = false := by simp; omega
      by_cases hz : z = [117, 110, 116, 105, 108]
      · have e6 : (z == [117, 110, 116, 105, 108]) = true := by simpa using hz
        rcases v with _ | ⟨s, v⟩
        · have hal : ¬ a + 1 < L.length := by
            intro h; have := congrArg List.length hr2; simp only [List.length_drop, List.length_nil] at this; omega
          have e7 : decide (((a + 1 : Nat) : Int) ≥ (((L.map V.str).length : Nat) : Int)) = true := by simp; omega
          have hR2 : RR = (r, false) := by rw [← hinv, hda, loopR, if_pos hz]
          rw [hR2]
          repeat' (first | refine awp_seqR fun K' hK => ?_ | refine awp_regR fun K' hK => ?_ | refine awp_seqP 15 (fun _ => true) rfl (k_ref17_rule_0) (q_ref17_rule_0) fun K' hK => ?_ | refine awp_regP 15 (fun _ => true) rfl (k_ref17_rule_0) (q_ref17_rule_0) fun K' hK => ?_ | refine awp_seqK ?_ | refine awp_skip ?_ | refine awp_block ?_ | ((first | refine awp_cond ⟨_, rfl, fun hc => ?_, fun hc => ?_⟩ | refine awB_t (fun hc => ?_) (fun hc => ?_) | refine awB_f (fun hc => ?_) (fun hc => ?_)) <;> first | exact Bool.noConfusion hc | ((try simp only [decide_eq_true_eq, decide_eq_false_iff_not, beq_iff_eq, beq_eq_false_iff_ne, ne_eq, Bool.not_eq_true', Bool.not_eq_false'] at hc); first | (exfalso; simp only [List.length_map] at hc; omega) | (exfalso; omega) | skip)) | refine awp_ret ?_ | refine awp_exit ?_ | simp (maxSteps := 1000000) only [go_sem, Nat.reduceAdd, Nat.reduceMul, Nat.reduceEqDiff, Nat.reduceLeDiff, Nat.reduceLT, Nat.reduceSub, Int.reduceEq, Int.reduceBEq, Int.reduceLT, Int.reduceLE, Int.reduceAdd, Int.reduceToNat, reduceIte, reduceCtorEq, mkSt, e5, e6, e7, hwa, Int.toNat_natCast, List.getElem?_map, hget, p_ref17_rule_0] | (refine hK _ ?_; clear hK; clear K') | refine And.intro ?_ ?_ | ((first | apply awCs_A | apply awCRs_A); (focus (first | exact (h_ref02_Find _).b | exact (h_ref02_Number _).b | exact (h_ref17_Purpose _).b))) | (simp only [List.length_append, List.length_cons, List.length_nil, List.length_map, Nat.reducePow, Nat.reduceAdd]; omega) | omega | exact List.mem_singleton_self _)
          all_goals first | (refine ends_r _ rfl ?_; simp only [go_sem, Nat.reduceEqDiff, Nat.reduceAdd, reduceIte, reduceCtorEq]; done) | trace_state
        · obtain ⟨hbb, hget2, hr3⟩ := drop_cons hr2
          have e7 : decide (((a + 1 : Nat) : Int) ≥ (((L.map V.str).length : Nat) : Int)) = false := by simp; omega
          have n1 := (h_ref02_Number s).b
          have n2 := (h_ref17_Purpose s).b
          rw [hda, loopR, if_pos hz] at hinv
          generalize hns : numR s = ns at *
          obtain ⟨n, ok⟩ := ns
          simp only [numV] at n1 hinv
          rcases ok with _ | _
          · have hR2 : RR = (⟨r.allow, r.alg, r.below, r.purp, r.frm, n⟩, false) := by rw [← hinv, if_neg (fun h => Bool.noConfusion h)]; rfl
            rw [hR2]
            repeat' (first | refine awp_seqR fun K' hK => ?_ | refine awp_regR fun K' hK => ?_ | refine awp_seqP 15 (fun _ => true) rfl (k_ref17_rule_0) (q_ref17_rule_0) fun K' hK => ?_ | refine awp_regP 15 (fun _ => true) rfl (k_ref17_rule_0) (q_ref17_rule_0) fun K' hK => ?_ | refine awp_seqK ?_ | refine awp_skip ?_ | refine awp_block ?_ | ((first | refine awp_cond ⟨_, rfl, fun hc => ?_, fun hc => ?_⟩ | refine awB_t (fun hc => ?_) (fun hc => ?_) | refine awB_f (fun hc => ?_) (fun hc => ?_)) <;> first | exact Bool.noConfusion hc | ((try simp only [decide_eq_true_eq, decide_eq_false_iff_not, beq_iff_eq, beq_eq_false_iff_ne, ne_eq, Bool.not_eq_true', Bool.not_eq_false'] at hc); first | (exfalso; simp only [List.length_map] at hc; omega) | (exfalso; omega) | skip)) | refine awp_ret ?_ | refine awp_exit ?_ | simp (maxSteps := 1000000) only [go_sem, Nat.reduceAdd, Nat.reduceMul, Nat.reduceEqDiff, Nat.reduceLeDiff, Nat.reduceLT, Nat.reduceSub, Int.reduceEq, Int.reduceBEq, Int.reduceLT, Int.reduceLE, Int.reduceAdd, Int.reduceToNat, reduceIte, reduceCtorEq, mkSt, e5, e6, e7, hwa, Int.toNat_natCast, List.getElem?_map, hget, hget2, p_ref17_rule_0] | (refine hK _ ?_; clear hK; clear K') | refine And.intro ?_ ?_ | ((first | apply awCs_A | apply awCRs_A); (focus (first | exact n1 | exact (h_ref02_Find _).b | exact (h_ref02_Number _).b | exact (h_ref17_Purpose _).b))) | (simp only [List.length_append, List.length_cons, List.length_nil, List.length_map, Nat.reducePow, Nat.reduceAdd]; omega) | omega | exact List.mem_singleton_self _)
            all_goals first | (refine ends_r _ rfl ?_; simp only [go_sem, Nat.reduceEqDiff, Nat.reduceAdd, reduceIte, reduceCtorEq]; done) | trace_state
          · rw [if_pos rfl, ← hr3] at hinv
            repeat' (first | refine awp_seqR fun K' hK => ?_ | refine awp_regR fun K' hK => ?_ | refine awp_seqP 15 (fun _ => true) rfl (k_ref17_rule_0) (q_ref17_rule_0) fun K' hK => ?_ | refine awp_regP 15 (fun _ => true) rfl (k_ref17_rule_0) (q_ref17_rule_0) fun K' hK => ?_ | refine awp_seqK ?_ | refine awp_skip ?_ | refine awp_block ?_ | ((first | refine awp_cond ⟨_, rfl, fun hc => ?_, fun hc => ?_⟩ | refine awB_t (fun hc => ?_) (fun hc => ?_) | refine awB_f (fun hc => ?_) (fun hc => ?_)) <;> first | exact Bool.noConfusion hc | ((try simp only [decide_eq_true_eq, decide_eq_false_iff_not, beq_iff_eq, beq_eq_false_iff_ne, ne_eq, Bool.not_eq_true', Bool.not_eq_false'] at hc); first | (exfalso; simp only [List.length_map] at hc; omega) | (exfalso; omega) | skip)) | refine awp_ret ?_ | refine awp_exit ?_ | simp (maxSteps := 1000000) only [go_sem, Nat.reduceAdd, Nat.reduceMul, Nat.reduceEqDiff, Nat.reduceLeDiff, Nat.reduceLT, Nat.reduceSub, Int.reduceEq, Int.reduceBEq, Int.reduceLT, Int.reduceLE, Int.reduceAdd, Int.reduceToNat, reduceIte, reduceCtorEq, mkSt, e5, e6, e7, hwa, hwb, w1, w2, w3, w4, Int.toNat_natCast, List.getElem?_map, hget, hget2, p_ref17_rule_0] | (refine hK _ ?_; clear hK; clear K') | refine And.intro ?_ ?_ | ((first | apply awCs_A | apply awCRs_A); (focus (first | exact n1 | exact (h_ref02_Find _).b | exact (h_ref02_Number _).b | exact (h_ref17_Purpose _).b))) | (simp only [List.length_append, List.length_cons, List.length_nil, List.length_map, Nat.reducePow, Nat.reduceAdd]; omega) | omega | exact List.mem_singleton_self _)
            all_goals first
              | exact hK' _ (4, a + 2, ⟨r.allow, r.alg, r.below, r.purp, r.frm, n⟩) (lookN []) ⟨by simp only; omega, by simp only; omega, by simp only; omega, by simp only; exact hinv⟩ (by simp only; omega) (weak_g [] (by simp only [go_sem, Nat.reduceAdd, Nat.reduceMul, Nat.reduceEqDiff, Nat.reduceLT, Int.reduceToNat, reduceIte, reduceCtorEq, and_true, true_and, implies_true, Option.some.injEq, exists_eq_left', closedL_ren, closed_ren]; (repeat' (first | rfl | refine And.intro ?_ ?_ | omega | exact fun h => h | exact Exists.intro _ rfl))) (by simp only [go_sem, Nat.reduceAdd, Nat.reduceMul, Nat.reduceEqDiff, Nat.reduceLT, Int.reduceToNat, reduceIte, reduceCtorEq, and_true, true_and, implies_true, Option.some.injEq, exists_eq_left', closedL_ren, closed_ren]; (repeat' (first | rfl | refine And.intro ?_ ?_ | omega | exact fun h => h | exact Exists.intro _ rfl))) (by simp [lookN]) (by simp) (by omega))
              | trace_state
      · have e6 : (z == [117, 110, 116, 105, 108]) = false := by simpa using hz
        have hinv : loopR (tblR.drop 4) r (L.drop a) = RR := by rw [hda] at hinv ⊢; rw [loopR_ne hz] at hinv; exact hinv
        repeat' (first | refine awp_seqR fun K' hK => ?_ | refine awp_regR fun K' hK => ?_ | refine awp_seqP 15 (fun _ => true) rfl (k_ref17_rule_0) (q_ref17_rule_0) fun K' hK => ?_ | refine awp_regP 15 (fun _ => true) rfl (k_ref17_rule_0) (q_ref17_rule_0) fun K' hK => ?_ | refine awp_seqK ?_ | refine awp_skip ?_ | refine awp_block ?_ | ((first | refine awp_cond ⟨_, rfl, fun hc => ?_, fun hc => ?_⟩ | refine awB_t (fun hc => ?_) (fun hc => ?_) | refine awB_f (fun hc => ?_) (fun hc => ?_)) <;> first | exact Bool.noConfusion hc | ((try simp only [decide_eq_true_eq, decide_eq_false_iff_not, beq_iff_eq, beq_eq_false_iff_ne, ne_eq, Bool.not_eq_true', Bool.not_eq_false'] at hc); first | (exfalso; simp only [List.length_map] at hc; omega) | (exfalso; omega) | skip)) | refine awp_ret ?_ | refine awp_exit ?_ | simp (maxSteps := 1000000) only [go_sem, Nat.reduceAdd, Nat.reduceMul, Nat.reduceEqDiff, Nat.reduceLeDiff, Nat.reduceLT, Nat.reduceSub, Int.reduceEq, Int.reduceBEq, Int.reduceLT, Int.reduceLE, Int.reduceAdd, Int.reduceToNat, reduceIte, reduceCtorEq, mkSt, e5, e6, hwa, w1, w2, w3, w4, Int.toNat_natCast, List.getElem?_map, hget, p_ref17_rule_0] | (refine hK _ ?_; clear hK; clear K') | refine And.intro ?_ ?_ | ((first | apply awCs_A | apply awCRs_A); (focus (first | exact (h_ref02_Find _).b | exact (h_ref02_Number _).b | exact (h_ref17_Purpose _).b))) | (simp only [List.length_append, List.length_cons, List.length_nil, List.length_map, Nat.reducePow, Nat.reduceAdd]; omega) | omega | exact List.mem_singleton_self _)
        all_goals first
          | exact hK' _ (4, a, r) (lookN []) ⟨by simp only; omega, by simp only; omega, by simp only; omega, by simp only; exact hinv⟩ (by simp only; omega) (weak_g [] (by simp only [go_sem, Nat.reduceAdd, Nat.reduceMul, Nat.reduceEqDiff, Nat.reduceLT, Int.reduceToNat, reduceIte, reduceCtorEq, and_true, true_and, implies_true, Option.some.injEq, exists_eq_left', closedL_ren, closed_ren]; (repeat' (first | rfl | refine And.intro ?_ ?_ | omega | exact fun h => h | exact Exists.intro _ rfl))) (by simp only [go_sem, Nat.reduceAdd, Nat.reduceMul, Nat.reduceEqDiff, Nat.reduceLT, Int.reduceToNat, reduceIte, reduceCtorEq, and_true, true_and, implies_true, Option.some.injEq, exists_eq_left', closedL_ren, closed_ren]; (repeat' (first | rfl | refine And.intro ?_ ?_ | omega | exact fun h => h | exact Exists.intro _ rfl))) (by simp [lookN]) (by simp) (by omega))
          | trace_state
end Av
end
section
-- ALL all2.txt
set_option linter.unusedSimpArgs false
set_option linter.unusedVariables false
set_option maxRecDepth 10000
set_option maxHeartbeats 4000000
namespace Av
open Go
attribute [local irreducible] AWp runO runP runG awS awC awCv awQ awRd awCallR awCvR awQR awR awRdR awB okR plan ris
inductive Ln where
  | none
  | rule (r : PRule)
  | keep (k : PKeep)
def keepR : WS → Ln
  | [p, d] => if purpS p = 0 ∨ (numR d).2 = false then .none else .keep ⟨purpS p, (numR d).1⟩
  | _ => .none
def lineR : WS → Ln
  | [] => .none
  | x :: t =>
    if x = [97, 108, 108, 111, 119] ∨ x = [102, 111, 114, 98, 105, 100] then (if (ruleR (x :: t)).2 = true then .rule (ruleR (x :: t)).1 else .none)
    else if x = [107, 101, 101, 112] then keepR t else .none
def goR : List (List UInt8) → Nat → Int → List PRule → List PKeep → Pol
  | [], _, w, rs, ks => if w > 0 then ([], [], w, 25) else if checkV rs ks = 0 then (rs, ks, 0, 0) else ([], [], 0, 3)
  | s :: r, i, w, rs, ks =>
    if noteL s = true then goR r (i + 1) w rs ks
    else match lineR (splitL 32 s) with
    | .none => ([], [], (i : Int) + 1, 1)
    | .rule x => goR r (i + 1) (if w = 0 ∧ ruledB x = false then (i : Int) + 1 else w) (rs ++ [x]) ks
    | .keep k => goR r (i + 1) (if w = 0 ∧ keptB k = false then (i : Int) + 1 else w) rs (ks ++ [k])
def parseR (s : List UInt8) : Pol := if s.length > 8192 ∨ (splitL 10 s).length - 1 > 200 then ([], [], 0, 3) else goR (linesL s) 0 0 [] []
theorem linesL_len (s : List UInt8) : (linesL s).length ≤ (splitL 10 s).length := by
  rw [linesL]; split <;> simp
theorem linesL_mem {s w : List UInt8} (h : w ∈ linesL s) : w.length ≤ s.length := by
  rw [linesL] at h; split at h
  · exact splitL_mem (List.dropLast_subset _ h)
  · exact splitL_mem h
theorem lenP1 {α : Type} (l : List α) (x : α) : (l ++ [x]).length = l.length + 1 := by simp
def c_ref17_Parse (f_ref06_Ends f_ref06_Lines f_ref17_words f_ref17_rule f_ref17_Ruled f_ref17_Purpose f_ref02_Number f_ref17_kept f_ref17_Check : Nat) : AC := seqK [0, 2] (.reg [xo 2 (.alloc [.nil 6, .nil 2]), mc 3 (V.int 0), mc 4 (V.int 0)]) (seqK [0, 2] (seqK [0, 2, 22] (.reg [mv 15 0, xo 16 (.lenS (.t 15)), bc 17 .gtr 16 (V.int 8192), mv 18 17, mg 19 0 18 false, xg 20 (.call f_ref06_Ends [(.t 19)]) 18 false, xg 21 (.bin .gtr (.t 20) (.c (V.int 200))) 18 false, xo 22 (.pick (.t 18) (.c (V.bool true)) (.t 21))]) (.cond (.t 22) (seqK [2, 3, 4] (.reg [xo 23 (.build [(.slice none 0 0), (.slice none 0 0)] []), xs 2 2 23, mc 3 (V.int 0), mc 4 (V.int 3)]) (.ret)) (.skip))) (seqK [2, 5] (.reg [mv 24 0, cl 25 f_ref06_Lines [24], mv 5 25]) (seqK [2, 5, 6] (.reg [xo 6 (.alloc [.nil 6, .nil 2])]) (seqK [2, 5, 6, 7] (.reg [mc 7 (V.int 0)]) (seqK [2, 6, 7] (seqK [2, 5, 6, 7, 8] (.reg [mc 8 (V.int 0)]) (.block 0 (loopK [2, 5, 6, 7, 8] (seqK [2, 5, 6, 7, 8] (seqK [2, 5, 6, 7, 8, 29] (.reg [mv 26 8, mv 27 5, ln 28 27, bn 29 .lss 26 28]) (.cond (.t 29) (.skip) (.exit 0))) (seqK [2, 5, 6, 7, 8] (.block 1 (seqK [2, 5, 6, 7, 8] (seqK [2, 5, 6, 7, 8, 44] (.reg [mv 32 5, mv 33 8, ia 34 1 32 33, ld 35 1 34, bc 36 .eql 35 (V.str []), mv 37 36, mg 38 5 37 false, mg 39 8 37 false, xg 40 (.iaddr 1 (.t 38) (.t 39)) 37 false, xg 41 (.load false 1 (.t 40)) 37 false, xg 42 (.idxS (.t 41) (.c (V.int 0))) 37 false, xg 43 (.bin .eql (.t 42) (.c (.sc (.int .u8 35)))) 37 false, xo 44 (.pick (.t 37) (.c (V.bool true)) (.t 43))]) (.cond (.t 44) (.exit 1) (.skip))) (seqK [2, 5, 6, 7, 8, 9] (.reg [mv 45 5, mv 46 8, ia 47 1 45 46, ld 48 1 47, cl 49 f_ref17_words [48], mv 9 49]) (seqK [2, 5, 6, 7, 8, 9, 52] (.reg [mv 50 9, xo 51 (.iaddr 1 (.t 50) (.c (V.int 0))), ld 52 1 51]) (.block 2 (seqK [2, 5, 6, 7, 8, 9, 52, 56] (seqK [2, 5, 6, 7, 8, 9, 52, 56] (.reg [bc 57 .eql 52 (V.str [97, 108, 108, 111, 119]), mv 56 57]) (.cond (.t 56) (.skip) (.reg [bc 58 .eql 52 (V.str [102, 111, 114, 98, 105, 100]), mv 56 58]))) (.cond (.t 56) (seqK [2, 5, 6, 7, 8, 10, 11] (.reg [mv 60 9, cl 61 f_ref17_rule [60], mv 59 61, ex 62 59 0, ex 63 59 1, xo 10 (.alloc [.val (.bool false), .val (.int .i64 0), .val (.int .i64 0), .val (.int .i64 0), .val (.int .i64 0), .val (.int .i64 0)]), xs 6 10 62, mv 11 63]) (seqK [2, 5, 6, 7, 8, 10] (seqK [2, 5, 6, 7, 8, 10, 65] (.reg [mv 64 11, xo 65 (.un .not (.t 64))]) (.cond (.t 65) (seqK [2, 3, 4] (.reg [xo 66 (.build [(.slice none 0 0), (.slice none 0 0)] []), mv 67 8, bc 68 .add 67 (V.int 1), xs 2 2 66, mv 3 68, mc 4 (V.int 1)]) (.ret)) (.skip))) (seqK [2, 5, 6, 7, 8, 10] (seqK [2, 5, 6, 7, 8, 10, 75] (.reg [xo 69 (.load true 6 (.t 10)), cl 70 f_ref17_Ruled [69], xo 71 (.un .not (.t 70)), mv 72 71, mg 73 7 72 true, xg 74 (.bin .eql (.t 73) (.c (V.int 0))) 72 true, xo 75 (.pick (.t 72) (.t 74) (.c (V.bool false)))]) (.cond (.t 75) (.reg [mv 76 8, bc 77 .add 76 (V.int 1), mv 7 77]) (.skip))) (.reg [fa 78 0 6, ld 79 1 78, xo 80 (.load true 6 (.t 10)), xo 81 (.bslice 1 6 true [(.bool false), (.int .i64 0), (.int .i64 0), (.int .i64 0), (.int .i64 0), (.int .i64 0)] [(0, (.t 80))]), xo 82 (.append 6 48 [(.bool false), (.int .i64 0), (.int .i64 0), (.int .i64 0), (.int .i64 0), (.int .i64 0)] (.t 79) (.t 81)), fa 83 0 6, xs 1 83 82])))) (seqK [2, 5, 6, 7, 8, 9, 84] (.reg [bc 85 .eql 52 (V.str [107, 101, 101, 112]), mv 84 85]) (.cond (.t 84) (seqK [2, 5, 6, 7, 8, 9] (seqK [2, 5, 6, 7, 8, 9, 95] (.reg [mv 86 9, ln 87 86, bc 88 .neq 87 (V.int 3), mv 89 88, mg 90 9 89 false, xg 91 (.iaddr 1 (.t 90) (.c (V.int 1))) 89 false, xg 92 (.load false 1 (.t 91)) 89 false, xg 93 (.call f_ref17_Purpose [(.t 92)]) 89 false, xg 94 (.bin .eql (.t 93) (.c (V.int 0))) 89 false, xo 95 (.pick (.t 89) (.c (V.bool true)) (.t 94))]) (.cond (.t 95) (seqK [2, 3, 4] (.reg [xo 96 (.build [(.slice none 0 0), (.slice none 0 0)] []), mv 97 8, bc 98 .add 97 (V.int 1), xs 2 2 96, mv 3 98, mc 4 (V.int 1)]) (.ret)) (.skip))) (seqK [2, 5, 6, 7, 8, 9, 12, 13] (.reg [mv 100 9, xo 101 (.iaddr 1 (.t 100) (.c (V.int 2))), ld 102 1 101, cl 103 f_ref02_Number [102], mv 99 103, ex 104 99 0, ex 105 99 1, mv 12 104, mv 13 105]) (seqK [2, 5, 6, 7, 8, 9, 12] (seqK [2, 5, 6, 7, 8, 9, 12, 107] (.reg [mv 106 13, xo 107 (.un .not (.t 106))]) (.cond (.t 107) (seqK [2, 3, 4] (.reg [xo 108 (.build [(.slice none 0 0), (.slice none 0 0)] []), mv 109 8, bc 110 .add 109 (V.int 1), xs 2 2 108, mv 3 110, mc 4 (V.int 1)]) (.ret)) (.skip))) (seqK [2, 5, 6, 7, 8, 14] (.reg [mv 111 9, xo 112 (.iaddr 1 (.t 111) (.c (V.int 1))), ld 113 1 112, cl 114 f_ref17_Purpose [113], mv 115 12, xo 116 (.build [(.int .i64 0), (.int .i64 0)] [(0, 1, (.t 114)), (1, 1, (.t 115))]), xo 14 (.alloc [.val (.int .i64 0), .val (.int .i64 0)]), xs 2 14 116]) (seqK [2, 5, 6, 7, 8, 14] (seqK [2, 5, 6, 7, 8, 14, 123] (.reg [xo 117 (.load true 2 (.t 14)), cl 118 f_ref17_kept [117], xo 119 (.un .not (.t 118)), mv 120 119, mg 121 7 120 true, xg 122 (.bin .eql (.t 121) (.c (V.int 0))) 120 true, xo 123 (.pick (.t 120) (.t 122) (.c (V.bool false)))]) (.cond (.t 123) (.reg [mv 124 8, bc 125 .add 124 (V.int 1), mv 7 125]) (.skip))) (.reg [fa 126 1 6, ld 127 1 126, xo 128 (.load true 2 (.t 14)), xo 129 (.bslice 1 2 true [(.int .i64 0), (.int .i64 0)] [(0, (.t 128))]), xo 130 (.append 2 16 [(.int .i64 0), (.int .i64 0)] (.t 127) (.t 129)), fa 131 1 6, xs 1 131 130])))))) (seqK [2, 3, 4] (.reg [xo 53 (.build [(.slice none 0 0), (.slice none 0 0)] []), mv 54 8, bc 55 .add 54 (V.int 1), xs 2 2 53, mv 3 55, mc 4 (V.int 1)]) (.ret))))))))))) (.reg [mv 30 8, bc 31 .add 30 (V.int 1), mv 8 31])))))) (seqK [2, 6] (seqK [2, 6, 7, 133] (.reg [mv 132 7, bc 133 .gtr 132 (V.int 0)]) (.cond (.t 133) (seqK [2, 3, 4] (.reg [xo 134 (.build [(.slice none 0 0), (.slice none 0 0)] []), mv 135 7, xs 2 2 134, mv 3 135, mc 4 (V.int 25)]) (.ret)) (.skip))) (seqK [2, 6] (seqK [2, 6, 138] (.reg [xo 136 (.load true 2 (.t 6)), cl 137 f_ref17_Check [136], bc 138 .neq 137 (V.int 0)]) (.cond (.t 138) (seqK [2, 3, 4] (.reg [xo 139 (.build [(.slice none 0 0), (.slice none 0 0)] []), xs 2 2 139, mc 3 (V.int 0), mc 4 (V.int 3)]) (.ret)) (.skip))) (seqK [2, 3, 4] (.reg [xo 140 (.load true 2 (.t 6)), xs 2 2 140, mc 3 (V.int 0), mc 4 (V.int 0)]) (.ret))))))))) def r_ref17_Parse : List ARes := [.cell 2 true 2, .tmp 3, .tmp 4]
def CE_ref17_Parse (Γ : Env) (f : Nat) : Prop := ∀ (s : List UInt8) (hs : s.length < 2 ^ 30), EvC Γ f [V.str s] (resV (parseR s))
theorem ev_ref17_Parse {Γ : Env} {f f_ref06_Ends f_ref06_Lines f_ref17_words f_ref17_rule f_ref17_Ruled f_ref17_Purpose f_ref02_Number f_ref17_kept f_ref17_Check : Nat} (h : Has Γ.P f 141 (c_ref17_Parse f_ref06_Ends f_ref06_Lines f_ref17_words f_ref17_rule f_ref17_Ruled f_ref17_Purpose f_ref02_Number f_ref17_kept f_ref17_Check) r_ref17_Parse) (h_ref06_Ends : CE_ref06_Ends Γ f_ref06_Ends) (h_ref06_Lines : CE_ref06_Lines Γ f_ref06_Lines) (h_ref17_words : CE_ref17_words Γ f_ref17_words) (h_ref17_rule : CE_ref17_rule Γ f_ref17_rule) (h_ref17_Ruled : CE_ref17_Ruled Γ f_ref17_Ruled) (h_ref17_Purpose : CE_ref17_Purpose Γ f_ref17_Purpose) (h_ref02_Number : CE_ref02_Number Γ f_ref02_Number) (h_ref17_kept : CE_ref17_kept Γ f_ref17_kept) (h_ref17_Check : CE_ref17_Check Γ f_ref17_Check) : CE_ref17_Parse Γ f := by
  intro s hs
  refine evC_of_body h (by simp) (resV_closed _) fun C hC hm => ?_
  subst hC
  unfold c_ref17_Parse
  have hct := (h_ref06_Ends s (by omega)).b
  have hsp := (h_ref06_Lines s (by omega)).b
  by_cases h1 : s.length > 8192
  · have e1 : decide ((s.length : Int) > 8192) = true := by simp; omega
    have e2 : parseR s = ([], [], 0, 3) := by rw [parseR, if_pos (.inl h1)]
    rw [e2, resV]
    repeat' (first | refine awp_seqR fun K' hK => ?_ | refine awp_regR fun K' hK => ?_ | refine awp_seqK ?_ | refine awp_skip ?_ | refine awp_block ?_ | ((first | refine awp_cond ⟨_, rfl, fun hc => ?_, fun hc => ?_⟩ | refine awB_t (fun hc => ?_) (fun hc => ?_) | refine awB_f (fun hc => ?_) (fun hc => ?_)) <;> first | exact Bool.noConfusion hc | ((try simp only [decide_eq_true_eq, decide_eq_false_iff_not, beq_iff_eq, beq_eq_false_iff_ne, ne_eq, Bool.not_eq_true', Bool.not_eq_false'] at hc); first | (exfalso; simp only [List.length_map] at hc; omega) | (exfalso; omega) | skip)) | refine awp_ret ?_ | refine awp_exit ?_ | simp (maxSteps := 1000000) only [go_sem, Nat.reduceAdd, Nat.reduceMul, Nat.reduceEqDiff, Nat.reduceLeDiff, Nat.reduceLT, Nat.reduceSub, Int.reduceEq, Int.reduceBEq, Int.reduceLT, Int.reduceLE, Int.reduceAdd, Int.reduceToNat, reduceIte, reduceCtorEq, e1] | (refine hK _ ?_; clear hK; clear K') | refine And.intro ?_ ?_ | (apply awCs_A; (focus (first | exact (h_ref06_Ends _ (by first | assumption | omega | (simp; done))).b | exact (h_ref06_Lines _ (by first | assumption | omega | (simp; done))).b | exact (h_ref17_words _ (by first | assumption | omega | (simp; done))).b | exact (h_ref17_rule _ _ (by first | assumption | omega | (simp; done))).b | exact (h_ref17_Ruled _).b | exact (h_ref17_Purpose _).b | exact (h_ref02_Number _).b | exact (h_ref17_kept _).b | exact (h_ref17_Check _ _ (by first | assumption | omega | (simp; done)) (by first | assumption | omega | (simp; done))).b))) | (simp only [List.length_append, List.length_cons, List.length_nil, List.length_map, Nat.reducePow, Nat.reduceAdd]; omega) | omega | exact List.mem_singleton_self _)
    all_goals (refine ends_r _ rfl ?_; simp only [go_sem, Nat.reduceEqDiff, Nat.reduceAdd, reduceIte, reduceCtorEq]; first | rfl | (simp; done) | trace_state)
  have e1 : decide ((s.length : Int) > 8192) = false := by simp; omega
  by_cases h3 : (splitL 10 s).length - 1 > 200
  · have e2 : parseR s = ([], [], 0, 3) := by rw [parseR, if_pos (.inr h3)]
    have e4 : decide (((((splitL 10 s).length - 1 : Nat)) : Int) > 200) = true := by simp; omega
    rw [e2, resV]
    repeat' (first | refine awp_seqR fun K' hK => ?_ | refine awp_regR fun K' hK => ?_ | refine awp_seqK ?_ | refine awp_skip ?_ | refine awp_block ?_ | ((first | refine awp_cond ⟨_, rfl, fun hc => ?_, fun hc => ?_⟩ | refine awB_t (fun hc => ?_) (fun hc => ?_) | refine awB_f (fun hc => ?_) (fun hc => ?_)) <;> first | exact Bool.noConfusion hc | ((try simp only [decide_eq_true_eq, decide_eq_false_iff_not, beq_iff_eq, beq_eq_false_iff_ne, ne_eq, Bool.not_eq_true', Bool.not_eq_false'] at hc); first | (exfalso; simp only [List.length_map] at hc; omega) | (exfalso; omega) | skip)) | refine awp_ret ?_ | refine awp_exit ?_ | simp (maxSteps := 1000000) only [go_sem, Nat.reduceAdd, Nat.reduceMul, Nat.reduceEqDiff, Nat.reduceLeDiff, Nat.reduceLT, Nat.reduceSub, Int.reduceEq, Int.reduceBEq, Int.reduceLT, Int.reduceLE, Int.reduceAdd, Int.reduceToNat, reduceIte, reduceCtorEq, e1, e4] | (refine hK _ ?_; clear hK; clear K') | refine And.intro ?_ ?_ | (apply awCs_A; (focus (first | exact hct | exact (h_ref06_Ends _ (by first | assumption | omega | (simp; done))).b | exact (h_ref06_Lines _ (by first | assumption | omega | (simp; done))).b | exact (h_ref17_words _ (by first | assumption | omega | (simp; done))).b | exact (h_ref17_rule _ _ (by first | assumption | omega | (simp; done))).b | exact (h_ref17_Ruled _).b | exact (h_ref17_Purpose _).b | exact (h_ref02_Number _).b | exact (h_ref17_kept _).b | exact (h_ref17_Check _ _ (by first | assumption | omega | (simp; done)) (by first | assumption | omega | (simp; done))).b))) | (simp only [List.length_append, List.length_cons, List.length_nil, List.length_map, Nat.reducePow, Nat.reduceAdd]; omega) | omega | exact List.mem_singleton_self _)
    all_goals (refine ends_r _ rfl ?_; simp only [go_sem, Nat.reduceEqDiff, Nat.reduceAdd, reduceIte, reduceCtorEq]; first | rfl | (simp; done) | trace_state)
  have e2 : parseR s = goR (linesL s) 0 0 [] [] := by rw [parseR, if_neg (by omega)]
  have e4 : decide (((((splitL 10 s).length - 1 : Nat)) : Int) > 200) = false := by simp; omega
  rw [e2, resV]
  have hmem : ∀ w ∈ linesL s, w.length < 2 ^ 30 := fun w hw => by have := linesL_mem hw; omega
  have hll := linesL_len s
  have hws : (linesL s).length ≤ 201 := by omega
  generalize hR : goR (linesL s) 0 0 [] [] = R at *
  generalize linesL s = ws at *
  repeat' (first | refine awp_seqR fun K' hK => ?_ | refine awp_regR fun K' hK => ?_ | refine awp_seqK ?_ | refine awp_skip ?_ | refine awp_block ?_ | ((first | refine awp_cond ⟨_, rfl, fun hc => ?_, fun hc => ?_⟩ | refine awB_t (fun hc => ?_) (fun hc => ?_) | refine awB_f (fun hc => ?_) (fun hc => ?_)) <;> first | exact Bool.noConfusion hc | ((try simp only [decide_eq_true_eq, decide_eq_false_iff_not, beq_iff_eq, beq_eq_false_iff_ne, ne_eq, Bool.not_eq_true', Bool.not_eq_false'] at hc); first | (exfalso; simp only [List.length_map] at hc; omega) | (exfalso; omega) | skip)) | refine awp_ret ?_ | refine awp_exit ?_ | simp (maxSteps := 1000000) only [go_sem, Nat.reduceAdd, Nat.reduceMul, Nat.reduceEqDiff, Nat.reduceLeDiff, Nat.reduceLT, Nat.reduceSub, Int.reduceEq, Int.reduceBEq, Int.reduceLT, Int.reduceLE, Int.reduceAdd, Int.reduceToNat, reduceIte, reduceCtorEq, e1, e4] | (refine hK _ ?_; clear hK; clear K') | refine And.intro ?_ ?_ | (apply awCs_A; (focus (first | exact hct | exact hsp | exact (h_ref06_Ends _ (by first | assumption | omega | (simp; done))).b | exact (h_ref06_Lines _ (by first | assumption | omega | (simp; done))).b | exact (h_ref17_words _ (by first | assumption | omega | (simp; done))).b | exact (h_ref17_rule _ _ (by first | assumption | omega | (simp; done))).b | exact (h_ref17_Ruled _).b | exact (h_ref17_Purpose _).b | exact (h_ref02_Number _).b | exact (h_ref17_kept _).b | exact (h_ref17_Check _ _ (by first | assumption | omega | (simp; done)) (by first | assumption | omega | (simp; done))).b))) | (simp only [List.length_append, List.length_cons, List.length_nil, List.length_map, Nat.reducePow, Nat.reduceAdd]; omega) | omega | exact List.mem_singleton_self _)
  refine awp_loopV (ι := Nat × Int × List PRule × List PKeep) (fun q => q.1 ≤ ws.length ∧ (0 ≤ q.2.1 ∧ q.2.1 ≤ q.1) ∧ q.2.2.1.length ≤ q.1 ∧ q.2.2.2.length ≤ q.1 ∧ goR (ws.drop q.1) q.1 q.2.1 q.2.2.1 q.2.2.2 = R)
    (fun q => mkSt [(2, .ptr 0 0), (5, .sl 1 (ws.map V.str)), (6, .ptr 3 0), (7, V.int q.2.1), (8, V.int q.1)] [(0, .box true [.hd 1 0 0, .hd 2 0 0]), (1, .buf true 6 []), (2, .buf true 2 []), (3, .box true [.hd 4 0 (q.2.2.1.map PRule.v).length, .hd 5 0 (q.2.2.2.map PKeep.v).length]), (4, .buf true 6 (q.2.2.1.map PRule.v)), (5, .buf true 2 (q.2.2.2.map PKeep.v))] 6)
    (fun q => ws.length - q.1) (0, 0, [], []) ⟨by simp, by simp, by simp, by simp, by simpa using hR⟩ (lookN [(3, 14000), (4, 14001), (5, 14002)]) (weak_g [(3, 14000), (4, 14001), (5, 14002)] (by simp only [go_sem, Nat.reduceAdd, Nat.reduceMul, Nat.reduceEqDiff, Nat.reduceLT, Int.reduceToNat, reduceIte, reduceCtorEq, and_true, true_and, implies_true, Option.some.injEq, exists_eq_left', closedL_ren, closed_ren]; (repeat' (first | rfl | refine And.intro ?_ ?_ | omega | exact fun h => h | exact Exists.intro _ rfl))) (by simp only [List.map_nil, List.length_nil]; simp only [go_sem, Nat.reduceAdd, Nat.reduceMul, Nat.reduceEqDiff, Nat.reduceLT, Int.reduceToNat, reduceIte, reduceCtorEq, and_true, true_and, implies_true, Option.some.injEq, exists_eq_left', closedL_ren, closed_ren]; (repeat' (first | rfl | refine And.intro ?_ ?_ | omega | exact fun h => h | exact Exists.intro _ rfl))) (by simp [lookN]) (by simp; omega) (by omega)) fun q hq K' hL => ?_
  obtain ⟨k, w, rs, ks⟩ := q
  obtain ⟨q1, ⟨q2, q3⟩, q4, q5, hinv⟩ := hq
  simp only at q1 q2 q3 q4 q5 hinv
  simp only
  rcases hd : ws.drop k with _ | ⟨x, r⟩
  · have hk := drop_nil hd
    rw [hd, goR] at hinv
    rw [← hinv]
    have e5 : decide ((k : Int) < (((ws.map V.str).length : Nat) : Int)) = false := by simp; omega
    by_cases hw : w > 0
    · have e6 : decide (w > 0) = true := decide_eq_true hw
      rw [if_pos hw]
      repeat' (first | refine awp_seqR fun K' hK => ?_ | refine awp_regR fun K' hK => ?_ | refine awp_seqK ?_ | refine awp_skip ?_ | refine awp_block ?_ | ((first | refine awp_cond ⟨_, rfl, fun hc => ?_, fun hc => ?_⟩ | refine awB_t (fun hc => ?_) (fun hc => ?_) | refine awB_f (fun hc => ?_) (fun hc => ?_)) <;> first | exact Bool.noConfusion hc | ((try simp only [decide_eq_true_eq, decide_eq_false_iff_not, beq_iff_eq, beq_eq_false_iff_ne, ne_eq, Bool.not_eq_true', Bool.not_eq_false'] at hc); first | (exfalso; simp only [List.length_map] at hc; omega) | (exfalso; omega) | skip)) | refine awp_ret ?_ | refine awp_exit ?_ | simp (maxSteps := 1000000) only [go_sem, Nat.reduceAdd, Nat.reduceMul, Nat.reduceEqDiff, Nat.reduceLeDiff, Nat.reduceLT, Nat.reduceSub, Int.reduceEq, Int.reduceBEq, Int.reduceLT, Int.reduceLE, Int.reduceAdd, Int.reduceToNat, reduceIte, reduceCtorEq, mkSt, e5, e6] | (refine hK _ ?_; clear hK; clear K') | refine And.intro ?_ ?_ | (apply awCs_A; (focus (first | exact (h_ref06_Ends _ (by first | assumption | omega | (simp; done))).b | exact (h_ref06_Lines _ (by first | assumption | omega | (simp; done))).b | exact (h_ref17_words _ (by first | assumption | omega | (simp; done))).b | exact (h_ref17_rule _ _ (by first | assumption | omega | (simp; done))).b | exact (h_ref17_Ruled _).b | exact (h_ref17_Purpose _).b | exact (h_ref02_Number _).b | exact (h_ref17_kept _).b | exact (h_ref17_Check _ _ (by first | assumption | omega | (simp; done)) (by first | assumption | omega | (simp; done))).b))) | (simp only [List.length_append, List.length_cons, List.length_nil, List.length_map, Nat.reducePow, Nat.reduceAdd]; omega) | omega | exact List.mem_singleton_self _)
      all_goals (refine ends_r _ rfl ?_; simp only [go_sem, Nat.reduceEqDiff, Nat.reduceAdd, reduceIte, reduceCtorEq]; first | rfl | (simp; done) | trace_state)
    · have e6 : decide (w > 0) = false := decide_eq_false hw
      rw [if_neg hw]
      have n1 := (h_ref17_Check rs ks (by omega) (by omega)).b
      have t1 : List.take (rs.map PRule.v).length (rs.map PRule.v) = rs.map PRule.v := List.take_length
      have t2 : List.take (ks.map PKeep.v).length (ks.map PKeep.v) = ks.map PKeep.v := List.take_length
      by_cases h7 : checkV rs ks = 0
      · rw [if_pos h7]
        rw [h7] at n1
        repeat' (first | refine awp_seqR fun K' hK => ?_ | refine awp_regR fun K' hK => ?_ | refine awp_seqK ?_ | refine awp_skip ?_ | refine awp_block ?_ | ((first | refine awp_cond ⟨_, rfl, fun hc => ?_, fun hc => ?_⟩ | refine awB_t (fun hc => ?_) (fun hc => ?_) | refine awB_f (fun hc => ?_) (fun hc => ?_)) <;> first | exact Bool.noConfusion hc | ((try simp only [decide_eq_true_eq, decide_eq_false_iff_not, beq_iff_eq, beq_eq_false_iff_ne, ne_eq, Bool.not_eq_true', Bool.not_eq_false'] at hc); first | (exfalso; simp only [List.length_map] at hc; omega) | (exfalso; omega) | skip)) | refine awp_ret ?_ | refine awp_exit ?_ | simp (maxSteps := 1000000) only [go_sem, Nat.reduceAdd, Nat.reduceMul, Nat.reduceEqDiff, Nat.reduceLeDiff, Nat.reduceLT, Nat.reduceSub, Int.reduceEq, Int.reduceBEq, Int.reduceLT, Int.reduceLE, Int.reduceAdd, Int.reduceToNat, reduceIte, reduceCtorEq, mkSt, e5, e6, t1, t2, List.drop_zero] | (refine hK _ ?_; clear hK; clear K') | refine And.intro ?_ ?_ | (apply awCs_A; (focus (first | exact n1 | exact (h_ref06_Ends _ (by first | assumption | omega | (simp; done))).b | exact (h_ref06_Lines _ (by first | assumption | omega | (simp; done))).b | exact (h_ref17_words _ (by first | assumption | omega | (simp; done))).b | exact (h_ref17_rule _ _ (by first | assumption | omega | (simp; done))).b | exact (h_ref17_Ruled _).b | exact (h_ref17_Purpose _).b | exact (h_ref02_Number _).b | exact (h_ref17_kept _).b | exact (h_ref17_Check _ _ (by first | assumption | omega | (simp; done)) (by first | assumption | omega | (simp; done))).b))) | (simp only [List.length_append, List.length_cons, List.length_nil, List.length_map, Nat.reducePow, Nat.reduceAdd]; omega) | omega | exact List.mem_singleton_self _)
        all_goals (refine ends_r _ rfl ?_; simp only [go_sem, Nat.reduceEqDiff, Nat.reduceAdd, reduceIte, reduceCtorEq]; first | exact ⟨List.take_length.symm, List.take_length.symm⟩ | (simp; done) | trace_state)
      · rw [if_neg h7]
        have e7 : (checkV rs ks != 0) = true := by simpa using h7
        repeat' (first | refine awp_seqR fun K' hK => ?_ | refine awp_regR fun K' hK => ?_ | refine awp_seqK ?_ | refine awp_skip ?_ | refine awp_block ?_ | ((first | refine awp_cond ⟨_, rfl, fun hc => ?_, fun hc => ?_⟩ | refine awB_t (fun hc => ?_) (fun hc => ?_) | refine awB_f (fun hc => ?_) (fun hc => ?_)) <;> first | exact Bool.noConfusion hc | ((try simp only [decide_eq_true_eq, decide_eq_false_iff_not, beq_iff_eq, beq_eq_false_iff_ne, ne_eq, Bool.not_eq_true', Bool.not_eq_false'] at hc); first | (exfalso; simp only [List.length_map] at hc; omega) | (exfalso; omega) | skip)) | refine awp_ret ?_ | refine awp_exit ?_ | simp (maxSteps := 1000000) only [go_sem, Nat.reduceAdd, Nat.reduceMul, Nat.reduceEqDiff, Nat.reduceLeDiff, Nat.reduceLT, Nat.reduceSub, Int.reduceEq, Int.reduceBEq, Int.reduceLT, Int.reduceLE, Int.reduceAdd, Int.reduceToNat, reduceIte, reduceCtorEq, mkSt, e5, e6, e7, t1, t2, List.drop_zero] | (refine hK _ ?_; clear hK; clear K') | refine And.intro ?_ ?_ | (apply awCs_A; (focus (first | exact n1 | exact (h_ref06_Ends _ (by first | assumption | omega | (simp; done))).b | exact (h_ref06_Lines _ (by first | assumption | omega | (simp; done))).b | exact (h_ref17_words _ (by first | assumption | omega | (simp; done))).b | exact (h_ref17_rule _ _ (by first | assumption | omega | (simp; done))).b | exact (h_ref17_Ruled _).b | exact (h_ref17_Purpose _).b | exact (h_ref02_Number _).b | exact (h_ref17_kept _).b | exact (h_ref17_Check _ _ (by first | assumption | omega | (simp; done)) (by first | assumption | omega | (simp; done))).b))) | (simp only [List.length_append, List.length_cons, List.length_nil, List.length_map, Nat.reducePow, Nat.reduceAdd]; omega) | omega | exact List.mem_singleton_self _)
        all_goals (refine ends_r _ rfl ?_; simp only [go_sem, Nat.reduceEqDiff, Nat.reduceAdd, reduceIte, reduceCtorEq]; first | rfl | (simp; done) | trace_state)
  · obtain ⟨hk', hget, hr⟩ := drop_cons hd
    have hwm := hmem x (List.mem_of_getElem? hget)
    have hw := wrap_succ (k := k) (by omega)
    have e5 : decide ((k : Int) < (((ws.map V.str).length : Nat) : Int)) = true := by simp; omega
    rw [hd, goR] at hinv
    by_cases hn : noteL x = true
    · rw [if_pos hn] at hinv
      rcases x with _ | ⟨c, x2⟩
      · repeat' (first | refine awp_seqR fun K' hK => ?_ | refine awp_regR fun K' hK => ?_ | refine awp_seqK ?_ | refine awp_skip ?_ | refine awp_block ?_ | ((first | refine awp_cond ⟨_, rfl, fun hc => ?_, fun hc => ?_⟩ | refine awB_t (fun hc => ?_) (fun hc => ?_) | refine awB_f (fun hc => ?_) (fun hc => ?_)) <;> first | exact Bool.noConfusion hc | ((try simp only [decide_eq_true_eq, decide_eq_false_iff_not, beq_iff_eq, beq_eq_false_iff_ne, ne_eq, Bool.not_eq_true', Bool.not_eq_false'] at hc); first | (exfalso; simp only [List.length_map] at hc; omega) | (exfalso; omega) | skip)) | refine awp_ret ?_ | refine awp_exit ?_ | simp (maxSteps := 1000000) only [go_sem, Nat.reduceAdd, Nat.reduceMul, Nat.reduceEqDiff, Nat.reduceLeDiff, Nat.reduceLT, Nat.reduceSub, Int.reduceEq, Int.reduceBEq, Int.reduceLT, Int.reduceLE, Int.reduceAdd, Int.reduceToNat, reduceIte, reduceCtorEq, mkSt, e5, hw, Int.toNat_natCast, List.getElem?_map, hget] | (refine hK _ ?_; clear hK; clear K') | refine And.intro ?_ ?_ | (apply awCs_A; (focus (first | exact (h_ref06_Ends _ (by first | assumption | omega | (simp; done))).b | exact (h_ref06_Lines _ (by first | assumption | omega | (simp; done))).b | exact (h_ref17_words _ (by first | assumption | omega | (simp; done))).b | exact (h_ref17_rule _ _ (by first | assumption | omega | (simp; done))).b | exact (h_ref17_Ruled _).b | exact (h_ref17_Purpose _).b | exact (h_ref02_Number _).b | exact (h_ref17_kept _).b | exact (h_ref17_Check _ _ (by first | assumption | omega | (simp; done)) (by first | assumption | omega | (simp; done))).b))) | (simp only [List.length_append, List.length_cons, List.length_nil, List.length_map, Nat.reducePow, Nat.reduceAdd]; omega) | omega | exact List.mem_singleton_self _)
        all_goals first
          | exact hL _ (k + 1, w, rs, ks) (lookN []) ⟨by simp only; omega, ⟨q2, by simp only; omega⟩, by simp only; omega, by simp only; omega, by simp only; rw [hr]; exact hinv⟩ (by simp only; omega) (weak_g [] (by simp only [go_sem, Nat.reduceAdd, Nat.reduceMul, Nat.reduceEqDiff, Nat.reduceLT, Int.reduceToNat, reduceIte, reduceCtorEq, and_true, true_and, implies_true, Option.some.injEq, exists_eq_left', closedL_ren, closed_ren]; (repeat' (first | rfl | refine And.intro ?_ ?_ | omega | exact fun h => h | exact Exists.intro _ rfl))) (by simp only [go_sem, Nat.reduceAdd, Nat.reduceMul, Nat.reduceEqDiff, Nat.reduceLT, Int.reduceToNat, reduceIte, reduceCtorEq, and_true, true_and, implies_true, Option.some.injEq, exists_eq_left', closedL_ren, closed_ren]; (repeat' (first | rfl | refine And.intro ?_ ?_ | omega | exact fun h => h | exact Exists.intro _ rfl))) (by simp [lookN]) (by simp) (by omega))
          | trace_state
      · have e9 : (c :: x2 == []) = false := rfl
        have e10 : ((c.toNat : Int) == 35) = true := (u8_beq c 35 (by decide)).trans hn
        repeat' (first | refine awp_seqR fun K' hK => ?_ | refine awp_regR fun K' hK => ?_ | refine awp_seqK ?_ | refine awp_skip ?_ | refine awp_block ?_ | ((first | refine awp_cond ⟨_, rfl, fun hc => ?_, fun hc => ?_⟩ | refine awB_t (fun hc => ?_) (fun hc => ?_) | refine awB_f (fun hc => ?_) (fun hc => ?_)) <;> first | exact Bool.noConfusion hc | ((try simp only [decide_eq_true_eq, decide_eq_false_iff_not, beq_iff_eq, beq_eq_false_iff_ne, ne_eq, Bool.not_eq_true', Bool.not_eq_false'] at hc); first | (exfalso; simp only [List.length_map] at hc; omega) | (exfalso; omega) | skip)) | refine awp_ret ?_ | refine awp_exit ?_ | simp (maxSteps := 1000000) only [go_sem, Nat.reduceAdd, Nat.reduceMul, Nat.reduceEqDiff, Nat.reduceLeDiff, Nat.reduceLT, Nat.reduceSub, Int.reduceEq, Int.reduceBEq, Int.reduceLT, Int.reduceLE, Int.reduceAdd, Int.reduceToNat, reduceIte, reduceCtorEq, mkSt, e5, e9, e10, hw, Int.toNat_natCast, List.getElem?_map, hget] | (refine hK _ ?_; clear hK; clear K') | refine And.intro ?_ ?_ | (apply awCs_A; (focus (first | exact (h_ref06_Ends _ (by first | assumption | omega | (simp; done))).b | exact (h_ref06_Lines _ (by first | assumption | omega | (simp; done))).b | exact (h_ref17_words _ (by first | assumption | omega | (simp; done))).b | exact (h_ref17_rule _ _ (by first | assumption | omega | (simp; done))).b | exact (h_ref17_Ruled _).b | exact (h_ref17_Purpose _).b | exact (h_ref02_Number _).b | exact (h_ref17_kept _).b | exact (h_ref17_Check _ _ (by first | assumption | omega | (simp; done)) (by first | assumption | omega | (simp; done))).b))) | (simp only [List.length_append, List.length_cons, List.length_nil, List.length_map, Nat.reducePow, Nat.reduceAdd]; omega) | omega | exact List.mem_singleton_self _)
        all_goals first
          | exact hL _ (k + 1, w, rs, ks) (lookN []) ⟨by simp only; omega, ⟨q2, by simp only; omega⟩, by simp only; omega, by simp only; omega, by simp only; rw [hr]; exact hinv⟩ (by simp only; omega) (weak_g [] (by simp only [go_sem, Nat.reduceAdd, Nat.reduceMul, Nat.reduceEqDiff, Nat.reduceLT, Int.reduceToNat, reduceIte, reduceCtorEq, and_true, true_and, implies_true, Option.some.injEq, exists_eq_left', closedL_ren, closed_ren]; (repeat' (first | rfl | refine And.intro ?_ ?_ | omega | exact fun h => h | exact Exists.intro _ rfl))) (by simp only [go_sem, Nat.reduceAdd, Nat.reduceMul, Nat.reduceEqDiff, Nat.reduceLT, Int.reduceToNat, reduceIte, reduceCtorEq, and_true, true_and, implies_true, Option.some.injEq, exists_eq_left', closedL_ren, closed_ren]; (repeat' (first | rfl | refine And.intro ?_ ?_ | omega | exact fun h => h | exact Exists.intro _ rfl))) (by simp [lookN]) (by simp) (by omega))
          | trace_state
    rw [if_neg hn] at hinv
    rcases x with _ | ⟨c, x2⟩
    · exact absurd rfl hn
    have e9 : (c :: x2 == []) = false := rfl
    have e10 : ((c.toNat : Int) == 35) = false := (u8_beq c 35 (by decide)).trans (by simpa [noteL] using hn)
    have hwd := (h_ref17_words (c :: x2) (by omega)).b
    have hsl := splitL_len 32 (c :: x2)
    rcases hsv : splitL 32 (c :: x2) with _ | ⟨y, t⟩
    · exact absurd hsv (splitA_ne _ _ _)
    rw [hsv] at hwd hinv hsl
    simp only [List.length_cons] at hsl hwm
    have t1 : List.take (rs.map PRule.v).length (rs.map PRule.v) = rs.map PRule.v := List.take_length
    have t2 : List.take (ks.map PKeep.v).length (ks.map PKeep.v) = ks.map PKeep.v := List.take_length
    by_cases hyallow : y = [97, 108, 108, 111, 119]
    · have f1 : (y == [97, 108, 108, 111, 119]) = true := by simpa using hyallow
      have n1 := (h_ref17_rule y t (by omega)).b
      rw [lineR, if_pos (.inl hyallow)] at hinv
      generalize ruleR (y :: t) = p at *
      obtain ⟨rr, ok⟩ := p
      simp only [PRule.v, PRule.cells] at n1
      rcases ok with _ | _
      · simp only [Bool.false_eq_true, if_false] at hinv
        rw [← hinv]
        repeat' (first | refine awp_seqR fun K' hK => ?_ | refine awp_regR fun K' hK => ?_ | refine awp_seqK ?_ | refine awp_skip ?_ | refine awp_block ?_ | ((first | refine awp_cond ⟨_, rfl, fun hc => ?_, fun hc => ?_⟩ | refine awB_t (fun hc => ?_) (fun hc => ?_) | refine awB_f (fun hc => ?_) (fun hc => ?_)) <;> first | exact Bool.noConfusion hc | ((try simp only [decide_eq_true_eq, decide_eq_false_iff_not, beq_iff_eq, beq_eq_false_iff_ne, ne_eq, Bool.not_eq_true', Bool.not_eq_false'] at hc); first | (exfalso; simp only [List.length_map] at hc; omega) | (exfalso; omega) | skip)) | refine awp_ret ?_ | refine awp_exit ?_ | simp (maxSteps := 1000000) only [go_sem, Nat.reduceAdd, Nat.reduceMul, Nat.reduceEqDiff, Nat.reduceLeDiff, Nat.reduceLT, Nat.reduceSub, Int.reduceEq, Int.reduceBEq, Int.reduceLT, Int.reduceLE, Int.reduceAdd, Int.reduceToNat, reduceIte, reduceCtorEq, mkSt, e5, e9, e10, hw, Int.toNat_natCast, List.getElem?_map, hget, f1, List.map_cons] | (refine hK _ ?_; clear hK; clear K') | refine And.intro ?_ ?_ | (apply awCs_A; (focus (first | exact hwd | exact n1 | exact (h_ref06_Ends _ (by first | assumption | omega | (simp; done))).b | exact (h_ref06_Lines _ (by first | assumption | omega | (simp; done))).b | exact (h_ref17_words _ (by first | assumption | omega | (simp; done))).b | exact (h_ref17_rule _ _ (by first | assumption | omega | (simp; done))).b | exact (h_ref17_Ruled _).b | exact (h_ref17_Purpose _).b | exact (h_ref02_Number _).b | exact (h_ref17_kept _).b | exact (h_ref17_Check _ _ (by first | assumption | omega | (simp; done)) (by first | assumption | omega | (simp; done))).b))) | (simp only [List.length_append, List.length_cons, List.length_nil, List.length_map, Nat.reducePow, Nat.reduceAdd]; omega) | omega | exact List.mem_singleton_self _)
        all_goals (refine ends_r _ rfl ?_; simp only [go_sem, Nat.reduceEqDiff, Nat.reduceAdd, reduceIte, reduceCtorEq]; first | rfl | (simp; done) | trace_state)
      · simp only [if_true] at hinv
        have n2 := (h_ref17_Ruled rr).b
        simp only [PRule.v, PRule.cells] at n2
        have hb : List.map PRule.v rs ++ [V.agg [V.bool rr.allow, V.int rr.alg, V.int rr.below, V.int rr.purp, V.int rr.frm, V.int rr.til]] = (rs ++ [rr]).map PRule.v := by rw [List.map_append]; rfl
        have hlb : (rs.map PRule.v).length + 1 = ((rs ++ [rr]).map PRule.v).length := by simp
        rcases hru : ruledB rr with _ | _
        · rw [hru] at n2 hinv
          by_cases hw0 : w = 0
          · subst hw0
            simp only [and_self, if_true] at hinv
            repeat' (first | refine awp_seqR fun K' hK => ?_ | refine awp_regR fun K' hK => ?_ | refine awp_seqK ?_ | refine awp_skip ?_ | refine awp_block ?_ | ((first | refine awp_cond ⟨_, rfl, fun hc => ?_, fun hc => ?_⟩ | refine awB_t (fun hc => ?_) (fun hc => ?_) | refine awB_f (fun hc => ?_) (fun hc => ?_)) <;> first | exact Bool.noConfusion hc | ((try simp only [decide_eq_true_eq, decide_eq_false_iff_not, beq_iff_eq, beq_eq_false_iff_ne, ne_eq, Bool.not_eq_true', Bool.not_eq_false'] at hc); first | (exfalso; simp only [List.length_map] at hc; omega) | (exfalso; omega) | skip)) | refine awp_ret ?_ | refine awp_exit ?_ | simp (maxSteps := 1000000) only [go_sem, Nat.reduceAdd, Nat.reduceMul, Nat.reduceEqDiff, Nat.reduceLeDiff, Nat.reduceLT, Nat.reduceSub, Int.reduceEq, Int.reduceBEq, Int.reduceLT, Int.reduceLE, Int.reduceAdd, Int.reduceToNat, reduceIte, reduceCtorEq, mkSt, e5, e9, e10, hw, Int.toNat_natCast, List.getElem?_map, hget, f1, List.map_cons, t1, hb, hlb] | (refine hK _ ?_; clear hK; clear K') | refine And.intro ?_ ?_ | (apply awCs_A; (focus (first | exact hwd | exact n1 | exact n2 | exact (h_ref06_Ends _ (by first | assumption | omega | (simp; done))).b | exact (h_ref06_Lines _ (by first | assumption | omega | (simp; done))).b | exact (h_ref17_words _ (by first | assumption | omega | (simp; done))).b | exact (h_ref17_rule _ _ (by first | assumption | omega | (simp; done))).b | exact (h_ref17_Ruled _).b | exact (h_ref17_Purpose _).b | exact (h_ref02_Number _).b | exact (h_ref17_kept _).b | exact (h_ref17_Check _ _ (by first | assumption | omega | (simp; done)) (by first | assumption | omega | (simp; done))).b))) | (simp only [List.length_append, List.length_cons, List.length_nil, List.length_map, Nat.reducePow, Nat.reduceAdd]; omega) | omega | exact List.mem_singleton_self _)
            all_goals first
              | exact hL _ (k + 1, (k : Int) + 1, rs ++ [rr], ks) (lookN [(4, 52006)]) ⟨by simp only; omega, ⟨by simp only; omega, by simp only; omega⟩, by simp only [lenP1]; omega, by simp only [lenP1]; omega, by simp only; rw [hr]; exact hinv⟩ (by simp only; omega) (weak_g [(4, 52006)] (by simp only [go_sem, Nat.reduceAdd, Nat.reduceMul, Nat.reduceEqDiff, Nat.reduceLT, Int.reduceToNat, reduceIte, reduceCtorEq, and_true, true_and, implies_true, Option.some.injEq, exists_eq_left', closedL_ren, closed_ren]; (repeat' (first | rfl | refine And.intro ?_ ?_ | omega | exact fun h => h | exact Exists.intro _ rfl))) (by simp only [go_sem, Nat.reduceAdd, Nat.reduceMul, Nat.reduceEqDiff, Nat.reduceLT, Int.reduceToNat, reduceIte, reduceCtorEq, and_true, true_and, implies_true, Option.some.injEq, exists_eq_left', closedL_ren, closed_ren]; (repeat' (first | rfl | refine And.intro ?_ ?_ | omega | exact fun h => h | exact Exists.intro _ rfl))) (by simp [lookN]) (by simp; omega) (by omega))
              | trace_state
          · have e11 : (w == 0) = false := by simpa using hw0
            simp only [hw0, false_and, if_false] at hinv
            repeat' (first | refine awp_seqR fun K' hK => ?_ | refine awp_regR fun K' hK => ?_ | refine awp_seqK ?_ | refine awp_skip ?_ | refine awp_block ?_ | ((first | refine awp_cond ⟨_, rfl, fun hc => ?_, fun hc => ?_⟩ | refine awB_t (fun hc => ?_) (fun hc => ?_) | refine awB_f (fun hc => ?_) (fun hc => ?_)) <;> first | exact Bool.noConfusion hc | ((try simp only [decide_eq_true_eq, decide_eq_false_iff_not, beq_iff_eq, beq_eq_false_iff_ne, ne_eq, Bool.not_eq_true', Bool.not_eq_false'] at hc); first | (exfalso; simp only [List.length_map] at hc; omega) | (exfalso; omega) | skip)) | refine awp_ret ?_ | refine awp_exit ?_ | simp (maxSteps := 1000000) only [go_sem, Nat.reduceAdd, Nat.reduceMul, Nat.reduceEqDiff, Nat.reduceLeDiff, Nat.reduceLT, Nat.reduceSub, Int.reduceEq, Int.reduceBEq, Int.reduceLT, Int.reduceLE, Int.reduceAdd, Int.reduceToNat, reduceIte, reduceCtorEq, mkSt, e5, e9, e10, hw, Int.toNat_natCast, List.getElem?_map, hget, f1, e11, List.map_cons, t1, hb, hlb] | (refine hK _ ?_; clear hK; clear K') | refine And.intro ?_ ?_ | (apply awCs_A; (focus (first | exact hwd | exact n1 | exact n2 | exact (h_ref06_Ends _ (by first | assumption | omega | (simp; done))).b | exact (h_ref06_Lines _ (by first | assumption | omega | (simp; done))).b | exact (h_ref17_words _ (by first | assumption | omega | (simp; done))).b | exact (h_ref17_rule _ _ (by first | assumption | omega | (simp; done))).b | exact (h_ref17_Ruled _).b | exact (h_ref17_Purpose _).b | exact (h_ref02_Number _).b | exact (h_ref17_kept _).b | exact (h_ref17_Check _ _ (by first | assumption | omega | (simp; done)) (by first | assumption | omega | (simp; done))).b))) | (simp only [List.length_append, List.length_cons, List.length_nil, List.length_map, Nat.reducePow, Nat.reduceAdd]; omega) | omega | exact List.mem_singleton_self _)
            all_goals first
              | exact hL _ (k + 1, w, rs ++ [rr], ks) (lookN [(4, 49006)]) ⟨by simp only; omega, ⟨by simp only; omega, by simp only; omega⟩, by simp only [lenP1]; omega, by simp only [lenP1]; omega, by simp only; rw [hr]; exact hinv⟩ (by simp only; omega) (weak_g [(4, 49006)] (by simp only [go_sem, Nat.reduceAdd, Nat.reduceMul, Nat.reduceEqDiff, Nat.reduceLT, Int.reduceToNat, reduceIte, reduceCtorEq, and_true, true_and, implies_true, Option.some.injEq, exists_eq_left', closedL_ren, closed_ren]; (repeat' (first | rfl | refine And.intro ?_ ?_ | omega | exact fun h => h | exact Exists.intro _ rfl))) (by simp only [go_sem, Nat.reduceAdd, Nat.reduceMul, Nat.reduceEqDiff, Nat.reduceLT, Int.reduceToNat, reduceIte, reduceCtorEq, and_true, true_and, implies_true, Option.some.injEq, exists_eq_left', closedL_ren, closed_ren]; (repeat' (first | rfl | refine And.intro ?_ ?_ | omega | exact fun h => h | exact Exists.intro _ rfl))) (by simp [lookN]) (by simp; omega) (by omega))
              | trace_state
        · rw [hru] at n2 hinv
          simp only [Bool.true_eq_false, and_false, if_false] at hinv
          repeat' (first | refine awp_seqR fun K' hK => ?_ | refine awp_regR fun K' hK => ?_ | refine awp_seqK ?_ | refine awp_skip ?_ | refine awp_block ?_ | ((first | refine awp_cond ⟨_, rfl, fun hc => ?_, fun hc => ?_⟩ | refine awB_t (fun hc => ?_) (fun hc => ?_) | refine awB_f (fun hc => ?_) (fun hc => ?_)) <;> first | exact Bool.noConfusion hc | ((try simp only [decide_eq_true_eq, decide_eq_false_iff_not, beq_iff_eq, beq_eq_false_iff_ne, ne_eq, Bool.not_eq_true', Bool.not_eq_false'] at hc); first | (exfalso; simp only [List.length_map] at hc; omega) | (exfalso; omega) | skip)) | refine awp_ret ?_ | refine awp_exit ?_ | simp (maxSteps := 1000000) only [go_sem, Nat.reduceAdd, Nat.reduceMul, Nat.reduceEqDiff, Nat.reduceLeDiff, Nat.reduceLT, Nat.reduceSub, Int.reduceEq, Int.reduceBEq, Int.reduceLT, Int.reduceLE, Int.reduceAdd, Int.reduceToNat, reduceIte, reduceCtorEq, mkSt, e5, e9, e10, hw, Int.toNat_natCast, List.getElem?_map, hget, f1, List.map_cons, t1, hb, hlb] | (refine hK _ ?_; clear hK; clear K') | refine And.intro ?_ ?_ | (apply awCs_A; (focus (first | exact hwd | exact n1 | exact n2 | exact (h_ref06_Ends _ (by first | assumption | omega | (simp; done))).b | exact (h_ref06_Lines _ (by first | assumption | omega | (simp; done))).b | exact (h_ref17_words _ (by first | assumption | omega | (simp; done))).b | exact (h_ref17_rule _ _ (by first | assumption | omega | (simp; done))).b | exact (h_ref17_Ruled _).b | exact (h_ref17_Purpose _).b | exact (h_ref02_Number _).b | exact (h_ref17_kept _).b | exact (h_ref17_Check _ _ (by first | assumption | omega | (simp; done)) (by first | assumption | omega | (simp; done))).b))) | (simp only [List.length_append, List.length_cons, List.length_nil, List.length_map, Nat.reducePow, Nat.reduceAdd]; omega) | omega | exact List.mem_singleton_self _)
          all_goals first
            | exact hL _ (k + 1, w, rs ++ [rr], ks) (lookN [(4, 49006)]) ⟨by simp only; omega, ⟨by simp only; omega, by simp only; omega⟩, by simp only [lenP1]; omega, by simp only [lenP1]; omega, by simp only; rw [hr]; exact hinv⟩ (by simp only; omega) (weak_g [(4, 49006)] (by simp only [go_sem, Nat.reduceAdd, Nat.reduceMul, Nat.reduceEqDiff, Nat.reduceLT, Int.reduceToNat, reduceIte, reduceCtorEq, and_true, true_and, implies_true, Option.some.injEq, exists_eq_left', closedL_ren, closed_ren]; (repeat' (first | rfl | refine And.intro ?_ ?_ | omega | exact fun h => h | exact Exists.intro _ rfl))) (by simp only [go_sem, Nat.reduceAdd, Nat.reduceMul, Nat.reduceEqDiff, Nat.reduceLT, Int.reduceToNat, reduceIte, reduceCtorEq, and_true, true_and, implies_true, Option.some.injEq, exists_eq_left', closedL_ren, closed_ren]; (repeat' (first | rfl | refine And.intro ?_ ?_ | omega | exact fun h => h | exact Exists.intro _ rfl))) (by simp [lookN]) (by simp; omega) (by omega))
            | trace_state
    by_cases hyforbid : y = [102, 111, 114, 98, 105, 100]
    · have f1 : (y == [97, 108, 108, 111, 119]) = false := by simpa using hyallow
      have f2 : (y == [102, 111, 114, 98, 105, 100]) = true := by simpa using hyforbid
      have n1 := (h_ref17_rule y t (by omega)).b
      rw [lineR, if_pos (.inr hyforbid)] at hinv
      generalize ruleR (y :: t) = p at *
      obtain ⟨rr, ok⟩ := p
      simp only [PRule.v, PRule.cells] at n1
      rcases ok with _ | _
      · simp only [Bool.false_eq_true, if_false] at hinv
        rw [← hinv]
        repeat' (first | refine awp_seqR fun K' hK => ?_ | refine awp_regR fun K' hK => ?_ | refine awp_seqK ?_ | refine awp_skip ?_ | refine awp_block ?_ | ((first | refine awp_cond ⟨_, rfl, fun hc => ?_, fun hc => ?_⟩ | refine awB_t (fun hc => ?_) (fun hc => ?_) | refine awB_f (fun hc => ?_) (fun hc => ?_)) <;> first | exact Bool.noConfusion hc | ((try simp only [decide_eq_true_eq, decide_eq_false_iff_not, beq_iff_eq, beq_eq_false_iff_ne, ne_eq, Bool.not_eq_true', Bool.not_eq_false'] at hc); first | (exfalso; simp only [List.length_map] at hc; omega) | (exfalso; omega) | skip)) | refine awp_ret ?_ | refine awp_exit ?_ | simp (maxSteps := 1000000) only [go_sem, Nat.reduceAdd, Nat.reduceMul, Nat.reduceEqDiff, Nat.reduceLeDiff, Nat.reduceLT, Nat.reduceSub, Int.reduceEq, Int.reduceBEq, Int.reduceLT, Int.reduceLE, Int.reduceAdd, Int.reduceToNat, reduceIte, reduceCtorEq, mkSt, e5, e9, e10, hw, Int.toNat_natCast, List.getElem?_map, hget, f1, f2, List.map_cons] | (refine hK _ ?_; clear hK; clear K') | refine And.intro ?_ ?_ | (apply awCs_A; (focus (first | exact hwd | exact n1 | exact (h_ref06_Ends _ (by first | assumption | omega | (simp; done))).b | exact (h_ref06_Lines _ (by first | assumption | omega | (simp; done))).b | exact (h_ref17_words _ (by first | assumption | omega | (simp; done))).b | exact (h_ref17_rule _ _ (by first | assumption | omega | (simp; done))).b | exact (h_ref17_Ruled _).b | exact (h_ref17_Purpose _).b | exact (h_ref02_Number _).b | exact (h_ref17_kept _).b | exact (h_ref17_Check _ _ (by first | assumption | omega | (simp; done)) (by first | assumption | omega | (simp; done))).b))) | (simp only [List.length_append, List.length_cons, List.length_nil, List.length_map, Nat.reducePow, Nat.reduceAdd]; omega) | omega | exact List.mem_singleton_self _)
        all_goals (refine ends_r _ rfl ?_; simp only [go_sem, Nat.reduceEqDiff, Nat.reduceAdd, reduceIte, reduceCtorEq]; first | rfl | (simp; done) | trace_state)
      · simp only [if_true] at hinv
        have n2 := (h_ref17_Ruled rr).b
        simp only [PRule.v, PRule.cells] at n2
        have hb : List.map PRule.v rs ++ [V.agg [V.bool rr.allow, V.int rr.alg, V.int rr.below, V.int rr.purp, V.int rr.frm, V.int rr.til]] = (rs ++ [rr]).map PRule.v := by rw [List.map_append]; rfl
        have hlb : (rs.map PRule.v).length + 1 = ((rs ++ [rr]).map PRule.v).length := by simp
        rcases hru : ruledB rr with _ | _
        · rw [hru] at n2 hinv
          by_cases hw0 : w = 0
          · subst hw0
            simp only [and_self, if_true] at hinv
            repeat' (first | refine awp_seqR fun K' hK => ?_ | refine awp_regR fun K' hK => ?_ | refine awp_seqK ?_ | refine awp_skip ?_ | refine awp_block ?_ | ((first | refine awp_cond ⟨_, rfl, fun hc => ?_, fun hc => ?_⟩ | refine awB_t (fun hc => ?_) (fun hc => ?_) | refine awB_f (fun hc => ?_) (fun hc => ?_)) <;> first | exact Bool.noConfusion hc | ((try simp only [decide_eq_true_eq, decide_eq_false_iff_not, beq_iff_eq, beq_eq_false_iff_ne, ne_eq, Bool.not_eq_true', Bool.not_eq_false'] at hc); first | (exfalso; simp only [List.length_map] at hc; omega) | (exfalso; omega) | skip)) | refine awp_ret ?_ | refine awp_exit ?_ | simp (maxSteps := 1000000) only [go_sem, Nat.reduceAdd, Nat.reduceMul, Nat.reduceEqDiff, Nat.reduceLeDiff, Nat.reduceLT, Nat.reduceSub, Int.reduceEq, Int.reduceBEq, Int.reduceLT, Int.reduceLE, Int.reduceAdd, Int.reduceToNat, reduceIte, reduceCtorEq, mkSt, e5, e9, e10, hw, Int.toNat_natCast, List.getElem?_map, hget, f1, f2, List.map_cons, t1, hb, hlb] | (refine hK _ ?_; clear hK; clear K') | refine And.intro ?_ ?_ | (apply awCs_A; (focus (first | exact hwd | exact n1 | exact n2 | exact (h_ref06_Ends _ (by first | assumption | omega | (simp; done))).b | exact (h_ref06_Lines _ (by first | assumption | omega | (simp; done))).b | exact (h_ref17_words _ (by first | assumption | omega | (simp; done))).b | exact (h_ref17_rule _ _ (by first | assumption | omega | (simp; done))).b | exact (h_ref17_Ruled _).b | exact (h_ref17_Purpose _).b | exact (h_ref02_Number _).b | exact (h_ref17_kept _).b | exact (h_ref17_Check _ _ (by first | assumption | omega | (simp; done)) (by first | assumption | omega | (simp; done))).b))) | (simp only [List.length_append, List.length_cons, List.length_nil, List.length_map, Nat.reducePow, Nat.reduceAdd]; omega) | omega | exact List.mem_singleton_self _)
            all_goals first
              | exact hL _ (k + 1, (k : Int) + 1, rs ++ [rr], ks) (lookN [(4, 54006)]) ⟨by simp only; omega, ⟨by simp only; omega, by simp only; omega⟩, by simp only [lenP1]; omega, by simp only [lenP1]; omega, by simp only; rw [hr]; exact hinv⟩ (by simp only; omega) (weak_g [(4, 54006)] (by simp only [go_sem, Nat.reduceAdd, Nat.reduceMul, Nat.reduceEqDiff, Nat.reduceLT, Int.reduceToNat, reduceIte, reduceCtorEq, and_true, true_and, implies_true, Option.some.injEq, exists_eq_left', closedL_ren, closed_ren]; (repeat' (first | rfl | refine And.intro ?_ ?_ | omega | exact fun h => h | exact Exists.intro _ rfl))) (by simp only [go_sem, Nat.reduceAdd, Nat.reduceMul, Nat.reduceEqDiff, Nat.reduceLT, Int.reduceToNat, reduceIte, reduceCtorEq, and_true, true_and, implies_true, Option.some.injEq, exists_eq_left', closedL_ren, closed_ren]; (repeat' (first | rfl | refine And.intro ?_ ?_ | omega | exact fun h => h | exact Exists.intro _ rfl))) (by simp [lookN]) (by simp; omega) (by omega))
              | trace_state
          · have e11 : (w == 0) = false := by simpa using hw0
            simp only [hw0, false_and, if_false] at hinv
            repeat' (first | refine awp_seqR fun K' hK => ?_ | refine awp_regR fun K' hK => ?_ | refine awp_seqK ?_ | refine awp_skip ?_ | refine awp_block ?_ | ((first | refine awp_cond ⟨_, rfl, fun hc => ?_, fun hc => ?_⟩ | refine awB_t (fun hc => ?_) (fun hc => ?_) | refine awB_f (fun hc => ?_) (fun hc => ?_)) <;> first | exact Bool.noConfusion hc | ((try simp only [decide_eq_true_eq, decide_eq_false_iff_not, beq_iff_eq, beq_eq_false_iff_ne, ne_eq, Bool.not_eq_true', Bool.not_eq_false'] at hc); first | (exfalso; simp only [List.length_map] at hc; omega) | (exfalso; omega) | skip)) | refine awp_ret ?_ | refine awp_exit ?_ | simp (maxSteps := 1000000) only [go_sem, Nat.reduceAdd, Nat.reduceMul, Nat.reduceEqDiff, Nat.reduceLeDiff, Nat.reduceLT, Nat.reduceSub, Int.reduceEq, Int.reduceBEq, Int.reduceLT, Int.reduceLE, Int.reduceAdd, Int.reduceToNat, reduceIte, reduceCtorEq, mkSt, e5, e9, e10, hw, Int.toNat_natCast, List.getElem?_map, hget, f1, f2, e11, List.map_cons, t1, hb, hlb] | (refine hK _ ?_; clear hK; clear K') | refine And.intro ?_ ?_ | (apply awCs_A; (focus (first | exact hwd | exact n1 | exact n2 | exact (h_ref06_Ends _ (by first | assumption | omega | (simp; done))).b | exact (h_ref06_Lines _ (by first | assumption | omega | (simp; done))).b | exact (h_ref17_words _ (by first | assumption | omega | (simp; done))).b | exact (h_ref17_rule _ _ (by first | assumption | omega | (simp; done))).b | exact (h_ref17_Ruled _).b | exact (h_ref17_Purpose _).b | exact (h_ref02_Number _).b | exact (h_ref17_kept _).b | exact (h_ref17_Check _ _ (by first | assumption | omega | (simp; done)) (by first | assumption | omega | (simp; done))).b))) | (simp only [List.length_append, List.length_cons, List.length_nil, List.length_map, Nat.reducePow, Nat.reduceAdd]; omega) | omega | exact List.mem_singleton_self _)
            all_goals first
              | exact hL _ (k + 1, w, rs ++ [rr], ks) (lookN [(4, 51006)]) ⟨by simp only; omega, ⟨by simp only; omega, by simp only; omega⟩, by simp only [lenP1]; omega, by simp only [lenP1]; omega, by simp only; rw [hr]; exact hinv⟩ (by simp only; omega) (weak_g [(4, 51006)] (by simp only [go_sem, Nat.reduceAdd, Nat.reduceMul, Nat.reduceEqDiff, Nat.reduceLT, Int.reduceToNat, reduceIte, reduceCtorEq, and_true, true_and, implies_true, Option.some.injEq, exists_eq_left', closedL_ren, closed_ren]; (repeat' (first | rfl | refine And.intro ?_ ?_ | omega | exact fun h => h | exact Exists.intro _ rfl))) (by simp only [go_sem, Nat.reduceAdd, Nat.reduceMul, Nat.reduceEqDiff, Nat.reduceLT, Int.reduceToNat, reduceIte, reduceCtorEq, and_true, true_and, implies_true, Option.some.injEq, exists_eq_left', closedL_ren, closed_ren]; (repeat' (first | rfl | refine And.intro ?_ ?_ | omega | exact fun h => h | exact Exists.intro _ rfl))) (by simp [lookN]) (by simp; omega) (by omega))
              | trace_state
        · rw [hru] at n2 hinv
          simp only [Bool.true_eq_false, and_false, if_false] at hinv
          repeat' (first | refine awp_seqR fun K' hK => ?_ | refine awp_regR fun K' hK => ?_ | refine awp_seqK ?_ | refine awp_skip ?_ | refine awp_block ?_ | ((first | refine awp_cond ⟨_, rfl, fun hc => ?_, fun hc => ?_⟩ | refine awB_t (fun hc => ?_) (fun hc => ?_) | refine awB_f (fun hc => ?_) (fun hc => ?_)) <;> first | exact Bool.noConfusion hc | ((try simp only [decide_eq_true_eq, decide_eq_false_iff_not, beq_iff_eq, beq_eq_false_iff_ne, ne_eq, Bool.not_eq_true', Bool.not_eq_false'] at hc); first | (exfalso; simp only [List.length_map] at hc; omega) | (exfalso; omega) | skip)) | refine awp_ret ?_ | refine awp_exit ?_ | simp (maxSteps := 1000000) only [go_sem, Nat.reduceAdd, Nat.reduceMul, Nat.reduceEqDiff, Nat.reduceLeDiff, Nat.reduceLT, Nat.reduceSub, Int.reduceEq, Int.reduceBEq, Int.reduceLT, Int.reduceLE, Int.reduceAdd, Int.reduceToNat, reduceIte, reduceCtorEq, mkSt, e5, e9, e10, hw, Int.toNat_natCast, List.getElem?_map, hget, f1, f2, List.map_cons, t1, hb, hlb] | (refine hK _ ?_; clear hK; clear K') | refine And.intro ?_ ?_ | (apply awCs_A; (focus (first | exact hwd | exact n1 | exact n2 | exact (h_ref06_Ends _ (by first | assumption | omega | (simp; done))).b | exact (h_ref06_Lines _ (by first | assumption | omega | (simp; done))).b | exact (h_ref17_words _ (by first | assumption | omega | (simp; done))).b | exact (h_ref17_rule _ _ (by first | assumption | omega | (simp; done))).b | exact (h_ref17_Ruled _).b | exact (h_ref17_Purpose _).b | exact (h_ref02_Number _).b | exact (h_ref17_kept _).b | exact (h_ref17_Check _ _ (by first | assumption | omega | (simp; done)) (by first | assumption | omega | (simp; done))).b))) | (simp only [List.length_append, List.length_cons, List.length_nil, List.length_map, Nat.reducePow, Nat.reduceAdd]; omega) | omega | exact List.mem_singleton_self _)
          all_goals first
            | exact hL _ (k + 1, w, rs ++ [rr], ks) (lookN [(4, 51006)]) ⟨by simp only; omega, ⟨by simp only; omega, by simp only; omega⟩, by simp only [lenP1]; omega, by simp only [lenP1]; omega, by simp only; rw [hr]; exact hinv⟩ (by simp only; omega) (weak_g [(4, 51006)] (by simp only [go_sem, Nat.reduceAdd, Nat.reduceMul, Nat.reduceEqDiff, Nat.reduceLT, Int.reduceToNat, reduceIte, reduceCtorEq, and_true, true_and, implies_true, Option.some.injEq, exists_eq_left', closedL_ren, closed_ren]; (repeat' (first | rfl | refine And.intro ?_ ?_ | omega | exact fun h => h | exact Exists.intro _ rfl))) (by simp only [go_sem, Nat.reduceAdd, Nat.reduceMul, Nat.reduceEqDiff, Nat.reduceLT, Int.reduceToNat, reduceIte, reduceCtorEq, and_true, true_and, implies_true, Option.some.injEq, exists_eq_left', closedL_ren, closed_ren]; (repeat' (first | rfl | refine And.intro ?_ ?_ | omega | exact fun h => h | exact Exists.intro _ rfl))) (by simp [lookN]) (by simp; omega) (by omega))
            | trace_state
    have f1 : (y == [97, 108, 108, 111, 119]) = false := by simpa using hyallow
    have f2 : (y == [102, 111, 114, 98, 105, 100]) = false := by simpa using hyforbid
    rw [lineR, if_neg (by simp only [hyallow, hyforbid, or_self, not_false_eq_true])] at hinv
    by_cases hyk : y = [107, 101, 101, 112]
    · have f3 : (y == [107, 101, 101, 112]) = true := by simpa using hyk
      rw [if_pos hyk] at hinv
      have g3 : ∀ v : WS, v.length ≠ 3 → ((((v.map V.str).length : Nat) : Int) != 3) = true := by intro v hv; rw [List.length_map]; simp; omega
      rcases t with _ | ⟨p, _ | ⟨d, _ | ⟨z, t⟩⟩⟩
      · have g := g3 [y] (by simp)
        rw [show keepR [] = .none from rfl] at hinv
        simp only at hinv
        simp only [List.map_cons, List.map_nil, List.length_cons, List.length_nil, Nat.reduceAdd] at g
        rw [← hinv]
        repeat' (first | refine awp_seqR fun K' hK => ?_ | refine awp_regR fun K' hK => ?_ | refine awp_seqK ?_ | refine awp_skip ?_ | refine awp_block ?_ | ((first | refine awp_cond ⟨_, rfl, fun hc => ?_, fun hc => ?_⟩ | refine awB_t (fun hc => ?_) (fun hc => ?_) | refine awB_f (fun hc => ?_) (fun hc => ?_)) <;> first | exact Bool.noConfusion hc | ((try simp only [decide_eq_true_eq, decide_eq_false_iff_not, beq_iff_eq, beq_eq_false_iff_ne, ne_eq, Bool.not_eq_true', Bool.not_eq_false'] at hc); first | (exfalso; simp only [List.length_map] at hc; omega) | (exfalso; omega) | skip)) | refine awp_ret ?_ | refine awp_exit ?_ | simp (maxSteps := 1000000) only [go_sem, Nat.reduceAdd, Nat.reduceMul, Nat.reduceEqDiff, Nat.reduceLeDiff, Nat.reduceLT, Nat.reduceSub, Int.reduceEq, Int.reduceBEq, Int.reduceLT, Int.reduceLE, Int.reduceAdd, Int.reduceToNat, reduceIte, reduceCtorEq, mkSt, e5, e9, e10, hw, Int.toNat_natCast, List.getElem?_map, hget, f1, f2, f3, g, List.map_cons, List.map_nil] | (refine hK _ ?_; clear hK; clear K') | refine And.intro ?_ ?_ | (apply awCs_A; (focus (first | exact hwd | exact (h_ref06_Ends _ (by first | assumption | omega | (simp; done))).b | exact (h_ref06_Lines _ (by first | assumption | omega | (simp; done))).b | exact (h_ref17_words _ (by first | assumption | omega | (simp; done))).b | exact (h_ref17_rule _ _ (by first | assumption | omega | (simp; done))).b | exact (h_ref17_Ruled _).b | exact (h_ref17_Purpose _).b | exact (h_ref02_Number _).b | exact (h_ref17_kept _).b | exact (h_ref17_Check _ _ (by first | assumption | omega | (simp; done)) (by first | assumption | omega | (simp; done))).b))) | (simp only [List.length_append, List.length_cons, List.length_nil, List.length_map, Nat.reducePow, Nat.reduceAdd]; omega) | omega | exact List.mem_singleton_self _)
        all_goals (refine ends_r _ rfl ?_; simp only [go_sem, Nat.reduceEqDiff, Nat.reduceAdd, reduceIte, reduceCtorEq]; first | rfl | (simp; done) | trace_state)

      · have g := g3 [y, p] (by simp)
        rw [show keepR [p] = .none from rfl] at hinv
        simp only at hinv
        simp only [List.map_cons, List.map_nil, List.length_cons, List.length_nil, Nat.reduceAdd] at g
        rw [← hinv]
        repeat' (first | refine awp_seqR fun K' hK => ?_ | refine awp_regR fun K' hK => ?_ | refine awp_seqK ?_ | refine awp_skip ?_ | refine awp_block ?_ | ((first | refine awp_cond ⟨_, rfl, fun hc => ?_, fun hc => ?_⟩ | refine awB_t (fun hc => ?_) (fun hc => ?_) | refine awB_f (fun hc => ?_) (fun hc => ?_)) <;> first | exact Bool.noConfusion hc | ((try simp only [decide_eq_true_eq, decide_eq_false_iff_not, beq_iff_eq, beq_eq_false_iff_ne, ne_eq, Bool.not_eq_true', Bool.not_eq_false'] at hc); first | (exfalso; simp only [List.length_map] at hc; omega) | (exfalso; omega) | skip)) | refine awp_ret ?_ | refine awp_exit ?_ | simp (maxSteps := 1000000) only [go_sem, Nat.reduceAdd, Nat.reduceMul, Nat.reduceEqDiff, Nat.reduceLeDiff, Nat.reduceLT, Nat.reduceSub, Int.reduceEq, Int.reduceBEq, Int.reduceLT, Int.reduceLE, Int.reduceAdd, Int.reduceToNat, reduceIte, reduceCtorEq, mkSt, e5, e9, e10, hw, Int.toNat_natCast, List.getElem?_map, hget, f1, f2, f3, g, List.map_cons, List.map_nil] | (refine hK _ ?_; clear hK; clear K') | refine And.intro ?_ ?_ | (apply awCs_A; (focus (first | exact hwd | exact (h_ref06_Ends _ (by first | assumption | omega | (simp; done))).b | exact (h_ref06_Lines _ (by first | assumption | omega | (simp; done))).b | exact (h_ref17_words _ (by first | assumption | omega | (simp; done))).b | exact (h_ref17_rule _ _ (by first | assumption | omega | (simp; done))).b | exact (h_ref17_Ruled _).b | exact (h_ref17_Purpose _).b | exact (h_ref02_Number _).b | exact (h_ref17_kept _).b | exact (h_ref17_Check _ _ (by first | assumption | omega | (simp; done)) (by first | assumption | omega | (simp; done))).b))) | (simp only [List.length_append, List.length_cons, List.length_nil, List.length_map, Nat.reducePow, Nat.reduceAdd]; omega) | omega | exact List.mem_singleton_self _)
        all_goals (refine ends_r _ rfl ?_; simp only [go_sem, Nat.reduceEqDiff, Nat.reduceAdd, reduceIte, reduceCtorEq]; first | rfl | (simp; done) | trace_state)

      · have n1 := (h_ref17_Purpose p).b
        have n2 := (h_ref02_Number d).b
        have n3 := (h_ref17_kept ⟨purpS p, (numR d).1⟩).b
        simp only [PKeep.v, PKeep.cells] at n3
        simp only [keepR] at hinv
        generalize purpS p = pp at *
        generalize numR d = nn at *
        obtain ⟨n, ok⟩ := nn
        simp only [numV] at n2
        simp only at n3 hinv
        by_cases hp0 : pp = 0
        · rw [if_pos (.inl hp0)] at hinv
          have e12 : (pp == 0) = true := by simpa using hp0
          rw [← hinv]
          repeat' (first | refine awp_seqR fun K' hK => ?_ | refine awp_regR fun K' hK => ?_ | refine awp_seqK ?_ | refine awp_skip ?_ | refine awp_block ?_ | ((first | refine awp_cond ⟨_, rfl, fun hc => ?_, fun hc => ?_⟩ | refine awB_t (fun hc => ?_) (fun hc => ?_) | refine awB_f (fun hc => ?_) (fun hc => ?_)) <;> first | exact Bool.noConfusion hc | ((try simp only [decide_eq_true_eq, decide_eq_false_iff_not, beq_iff_eq, beq_eq_false_iff_ne, ne_eq, Bool.not_eq_true', Bool.not_eq_false'] at hc); first | (exfalso; simp only [List.length_map] at hc; omega) | (exfalso; omega) | skip)) | refine awp_ret ?_ | refine awp_exit ?_ | simp (maxSteps := 1000000) only [go_sem, Nat.reduceAdd, Nat.reduceMul, Nat.reduceEqDiff, Nat.reduceLeDiff, Nat.reduceLT, Nat.reduceSub, Int.reduceEq, Int.reduceBEq, Int.reduceLT, Int.reduceLE, Int.reduceAdd, Int.reduceToNat, reduceIte, reduceCtorEq, mkSt, e5, e9, e10, hw, Int.toNat_natCast, List.getElem?_map, hget, f1, f2, f3, e12, List.map_cons, List.map_nil] | (refine hK _ ?_; clear hK; clear K') | refine And.intro ?_ ?_ | (apply awCs_A; (focus (first | exact hwd | exact n1 | exact (h_ref06_Ends _ (by first | assumption | omega | (simp; done))).b | exact (h_ref06_Lines _ (by first | assumption | omega | (simp; done))).b | exact (h_ref17_words _ (by first | assumption | omega | (simp; done))).b | exact (h_ref17_rule _ _ (by first | assumption | omega | (simp; done))).b | exact (h_ref17_Ruled _).b | exact (h_ref17_Purpose _).b | exact (h_ref02_Number _).b | exact (h_ref17_kept _).b | exact (h_ref17_Check _ _ (by first | assumption | omega | (simp; done)) (by first | assumption | omega | (simp; done))).b))) | (simp only [List.length_append, List.length_cons, List.length_nil, List.length_map, Nat.reducePow, Nat.reduceAdd]; omega) | omega | exact List.mem_singleton_self _)
          all_goals (refine ends_r _ rfl ?_; simp only [go_sem, Nat.reduceEqDiff, Nat.reduceAdd, reduceIte, reduceCtorEq]; first | rfl | (simp; done) | trace_state)

        · have e12 : (pp == 0) = false := by simpa using hp0
          rcases ok with _ | _
          · rw [if_pos (.inr rfl)] at hinv
            rw [← hinv]
            repeat' (first | refine awp_seqR fun K' hK => ?_ | refine awp_regR fun K' hK => ?_ | refine awp_seqK ?_ | refine awp_skip ?_ | refine awp_block ?_ | ((first | refine awp_cond ⟨_, rfl, fun hc => ?_, fun hc => ?_⟩ | refine awB_t (fun hc => ?_) (fun hc => ?_) | refine awB_f (fun hc => ?_) (fun hc => ?_)) <;> first | exact Bool.noConfusion hc | ((try simp only [decide_eq_true_eq, decide_eq_false_iff_not, beq_iff_eq, beq_eq_false_iff_ne, ne_eq, Bool.not_eq_true', Bool.not_eq_false'] at hc); first | (exfalso; simp only [List.length_map] at hc; omega) | (exfalso; omega) | skip)) | refine awp_ret ?_ | refine awp_exit ?_ | simp (maxSteps := 1000000) only [go_sem, Nat.reduceAdd, Nat.reduceMul, Nat.reduceEqDiff, Nat.reduceLeDiff, Nat.reduceLT, Nat.reduceSub, Int.reduceEq, Int.reduceBEq, Int.reduceLT, Int.reduceLE, Int.reduceAdd, Int.reduceToNat, reduceIte, reduceCtorEq, mkSt, e5, e9, e10, hw, Int.toNat_natCast, List.getElem?_map, hget, f1, f2, f3, e12, List.map_cons, List.map_nil] | (refine hK _ ?_; clear hK; clear K') | refine And.intro ?_ ?_ | (apply awCs_A; (focus (first | exact hwd | exact n1 | exact n2 | exact (h_ref06_Ends _ (by first | assumption | omega | (simp; done))).b | exact (h_ref06_Lines _ (by first | assumption | omega | (simp; done))).b | exact (h_ref17_words _ (by first | assumption | omega | (simp; done))).b | exact (h_ref17_rule _ _ (by first | assumption | omega | (simp; done))).b | exact (h_ref17_Ruled _).b | exact (h_ref17_Purpose _).b | exact (h_ref02_Number _).b | exact (h_ref17_kept _).b | exact (h_ref17_Check _ _ (by first | assumption | omega | (simp; done)) (by first | assumption | omega | (simp; done))).b))) | (simp only [List.length_append, List.length_cons, List.length_nil, List.length_map, Nat.reducePow, Nat.reduceAdd]; omega) | omega | exact List.mem_singleton_self _)
            all_goals (refine ends_r _ rfl ?_; simp only [go_sem, Nat.reduceEqDiff, Nat.reduceAdd, reduceIte, reduceCtorEq]; first | rfl | (simp; done) | trace_state)

          · rw [if_neg (by simp only [hp0, Bool.true_eq_false, or_self, not_false_eq_true])] at hinv
            simp only at hinv
            generalize hkk : (⟨pp, n⟩ : PKeep) = kk at *
            have hb : List.map PKeep.v ks ++ [V.agg [V.int pp, V.int n]] = (ks ++ [kk]).map PKeep.v := by rw [List.map_append, ← hkk]; rfl
            have hlb : (ks.map PKeep.v).length + 1 = ((ks ++ [kk]).map PKeep.v).length := by simp
            rcases hru : keptB kk with _ | _
            · rw [hru] at n3 hinv
              by_cases hw0 : w = 0
              · subst hw0
                simp only [and_self, if_true] at hinv
                repeat' (first | refine awp_seqR fun K' hK => ?_ | refine awp_regR fun K' hK => ?_ | refine awp_seqK ?_ | refine awp_skip ?_ | refine awp_block ?_ | ((first | refine awp_cond ⟨_, rfl, fun hc => ?_, fun hc => ?_⟩ | refine awB_t (fun hc => ?_) (fun hc => ?_) | refine awB_f (fun hc => ?_) (fun hc => ?_)) <;> first | exact Bool.noConfusion hc | ((try simp only [decide_eq_true_eq, decide_eq_false_iff_not, beq_iff_eq, beq_eq_false_iff_ne, ne_eq, Bool.not_eq_true', Bool.not_eq_false'] at hc); first | (exfalso; simp only [List.length_map] at hc; omega) | (exfalso; omega) | skip)) | refine awp_ret ?_ | refine awp_exit ?_ | simp (maxSteps := 1000000) only [go_sem, Nat.reduceAdd, Nat.reduceMul, Nat.reduceEqDiff, Nat.reduceLeDiff, Nat.reduceLT, Nat.reduceSub, Int.reduceEq, Int.reduceBEq, Int.reduceLT, Int.reduceLE, Int.reduceAdd, Int.reduceToNat, reduceIte, reduceCtorEq, mkSt, e5, e9, e10, hw, Int.toNat_natCast, List.getElem?_map, hget, f1, f2, f3, e12, List.map_cons, List.map_nil, t2, hb, hlb] | (refine hK _ ?_; clear hK; clear K') | refine And.intro ?_ ?_ | (apply awCs_A; (focus (first | exact hwd | exact n1 | exact n2 | exact n3 | exact (h_ref06_Ends _ (by first | assumption | omega | (simp; done))).b | exact (h_ref06_Lines _ (by first | assumption | omega | (simp; done))).b | exact (h_ref17_words _ (by first | assumption | omega | (simp; done))).b | exact (h_ref17_rule _ _ (by first | assumption | omega | (simp; done))).b | exact (h_ref17_Ruled _).b | exact (h_ref17_Purpose _).b | exact (h_ref02_Number _).b | exact (h_ref17_kept _).b | exact (h_ref17_Check _ _ (by first | assumption | omega | (simp; done)) (by first | assumption | omega | (simp; done))).b))) | (simp only [List.length_append, List.length_cons, List.length_nil, List.length_map, Nat.reducePow, Nat.reduceAdd]; omega) | omega | exact List.mem_singleton_self _)
                all_goals first
                  | exact hL _ (k + 1, (k : Int) + 1, rs, ks ++ [kk]) (lookN [(5, 75006)]) ⟨by simp only; omega, ⟨by simp only; omega, by simp only; omega⟩, by simp only [lenP1]; omega, by simp only [lenP1]; omega, by simp only; rw [hr]; exact hinv⟩ (by simp only; omega) (weak_g [(5, 75006)] (by simp only [go_sem, Nat.reduceAdd, Nat.reduceMul, Nat.reduceEqDiff, Nat.reduceLT, Int.reduceToNat, reduceIte, reduceCtorEq, and_true, true_and, implies_true, Option.some.injEq, exists_eq_left', closedL_ren, closed_ren]; (repeat' (first | rfl | refine And.intro ?_ ?_ | omega | exact fun h => h | exact Exists.intro _ rfl))) (by simp only [go_sem, Nat.reduceAdd, Nat.reduceMul, Nat.reduceEqDiff, Nat.reduceLT, Int.reduceToNat, reduceIte, reduceCtorEq, and_true, true_and, implies_true, Option.some.injEq, exists_eq_left', closedL_ren, closed_ren]; (repeat' (first | rfl | refine And.intro ?_ ?_ | omega | exact fun h => h | exact Exists.intro _ rfl))) (by simp [lookN]) (by simp; omega) (by omega))
                  | trace_state
              · have e11 : (w == 0) = false := by simpa using hw0
                simp only [hw0, false_and, if_false] at hinv
                repeat' (first | refine awp_seqR fun K' hK => ?_ | refine awp_regR fun K' hK => ?_ | refine awp_seqK ?_ | refine awp_skip ?_ | refine awp_block ?_ | ((first | refine awp_cond ⟨_, rfl, fun hc => ?_, fun hc => ?_⟩ | refine awB_t (fun hc => ?_) (fun hc => ?_) | refine awB_f (fun hc => ?_) (fun hc => ?_)) <;> first | exact Bool.noConfusion hc | ((try simp only [decide_eq_true_eq, decide_eq_false_iff_not, beq_iff_eq, beq_eq_false_iff_ne, ne_eq, Bool.not_eq_true', Bool.not_eq_false'] at hc); first | (exfalso; simp only [List.length_map] at hc; omega) | (exfalso; omega) | skip)) | refine awp_ret ?_ | refine awp_exit ?_ | simp (maxSteps := 1000000) only [go_sem, Nat.reduceAdd, Nat.reduceMul, Nat.reduceEqDiff, Nat.reduceLeDiff, Nat.reduceLT, Nat.reduceSub, Int.reduceEq, Int.reduceBEq, Int.reduceLT, Int.reduceLE, Int.reduceAdd, Int.reduceToNat, reduceIte, reduceCtorEq, mkSt, e5, e9, e10, hw, Int.toNat_natCast, List.getElem?_map, hget, f1, f2, f3, e11, e12, List.map_cons, List.map_nil, t2, hb, hlb] | (refine hK _ ?_; clear hK; clear K') | refine And.intro ?_ ?_ | (apply awCs_A; (focus (first | exact hwd | exact n1 | exact n2 | exact n3 | exact (h_ref06_Ends _ (by first | assumption | omega | (simp; done))).b | exact (h_ref06_Lines _ (by first | assumption | omega | (simp; done))).b | exact (h_ref17_words _ (by first | assumption | omega | (simp; done))).b | exact (h_ref17_rule _ _ (by first | assumption | omega | (simp; done))).b | exact (h_ref17_Ruled _).b | exact (h_ref17_Purpose _).b | exact (h_ref02_Number _).b | exact (h_ref17_kept _).b | exact (h_ref17_Check _ _ (by first | assumption | omega | (simp; done)) (by first | assumption | omega | (simp; done))).b))) | (simp only [List.length_append, List.length_cons, List.length_nil, List.length_map, Nat.reducePow, Nat.reduceAdd]; omega) | omega | exact List.mem_singleton_self _)
                all_goals first
                  | exact hL _ (k + 1, w, rs, ks ++ [kk]) (lookN [(5, 72006)]) ⟨by simp only; omega, ⟨by simp only; omega, by simp only; omega⟩, by simp only [lenP1]; omega, by simp only [lenP1]; omega, by simp only; rw [hr]; exact hinv⟩ (by simp only; omega) (weak_g [(5, 72006)] (by simp only [go_sem, Nat.reduceAdd, Nat.reduceMul, Nat.reduceEqDiff, Nat.reduceLT, Int.reduceToNat, reduceIte, reduceCtorEq, and_true, true_and, implies_true, Option.some.injEq, exists_eq_left', closedL_ren, closed_ren]; (repeat' (first | rfl | refine And.intro ?_ ?_ | omega | exact fun h => h | exact Exists.intro _ rfl))) (by simp only [go_sem, Nat.reduceAdd, Nat.reduceMul, Nat.reduceEqDiff, Nat.reduceLT, Int.reduceToNat, reduceIte, reduceCtorEq, and_true, true_and, implies_true, Option.some.injEq, exists_eq_left', closedL_ren, closed_ren]; (repeat' (first | rfl | refine And.intro ?_ ?_ | omega | exact fun h => h | exact Exists.intro _ rfl))) (by simp [lookN]) (by simp; omega) (by omega))
                  | trace_state
            · rw [hru] at n3 hinv
              simp only [Bool.true_eq_false, and_false, if_false] at hinv
              repeat' (first | refine awp_seqR fun K' hK => ?_ | refine awp_regR fun K' hK => ?_ | refine awp_seqK ?_ | refine awp_skip ?_ | refine awp_block ?_ | ((first | refine awp_cond ⟨_, rfl, fun hc => ?_, fun hc => ?_⟩ | refine awB_t (fun hc => ?_) (fun hc => ?_) | refine awB_f (fun hc => ?_) (fun hc => ?_)) <;> first | exact Bool.noConfusion hc | ((try simp only [decide_eq_true_eq, decide_eq_false_iff_not, beq_iff_eq, beq_eq_false_iff_ne, ne_eq, Bool.not_eq_true', Bool.not_eq_false'] at hc); first | (exfalso; simp only [List.length_map] at hc; omega) | (exfalso; omega) | skip)) | refine awp_ret ?_ | refine awp_exit ?_ | simp (maxSteps := 1000000) only [go_sem, Nat.reduceAdd, Nat.reduceMul, Nat.reduceEqDiff, Nat.reduceLeDiff, Nat.reduceLT, Nat.reduceSub, Int.reduceEq, Int.reduceBEq, Int.reduceLT, Int.reduceLE, Int.reduceAdd, Int.reduceToNat, reduceIte, reduceCtorEq, mkSt, e5, e9, e10, hw, Int.toNat_natCast, List.getElem?_map, hget, f1, f2, f3, e12, List.map_cons, List.map_nil, t2, hb, hlb] | (refine hK _ ?_; clear hK; clear K') | refine And.intro ?_ ?_ | (apply awCs_A; (focus (first | exact hwd | exact n1 | exact n2 | exact n3 | exact (h_ref06_Ends _ (by first | assumption | omega | (simp; done))).b | exact (h_ref06_Lines _ (by first | assumption | omega | (simp; done))).b | exact (h_ref17_words _ (by first | assumption | omega | (simp; done))).b | exact (h_ref17_rule _ _ (by first | assumption | omega | (simp; done))).b | exact (h_ref17_Ruled _).b | exact (h_ref17_Purpose _).b | exact (h_ref02_Number _).b | exact (h_ref17_kept _).b | exact (h_ref17_Check _ _ (by first | assumption | omega | (simp; done)) (by first | assumption | omega | (simp; done))).b))) | (simp only [List.length_append, List.length_cons, List.length_nil, List.length_map, Nat.reducePow, Nat.reduceAdd]; omega) | omega | exact List.mem_singleton_self _)
              all_goals first
                | exact hL _ (k + 1, w, rs, ks ++ [kk]) (lookN [(5, 72006)]) ⟨by simp only; omega, ⟨by simp only; omega, by simp only; omega⟩, by simp only [lenP1]; omega, by simp only [lenP1]; omega, by simp only; rw [hr]; exact hinv⟩ (by simp only; omega) (weak_g [(5, 72006)] (by simp only [go_sem, Nat.reduceAdd, Nat.reduceMul, Nat.reduceEqDiff, Nat.reduceLT, Int.reduceToNat, reduceIte, reduceCtorEq, and_true, true_and, implies_true, Option.some.injEq, exists_eq_left', closedL_ren, closed_ren]; (repeat' (first | rfl | refine And.intro ?_ ?_ | omega | exact fun h => h | exact Exists.intro _ rfl))) (by simp only [go_sem, Nat.reduceAdd, Nat.reduceMul, Nat.reduceEqDiff, Nat.reduceLT, Int.reduceToNat, reduceIte, reduceCtorEq, and_true, true_and, implies_true, Option.some.injEq, exists_eq_left', closedL_ren, closed_ren]; (repeat' (first | rfl | refine And.intro ?_ ?_ | omega | exact fun h => h | exact Exists.intro _ rfl))) (by simp [lookN]) (by simp; omega) (by omega))
                | trace_state
      · have g := g3 (y :: p :: d :: z :: t) (by simp)
        rw [show keepR (p :: d :: z :: t) = .none from rfl] at hinv
        simp only at hinv
        simp only [List.map_cons, List.length_cons] at g
        rw [← hinv]
        repeat' (first | refine awp_seqR fun K' hK => ?_ | refine awp_regR fun K' hK => ?_ | refine awp_seqK ?_ | refine awp_skip ?_ | refine awp_block ?_ | ((first | refine awp_cond ⟨_, rfl, fun hc => ?_, fun hc => ?_⟩ | refine awB_t (fun hc => ?_) (fun hc => ?_) | refine awB_f (fun hc => ?_) (fun hc => ?_)) <;> first | exact Bool.noConfusion hc | ((try simp only [decide_eq_true_eq, decide_eq_false_iff_not, beq_iff_eq, beq_eq_false_iff_ne, ne_eq, Bool.not_eq_true', Bool.not_eq_false'] at hc); first | (exfalso; simp only [List.length_map] at hc; omega) | (exfalso; omega) | skip)) | refine awp_ret ?_ | refine awp_exit ?_ | simp (maxSteps := 1000000) only [go_sem, Nat.reduceAdd, Nat.reduceMul, Nat.reduceEqDiff, Nat.reduceLeDiff, Nat.reduceLT, Nat.reduceSub, Int.reduceEq, Int.reduceBEq, Int.reduceLT, Int.reduceLE, Int.reduceAdd, Int.reduceToNat, reduceIte, reduceCtorEq, mkSt, e5, e9, e10, hw, Int.toNat_natCast, List.getElem?_map, hget, f1, f2, f3, g, List.map_cons, List.map_nil, List.length_cons] | (refine hK _ ?_; clear hK; clear K') | refine And.intro ?_ ?_ | (apply awCs_A; (focus (first | exact hwd | exact (h_ref06_Ends _ (by first | assumption | omega | (simp; done))).b | exact (h_ref06_Lines _ (by first | assumption | omega | (simp; done))).b | exact (h_ref17_words _ (by first | assumption | omega | (simp; done))).b | exact (h_ref17_rule _ _ (by first | assumption | omega | (simp; done))).b | exact (h_ref17_Ruled _).b | exact (h_ref17_Purpose _).b | exact (h_ref02_Number _).b | exact (h_ref17_kept _).b | exact (h_ref17_Check _ _ (by first | assumption | omega | (simp; done)) (by first | assumption | omega | (simp; done))).b))) | (simp only [List.length_append, List.length_cons, List.length_nil, List.length_map, Nat.reducePow, Nat.reduceAdd]; omega) | omega | exact List.mem_singleton_self _)
        all_goals (refine ends_r _ rfl ?_; simp only [go_sem, Nat.reduceEqDiff, Nat.reduceAdd, reduceIte, reduceCtorEq]; first | rfl | (simp; done) | trace_state)

    · have f3 : (y == [107, 101, 101, 112]) = false := by simpa using hyk
      rw [if_neg hyk] at hinv
      simp only at hinv
      rw [← hinv]
      repeat' (first | refine awp_seqR fun K' hK => ?_ | refine awp_regR fun K' hK => ?_ | refine awp_seqK ?_ | refine awp_skip ?_ | refine awp_block ?_ | ((first | refine awp_cond ⟨_, rfl, fun hc => ?_, fun hc => ?_⟩ | refine awB_t (fun hc => ?_) (fun hc => ?_) | refine awB_f (fun hc => ?_) (fun hc => ?_)) <;> first | exact Bool.noConfusion hc | ((try simp only [decide_eq_true_eq, decide_eq_false_iff_not, beq_iff_eq, beq_eq_false_iff_ne, ne_eq, Bool.not_eq_true', Bool.not_eq_false'] at hc); first | (exfalso; simp only [List.length_map] at hc; omega) | (exfalso; omega) | skip)) | refine awp_ret ?_ | refine awp_exit ?_ | simp (maxSteps := 1000000) only [go_sem, Nat.reduceAdd, Nat.reduceMul, Nat.reduceEqDiff, Nat.reduceLeDiff, Nat.reduceLT, Nat.reduceSub, Int.reduceEq, Int.reduceBEq, Int.reduceLT, Int.reduceLE, Int.reduceAdd, Int.reduceToNat, reduceIte, reduceCtorEq, mkSt, e5, e9, e10, hw, Int.toNat_natCast, List.getElem?_map, hget, f1, f2, f3, List.map_cons] | (refine hK _ ?_; clear hK; clear K') | refine And.intro ?_ ?_ | (apply awCs_A; (focus (first | exact hwd | exact (h_ref06_Ends _ (by first | assumption | omega | (simp; done))).b | exact (h_ref06_Lines _ (by first | assumption | omega | (simp; done))).b | exact (h_ref17_words _ (by first | assumption | omega | (simp; done))).b | exact (h_ref17_rule _ _ (by first | assumption | omega | (simp; done))).b | exact (h_ref17_Ruled _).b | exact (h_ref17_Purpose _).b | exact (h_ref02_Number _).b | exact (h_ref17_kept _).b | exact (h_ref17_Check _ _ (by first | assumption | omega | (simp; done)) (by first | assumption | omega | (simp; done))).b))) | (simp only [List.length_append, List.length_cons, List.length_nil, List.length_map, Nat.reducePow, Nat.reduceAdd]; omega) | omega | exact List.mem_singleton_self _)
      all_goals (refine ends_r _ rfl ?_; simp only [go_sem, Nat.reduceEqDiff, Nat.reduceAdd, reduceIte, reduceCtorEq]; first | rfl | (simp; done) | trace_state)
end Av
end
section
-- ALL all2.txt
set_option linter.unusedSimpArgs false
set_option linter.unusedVariables false
set_option maxRecDepth 10000
set_option maxHeartbeats 4000000
namespace Av
open Go
attribute [local irreducible] AWp runO runP runG awS awC awCv awQ awRd awCallR awCvR awQR awR awRdR awB okR plan ris
theorem isL_cons {w x : List UInt8} {t : WS} : isL w (x :: t) = if x = w then (true, t) else (false, x :: t) := rfl
theorem headP_cons (x : List UInt8) (t : WS) : headP (x :: t) = if x = [97, 108, 108, 111, 119] ∨ x = [102, 111, 114, 98, 105, 100] then (x == [97, 108, 108, 111, 119], true, t) else (false, false, x :: t) := by
  rw [headP, isL_cons, isL_cons]
  by_cases h1 : x = [97, 108, 108, 111, 119]
  · subst h1; rfl
  · have e1 : (x == [97, 108, 108, 111, 119]) = false := by simpa using h1
    by_cases h2 : x = [102, 111, 114, 98, 105, 100]
    · subst h2; rfl
    · rw [if_neg h1, if_neg h2]; simp only [Bool.false_eq_true, if_false, h1, h2, or_self]
def ReadNil (rd : List UInt8 → Int × Bool) : Prop := (rd []).2 = false
theorem numR_nil2 : ReadNil numR := rfl
theorem rdP_nil2 : ReadNil rdP := by show (rdP []).2 = false; decide
def runT : List (List UInt8 × (List UInt8 → Int × Bool) × Nat) → Bool × PRule × WS → Bool × PRule × WS
  | [], p => p
  | (w, rd, k) :: t, p => runT t (andP p (partP w rd k))
theorem runT_false : ∀ (t : List (List UInt8 × (List UInt8 → Int × Bool) × Nat)) (r : PRule) (u : WS), runT t (false, r, u) = (false, r, u)
  | [], r, u => rfl
  | (w, rd, k) :: t, r, u => by rw [runT]; exact runT_false t r u
def okEq (a : Bool × PRule × WS) (b : PRule × Bool) : Prop := (a.1 && a.2.2.isEmpty) = b.2 ∧ (b.2 = true → a.2.1 = b.1)
theorem run_eq : ∀ (t : List (List UInt8 × (List UInt8 → Int × Bool) × Nat)) (r : PRule) (u : WS), (∀ p ∈ t, ReadNil p.2.1) → okEq (runT t (true, r, u)) (loopR t r u)
  | [], r, u, _ => by simp [runT, loopR, okEq]
  | (w, rd, k) :: t, r, [], h => by
    have ih := run_eq t r [] (fun p hp => h p (List.mem_cons_of_mem _ hp))
    rw [runT]
    have : andP (true, r, []) (partP w rd k) = (true, r, []) := rfl
    rw [this]
    exact ih
  | (w, rd, k) :: t, r, x :: u, h => by
    have hn : ReadNil rd := h _ (List.mem_cons_self ..)
    have ha : andP (true, r, x :: u) (partP w rd k) = partP w rd k r (x :: u) := rfl
    rw [runT, ha, partP, isL_cons]
    by_cases hx : x = w
    · rw [if_pos hx]
      simp only [if_true]
      cases u with
      | nil =>
        have e1 : loopR ((w, rd, k) :: t) r [x] = (r, false) := by rw [loopR, if_pos hx]
        have e2 : nextL ([] : WS) = ([], []) := rfl
        rw [e1, e2]
        simp only
        rw [hn, runT_false]
        exact ⟨rfl, fun h => by cases h⟩
      | cons y v =>
        have e1 : loopR ((w, rd, k) :: t) r (x :: y :: v) = if (rd y).2 = true then loopR t (r.setF k (rd y).1) v else (r.setF k (rd y).1, false) := by rw [loopR, if_pos hx]
        have e2 : nextL (y :: v) = (y, v) := rfl
        rw [e1, e2]
        simp only
        rcases hr : (rd y).2 with _ | _
        · rw [runT_false]
          exact ⟨rfl, fun h => by cases h⟩
        · exact run_eq t _ v (fun p hp => h p (List.mem_cons_of_mem _ hp))
    · rw [if_neg hx, loopR_ne hx]
      simp only [Bool.false_eq_true, if_false]
      exact run_eq t r (x :: u) (fun p hp => h p (List.mem_cons_of_mem _ hp))
theorem tail_run (r : PRule) (u : WS) : tailP r u = runT tblR (true, r, u) := rfl
theorem tbl_nil : ∀ p ∈ tblR, ReadNil p.2.1 := by
  intro p hp
  simp only [tblR, List.mem_cons, List.not_mem_nil, or_false] at hp
  rcases hp with rfl | rfl | rfl | rfl
  · exact numR_nil2
  · exact rdP_nil2
  · exact numR_nil2
  · exact numR_nil2
theorem rule_eq (x : List UInt8) (t : WS) (hx : x = [97, 108, 108, 111, 119] ∨ x = [102, 111, 114, 98, 105, 100]) : (ruleP (x :: t)).2.1 = (ruleR (x :: t)).2 ∧ ((ruleR (x :: t)).2 = true → (ruleP (x :: t)).1 = (ruleR (x :: t)).1) := by
  have hh : headP (x :: t) = (x == [97, 108, 108, 111, 119], true, t) := by rw [headP_cons, if_pos hx]
  have h0 : ruleP (x :: t) = if (nextL t).1 ≠ [97, 110, 121] ∧ algP (nextL t).1 = 0 then (⟨x == [97, 108, 108, 111, 119], 0, 0, 0, 0, 40001⟩, false, (nextL t).2)
      else ((tailP ⟨x == [97, 108, 108, 111, 119], algP (nextL t).1, 0, 0, 0, 40001⟩ (nextL t).2).2.1, (tailP ⟨x == [97, 108, 108, 111, 119], algP (nextL t).1, 0, 0, 0, 40001⟩ (nextL t).2).1 && (tailP ⟨x == [97, 108, 108, 111, 119], algP (nextL t).1, 0, 0, 0, 40001⟩ (nextL t).2).2.2.isEmpty, (tailP ⟨x == [97, 108, 108, 111, 119], algP (nextL t).1, 0, 0, 0, 40001⟩ (nextL t).2).2.2) := by
    rw [ruleP, hh]; rfl
  rw [h0]
  cases t with
  | nil =>
    have e : ([] : List UInt8) ≠ [97, 110, 121] ∧ algP [] = 0 := ⟨by decide, by decide +kernel⟩
    have e2 : nextL ([] : WS) = ([], []) := rfl
    rw [e2, if_pos e]
    exact ⟨rfl, fun h => by cases h⟩
  | cons y u =>
    have e2 : nextL (y :: u) = (y, u) := rfl
    rw [e2]
    simp only
    by_cases hb : y ≠ [97, 110, 121] ∧ algP y = 0
    · have e3 : ruleR (x :: y :: u) = (⟨x == [97, 108, 108, 111, 119], 0, 0, 0, 0, 40001⟩, false) := by rw [ruleR, if_pos hb]
      rw [if_pos hb, e3]
      exact ⟨rfl, fun h => by cases h⟩
    · have e3 : ruleR (x :: y :: u) = loopR tblR ⟨x == [97, 108, 108, 111, 119], algP y, 0, 0, 0, 40001⟩ u := by rw [ruleR, if_neg hb]
      rw [if_neg hb, e3, tail_run]
      exact run_eq tblR _ u tbl_nil
def lineP (ws : WS) : Ln := if (ruleP ws).2.1 = true then .rule (ruleP ws).1 else if (keepP ws).2.1 = true then .keep (keepP ws).1 else .none
theorem keep_not {x : List UInt8} {t : WS} (h : x ≠ [107, 101, 101, 112]) : (keepP (x :: t)).2.1 = false := by
  rw [keepP, isL_cons, if_neg h]; rfl
theorem rule_not {x : List UInt8} {t : WS} (h : ¬ (x = [97, 108, 108, 111, 119] ∨ x = [102, 111, 114, 98, 105, 100])) : (ruleP (x :: t)).2.1 = false := by
  rw [ruleP, headP_cons, if_neg h]; rfl
theorem line_eq : ∀ ws : WS, lineP ws = lineR ws
  | [] => by
    have h1 : (ruleP []).2.1 = false := by decide
    have h2 : (keepP []).2.1 = false := rfl
    rw [lineP, h1, h2]; rfl
  | x :: t => by
    rw [lineP, lineR]
    by_cases h1 : x = [97, 108, 108, 111, 119] ∨ x = [102, 111, 114, 98, 105, 100]
    · obtain ⟨e1, e2⟩ := rule_eq x t h1
      have hk : x ≠ [107, 101, 101, 112] := by rintro rfl; revert h1; decide
      rw [if_pos h1, e1, keep_not hk]
      rcases hr : (ruleR (x :: t)).2 with _ | _
      · rfl
      · rw [if_pos rfl, if_pos rfl, e2 hr]
    · rw [if_neg h1, rule_not h1, if_neg (fun h => Bool.noConfusion h)]
      by_cases hk : x = [107, 101, 101, 112]
      · subst hk
        rw [if_pos rfl, keepP, isL_cons, if_pos rfl]
        simp only [Bool.true_and]
        match t with
        | [] => rfl
        | [p] =>
          have : (numR []).2 = false := rfl
          simp only [nextL, this, Bool.and_false, Bool.false_and]; rfl
        | [p, d] =>
          simp only [nextL, List.isEmpty_nil, Bool.and_true, keepR]
          have hp := purpS_range p
          rcases hd : (numR d).2 with _ | _
          · simp
          · by_cases h0 : purpS p = 0
            · simp [h0]
            · have hgt : 0 < purpS p := by omega
              simp [h0, hgt]
        | p :: d :: z :: t =>
          simp only [nextL, List.isEmpty_cons, Bool.and_false, keepR]; rfl
      · rw [keep_not hk, if_neg hk]; rfl
theorem checkV_one (r : PRule) : checkV [r] [] = 0 ↔ ruledB r = true := by
  simp [checkV]
theorem checkV_kone (k : PKeep) : checkV [] [k] = 0 ↔ keptB k = true := by
  simp [checkV]
theorem readP_line (s : List UInt8) (rs : List PRule) (ks : List PKeep) : readP s rs ks = match lineP (splitL 32 s) with
    | .none => (false, rs, ks) | .rule x => (true, rs ++ [x], ks) | .keep k => (true, rs, ks ++ [k]) := by
  rw [readP, lineP]
  split
  · rfl
  · split <;> rfl
theorem wrongP_rule {s : List UInt8} {i w : Int} {rs : List PRule} {ks : List PKeep} {x : PRule} (h : readP s rs ks = (true, rs ++ [x], ks)) : wrongP s i w rs ks = if w = 0 ∧ ruledB x = false then i + 1 else w := by
  rw [wrongP, h]
  simp only [List.drop_left, List.drop_length]
  have := checkV_one x
  by_cases hx : ruledB x = true
  · rw [if_neg (by simp [this.2 hx]), if_neg (by simp [hx])]
  · have h2 : ruledB x = false := by simpa using hx
    have h3 : ¬ checkV [x] [] = 0 := fun h => hx (this.1 h)
    simp only [h2, h3, ne_eq, not_false_eq_true, and_true]
theorem wrongP_keep {s : List UInt8} {i w : Int} {rs : List PRule} {ks : List PKeep} {k : PKeep} (h : readP s rs ks = (true, rs, ks ++ [k])) : wrongP s i w rs ks = if w = 0 ∧ keptB k = false then i + 1 else w := by
  rw [wrongP, h]
  simp only [List.drop_left, List.drop_length]
  have := checkV_kone k
  by_cases hx : keptB k = true
  · rw [if_neg (by simp [this.2 hx]), if_neg (by simp [hx])]
  · have h2 : keptB k = false := by simpa using hx
    have h3 : ¬ checkV [] [k] = 0 := fun h => hx (this.1 h)
    simp only [h2, h3, ne_eq, not_false_eq_true, and_true]
theorem go_eq : ∀ (l : List (List UInt8)) (i : Nat) (w : Int) (rs : List PRule) (ks : List PKeep), 0 ≤ w → (w = 0 → rs.all ruledB = true ∧ ks.all keptB = true) → goL l i w rs ks = goR l i w rs ks
  | [], i, w, rs, ks, h0, h => by
    rw [goL, goR]
    by_cases hw : w > 0
    · rw [if_pos hw, if_pos hw]
    · obtain ⟨h1, h2⟩ := h (by omega)
      rw [if_neg hw, if_neg hw, checkV, h1, h2]
      by_cases hb : rs.length > 60 ∨ ks.length > 60
      · rw [if_pos hb, if_neg]
        rcases hb with hb | hb
        · have : decide (rs.length ≤ 60) = false := decide_eq_false (by omega)
          simp [this]
        · have : decide (ks.length ≤ 60) = false := decide_eq_false (by omega)
          simp [this]
      · rw [if_neg hb, if_pos]
        have e1 : decide (rs.length ≤ 60) = true := decide_eq_true (by omega)
        have e2 : decide (ks.length ≤ 60) = true := decide_eq_true (by omega)
        simp [e1, e2]
  | s :: r, i, w, rs, ks, h0, h => by
    rw [goL, goR]
    by_cases hn : noteL s = true
    · rw [if_pos hn, if_pos hn]; exact go_eq r (i + 1) w rs ks h0 h
    · rw [if_neg hn, if_neg hn, ← line_eq]
      have hr := readP_line s rs ks
      rcases hl : lineP (splitL 32 s) with _ | x | k
      · rw [hl] at hr; rw [hr]; rfl
      · rw [hl] at hr
        simp only at hr ⊢
        rw [wrongP_rule hr, hr, if_pos rfl]
        refine go_eq r (i + 1) _ _ _ ?_ ?_
        · split <;> omega
        · intro hz
          split at hz
          · omega
          · rename_i hc
            obtain ⟨h1, h2⟩ := h hz
            refine ⟨?_, h2⟩
            rcases hx : ruledB x with _ | _
            · exact absurd ⟨hz, hx⟩ hc
            · simp [h1, hx]
      · rw [hl] at hr
        simp only at hr ⊢
        rw [wrongP_keep hr, hr, if_pos rfl]
        refine go_eq r (i + 1) _ _ _ ?_ ?_
        · split <;> omega
        · intro hz
          split at hz
          · omega
          · rename_i hc
            obtain ⟨h1, h2⟩ := h hz
            refine ⟨h1, ?_⟩
            rcases hx : keptB k with _ | _
            · exact absurd ⟨hz, hx⟩ hc
            · simp [h2, hx]
theorem goL_last : ∀ (l : List (List UInt8)) (i : Nat) (w : Int) (rs : List PRule) (ks : List PKeep), goL (l ++ [[]]) i w rs ks = goL l i w rs ks
  | [], i, w, rs, ks => by
    show goL [[]] i w rs ks = goL [] i w rs ks
    conv => lhs; rw [goL]
    rw [if_pos (show noteL [] = true from rfl)]
    rfl
  | s :: r, i, w, rs, ks => by
    rw [List.cons_append, goL, goL, goL_last r, goL_last r]
theorem parse_eq17 (s : List UInt8) : parseR s = parseP s := by
  rw [parseR, parseP]
  split
  · rfl
  · rw [← go_eq _ _ _ _ _ (Int.le_refl 0) (fun _ => ⟨rfl, rfl⟩), linesL]
    split
    · rename_i h
      have hne : splitL 10 s ≠ [] := splitA_ne _ _ _
      have hl := List.dropLast_concat_getLast (l := splitL 10 s) hne
      have h2 : (splitL 10 s).getLast hne = [] := by
        rw [List.getLast?_eq_some_getLast hne] at h
        exact Option.some.inj h
      rw [h2] at hl
      conv => rhs; rw [← hl]
      rw [goL_last]
    · rfl
end Av
end

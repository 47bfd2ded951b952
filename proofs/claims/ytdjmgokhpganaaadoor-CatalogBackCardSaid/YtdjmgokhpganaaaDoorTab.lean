/- Tab -/
import Derived.Test.YtdjmgokhpganaaaDoorPars
set_option linter.unusedVariables false
set_option linter.unusedSimpArgs false
section
set_option linter.unusedSimpArgs false
set_option linter.unusedVariables false
set_option maxRecDepth 10000
set_option maxHeartbeats 4000000
namespace Av
open Go
attribute [local irreducible] AWp runO runP runG awS awC awCv awQ awRd awCallR awCvR awQR awR awRdR awB okR plan ris

/-! The table of suites: the program's and the reference's. -/
def suite0 : CSuite := ⟨0, [], 0, 0, 0, 0, 0, 0, 0, 0, 0, 0⟩
def suiteAt (c : Int) : CSuite := if 1 ≤ c ∧ c ≤ 16 then suitesL.getD (c - 1).toNat suite0 else suite0
def suiteV (c : Int) : V := .tup [(suiteAt c).v, V.int (if 1 ≤ c ∧ c ≤ 16 then 0 else 8)]
theorem suiteV_closed (c : Int) : (suiteV c).closed := by simp only [suiteV, CSuite.v, CSuite.cells, V.closed, closedL, and_self]
theorem suiteV_noSl (c : Int) : (suiteV c).noSl := by simp only [suiteV, CSuite.v, CSuite.cells, V.noSl, noSlL, and_self]
theorem suites_len : suitesL.length = 16 := rfl
theorem suiteAt_get {c : Int} (h : 1 ≤ c ∧ c ≤ 16) : (suitesL.map CSuite.v)[(c - 1).toNat]? = some (suiteAt c).v := by
  have hk : (c - 1).toNat < suitesL.length := by rw [suites_len]; omega
  rw [List.getElem?_map, suiteAt, if_pos h, List.getD_eq_getElem?_getD, List.getElem?_eq_getElem hk, Option.getD_some]; rfl
theorem suiteAt_out {c : Int} (h : ¬ (1 ≤ c ∧ c ≤ 16)) : suiteAt c = suite0 := by rw [suiteAt, if_neg h]

def c_catalog_Suite (f_catalog_Suites : Nat) : AC :=
  seqK [0, 2] (.reg [⟨(some 2), .alloc [.val (.int .i64 0), .val (.string ⟨#[]⟩), .val (.int .i64 0), .val (.int .i64 0), .val (.int .i64 0), .val (.int .i64 0), .val (.int .i64 0), .val (.int .i64 0), .val (.int .i64 0), .val (.int .i64 0), .val (.int .i64 0), .val (.int .i64 0)], none⟩,
     ⟨(some 3), .mov (.c (V.int 0)), none⟩])
  (seqK [0, 2, 4] (.reg [⟨(some 5), .call f_catalog_Suites [], none⟩,
      ⟨(some 4), .mov (.t 5), none⟩])
   (seqK [0, 2, 4] (seqK [0, 2, 4, 13] (.reg [⟨(some 6), .mov (.t 0), none⟩,
        ⟨(some 7), .bin .lss (.t 6) (.c (V.int 1)), none⟩,
        ⟨(some 8), .mov (.t 7), none⟩,
        ⟨(some 9), .mov (.t 0), (some (8, false))⟩,
        ⟨(some 10), .mov (.t 4), (some (8, false))⟩,
        ⟨(some 11), .lenL (.t 10), (some (8, false))⟩,
        ⟨(some 12), .bin .gtr (.t 9) (.t 11), (some (8, false))⟩,
        ⟨(some 13), .pick (.t 8) (.c (V.bool true)) (.t 12), none⟩])
     (.cond (.t 13)
       (seqK [2, 3] (.reg [⟨(some 14), .build [(.int .i64 0), (.string ⟨#[]⟩), (.int .i64 0), (.int .i64 0), (.int .i64 0), (.int .i64 0), (.int .i64 0), (.int .i64 0), (.int .i64 0), (.int .i64 0), (.int .i64 0), (.int .i64 0)] [], none⟩,
           ⟨none, .store 12 (.t 2) (.t 14), none⟩,
           ⟨(some 3), .mov (.c (V.int 8)), none⟩])
        (.ret))
       (.skip)))
    (seqK [2, 3] (.reg [⟨(some 15), .mov (.t 4), none⟩,
        ⟨(some 16), .mov (.t 0), none⟩,
        ⟨(some 17), .bin .sub (.t 16) (.c (V.int 1)), none⟩,
        ⟨(some 18), .iaddr 12 (.t 15) (.t 17), none⟩,
        ⟨(some 19), .load true 12 (.t 18), none⟩,
        ⟨none, .store 12 (.t 2) (.t 19), none⟩,
        ⟨(some 3), .mov (.c (V.int 0)), none⟩])
     (.ret))))

def r_catalog_Suite : List ARes := [.cell 2 true 12, .tmp 3]
def CE_catalog_Suite (Γ : Env) (f : Nat) : Prop := ∀ (c : Int), EvN Γ f [V.int c] (suiteV c)
theorem ev_catalog_Suite {Γ : Env} {f f_catalog_Suites : Nat} (h : Has Γ.P f 20 (c_catalog_Suite f_catalog_Suites) r_catalog_Suite) (h_catalog_Suites : CE_catalog_Suites Γ f_catalog_Suites) : CE_catalog_Suite Γ f := by
  intro c
  refine evN_of_body h (by simp) (by first | exact suiteV_closed c | exact suiteV_noSl c) (by first | exact suiteV_closed c | exact suiteV_noSl c) fun C hC hm => ?_
  subst hC
  unfold c_catalog_Suite
  have hl := suites_len
  by_cases h : 1 ≤ c ∧ c ≤ 16
  · have hg := suiteAt_get h
    have hw : IntKind.i64.wrap (c - 1) = c - 1 := wrap_id (by omega) (by omega)
    have e1 : decide (c < 1) = false := by simp; omega
    have e2 : decide (c > 16) = false := by simp; omega
    have e3 : decide (c > (((suitesL.map CSuite.v).length : Nat) : Int)) = false := by simp [hl]; omega
    repeat' (first
    | refine awp_seqR fun K' hK => ?_
    | refine awp_regR fun K' hK => ?_
    | refine awp_seqK ?_
    | refine awp_skip ?_
    | refine awp_block ?_
    | ((first | refine awp_cond ⟨_, rfl, fun hc => ?_, fun hc => ?_⟩ | refine awB_t (fun hc => ?_) (fun hc => ?_) | refine awB_f (fun hc => ?_) (fun hc => ?_)) <;> first | exact Bool.noConfusion hc | (exfalso; simp only [decide_eq_true_eq, decide_eq_false_iff_not, List.length_map, Bool.not_eq_true', Bool.not_eq_false'] at hc; omega) | (try simp only [decide_eq_true_eq, decide_eq_false_iff_not, beq_iff_eq, beq_eq_false_iff_ne, ne_eq, Bool.not_eq_true', Bool.not_eq_false'] at hc))
    | refine awp_ret ?_
    | refine awp_exit ?_
    | simp (maxSteps := 1000000) only [go_sem, Nat.reduceAdd, Nat.reduceMul, Nat.reduceEqDiff, Nat.reduceLeDiff, Nat.reduceLT, Nat.reduceSub, Int.reduceEq, Int.reduceBEq, Int.reduceLT, Int.reduceLE, Int.reduceAdd, Int.reduceToNat, reduceIte, reduceCtorEq, hg, hw, e1, e2, e3, CSuite.v, CSuite.cells]
    | (refine hK _ ?_; clear hK; clear K')
    | refine And.intro ?_ ?_
    | (apply awC_A; (focus (simp only [go_sem, Nat.reduceAdd, Nat.reduceMul, Nat.reduceEqDiff, Nat.reduceLeDiff, Nat.reduceLT, Nat.reduceSub, Int.reduceEq, Int.reduceBEq, Int.reduceLT, Int.reduceLE, Int.reduceAdd, Int.reduceToNat, reduceIte, reduceCtorEq, hg, hw, e1, e2, e3, CSuite.v, CSuite.cells]; first | exact EvC.b h_catalog_Suites)); (focus (simp only [go_sem, Nat.reduceAdd, Nat.reduceMul, Nat.reduceEqDiff, Nat.reduceLeDiff, Nat.reduceLT, Nat.reduceSub, Int.reduceEq, Int.reduceBEq, Int.reduceLT, Int.reduceLE, Int.reduceAdd, Int.reduceToNat, reduceIte, reduceCtorEq, hg, hw, e1, e2, e3, CSuite.v, CSuite.cells])))
    | (simp only [List.length_append, List.length_cons, List.length_nil, List.length_map, Nat.reducePow, Nat.reduceAdd]; omega)
    | omega)
    all_goals (simp only [suiteV, if_pos h, CSuite.v, CSuite.cells]; refine ends_r _ rfl ?_; simp only [go_sem, Nat.reduceAdd, Nat.reduceMul, Nat.reduceEqDiff, Nat.reduceLeDiff, Nat.reduceLT, Nat.reduceSub, Int.reduceEq, Int.reduceBEq, Int.reduceLT, Int.reduceLE, Int.reduceAdd, Int.reduceToNat, reduceIte, reduceCtorEq])
  · have h0 := suiteAt_out h
    by_cases h1 : c < 1
    · have e1 : decide (c < 1) = true := by simp; omega
      repeat' (first
    | refine awp_seqR fun K' hK => ?_
    | refine awp_regR fun K' hK => ?_
    | refine awp_seqK ?_
    | refine awp_skip ?_
    | refine awp_block ?_
    | ((first | refine awp_cond ⟨_, rfl, fun hc => ?_, fun hc => ?_⟩ | refine awB_t (fun hc => ?_) (fun hc => ?_) | refine awB_f (fun hc => ?_) (fun hc => ?_)) <;> first | exact Bool.noConfusion hc | (exfalso; simp only [decide_eq_true_eq, decide_eq_false_iff_not, List.length_map, Bool.not_eq_true', Bool.not_eq_false'] at hc; omega) | (try simp only [decide_eq_true_eq, decide_eq_false_iff_not, beq_iff_eq, beq_eq_false_iff_ne, ne_eq, Bool.not_eq_true', Bool.not_eq_false'] at hc))
    | refine awp_ret ?_
    | refine awp_exit ?_
    | simp (maxSteps := 1000000) only [go_sem, Nat.reduceAdd, Nat.reduceMul, Nat.reduceEqDiff, Nat.reduceLeDiff, Nat.reduceLT, Nat.reduceSub, Int.reduceEq, Int.reduceBEq, Int.reduceLT, Int.reduceLE, Int.reduceAdd, Int.reduceToNat, reduceIte, reduceCtorEq, e1]
    | (refine hK _ ?_; clear hK; clear K')
    | refine And.intro ?_ ?_
    | (apply awC_A; (focus (simp only [go_sem, Nat.reduceAdd, Nat.reduceMul, Nat.reduceEqDiff, Nat.reduceLeDiff, Nat.reduceLT, Nat.reduceSub, Int.reduceEq, Int.reduceBEq, Int.reduceLT, Int.reduceLE, Int.reduceAdd, Int.reduceToNat, reduceIte, reduceCtorEq, e1]; first | exact EvC.b h_catalog_Suites)); (focus (simp only [go_sem, Nat.reduceAdd, Nat.reduceMul, Nat.reduceEqDiff, Nat.reduceLeDiff, Nat.reduceLT, Nat.reduceSub, Int.reduceEq, Int.reduceBEq, Int.reduceLT, Int.reduceLE, Int.reduceAdd, Int.reduceToNat, reduceIte, reduceCtorEq, e1])))
    | (simp only [List.length_append, List.length_cons, List.length_nil, List.length_map, Nat.reducePow, Nat.reduceAdd]; omega)
    | omega)
      all_goals (simp only [suiteV, if_neg h, h0, suite0, CSuite.v, CSuite.cells]; refine ends_r _ rfl ?_; simp only [go_sem, Nat.reduceAdd, Nat.reduceMul, Nat.reduceEqDiff, Nat.reduceLeDiff, Nat.reduceLT, Nat.reduceSub, Int.reduceEq, Int.reduceBEq, Int.reduceLT, Int.reduceLE, Int.reduceAdd, Int.reduceToNat, reduceIte, reduceCtorEq])
    · have e1 : decide (c < 1) = false := by simp; omega
      have e2 : decide (c > (((suitesL.map CSuite.v).length : Nat) : Int)) = true := by simp [hl]; omega
      repeat' (first
    | refine awp_seqR fun K' hK => ?_
    | refine awp_regR fun K' hK => ?_
    | refine awp_seqK ?_
    | refine awp_skip ?_
    | refine awp_block ?_
    | ((first | refine awp_cond ⟨_, rfl, fun hc => ?_, fun hc => ?_⟩ | refine awB_t (fun hc => ?_) (fun hc => ?_) | refine awB_f (fun hc => ?_) (fun hc => ?_)) <;> first | exact Bool.noConfusion hc | (exfalso; simp only [decide_eq_true_eq, decide_eq_false_iff_not, List.length_map, Bool.not_eq_true', Bool.not_eq_false'] at hc; omega) | (try simp only [decide_eq_true_eq, decide_eq_false_iff_not, beq_iff_eq, beq_eq_false_iff_ne, ne_eq, Bool.not_eq_true', Bool.not_eq_false'] at hc))
    | refine awp_ret ?_
    | refine awp_exit ?_
    | simp (maxSteps := 1000000) only [go_sem, Nat.reduceAdd, Nat.reduceMul, Nat.reduceEqDiff, Nat.reduceLeDiff, Nat.reduceLT, Nat.reduceSub, Int.reduceEq, Int.reduceBEq, Int.reduceLT, Int.reduceLE, Int.reduceAdd, Int.reduceToNat, reduceIte, reduceCtorEq, e1, e2]
    | (refine hK _ ?_; clear hK; clear K')
    | refine And.intro ?_ ?_
    | (apply awC_A; (focus (simp only [go_sem, Nat.reduceAdd, Nat.reduceMul, Nat.reduceEqDiff, Nat.reduceLeDiff, Nat.reduceLT, Nat.reduceSub, Int.reduceEq, Int.reduceBEq, Int.reduceLT, Int.reduceLE, Int.reduceAdd, Int.reduceToNat, reduceIte, reduceCtorEq, e1, e2]; first | exact EvC.b h_catalog_Suites)); (focus (simp only [go_sem, Nat.reduceAdd, Nat.reduceMul, Nat.reduceEqDiff, Nat.reduceLeDiff, Nat.reduceLT, Nat.reduceSub, Int.reduceEq, Int.reduceBEq, Int.reduceLT, Int.reduceLE, Int.reduceAdd, Int.reduceToNat, reduceIte, reduceCtorEq, e1, e2])))
    | (simp only [List.length_append, List.length_cons, List.length_nil, List.length_map, Nat.reducePow, Nat.reduceAdd]; omega)
    | omega)
      all_goals (simp only [suiteV, if_neg h, h0, suite0, CSuite.v, CSuite.cells]; refine ends_r _ rfl ?_; simp only [go_sem, Nat.reduceAdd, Nat.reduceMul, Nat.reduceEqDiff, Nat.reduceLeDiff, Nat.reduceLT, Nat.reduceSub, Int.reduceEq, Int.reduceBEq, Int.reduceLT, Int.reduceLE, Int.reduceAdd, Int.reduceToNat, reduceIte, reduceCtorEq])

def c_cipherplanref02_use : AC :=
  seqK [0, 1, 4] (.reg [⟨(some 4), .alloc [.val (.int .i64 0), .val (.int .i64 0)], none⟩])
  (seqK [4] (.reg [⟨(some 5), .mov (.t 0), none⟩,
      ⟨(some 6), .mov (.t 1), none⟩,
      ⟨(some 7), .build [(.int .i64 0), (.int .i64 0)] [(0, 1, (.t 5)), (1, 1, (.t 6))], none⟩,
      ⟨none, .store 2 (.t 4) (.t 7), none⟩])
   (.ret))

def r_cipherplanref02_use : List ARes := [.cell 4 true 2]
def CE_cipherplanref02_use (Γ : Env) (f : Nat) : Prop := ∀ (a b : Int), EvN Γ f [V.int a, V.int b] (.agg [V.int a, V.int b])
theorem ev_cipherplanref02_use {Γ : Env} {f : Nat} (h : Has Γ.P f 8 c_cipherplanref02_use r_cipherplanref02_use)  : CE_cipherplanref02_use Γ f := by
  intro a b
  refine evN_of_body h (by simp) (by simp only [V.closed, closedL, V.noSl, noSlL, and_self, and_true, true_and]) (by simp only [V.closed, closedL, V.noSl, noSlL, and_self, and_true, true_and]) fun C hC hm => ?_
  subst hC
  unfold c_cipherplanref02_use
  repeat' (first
    | refine awp_seqR fun K' hK => ?_
    | refine awp_regR fun K' hK => ?_
    | refine awp_seqK ?_
    | refine awp_skip ?_
    | refine awp_block ?_
    | ((first | refine awp_cond ⟨_, rfl, fun hc => ?_, fun hc => ?_⟩ | refine awB_t (fun hc => ?_) (fun hc => ?_) | refine awB_f (fun hc => ?_) (fun hc => ?_)) <;> first | exact Bool.noConfusion hc | (exfalso; simp only [decide_eq_true_eq, decide_eq_false_iff_not, List.length_map, Bool.not_eq_true', Bool.not_eq_false'] at hc; omega) | (try simp only [decide_eq_true_eq, decide_eq_false_iff_not, beq_iff_eq, beq_eq_false_iff_ne, ne_eq, Bool.not_eq_true', Bool.not_eq_false'] at hc))
    | refine awp_ret ?_
    | refine awp_exit ?_
    | simp (maxSteps := 1000000) only [go_sem, Nat.reduceAdd, Nat.reduceMul, Nat.reduceEqDiff, Nat.reduceLeDiff, Nat.reduceLT, Nat.reduceSub, Int.reduceEq, Int.reduceBEq, Int.reduceLT, Int.reduceLE, Int.reduceAdd, Int.reduceToNat, reduceIte, reduceCtorEq]
    | (refine hK _ ?_; clear hK; clear K')
    | refine And.intro ?_ ?_
    | (simp only [List.length_append, List.length_cons, List.length_nil, List.length_map, Nat.reducePow, Nat.reduceAdd]; omega)
    | omega)
  refine ends_r _ rfl ?_; simp only [go_sem, Nat.reduceAdd, Nat.reduceMul, Nat.reduceEqDiff, Nat.reduceLeDiff, Nat.reduceLT, Nat.reduceSub, Int.reduceEq, Int.reduceBEq, Int.reduceLT, Int.reduceLE, Int.reduceAdd, Int.reduceToNat, reduceIte, reduceCtorEq]

def c_cipherplanref02_suite : AC :=
  seqK [0, 1, 6, 7, 10, 11, 12, 13, 16] (.reg [⟨(some 10), .box true 2 (.t 2), none⟩,
     ⟨(some 11), .box true 2 (.t 3), none⟩,
     ⟨(some 12), .box true 2 (.t 4), none⟩,
     ⟨(some 13), .box true 2 (.t 5), none⟩,
     ⟨(some 16), .alloc [.val (.int .i64 0), .val (.string ⟨#[]⟩), .val (.int .i64 0), .val (.int .i64 0), .val (.int .i64 0), .val (.int .i64 0), .val (.int .i64 0), .val (.int .i64 0), .val (.int .i64 0), .val (.int .i64 0), .val (.int .i64 0), .val (.int .i64 0)], none⟩])
  (seqK [16] (.reg [⟨(some 17), .mov (.t 0), none⟩,
      ⟨(some 18), .mov (.t 1), none⟩,
      ⟨(some 19), .load true 2 (.t 10), none⟩,
      ⟨(some 20), .load true 2 (.t 11), none⟩,
      ⟨(some 21), .load true 2 (.t 12), none⟩,
      ⟨(some 22), .load true 2 (.t 13), none⟩,
      ⟨(some 23), .mov (.t 6), none⟩,
      ⟨(some 24), .mov (.t 7), none⟩,
      ⟨(some 25), .build [(.int .i64 0), (.string ⟨#[]⟩), (.int .i64 0), (.int .i64 0), (.int .i64 0), (.int .i64 0), (.int .i64 0), (.int .i64 0), (.int .i64 0), (.int .i64 0), (.int .i64 0), (.int .i64 0)] [(0, 1, (.t 17)), (1, 1, (.t 18)), (2, 2, (.t 19)), (4, 2, (.t 20)), (6, 2, (.t 21)), (8, 2, (.t 22)), (10, 1, (.t 23)), (11, 1, (.t 24))], none⟩,
      ⟨none, .store 12 (.t 16) (.t 25), none⟩])
   (.ret))

def r_cipherplanref02_suite : List ARes := [.cell 16 true 12]
def CE_cipherplanref02_suite (Γ : Env) (f : Nat) : Prop := ∀ (c : Int) (n : List UInt8) (a1 a2 b1 b2 c1 c2 d1 d2 lo up : Int), EvN Γ f [V.int c, V.str n, .agg [V.int a1, V.int a2], .agg [V.int b1, V.int b2], .agg [V.int c1, V.int c2], .agg [V.int d1, V.int d2], V.int lo, V.int up] (.agg [V.int c, V.str n, V.int a1, V.int a2, V.int b1, V.int b2, V.int c1, V.int c2, V.int d1, V.int d2, V.int lo, V.int up])
theorem ev_cipherplanref02_suite {Γ : Env} {f : Nat} (h : Has Γ.P f 26 c_cipherplanref02_suite r_cipherplanref02_suite)  : CE_cipherplanref02_suite Γ f := by
  intro c n a1 a2 b1 b2 c1 c2 d1 d2 lo up
  refine evN_of_body h (by simp) (by simp only [V.closed, closedL, V.noSl, noSlL, and_self, and_true, true_and]) (by simp only [V.closed, closedL, V.noSl, noSlL, and_self, and_true, true_and]) fun C hC hm => ?_
  subst hC
  unfold c_cipherplanref02_suite
  repeat' (first
    | refine awp_seqR fun K' hK => ?_
    | refine awp_regR fun K' hK => ?_
    | refine awp_seqK ?_
    | refine awp_skip ?_
    | refine awp_block ?_
    | ((first | refine awp_cond ⟨_, rfl, fun hc => ?_, fun hc => ?_⟩ | refine awB_t (fun hc => ?_) (fun hc => ?_) | refine awB_f (fun hc => ?_) (fun hc => ?_)) <;> first | exact Bool.noConfusion hc | (exfalso; simp only [decide_eq_true_eq, decide_eq_false_iff_not, List.length_map, Bool.not_eq_true', Bool.not_eq_false'] at hc; omega) | (try simp only [decide_eq_true_eq, decide_eq_false_iff_not, beq_iff_eq, beq_eq_false_iff_ne, ne_eq, Bool.not_eq_true', Bool.not_eq_false'] at hc))
    | refine awp_ret ?_
    | refine awp_exit ?_
    | simp (maxSteps := 1000000) only [go_sem, Nat.reduceAdd, Nat.reduceMul, Nat.reduceEqDiff, Nat.reduceLeDiff, Nat.reduceLT, Nat.reduceSub, Int.reduceEq, Int.reduceBEq, Int.reduceLT, Int.reduceLE, Int.reduceAdd, Int.reduceToNat, reduceIte, reduceCtorEq]
    | (refine hK _ ?_; clear hK; clear K')
    | refine And.intro ?_ ?_
    | (simp only [List.length_append, List.length_cons, List.length_nil, List.length_map, Nat.reducePow, Nat.reduceAdd]; omega)
    | omega)
  refine ends_r _ rfl ?_; simp only [go_sem, Nat.reduceAdd, Nat.reduceMul, Nat.reduceEqDiff, Nat.reduceLeDiff, Nat.reduceLT, Nat.reduceSub, Int.reduceEq, Int.reduceBEq, Int.reduceLT, Int.reduceLE, Int.reduceAdd, Int.reduceToNat, reduceIte, reduceCtorEq]

-- REGION cipherplanref02_Suites 0: 82 operations, 1 orders, L [], X false, ok true
def o_cipherplanref02_Suites_0 (f_cipherplanref02_suite f_cipherplanref02_use : Nat) : List AO :=
  [⟨(some 29), .load true 2 (.t 1), none⟩,
    ⟨(some 30), .load true 2 (.t 2), none⟩,
    ⟨(some 31), .load true 2 (.t 4), none⟩,
    ⟨(some 32), .load true 2 (.t 9), none⟩,
    ⟨(some 33), .call f_cipherplanref02_suite [(.c (V.int 1)), (.c (V.str [114, 115, 97, 45, 114, 99, 52, 45, 109, 100, 53])), (.t 29), (.t 30), (.t 31), (.t 32), (.c (V.int 1)), (.c (V.int 2))], none⟩,
    ⟨(some 34), .load true 2 (.t 1), none⟩,
    ⟨(some 35), .load true 2 (.t 2), none⟩,
    ⟨(some 36), .load true 2 (.t 4), none⟩,
    ⟨(some 37), .load true 2 (.t 10), none⟩,
    ⟨(some 38), .call f_cipherplanref02_suite [(.c (V.int 2)), (.c (V.str [114, 115, 97, 45, 114, 99, 52, 45, 115, 104, 97])), (.t 34), (.t 35), (.t 36), (.t 37), (.c (V.int 1)), (.c (V.int 3))], none⟩,
    ⟨(some 39), .load true 2 (.t 1), none⟩,
    ⟨(some 40), .load true 2 (.t 2), none⟩,
    ⟨(some 41), .load true 2 (.t 5), none⟩,
    ⟨(some 42), .load true 2 (.t 10), none⟩,
    ⟨(some 43), .call f_cipherplanref02_suite [(.c (V.int 3)), (.c (V.str [114, 115, 97, 45, 100, 101, 115, 51, 45, 115, 104, 97])), (.t 39), (.t 40), (.t 41), (.t 42), (.c (V.int 1)), (.c (V.int 3))], none⟩,
    ⟨(some 44), .call f_cipherplanref02_use [(.c (V.int 11)), (.c (V.int 1024))], none⟩,
    ⟨(some 45), .call f_cipherplanref02_use [(.c (V.int 6)), (.c (V.int 0))], none⟩,
    ⟨(some 46), .load true 2 (.t 5), none⟩,
    ⟨(some 47), .load true 2 (.t 10), none⟩,
    ⟨(some 48), .call f_cipherplanref02_suite [(.c (V.int 4)), (.c (V.str [100, 104, 101, 45, 100, 115, 97, 45, 100, 101, 115, 51, 45, 115, 104, 97])), (.t 44), (.t 45), (.t 46), (.t 47), (.c (V.int 1)), (.c (V.int 3))], none⟩,
    ⟨(some 49), .call f_cipherplanref02_use [(.c (V.int 11)), (.c (V.int 1024))], none⟩,
    ⟨(some 50), .load true 2 (.t 2), none⟩,
    ⟨(some 51), .load true 2 (.t 5), none⟩,
    ⟨(some 52), .load true 2 (.t 10), none⟩,
    ⟨(some 53), .call f_cipherplanref02_suite [(.c (V.int 5)), (.c (V.str [100, 104, 101, 45, 114, 115, 97, 45, 100, 101, 115, 51, 45, 115, 104, 97])), (.t 49), (.t 50), (.t 51), (.t 52), (.c (V.int 1)), (.c (V.int 3))], none⟩,
    ⟨(some 54), .load true 2 (.t 1), none⟩,
    ⟨(some 55), .load true 2 (.t 2), none⟩,
    ⟨(some 56), .load true 2 (.t 6), none⟩,
    ⟨(some 57), .load true 2 (.t 10), none⟩,
    ⟨(some 58), .call f_cipherplanref02_suite [(.c (V.int 6)), (.c (V.str [114, 115, 97, 45, 97, 101, 115, 49, 50, 56, 45, 115, 104, 97])), (.t 54), (.t 55), (.t 56), (.t 57), (.c (V.int 1)), (.c (V.int 3))], none⟩,
    ⟨(some 59), .call f_cipherplanref02_use [(.c (V.int 11)), (.c (V.int 2048))], none⟩,
    ⟨(some 60), .load true 2 (.t 2), none⟩,
    ⟨(some 61), .load true 2 (.t 6), none⟩,
    ⟨(some 62), .load true 2 (.t 10), none⟩,
    ⟨(some 63), .call f_cipherplanref02_suite [(.c (V.int 7)), (.c (V.str [100, 104, 101, 45, 114, 115, 97, 45, 97, 101, 115, 49, 50, 56, 45, 115, 104, 97])), (.t 59), (.t 60), (.t 61), (.t 62), (.c (V.int 1)), (.c (V.int 3))], none⟩,
    ⟨(some 64), .load true 2 (.t 13), none⟩,
    ⟨(some 65), .load true 2 (.t 2), none⟩,
    ⟨(some 66), .load true 2 (.t 6), none⟩,
    ⟨(some 67), .load true 2 (.t 10), none⟩,
    ⟨(some 68), .call f_cipherplanref02_suite [(.c (V.int 8)), (.c (V.str [101, 99, 100, 104, 101, 45, 114, 115, 97, 45, 97, 101, 115, 49, 50, 56, 45, 115, 104, 97])), (.t 64), (.t 65), (.t 66), (.t 67), (.c (V.int 1)), (.c (V.int 3))], none⟩,
    ⟨(some 69), .load true 2 (.t 13), none⟩,
    ⟨(some 70), .call f_cipherplanref02_use [(.c (V.int 7)), (.c (V.int 0))], none⟩,
    ⟨(some 71), .call f_cipherplanref02_use [(.c (V.int 16)), (.c (V.int 256))], none⟩,
    ⟨(some 72), .load true 2 (.t 11), none⟩,
    ⟨(some 73), .call f_cipherplanref02_suite [(.c (V.int 9)), (.c (V.str [101, 99, 100, 104, 101, 45, 101, 99, 100, 115, 97, 45, 97, 101, 115, 50, 53, 54, 45, 115, 104, 97, 50, 53, 54])), (.t 69), (.t 70), (.t 71), (.t 72), (.c (V.int 3)), (.c (V.int 3))], none⟩,
    ⟨(some 74), .load true 2 (.t 13), none⟩,
    ⟨(some 75), .load true 2 (.t 2), none⟩,
    ⟨(some 76), .load true 2 (.t 7), none⟩,
    ⟨(some 77), .load true 2 (.t 12), none⟩,
    ⟨(some 78), .call f_cipherplanref02_suite [(.c (V.int 10)), (.c (V.str [101, 99, 100, 104, 101, 45, 114, 115, 97, 45, 97, 101, 115, 49, 50, 56, 45, 103, 99, 109])), (.t 74), (.t 75), (.t 76), (.t 77), (.c (V.int 3)), (.c (V.int 3))], none⟩,
    ⟨(some 79), .call f_cipherplanref02_use [(.c (V.int 12)), (.c (V.int 384))], none⟩,
    ⟨(some 80), .call f_cipherplanref02_use [(.c (V.int 7)), (.c (V.int 0))], none⟩,
    ⟨(some 81), .load true 2 (.t 8), none⟩,
    ⟨(some 82), .load true 2 (.t 12), none⟩,
    ⟨(some 83), .call f_cipherplanref02_suite [(.c (V.int 11)), (.c (V.str [101, 99, 100, 104, 101, 45, 101, 99, 100, 115, 97, 45, 97, 101, 115, 50, 53, 54, 45, 103, 99, 109])), (.t 79), (.t 80), (.t 81), (.t 82), (.c (V.int 3)), (.c (V.int 3))], none⟩,
    ⟨(some 84), .load true 2 (.t 13), none⟩,
    ⟨(some 85), .load true 2 (.t 2), none⟩,
    ⟨(some 86), .load true 2 (.t 14), none⟩,
    ⟨(some 87), .load true 2 (.t 12), none⟩,
    ⟨(some 88), .call f_cipherplanref02_suite [(.c (V.int 12)), (.c (V.str [101, 99, 100, 104, 101, 45, 114, 115, 97, 45, 99, 104, 97, 99, 104, 97])), (.t 84), (.t 85), (.t 86), (.t 87), (.c (V.int 3)), (.c (V.int 3))], none⟩,
    ⟨(some 89), .load true 2 (.t 1), none⟩,
    ⟨(some 90), .load true 2 (.t 2), none⟩,
    ⟨(some 91), .load true 2 (.t 8), none⟩,
    ⟨(some 92), .load true 2 (.t 12), none⟩,
    ⟨(some 93), .call f_cipherplanref02_suite [(.c (V.int 13)), (.c (V.str [114, 115, 97, 45, 97, 101, 115, 50, 53, 54, 45, 103, 99, 109])), (.t 89), (.t 90), (.t 91), (.t 92), (.c (V.int 3)), (.c (V.int 3))], none⟩,
    ⟨(some 94), .load true 2 (.t 13), none⟩,
    ⟨(some 95), .load true 2 (.t 3), none⟩,
    ⟨(some 96), .load true 2 (.t 7), none⟩,
    ⟨(some 97), .load true 2 (.t 12), none⟩,
    ⟨(some 98), .call f_cipherplanref02_suite [(.c (V.int 14)), (.c (V.str [97, 101, 115, 49, 50, 56, 45, 103, 99, 109])), (.t 94), (.t 95), (.t 96), (.t 97), (.c (V.int 4)), (.c (V.int 4))], none⟩,
    ⟨(some 99), .load true 2 (.t 13), none⟩,
    ⟨(some 100), .load true 2 (.t 3), none⟩,
    ⟨(some 101), .load true 2 (.t 14), none⟩,
    ⟨(some 102), .load true 2 (.t 12), none⟩,
    ⟨(some 103), .call f_cipherplanref02_suite [(.c (V.int 15)), (.c (V.str [99, 104, 97, 99, 104, 97])), (.t 99), (.t 100), (.t 101), (.t 102), (.c (V.int 4)), (.c (V.int 4))], none⟩,
    ⟨(some 104), .call f_cipherplanref02_use [(.c (V.int 13)), (.c (V.int 768))], none⟩,
    ⟨(some 105), .load true 2 (.t 3), none⟩,
    ⟨(some 106), .load true 2 (.t 8), none⟩,
    ⟨(some 107), .load true 2 (.t 12), none⟩,
    ⟨(some 108), .call f_cipherplanref02_suite [(.c (V.int 16)), (.c (V.str [109, 108, 107, 101, 109, 45, 97, 101, 115, 50, 53, 54, 45, 103, 99, 109])), (.t 104), (.t 105), (.t 106), (.t 107), (.c (V.int 4)), (.c (V.int 4))], none⟩,
    ⟨(some 109), .bslice 16 12 true [(.int .i64 0), (.string ⟨#[]⟩), (.int .i64 0), (.int .i64 0), (.int .i64 0), (.int .i64 0), (.int .i64 0), (.int .i64 0), (.int .i64 0), (.int .i64 0), (.int .i64 0), (.int .i64 0)] [(0, (.t 33)), (1, (.t 38)), (2, (.t 43)), (3, (.t 48)), (4, (.t 53)), (5, (.t 58)), (6, (.t 63)), (7, (.t 68)), (8, (.t 73)), (9, (.t 78)), (10, (.t 83)), (11, (.t 88)), (12, (.t 93)), (13, (.t 98)), (14, (.t 103)), (15, (.t 108))], none⟩,
    ⟨(some 0), .mov (.t 109), none⟩]
def a_cipherplanref02_Suites_0 : List (List Nat) := [[], [], [], [], [0, 1, 2, 3], [], [], [], [], [5, 6, 7, 8, 4], [], [], [], [], [10, 11, 12, 13, 9], [14], [15], [], [], [15, 16, 17, 18, 16], [19], [], [], [], [20, 21, 22, 23, 20], [], [], [], [], [25, 26, 27, 28, 24], [29], [], [], [], [30, 31, 32, 33, 30], [], [], [], [], [35, 36, 37, 38, 34], [], [39], [41], [], [40, 41, 42, 43, 42], [], [], [], [], [45, 46, 47, 48, 44], [49], [50], [], [], [50, 51, 52, 53, 51], [], [], [], [], [55, 56, 57, 58, 54], [], [], [], [], [60, 61, 62, 63, 59], [], [], [], [], [65, 66, 67, 68, 64], [], [], [], [], [70, 71, 72, 73, 69], [74], [], [], [], [75, 76, 77, 78, 75], [4, 9, 14, 19, 24, 29, 34, 39, 44, 49, 54, 59, 64, 69, 74, 79], [80, 79, 0, 1, 2, 3, 4, 5, 6, 7, 8, 9, 10, 11, 12, 13, 14, 15, 16, 17, 18, 19, 20, 21, 22, 23, 24, 25, 26, 27, 28, 29, 30, 31, 32, 33, 34, 35, 36, 37, 38, 39, 40, 41, 42, 43, 44, 45, 46, 47, 48, 49, 50, 51, 52, 53, 54, 55, 56, 57, 58, 59, 60, 61, 62, 63, 64, 65, 66, 67, 68, 69, 70, 71, 72, 73, 74, 75, 76, 77, 78, 79, 80]]
def t_cipherplanref02_Suites_0 : OT := .one 0 (.one 1 (.one 2 (.one 3 (.one 4 (.one 5 (.one 6 (.one 7 (.one 8 (.one 9 (.one 10 (.one 11 (.one 12 (.one 13 (.one 14 (.one 17 (.one 18 (.one 21 (.one 22 (.one 23 (.one 25 (.one 26 (.one 27 (.one 28 (.one 31 (.one 32 (.one 33 (.one 35 (.one 36 (.one 37 (.one 38 (.one 40 (.one 43 (.one 45 (.one 46 (.one 47 (.one 48 (.one 52 (.one 53 (.one 55 (.one 56 (.one 57 (.one 58 (.one 60 (.one 61 (.one 62 (.one 63 (.one 65 (.one 66 (.one 67 (.one 68 (.one 70 (.one 71 (.one 72 (.one 73 (.one 76 (.one 77 (.one 78 (.or 15 (.or 16 (.one 19 (.or 20 (.one 24 (.one 29 (.or 30 (.one 34 (.one 39 (.or 41 (.or 42 (.one 44 (.one 49 (.or 50 (.or 51 (.one 54 (.one 59 (.one 64 (.one 69 (.one 74 (.or 75 (.one 79 (.one 80 (.one 81 (.done)))) (.done))))))) (.done)) (.done)))) (.done)) (.done)))) (.done)))) (.done))) (.done)) (.done)))))))))))))))))))))))))))))))))))))))))))))))))))))))))))
def p_cipherplanref02_Suites_0 (f_cipherplanref02_suite f_cipherplanref02_use : Nat) : OP :=
  .one 0 false [] ⟨(some 29), .load true 2 (.t 1), none⟩
  (.one 1 false [] ⟨(some 30), .load true 2 (.t 2), none⟩
  (.one 2 false [] ⟨(some 31), .load true 2 (.t 4), none⟩
  (.one 3 false [] ⟨(some 32), .load true 2 (.t 9), none⟩
  (.one 4 false [] ⟨(some 33), .call f_cipherplanref02_suite [(.c (V.int 1)), (.c (V.str [114, 115, 97, 45, 114, 99, 52, 45, 109, 100, 53])), (.t 29), (.t 30), (.t 31), (.t 32), (.c (V.int 1)), (.c (V.int 2))], none⟩
  (.one 5 false [] ⟨(some 34), .load true 2 (.t 1), none⟩
  (.one 6 false [] ⟨(some 35), .load true 2 (.t 2), none⟩
  (.one 7 false [] ⟨(some 36), .load true 2 (.t 4), none⟩
  (.one 8 false [] ⟨(some 37), .load true 2 (.t 10), none⟩
  (.one 9 false [] ⟨(some 38), .call f_cipherplanref02_suite [(.c (V.int 2)), (.c (V.str [114, 115, 97, 45, 114, 99, 52, 45, 115, 104, 97])), (.t 34), (.t 35), (.t 36), (.t 37), (.c (V.int 1)), (.c (V.int 3))], none⟩
  (.one 10 false [] ⟨(some 39), .load true 2 (.t 1), none⟩
  (.one 11 false [] ⟨(some 40), .load true 2 (.t 2), none⟩
  (.one 12 false [] ⟨(some 41), .load true 2 (.t 5), none⟩
  (.one 13 false [] ⟨(some 42), .load true 2 (.t 10), none⟩
  (.one 14 false [] ⟨(some 43), .call f_cipherplanref02_suite [(.c (V.int 3)), (.c (V.str [114, 115, 97, 45, 100, 101, 115, 51, 45, 115, 104, 97])), (.t 39), (.t 40), (.t 41), (.t 42), (.c (V.int 1)), (.c (V.int 3))], none⟩
  (.one 17 false [] ⟨(some 46), .load true 2 (.t 5), none⟩
  (.one 18 false [] ⟨(some 47), .load true 2 (.t 10), none⟩
  (.one 21 false [] ⟨(some 50), .load true 2 (.t 2), none⟩
  (.one 22 false [] ⟨(some 51), .load true 2 (.t 5), none⟩
  (.one 23 false [] ⟨(some 52), .load true 2 (.t 10), none⟩
  (.one 25 false [] ⟨(some 54), .load true 2 (.t 1), none⟩
  (.one 26 false [] ⟨(some 55), .load true 2 (.t 2), none⟩
  (.one 27 false [] ⟨(some 56), .load true 2 (.t 6), none⟩
  (.one 28 false [] ⟨(some 57), .load true 2 (.t 10), none⟩
  (.one 31 false [] ⟨(some 60), .load true 2 (.t 2), none⟩
  (.one 32 false [] ⟨(some 61), .load true 2 (.t 6), none⟩
  (.one 33 false [] ⟨(some 62), .load true 2 (.t 10), none⟩
  (.one 35 false [] ⟨(some 64), .load true 2 (.t 13), none⟩
  (.one 36 false [] ⟨(some 65), .load true 2 (.t 2), none⟩
  (.one 37 false [] ⟨(some 66), .load true 2 (.t 6), none⟩
  (.one 38 false [] ⟨(some 67), .load true 2 (.t 10), none⟩
  (.one 40 false [] ⟨(some 69), .load true 2 (.t 13), none⟩
  (.one 43 false [] ⟨(some 72), .load true 2 (.t 11), none⟩
  (.one 45 false [] ⟨(some 74), .load true 2 (.t 13), none⟩
  (.one 46 false [] ⟨(some 75), .load true 2 (.t 2), none⟩
  (.one 47 false [] ⟨(some 76), .load true 2 (.t 7), none⟩
  (.one 48 false [] ⟨(some 77), .load true 2 (.t 12), none⟩
  (.one 52 false [] ⟨(some 81), .load true 2 (.t 8), none⟩
  (.one 53 false [] ⟨(some 82), .load true 2 (.t 12), none⟩
  (.one 55 false [] ⟨(some 84), .load true 2 (.t 13), none⟩
  (.one 56 false [] ⟨(some 85), .load true 2 (.t 2), none⟩
  (.one 57 false [] ⟨(some 86), .load true 2 (.t 14), none⟩
  (.one 58 false [] ⟨(some 87), .load true 2 (.t 12), none⟩
  (.one 60 false [] ⟨(some 89), .load true 2 (.t 1), none⟩
  (.one 61 false [] ⟨(some 90), .load true 2 (.t 2), none⟩
  (.one 62 false [] ⟨(some 91), .load true 2 (.t 8), none⟩
  (.one 63 false [] ⟨(some 92), .load true 2 (.t 12), none⟩
  (.one 65 false [] ⟨(some 94), .load true 2 (.t 13), none⟩
  (.one 66 false [] ⟨(some 95), .load true 2 (.t 3), none⟩
  (.one 67 false [] ⟨(some 96), .load true 2 (.t 7), none⟩
  (.one 68 false [] ⟨(some 97), .load true 2 (.t 12), none⟩
  (.one 70 false [] ⟨(some 99), .load true 2 (.t 13), none⟩
  (.one 71 false [] ⟨(some 100), .load true 2 (.t 3), none⟩
  (.one 72 false [] ⟨(some 101), .load true 2 (.t 14), none⟩
  (.one 73 false [] ⟨(some 102), .load true 2 (.t 12), none⟩
  (.one 76 false [] ⟨(some 105), .load true 2 (.t 3), none⟩
  (.one 77 false [] ⟨(some 106), .load true 2 (.t 8), none⟩
  (.one 78 false [] ⟨(some 107), .load true 2 (.t 12), none⟩
  (.or 15 false [] ⟨(some 44), .call f_cipherplanref02_use [(.c (V.int 11)), (.c (V.int 1024))], none⟩
  (.or 16 false [] ⟨(some 45), .call f_cipherplanref02_use [(.c (V.int 6)), (.c (V.int 0))], none⟩
   (.one 19 false [16, 15] ⟨(some 48), .call f_cipherplanref02_suite [(.c (V.int 4)), (.c (V.str [100, 104, 101, 45, 100, 115, 97, 45, 100, 101, 115, 51, 45, 115, 104, 97])), (.t 44), (.t 45), (.t 46), (.t 47), (.c (V.int 1)), (.c (V.int 3))], none⟩
    (.or 20 false [] ⟨(some 49), .call f_cipherplanref02_use [(.c (V.int 11)), (.c (V.int 1024))], none⟩
    (.one 24 false [20] ⟨(some 53), .call f_cipherplanref02_suite [(.c (V.int 5)), (.c (V.str [100, 104, 101, 45, 114, 115, 97, 45, 100, 101, 115, 51, 45, 115, 104, 97])), (.t 49), (.t 50), (.t 51), (.t 52), (.c (V.int 1)), (.c (V.int 3))], none⟩
     (.one 29 false [] ⟨(some 58), .call f_cipherplanref02_suite [(.c (V.int 6)), (.c (V.str [114, 115, 97, 45, 97, 101, 115, 49, 50, 56, 45, 115, 104, 97])), (.t 54), (.t 55), (.t 56), (.t 57), (.c (V.int 1)), (.c (V.int 3))], none⟩
     (.or 30 false [] ⟨(some 59), .call f_cipherplanref02_use [(.c (V.int 11)), (.c (V.int 2048))], none⟩
     (.one 34 false [30] ⟨(some 63), .call f_cipherplanref02_suite [(.c (V.int 7)), (.c (V.str [100, 104, 101, 45, 114, 115, 97, 45, 97, 101, 115, 49, 50, 56, 45, 115, 104, 97])), (.t 59), (.t 60), (.t 61), (.t 62), (.c (V.int 1)), (.c (V.int 3))], none⟩
      (.one 39 false [] ⟨(some 68), .call f_cipherplanref02_suite [(.c (V.int 8)), (.c (V.str [101, 99, 100, 104, 101, 45, 114, 115, 97, 45, 97, 101, 115, 49, 50, 56, 45, 115, 104, 97])), (.t 64), (.t 65), (.t 66), (.t 67), (.c (V.int 1)), (.c (V.int 3))], none⟩
      (.or 41 false [] ⟨(some 70), .call f_cipherplanref02_use [(.c (V.int 7)), (.c (V.int 0))], none⟩
      (.or 42 false [] ⟨(some 71), .call f_cipherplanref02_use [(.c (V.int 16)), (.c (V.int 256))], none⟩
       (.one 44 false [42, 41] ⟨(some 73), .call f_cipherplanref02_suite [(.c (V.int 9)), (.c (V.str [101, 99, 100, 104, 101, 45, 101, 99, 100, 115, 97, 45, 97, 101, 115, 50, 53, 54, 45, 115, 104, 97, 50, 53, 54])), (.t 69), (.t 70), (.t 71), (.t 72), (.c (V.int 3)), (.c (V.int 3))], none⟩
        (.one 49 false [] ⟨(some 78), .call f_cipherplanref02_suite [(.c (V.int 10)), (.c (V.str [101, 99, 100, 104, 101, 45, 114, 115, 97, 45, 97, 101, 115, 49, 50, 56, 45, 103, 99, 109])), (.t 74), (.t 75), (.t 76), (.t 77), (.c (V.int 3)), (.c (V.int 3))], none⟩
        (.or 50 false [] ⟨(some 79), .call f_cipherplanref02_use [(.c (V.int 12)), (.c (V.int 384))], none⟩
        (.or 51 false [] ⟨(some 80), .call f_cipherplanref02_use [(.c (V.int 7)), (.c (V.int 0))], none⟩
         (.one 54 false [51, 50] ⟨(some 83), .call f_cipherplanref02_suite [(.c (V.int 11)), (.c (V.str [101, 99, 100, 104, 101, 45, 101, 99, 100, 115, 97, 45, 97, 101, 115, 50, 53, 54, 45, 103, 99, 109])), (.t 79), (.t 80), (.t 81), (.t 82), (.c (V.int 3)), (.c (V.int 3))], none⟩
          (.one 59 false [] ⟨(some 88), .call f_cipherplanref02_suite [(.c (V.int 12)), (.c (V.str [101, 99, 100, 104, 101, 45, 114, 115, 97, 45, 99, 104, 97, 99, 104, 97])), (.t 84), (.t 85), (.t 86), (.t 87), (.c (V.int 3)), (.c (V.int 3))], none⟩
          (.one 64 false [] ⟨(some 93), .call f_cipherplanref02_suite [(.c (V.int 13)), (.c (V.str [114, 115, 97, 45, 97, 101, 115, 50, 53, 54, 45, 103, 99, 109])), (.t 89), (.t 90), (.t 91), (.t 92), (.c (V.int 3)), (.c (V.int 3))], none⟩
          (.one 69 false [] ⟨(some 98), .call f_cipherplanref02_suite [(.c (V.int 14)), (.c (V.str [97, 101, 115, 49, 50, 56, 45, 103, 99, 109])), (.t 94), (.t 95), (.t 96), (.t 97), (.c (V.int 4)), (.c (V.int 4))], none⟩
          (.one 74 false [] ⟨(some 103), .call f_cipherplanref02_suite [(.c (V.int 15)), (.c (V.str [99, 104, 97, 99, 104, 97])), (.t 99), (.t 100), (.t 101), (.t 102), (.c (V.int 4)), (.c (V.int 4))], none⟩
          (.or 75 false [] ⟨(some 104), .call f_cipherplanref02_use [(.c (V.int 13)), (.c (V.int 768))], none⟩
          (.one 79 false [75] ⟨(some 108), .call f_cipherplanref02_suite [(.c (V.int 16)), (.c (V.str [109, 108, 107, 101, 109, 45, 97, 101, 115, 50, 53, 54, 45, 103, 99, 109])), (.t 104), (.t 105), (.t 106), (.t 107), (.c (V.int 4)), (.c (V.int 4))], none⟩
           (.one 80 false [79, 75, 74, 69, 64, 59, 54, 51, 50, 49, 44, 42, 41, 39, 34, 30, 29, 24, 20, 19, 16, 15, 14, 9, 4] ⟨(some 109), .bslice 16 12 true [(.int .i64 0), (.string ⟨#[]⟩), (.int .i64 0), (.int .i64 0), (.int .i64 0), (.int .i64 0), (.int .i64 0), (.int .i64 0), (.int .i64 0), (.int .i64 0), (.int .i64 0), (.int .i64 0)] [(0, (.t 33)), (1, (.t 38)), (2, (.t 43)), (3, (.t 48)), (4, (.t 53)), (5, (.t 58)), (6, (.t 63)), (7, (.t 68)), (8, (.t 73)), (9, (.t 78)), (10, (.t 83)), (11, (.t 88)), (12, (.t 93)), (13, (.t 98)), (14, (.t 103)), (15, (.t 108))], none⟩
           (.one 81 false [80, 79, 75, 74, 69, 64, 59, 54, 51, 50, 49, 44, 42, 41, 39, 34, 30, 29, 24, 20, 19, 16, 15, 14, 9, 4] ⟨(some 0), .mov (.t 109), none⟩
           (.done))))
          (.done)))))))
         (.done))
        (.done))))
       (.done))
      (.done))))
     (.done))))
    (.done)))
   (.done))
  (.done)))))))))))))))))))))))))))))))))))))))))))))))))))))))))))
theorem k_cipherplanref02_Suites_0 (f_cipherplanref02_suite f_cipherplanref02_use : Nat) : okR (o_cipherplanref02_Suites_0 f_cipherplanref02_suite f_cipherplanref02_use) a_cipherplanref02_Suites_0 [] t_cipherplanref02_Suites_0 = true := by kernel_rfl
theorem q_cipherplanref02_Suites_0 (f_cipherplanref02_suite f_cipherplanref02_use : Nat) : plan (ris (o_cipherplanref02_Suites_0 f_cipherplanref02_suite f_cipherplanref02_use) a_cipherplanref02_Suites_0 []) t_cipherplanref02_Suites_0 = p_cipherplanref02_Suites_0 f_cipherplanref02_suite f_cipherplanref02_use := by kernel_rfl

def c_cipherplanref02_Suites (f_cipherplanref02_use f_cipherplanref02_suite : Nat) : AC :=
  seqK [] (.reg [⟨(some 0), .mknil 12, none⟩])
  (seqK [1, 2, 3] (.reg [⟨(some 15), .call f_cipherplanref02_use [(.c (V.int 10)), (.c (V.int 0))], none⟩,
      ⟨(some 16), .call f_cipherplanref02_use [(.c (V.int 5)), (.c (V.int 0))], none⟩,
      ⟨(some 17), .build [(.int .i64 0), (.int .i64 0)] [], none⟩,
      ⟨(some 1), .alloc [.val (.int .i64 0), .val (.int .i64 0)], none⟩,
      ⟨(some 2), .alloc [.val (.int .i64 0), .val (.int .i64 0)], none⟩,
      ⟨(some 3), .alloc [.val (.int .i64 0), .val (.int .i64 0)], none⟩,
      ⟨none, .store 2 (.t 1) (.t 15), none⟩,
      ⟨none, .store 2 (.t 2) (.t 16), none⟩,
      ⟨none, .store 2 (.t 3) (.t 17), none⟩])
   (seqK [1, 2, 3, 4, 5] (.reg [⟨(some 18), .call f_cipherplanref02_use [(.c (V.int 14)), (.c (V.int 128))], none⟩,
       ⟨(some 19), .call f_cipherplanref02_use [(.c (V.int 15)), (.c (V.int 168))], none⟩,
       ⟨(some 4), .alloc [.val (.int .i64 0), .val (.int .i64 0)], none⟩,
       ⟨(some 5), .alloc [.val (.int .i64 0), .val (.int .i64 0)], none⟩,
       ⟨none, .store 2 (.t 4) (.t 18), none⟩,
       ⟨none, .store 2 (.t 5) (.t 19), none⟩])
    (seqK [1, 2, 3, 4, 5, 6, 7, 8] (.reg [⟨(some 20), .call f_cipherplanref02_use [(.c (V.int 16)), (.c (V.int 128))], none⟩,
        ⟨(some 21), .call f_cipherplanref02_use [(.c (V.int 17)), (.c (V.int 128))], none⟩,
        ⟨(some 22), .call f_cipherplanref02_use [(.c (V.int 17)), (.c (V.int 256))], none⟩,
        ⟨(some 6), .alloc [.val (.int .i64 0), .val (.int .i64 0)], none⟩,
        ⟨(some 7), .alloc [.val (.int .i64 0), .val (.int .i64 0)], none⟩,
        ⟨(some 8), .alloc [.val (.int .i64 0), .val (.int .i64 0)], none⟩,
        ⟨none, .store 2 (.t 6) (.t 20), none⟩,
        ⟨none, .store 2 (.t 7) (.t 21), none⟩,
        ⟨none, .store 2 (.t 8) (.t 22), none⟩])
     (seqK [1, 2, 3, 4, 5, 6, 7, 8, 9, 10, 11, 12] (.reg [⟨(some 23), .call f_cipherplanref02_use [(.c (V.int 19)), (.c (V.int 0))], none⟩,
         ⟨(some 24), .call f_cipherplanref02_use [(.c (V.int 20)), (.c (V.int 0))], none⟩,
         ⟨(some 25), .call f_cipherplanref02_use [(.c (V.int 21)), (.c (V.int 0))], none⟩,
         ⟨(some 26), .call f_cipherplanref02_use [(.c (V.int 22)), (.c (V.int 0))], none⟩,
         ⟨(some 9), .alloc [.val (.int .i64 0), .val (.int .i64 0)], none⟩,
         ⟨(some 10), .alloc [.val (.int .i64 0), .val (.int .i64 0)], none⟩,
         ⟨(some 11), .alloc [.val (.int .i64 0), .val (.int .i64 0)], none⟩,
         ⟨(some 12), .alloc [.val (.int .i64 0), .val (.int .i64 0)], none⟩,
         ⟨none, .store 2 (.t 9) (.t 23), none⟩,
         ⟨none, .store 2 (.t 10) (.t 24), none⟩,
         ⟨none, .store 2 (.t 11) (.t 25), none⟩,
         ⟨none, .store 2 (.t 12) (.t 26), none⟩])
      (seqK [1, 2, 3, 4, 5, 6, 7, 8, 9, 10, 11, 12, 13, 14] (.reg [⟨(some 27), .call f_cipherplanref02_use [(.c (V.int 12)), (.c (V.int 256))], none⟩,
          ⟨(some 28), .call f_cipherplanref02_use [(.c (V.int 18)), (.c (V.int 0))], none⟩,
          ⟨(some 13), .alloc [.val (.int .i64 0), .val (.int .i64 0)], none⟩,
          ⟨(some 14), .alloc [.val (.int .i64 0), .val (.int .i64 0)], none⟩,
          ⟨none, .store 2 (.t 13) (.t 27), none⟩,
          ⟨none, .store 2 (.t 14) (.t 28), none⟩])
       (seqK [0] (regK [] t_cipherplanref02_Suites_0 (p_cipherplanref02_Suites_0 f_cipherplanref02_suite f_cipherplanref02_use) (o_cipherplanref02_Suites_0 f_cipherplanref02_suite f_cipherplanref02_use) a_cipherplanref02_Suites_0)
        (.ret)))))))

def r_cipherplanref02_Suites : List ARes := [.tmp 0]
def CE_cipherplanref02_Suites (Γ : Env) (f : Nat) : Prop := EvC Γ f [] (.sl 12 (suitesL.map CSuite.v))
theorem ev_cipherplanref02_Suites {Γ : Env} {f f_cipherplanref02_use f_cipherplanref02_suite : Nat} (h : Has Γ.P f 110 (c_cipherplanref02_Suites f_cipherplanref02_use f_cipherplanref02_suite) r_cipherplanref02_Suites) (h_cipherplanref02_use : CE_cipherplanref02_use Γ f_cipherplanref02_use) (h_cipherplanref02_suite : CE_cipherplanref02_suite Γ f_cipherplanref02_suite) : CE_cipherplanref02_Suites Γ f := by
  refine evC_of_body h (by simp) (by simp only [V.closed]) fun C hC hm => ?_
  subst hC
  unfold c_cipherplanref02_Suites
  repeat' (first
    | refine awp_seqR fun K' hK => ?_
    | refine awp_regR fun K' hK => ?_
    | refine awp_seqP 82 (fun _ => true) rfl (k_cipherplanref02_Suites_0 _ _) (q_cipherplanref02_Suites_0 _ _) fun K' hK => ?_
    | refine awp_regP 82 (fun _ => true) rfl (k_cipherplanref02_Suites_0 _ _) (q_cipherplanref02_Suites_0 _ _) fun K' hK => ?_
    | refine awp_seqK ?_
    | refine awp_skip ?_
    | refine awp_block ?_
    | ((first | refine awp_cond ⟨_, rfl, fun hc => ?_, fun hc => ?_⟩ | refine awB_t (fun hc => ?_) (fun hc => ?_) | refine awB_f (fun hc => ?_) (fun hc => ?_)) <;> first | exact Bool.noConfusion hc | (exfalso; simp only [decide_eq_true_eq, decide_eq_false_iff_not, List.length_map, Bool.not_eq_true', Bool.not_eq_false'] at hc; omega) | (try simp only [decide_eq_true_eq, decide_eq_false_iff_not, beq_iff_eq, beq_eq_false_iff_ne, ne_eq, Bool.not_eq_true', Bool.not_eq_false'] at hc))
    | refine awp_ret ?_
    | refine awp_exit ?_
    | simp (maxSteps := 1000000) only [go_sem, Nat.reduceAdd, Nat.reduceMul, Nat.reduceEqDiff, Nat.reduceLeDiff, Nat.reduceLT, Nat.reduceSub, Int.reduceEq, Int.reduceBEq, Int.reduceLT, Int.reduceLE, Int.reduceAdd, Int.reduceToNat, reduceIte, reduceCtorEq, p_cipherplanref02_Suites_0]
    | (refine hK _ ?_; clear hK; clear K')
    | refine And.intro ?_ ?_
    | ((first | apply awC_A | apply awCR_A); (focus (simp only [go_sem, Nat.reduceAdd, Nat.reduceMul, Nat.reduceEqDiff, Nat.reduceLeDiff, Nat.reduceLT, Nat.reduceSub, Int.reduceEq, Int.reduceBEq, Int.reduceLT, Int.reduceLE, Int.reduceAdd, Int.reduceToNat, reduceIte, reduceCtorEq]; first | exact (h_cipherplanref02_use _ _).b | exact (h_cipherplanref02_suite _ _ _ _ _ _ _ _ _ _ _ _).b)); (focus (simp only [go_sem, Nat.reduceAdd, Nat.reduceMul, Nat.reduceEqDiff, Nat.reduceLeDiff, Nat.reduceLT, Nat.reduceSub, Int.reduceEq, Int.reduceBEq, Int.reduceLT, Int.reduceLE, Int.reduceAdd, Int.reduceToNat, reduceIte, reduceCtorEq])))
    | (simp only [List.length_append, List.length_cons, List.length_nil, List.length_map, Nat.reducePow, Nat.reduceAdd]; omega)
    | omega)
  refine ends_r _ rfl ?_; simp only [go_sem, Nat.reduceAdd, Nat.reduceMul, Nat.reduceEqDiff, Nat.reduceLeDiff, Nat.reduceLT, Nat.reduceSub, Int.reduceEq, Int.reduceBEq, Int.reduceLT, Int.reduceLE, Int.reduceAdd, Int.reduceToNat, reduceIte, reduceCtorEq]
  rfl

def c_cipherplanref02_Suite (f_cipherplanref02_Suites : Nat) : AC :=
  seqK [0, 2] (.reg [⟨(some 2), .alloc [.val (.int .i64 0), .val (.string ⟨#[]⟩), .val (.int .i64 0), .val (.int .i64 0), .val (.int .i64 0), .val (.int .i64 0), .val (.int .i64 0), .val (.int .i64 0), .val (.int .i64 0), .val (.int .i64 0), .val (.int .i64 0), .val (.int .i64 0)], none⟩,
     ⟨(some 3), .mov (.c (V.int 0)), none⟩])
  (seqK [0, 2] (seqK [0, 2, 9] (.reg [⟨(some 4), .mov (.t 0), none⟩,
       ⟨(some 5), .bin .lss (.t 4) (.c (V.int 1)), none⟩,
       ⟨(some 6), .mov (.t 5), none⟩,
       ⟨(some 7), .mov (.t 0), (some (6, false))⟩,
       ⟨(some 8), .bin .gtr (.t 7) (.c (V.int 16)), (some (6, false))⟩,
       ⟨(some 9), .pick (.t 6) (.c (V.bool true)) (.t 8), none⟩])
    (.cond (.t 9)
      (seqK [2, 3] (.reg [⟨(some 10), .build [(.int .i64 0), (.string ⟨#[]⟩), (.int .i64 0), (.int .i64 0), (.int .i64 0), (.int .i64 0), (.int .i64 0), (.int .i64 0), (.int .i64 0), (.int .i64 0), (.int .i64 0), (.int .i64 0)] [], none⟩,
          ⟨none, .store 12 (.t 2) (.t 10), none⟩,
          ⟨(some 3), .mov (.c (V.int 8)), none⟩])
       (.ret))
      (.skip)))
   (seqK [2, 3] (.reg [⟨(some 11), .call f_cipherplanref02_Suites [], none⟩,
       ⟨(some 12), .mov (.t 0), none⟩,
       ⟨(some 13), .bin .sub (.t 12) (.c (V.int 1)), none⟩,
       ⟨(some 14), .iaddr 12 (.t 11) (.t 13), none⟩,
       ⟨(some 15), .load true 12 (.t 14), none⟩,
       ⟨none, .store 12 (.t 2) (.t 15), none⟩,
       ⟨(some 3), .mov (.c (V.int 0)), none⟩])
    (.ret)))

def r_cipherplanref02_Suite : List ARes := [.cell 2 true 12, .tmp 3]
def CE_cipherplanref02_Suite (Γ : Env) (f : Nat) : Prop := ∀ (c : Int), EvN Γ f [V.int c] (suiteV c)
theorem ev_cipherplanref02_Suite {Γ : Env} {f f_cipherplanref02_Suites : Nat} (h : Has Γ.P f 16 (c_cipherplanref02_Suite f_cipherplanref02_Suites) r_cipherplanref02_Suite) (h_cipherplanref02_Suites : CE_cipherplanref02_Suites Γ f_cipherplanref02_Suites) : CE_cipherplanref02_Suite Γ f := by
  intro c
  refine evN_of_body h (by simp) (by first | exact suiteV_closed c | exact suiteV_noSl c) (by first | exact suiteV_closed c | exact suiteV_noSl c) fun C hC hm => ?_
  subst hC
  unfold c_cipherplanref02_Suite
  have hl := suites_len
  by_cases h : 1 ≤ c ∧ c ≤ 16
  · have hg := suiteAt_get h
    have hw : IntKind.i64.wrap (c - 1) = c - 1 := wrap_id (by omega) (by omega)
    have e1 : decide (c < 1) = false := by simp; omega
    have e2 : decide (c > 16) = false := by simp; omega
    repeat' (first
    | refine awp_seqR fun K' hK => ?_
    | refine awp_regR fun K' hK => ?_
    | refine awp_seqK ?_
    | refine awp_skip ?_
    | refine awp_block ?_
    | ((first | refine awp_cond ⟨_, rfl, fun hc => ?_, fun hc => ?_⟩ | refine awB_t (fun hc => ?_) (fun hc => ?_) | refine awB_f (fun hc => ?_) (fun hc => ?_)) <;> first | exact Bool.noConfusion hc | (exfalso; simp only [decide_eq_true_eq, decide_eq_false_iff_not, List.length_map, Bool.not_eq_true', Bool.not_eq_false'] at hc; omega) | (try simp only [decide_eq_true_eq, decide_eq_false_iff_not, beq_iff_eq, beq_eq_false_iff_ne, ne_eq, Bool.not_eq_true', Bool.not_eq_false'] at hc))
    | refine awp_ret ?_
    | refine awp_exit ?_
    | simp (maxSteps := 1000000) only [go_sem, Nat.reduceAdd, Nat.reduceMul, Nat.reduceEqDiff, Nat.reduceLeDiff, Nat.reduceLT, Nat.reduceSub, Int.reduceEq, Int.reduceBEq, Int.reduceLT, Int.reduceLE, Int.reduceAdd, Int.reduceToNat, reduceIte, reduceCtorEq, hg, hw, e1, e2, CSuite.v, CSuite.cells]
    | (refine hK _ ?_; clear hK; clear K')
    | refine And.intro ?_ ?_
    | (apply awC_A; (focus (simp only [go_sem, Nat.reduceAdd, Nat.reduceMul, Nat.reduceEqDiff, Nat.reduceLeDiff, Nat.reduceLT, Nat.reduceSub, Int.reduceEq, Int.reduceBEq, Int.reduceLT, Int.reduceLE, Int.reduceAdd, Int.reduceToNat, reduceIte, reduceCtorEq, hg, hw, e1, e2, CSuite.v, CSuite.cells]; first | exact EvC.b h_cipherplanref02_Suites)); (focus (simp only [go_sem, Nat.reduceAdd, Nat.reduceMul, Nat.reduceEqDiff, Nat.reduceLeDiff, Nat.reduceLT, Nat.reduceSub, Int.reduceEq, Int.reduceBEq, Int.reduceLT, Int.reduceLE, Int.reduceAdd, Int.reduceToNat, reduceIte, reduceCtorEq, hg, hw, e1, e2, CSuite.v, CSuite.cells])))
    | (simp only [List.length_append, List.length_cons, List.length_nil, List.length_map, Nat.reducePow, Nat.reduceAdd]; omega)
    | omega)
    all_goals (simp only [suiteV, if_pos h, CSuite.v, CSuite.cells]; refine ends_r _ rfl ?_; simp only [go_sem, Nat.reduceAdd, Nat.reduceMul, Nat.reduceEqDiff, Nat.reduceLeDiff, Nat.reduceLT, Nat.reduceSub, Int.reduceEq, Int.reduceBEq, Int.reduceLT, Int.reduceLE, Int.reduceAdd, Int.reduceToNat, reduceIte, reduceCtorEq])
  · have h0 := suiteAt_out h
    by_cases h1 : c < 1
    · have e1 : decide (c < 1) = true := by simp; omega
      repeat' (first
    | refine awp_seqR fun K' hK => ?_
    | refine awp_regR fun K' hK => ?_
    | refine awp_seqK ?_
    | refine awp_skip ?_
    | refine awp_block ?_
    | ((first | refine awp_cond ⟨_, rfl, fun hc => ?_, fun hc => ?_⟩ | refine awB_t (fun hc => ?_) (fun hc => ?_) | refine awB_f (fun hc => ?_) (fun hc => ?_)) <;> first | exact Bool.noConfusion hc | (exfalso; simp only [decide_eq_true_eq, decide_eq_false_iff_not, List.length_map, Bool.not_eq_true', Bool.not_eq_false'] at hc; omega) | (try simp only [decide_eq_true_eq, decide_eq_false_iff_not, beq_iff_eq, beq_eq_false_iff_ne, ne_eq, Bool.not_eq_true', Bool.not_eq_false'] at hc))
    | refine awp_ret ?_
    | refine awp_exit ?_
    | simp (maxSteps := 1000000) only [go_sem, Nat.reduceAdd, Nat.reduceMul, Nat.reduceEqDiff, Nat.reduceLeDiff, Nat.reduceLT, Nat.reduceSub, Int.reduceEq, Int.reduceBEq, Int.reduceLT, Int.reduceLE, Int.reduceAdd, Int.reduceToNat, reduceIte, reduceCtorEq, e1]
    | (refine hK _ ?_; clear hK; clear K')
    | refine And.intro ?_ ?_
    | (apply awC_A; (focus (simp only [go_sem, Nat.reduceAdd, Nat.reduceMul, Nat.reduceEqDiff, Nat.reduceLeDiff, Nat.reduceLT, Nat.reduceSub, Int.reduceEq, Int.reduceBEq, Int.reduceLT, Int.reduceLE, Int.reduceAdd, Int.reduceToNat, reduceIte, reduceCtorEq, e1]; first | exact EvC.b h_cipherplanref02_Suites)); (focus (simp only [go_sem, Nat.reduceAdd, Nat.reduceMul, Nat.reduceEqDiff, Nat.reduceLeDiff, Nat.reduceLT, Nat.reduceSub, Int.reduceEq, Int.reduceBEq, Int.reduceLT, Int.reduceLE, Int.reduceAdd, Int.reduceToNat, reduceIte, reduceCtorEq, e1])))
    | (simp only [List.length_append, List.length_cons, List.length_nil, List.length_map, Nat.reducePow, Nat.reduceAdd]; omega)
    | omega)
      all_goals (simp only [suiteV, if_neg h, h0, suite0, CSuite.v, CSuite.cells]; refine ends_r _ rfl ?_; simp only [go_sem, Nat.reduceAdd, Nat.reduceMul, Nat.reduceEqDiff, Nat.reduceLeDiff, Nat.reduceLT, Nat.reduceSub, Int.reduceEq, Int.reduceBEq, Int.reduceLT, Int.reduceLE, Int.reduceAdd, Int.reduceToNat, reduceIte, reduceCtorEq])
    · have e1 : decide (c < 1) = false := by simp; omega
      have e2 : decide (c > 16) = true := by simp; omega
      repeat' (first
    | refine awp_seqR fun K' hK => ?_
    | refine awp_regR fun K' hK => ?_
    | refine awp_seqK ?_
    | refine awp_skip ?_
    | refine awp_block ?_
    | ((first | refine awp_cond ⟨_, rfl, fun hc => ?_, fun hc => ?_⟩ | refine awB_t (fun hc => ?_) (fun hc => ?_) | refine awB_f (fun hc => ?_) (fun hc => ?_)) <;> first | exact Bool.noConfusion hc | (exfalso; simp only [decide_eq_true_eq, decide_eq_false_iff_not, List.length_map, Bool.not_eq_true', Bool.not_eq_false'] at hc; omega) | (try simp only [decide_eq_true_eq, decide_eq_false_iff_not, beq_iff_eq, beq_eq_false_iff_ne, ne_eq, Bool.not_eq_true', Bool.not_eq_false'] at hc))
    | refine awp_ret ?_
    | refine awp_exit ?_
    | simp (maxSteps := 1000000) only [go_sem, Nat.reduceAdd, Nat.reduceMul, Nat.reduceEqDiff, Nat.reduceLeDiff, Nat.reduceLT, Nat.reduceSub, Int.reduceEq, Int.reduceBEq, Int.reduceLT, Int.reduceLE, Int.reduceAdd, Int.reduceToNat, reduceIte, reduceCtorEq, e1, e2]
    | (refine hK _ ?_; clear hK; clear K')
    | refine And.intro ?_ ?_
    | (apply awC_A; (focus (simp only [go_sem, Nat.reduceAdd, Nat.reduceMul, Nat.reduceEqDiff, Nat.reduceLeDiff, Nat.reduceLT, Nat.reduceSub, Int.reduceEq, Int.reduceBEq, Int.reduceLT, Int.reduceLE, Int.reduceAdd, Int.reduceToNat, reduceIte, reduceCtorEq, e1, e2]; first | exact EvC.b h_cipherplanref02_Suites)); (focus (simp only [go_sem, Nat.reduceAdd, Nat.reduceMul, Nat.reduceEqDiff, Nat.reduceLeDiff, Nat.reduceLT, Nat.reduceSub, Int.reduceEq, Int.reduceBEq, Int.reduceLT, Int.reduceLE, Int.reduceAdd, Int.reduceToNat, reduceIte, reduceCtorEq, e1, e2])))
    | (simp only [List.length_append, List.length_cons, List.length_nil, List.length_map, Nat.reducePow, Nat.reduceAdd]; omega)
    | omega)
      all_goals (simp only [suiteV, if_neg h, h0, suite0, CSuite.v, CSuite.cells]; refine ends_r _ rfl ?_; simp only [go_sem, Nat.reduceAdd, Nat.reduceMul, Nat.reduceEqDiff, Nat.reduceLeDiff, Nat.reduceLT, Nat.reduceSub, Int.reduceEq, Int.reduceBEq, Int.reduceLT, Int.reduceLE, Int.reduceAdd, Int.reduceToNat, reduceIte, reduceCtorEq])
end Av
end

section
set_option linter.unusedSimpArgs false
set_option linter.unusedVariables false
set_option maxRecDepth 10000
set_option maxHeartbeats 4000000
namespace Av
open Go
attribute [local irreducible] AWp runO runP runG awS awC awCv awQ awRd awCallR awCvR awQR awR awRdR awB okR plan ris

def idxF {α : Type} (p : α → Bool) : Nat → List α → Int
  | _, [] => -1
  | k, x :: r => if p x = true then k else idxF p (k + 1) r
theorem idxF_range {α : Type} (p : α → Bool) : ∀ (l : List α) (k : Nat), -1 ≤ idxF p k l ∧ idxF p k l ≤ ((k + l.length : Nat) : Int)
  | [], k => by simp [idxF] <;> omega
  | x :: r, k => by
    have := idxF_range p r (k + 1)
    simp only [idxF, List.length_cons]
    split <;> omega

def c_slices_IndexFunc___api_Suite_api_Suite : AC :=
  seqK [0, 1] (.reg [⟨(some 4), .mov (.c (V.int 0)), none⟩])
  (seqK [] (seqK [0, 1, 7, 8] (.reg [⟨(some 6), .mov (.t 0), none⟩,
       ⟨(some 7), .lenL (.t 6), none⟩,
       ⟨(some 8), .mov (.c (V.int 0)), none⟩])
    (.block 0 (loopK [0, 1, 7, 8] (seqK [0, 1, 7, 8, 9] (.reg [⟨(some 9), .bin .lss (.t 8) (.t 7), none⟩])
       (seqK [0, 1, 7, 8] (.cond (.t 9)
          (.skip)
          (.exit 0))
        (seqK [0, 1, 7, 8] (.block 1 (seqK [0, 1, 5, 7, 8] (.reg [⟨(some 10), .mov (.t 8), none⟩,
              ⟨(some 5), .mov (.t 10), none⟩])
           (seqK [0, 1, 5, 7, 8, 16] (.reg [⟨(some 11), .mov (.t 1), none⟩,
               ⟨(some 12), .mov (.t 0), none⟩,
               ⟨(some 13), .mov (.t 5), none⟩,
               ⟨(some 14), .iaddr 12 (.t 12) (.t 13), none⟩,
               ⟨(some 15), .load true 12 (.t 14), none⟩,
               ⟨(some 16), .callv (.t 11) [(.t 15)], none⟩])
            (.cond (.t 16)
              (seqK [4] (.reg [⟨(some 17), .mov (.t 5), none⟩,
                  ⟨(some 4), .mov (.t 17), none⟩])
               (.ret))
              (.skip)))))
         (.reg [⟨(some 18), .bin .add (.t 8) (.c (V.int 1)), none⟩,
            ⟨(some 8), .mov (.t 18), none⟩])))))))
   (seqK [4] (.reg [⟨(some 4), .mov (.c (V.int (-1))), none⟩])
    (.ret)))

def r_slices_IndexFunc___api_Suite_api_Suite : List ARes := [.tmp 4]
def CE_slices_IndexFunc___api_Suite_api_Suite (Γ : Env) (f : Nat) : Prop := ∀ (xs : List CSuite) (g : Nat) (cap : List V) (p : CSuite → Bool) (hp : ∀ x ∈ xs, EvN Γ g (x.v :: cap) (V.bool (p x))) (hcap : closedL cap) (hl : xs.length < 2 ^ 62), EvN Γ f [.sl 12 (xs.map CSuite.v), .clo g cap] (V.int (idxF p 0 xs))
theorem ev_slices_IndexFunc___api_Suite_api_Suite {Γ : Env} {f : Nat} (h : Has Γ.P f 19 c_slices_IndexFunc___api_Suite_api_Suite r_slices_IndexFunc___api_Suite_api_Suite)  : CE_slices_IndexFunc___api_Suite_api_Suite Γ f := by
  intro xs g cap p hp hcap hl
  refine evN_of_body h (by simp) (by simp only [V.closed, closedL, V.noSl, noSlL, and_self, and_true, true_and]) (by simp only [V.closed, closedL, V.noSl, noSlL, and_self, and_true, true_and]) fun C hC hm => ?_
  subst hC
  unfold c_slices_IndexFunc___api_Suite_api_Suite
  have s1 : ∀ o, shutL o cap = cap := fun o => closedL_shut o cap hcap
  have s2 : ∀ o B, shutOkL o B cap = True := fun o B => eq_true (closedL_shutOk o B cap hcap)
  repeat' (first
    | refine awp_seqR fun K' hK => ?_
    | refine awp_regR fun K' hK => ?_
    | refine awp_seqK ?_
    | refine awp_skip ?_
    | refine awp_block ?_
    | ((first | refine awp_cond ⟨_, rfl, fun hc => ?_, fun hc => ?_⟩ | refine awB_t (fun hc => ?_) (fun hc => ?_) | refine awB_f (fun hc => ?_) (fun hc => ?_)) <;> first | exact Bool.noConfusion hc | (exfalso; simp only [decide_eq_true_eq, decide_eq_false_iff_not, List.length_map, Bool.not_eq_true', Bool.not_eq_false'] at hc; omega) | (try simp only [decide_eq_true_eq, decide_eq_false_iff_not, beq_iff_eq, beq_eq_false_iff_ne, ne_eq, Bool.not_eq_true', Bool.not_eq_false'] at hc))
    | refine awp_ret ?_
    | refine awp_exit ?_
    | simp (maxSteps := 1000000) only [go_sem, Nat.reduceAdd, Nat.reduceMul, Nat.reduceEqDiff, Nat.reduceLeDiff, Nat.reduceLT, Nat.reduceSub, Int.reduceEq, Int.reduceBEq, Int.reduceLT, Int.reduceLE, Int.reduceAdd, Int.reduceToNat, reduceIte, reduceCtorEq]
    | (refine hK _ ?_; clear hK; clear K')
    | refine And.intro ?_ ?_
    | (simp only [List.length_append, List.length_cons, List.length_nil, List.length_map, Nat.reducePow, Nat.reduceAdd]; omega)
    | omega)
  refine awp_loopP (ι := Nat) (fun k => k ≤ xs.length ∧ idxF p k (xs.drop k) = idxF p 0 xs) (fun k => [(8, V.int k)]) (fun k => xs.length - k) 0 (by omega) ⟨by simp, by simp⟩ (by repeat' first | exact ltO_none | refine ltO_upd (by omega) (by simp only [Ob.lt, ltL, V.lt, and_self, and_true]; try omega) ?_) (fun i hi => by simp only [ovT, lookD, Nat.reduceEqDiff, reduceIte]; (repeat' first | exact ltT_nil | refine ltT_cons ?_ ?_ | simp only [V.lt, ltL, and_self, and_true] | omega); exact closedL_lt _ _ hcap) (by simp only [Nat.reduceAdd, ovT, lookD, Nat.reduceEqDiff, reduceIte, eqT_cons, eqT_nil, renI, u32, u33, u34, u35, u36, u37, u38, u39, and_self, and_true, true_and]; first | rfl | exact closedL_ren _ _ hcap) fun k hk K' hL => ?_
  obtain ⟨hk, hinv⟩ := hk
  simp only [ovT, lookD, Nat.reduceEqDiff, reduceIte]
  rcases hd : xs.drop k with _ | ⟨y, r⟩
  · have := drop_nil hd
    rw [hd] at hinv
    repeat' (first
    | refine awp_seqR fun K' hK => ?_
    | refine awp_regR fun K' hK => ?_
    | refine awp_seqK ?_
    | refine awp_skip ?_
    | refine awp_block ?_
    | ((first | refine awp_cond ⟨_, rfl, fun hc => ?_, fun hc => ?_⟩ | refine awB_t (fun hc => ?_) (fun hc => ?_) | refine awB_f (fun hc => ?_) (fun hc => ?_)) <;> first | exact Bool.noConfusion hc | (exfalso; simp only [decide_eq_true_eq, decide_eq_false_iff_not, List.length_map, Bool.not_eq_true', Bool.not_eq_false'] at hc; omega) | (try simp only [decide_eq_true_eq, decide_eq_false_iff_not, beq_iff_eq, beq_eq_false_iff_ne, ne_eq, Bool.not_eq_true', Bool.not_eq_false'] at hc))
    | refine awp_ret ?_
    | refine awp_exit ?_
    | simp (maxSteps := 1000000) only [go_sem, Nat.reduceAdd, Nat.reduceMul, Nat.reduceEqDiff, Nat.reduceLeDiff, Nat.reduceLT, Nat.reduceSub, Int.reduceEq, Int.reduceBEq, Int.reduceLT, Int.reduceLE, Int.reduceAdd, Int.reduceToNat, reduceIte, reduceCtorEq]
    | (refine hK _ ?_; clear hK; clear K')
    | refine And.intro ?_ ?_
    | (simp only [List.length_append, List.length_cons, List.length_nil, List.length_map, Nat.reducePow, Nat.reduceAdd]; omega)
    | omega)
    refine ends_r _ rfl ?_
    simp only [go_sem, Nat.reduceAdd, Nat.reduceMul, Nat.reduceEqDiff, Nat.reduceLeDiff, Nat.reduceLT, Nat.reduceSub, Int.reduceEq, Int.reduceBEq, Int.reduceLT, Int.reduceLE, Int.reduceAdd, Int.reduceToNat, reduceIte, reduceCtorEq]
    rw [← hinv]; rfl
  · obtain ⟨hk, hget, hr⟩ := drop_cons hd
    rw [hd] at hinv
    have hw := wrap_succ (k := k) (by omega)
    have hpy := hp y (List.mem_of_getElem? hget)
    by_cases hy : p y = true
    · rw [hy] at hpy
      repeat' (first
    | refine awp_seqR fun K' hK => ?_
    | refine awp_regR fun K' hK => ?_
    | refine awp_seqK ?_
    | refine awp_skip ?_
    | refine awp_block ?_
    | ((first | refine awp_cond ⟨_, rfl, fun hc => ?_, fun hc => ?_⟩ | refine awB_t (fun hc => ?_) (fun hc => ?_) | refine awB_f (fun hc => ?_) (fun hc => ?_)) <;> first | exact Bool.noConfusion hc | (exfalso; simp only [decide_eq_true_eq, decide_eq_false_iff_not, List.length_map, Bool.not_eq_true', Bool.not_eq_false'] at hc; omega) | (try simp only [decide_eq_true_eq, decide_eq_false_iff_not, beq_iff_eq, beq_eq_false_iff_ne, ne_eq, Bool.not_eq_true', Bool.not_eq_false'] at hc))
    | refine awp_ret ?_
    | refine awp_exit ?_
    | simp (maxSteps := 1000000) only [go_sem, Nat.reduceAdd, Nat.reduceMul, Nat.reduceEqDiff, Nat.reduceLeDiff, Nat.reduceLT, Nat.reduceSub, Int.reduceEq, Int.reduceBEq, Int.reduceLT, Int.reduceLE, Int.reduceAdd, Int.reduceToNat, reduceIte, reduceCtorEq, Int.toNat_natCast, List.getElem?_map, hget, hw, CSuite.v, CSuite.cells, s1, s2]
    | (refine hK _ ?_; clear hK; clear K')
    | refine And.intro ?_ ?_
    | (apply awC_A; (focus (simp only [go_sem, Nat.reduceAdd, Nat.reduceMul, Nat.reduceEqDiff, Nat.reduceLeDiff, Nat.reduceLT, Nat.reduceSub, Int.reduceEq, Int.reduceBEq, Int.reduceLT, Int.reduceLE, Int.reduceAdd, Int.reduceToNat, reduceIte, reduceCtorEq, Int.toNat_natCast, List.getElem?_map, hget, hw, CSuite.v, CSuite.cells, s1, s2]; first | exact hpy.b)); (focus (simp only [go_sem, Nat.reduceAdd, Nat.reduceMul, Nat.reduceEqDiff, Nat.reduceLeDiff, Nat.reduceLT, Nat.reduceSub, Int.reduceEq, Int.reduceBEq, Int.reduceLT, Int.reduceLE, Int.reduceAdd, Int.reduceToNat, reduceIte, reduceCtorEq, Int.toNat_natCast, List.getElem?_map, hget, hw, CSuite.v, CSuite.cells, s1, s2])))
    | (simp only [List.length_append, List.length_cons, List.length_nil, List.length_map, Nat.reducePow, Nat.reduceAdd]; omega)
    | omega)
      refine ends_r _ rfl ?_; simp only [go_sem, Nat.reduceAdd, Nat.reduceMul, Nat.reduceEqDiff, Nat.reduceLeDiff, Nat.reduceLT, Nat.reduceSub, Int.reduceEq, Int.reduceBEq, Int.reduceLT, Int.reduceLE, Int.reduceAdd, Int.reduceToNat, reduceIte, reduceCtorEq]
      rw [← hinv]; simp [idxF, hy]
    · have hy' : p y = false := by simpa using hy
      rw [hy'] at hpy
      repeat' (first
    | refine awp_seqR fun K' hK => ?_
    | refine awp_regR fun K' hK => ?_
    | refine awp_seqK ?_
    | refine awp_skip ?_
    | refine awp_block ?_
    | ((first | refine awp_cond ⟨_, rfl, fun hc => ?_, fun hc => ?_⟩ | refine awB_t (fun hc => ?_) (fun hc => ?_) | refine awB_f (fun hc => ?_) (fun hc => ?_)) <;> first | exact Bool.noConfusion hc | (exfalso; simp only [decide_eq_true_eq, decide_eq_false_iff_not, List.length_map, Bool.not_eq_true', Bool.not_eq_false'] at hc; omega) | (try simp only [decide_eq_true_eq, decide_eq_false_iff_not, beq_iff_eq, beq_eq_false_iff_ne, ne_eq, Bool.not_eq_true', Bool.not_eq_false'] at hc))
    | refine awp_ret ?_
    | refine awp_exit ?_
    | simp (maxSteps := 1000000) only [go_sem, Nat.reduceAdd, Nat.reduceMul, Nat.reduceEqDiff, Nat.reduceLeDiff, Nat.reduceLT, Nat.reduceSub, Int.reduceEq, Int.reduceBEq, Int.reduceLT, Int.reduceLE, Int.reduceAdd, Int.reduceToNat, reduceIte, reduceCtorEq, Int.toNat_natCast, List.getElem?_map, hget, hw, CSuite.v, CSuite.cells, s1, s2]
    | (refine hK _ ?_; clear hK; clear K')
    | refine And.intro ?_ ?_
    | (apply awC_A; (focus (simp only [go_sem, Nat.reduceAdd, Nat.reduceMul, Nat.reduceEqDiff, Nat.reduceLeDiff, Nat.reduceLT, Nat.reduceSub, Int.reduceEq, Int.reduceBEq, Int.reduceLT, Int.reduceLE, Int.reduceAdd, Int.reduceToNat, reduceIte, reduceCtorEq, Int.toNat_natCast, List.getElem?_map, hget, hw, CSuite.v, CSuite.cells, s1, s2]; first | exact hpy.b)); (focus (simp only [go_sem, Nat.reduceAdd, Nat.reduceMul, Nat.reduceEqDiff, Nat.reduceLeDiff, Nat.reduceLT, Nat.reduceSub, Int.reduceEq, Int.reduceBEq, Int.reduceLT, Int.reduceLE, Int.reduceAdd, Int.reduceToNat, reduceIte, reduceCtorEq, Int.toNat_natCast, List.getElem?_map, hget, hw, CSuite.v, CSuite.cells, s1, s2])))
    | (simp only [List.length_append, List.length_cons, List.length_nil, List.length_map, Nat.reducePow, Nat.reduceAdd]; omega)
    | omega)
      refine hL _ (k + 1) (by simp only [Nat.reduceAdd, ovT, lookD, Nat.reduceEqDiff, reduceIte, eqT_cons, eqT_nil, renI, u32, u33, u34, u35, u36, u37, u38, u39, and_self, and_true, true_and]) ⟨by omega, ?_⟩ (by omega) (fun a ha => by simp only [u32, u33, u34, u35, u36, u37, u38, u39]; repeat rw [if_neg (by omega)])
      rw [hr, ← hinv, idxF, if_neg hy]

def c_catalog_Code_1 : AC :=
  seqK [1, 2] (.reg [⟨(some 2), .box true 12 (.t 0), none⟩,
     ⟨(some 3), .mov (.c (V.bool false)), none⟩])
  (seqK [3] (.reg [⟨(some 4), .faddr 1 (.t 2), none⟩,
      ⟨(some 5), .load false 1 (.t 4), none⟩,
      ⟨(some 6), .load false 1 (.t 1), none⟩,
      ⟨(some 7), .bin .eql (.t 5) (.t 6), none⟩,
      ⟨(some 3), .mov (.t 7), none⟩])
   (.ret))

def r_catalog_Code_1 : List ARes := [.tmp 3]
def CE_catalog_Code_1 (Γ : Env) (f : Nat) : Prop := ∀ (s : CSuite) (n : List UInt8), EvN Γ f [s.v, .ro [V.str n] 0] (V.bool (s.name == n))
theorem ev_catalog_Code_1 {Γ : Env} {f : Nat} (h : Has Γ.P f 8 c_catalog_Code_1 r_catalog_Code_1)  : CE_catalog_Code_1 Γ f := by
  intro s n
  refine evN_of_body h (by simp) (by simp only [V.closed, closedL, V.noSl, noSlL, and_self, and_true, true_and]) (by simp only [V.closed, closedL, V.noSl, noSlL, and_self, and_true, true_and]) fun C hC hm => ?_
  subst hC
  unfold c_catalog_Code_1
  repeat' (first
    | refine awp_seqR fun K' hK => ?_
    | refine awp_regR fun K' hK => ?_
    | refine awp_seqK ?_
    | refine awp_skip ?_
    | refine awp_block ?_
    | ((first | refine awp_cond ⟨_, rfl, fun hc => ?_, fun hc => ?_⟩ | refine awB_t (fun hc => ?_) (fun hc => ?_) | refine awB_f (fun hc => ?_) (fun hc => ?_)) <;> first | exact Bool.noConfusion hc | (exfalso; simp only [decide_eq_true_eq, decide_eq_false_iff_not, List.length_map, Bool.not_eq_true', Bool.not_eq_false'] at hc; omega) | (try simp only [decide_eq_true_eq, decide_eq_false_iff_not, beq_iff_eq, beq_eq_false_iff_ne, ne_eq, Bool.not_eq_true', Bool.not_eq_false'] at hc))
    | refine awp_ret ?_
    | refine awp_exit ?_
    | simp (maxSteps := 1000000) only [go_sem, Nat.reduceAdd, Nat.reduceMul, Nat.reduceEqDiff, Nat.reduceLeDiff, Nat.reduceLT, Nat.reduceSub, Int.reduceEq, Int.reduceBEq, Int.reduceLT, Int.reduceLE, Int.reduceAdd, Int.reduceToNat, reduceIte, reduceCtorEq, CSuite.v, CSuite.cells]
    | (refine hK _ ?_; clear hK; clear K')
    | refine And.intro ?_ ?_
    | (simp only [List.length_append, List.length_cons, List.length_nil, List.length_map, Nat.reducePow, Nat.reduceAdd]; omega)
    | omega)
  refine ends_r _ rfl ?_; simp only [go_sem, Nat.reduceAdd, Nat.reduceMul, Nat.reduceEqDiff, Nat.reduceLeDiff, Nat.reduceLT, Nat.reduceSub, Int.reduceEq, Int.reduceBEq, Int.reduceLT, Int.reduceLE, Int.reduceAdd, Int.reduceToNat, reduceIte, reduceCtorEq]

def codeN (n : List UInt8) : Int := idxF (fun s : CSuite => s.name == n) 0 suitesL + 1

def c_catalog_Code (f_catalog_Suites f_catalog_Code_1 f_slices_IndexFunc___api_Suite_api_Suite : Nat) : AC :=
  seqK [1] (.reg [⟨(some 1), .box false 1 (.t 0), none⟩,
     ⟨(some 2), .mov (.c (V.int 0)), none⟩])
  (seqK [2] (.reg [⟨(some 3), .call f_catalog_Suites [], none⟩,
      ⟨(some 4), .mkfn f_catalog_Code_1 [(.t 1)], none⟩,
      ⟨(some 5), .call f_slices_IndexFunc___api_Suite_api_Suite [(.t 3), (.t 4)], none⟩,
      ⟨(some 6), .bin .add (.t 5) (.c (V.int 1)), none⟩,
      ⟨(some 2), .mov (.t 6), none⟩])
   (.ret))

def r_catalog_Code : List ARes := [.tmp 2]
def CE_catalog_Code (Γ : Env) (f : Nat) : Prop := ∀ (n : List UInt8), EvN Γ f [V.str n] (V.int (codeN n))
theorem ev_catalog_Code {Γ : Env} {f f_catalog_Suites f_catalog_Code_1 f_slices_IndexFunc___api_Suite_api_Suite : Nat} (h : Has Γ.P f 7 (c_catalog_Code f_catalog_Suites f_catalog_Code_1 f_slices_IndexFunc___api_Suite_api_Suite) r_catalog_Code) (h_catalog_Suites : CE_catalog_Suites Γ f_catalog_Suites) (h_catalog_Code_1 : CE_catalog_Code_1 Γ f_catalog_Code_1) (h_slices_IndexFunc___api_Suite_api_Suite : CE_slices_IndexFunc___api_Suite_api_Suite Γ f_slices_IndexFunc___api_Suite_api_Suite) : CE_catalog_Code Γ f := by
  intro n
  refine evN_of_body h (by simp) (by simp only [V.closed, closedL, V.noSl, noSlL, and_self, and_true, true_and]) (by simp only [V.closed, closedL, V.noSl, noSlL, and_self, and_true, true_and]) fun C hC hm => ?_
  subst hC
  unfold c_catalog_Code
  have hi := h_slices_IndexFunc___api_Suite_api_Suite suitesL f_catalog_Code_1 [.ro [V.str n] 0] (fun s => s.name == n) (fun x _ => h_catalog_Code_1 x n) (by simp [closedL, V.closed]) (by rw [suites_len]; omega)
  have hr := idxF_range (fun s : CSuite => s.name == n) suitesL 0
  have hw : IntKind.i64.wrap (idxF (fun s : CSuite => s.name == n) 0 suitesL + 1) = codeN n := wrap_id (by omega) (by have := suites_len; omega)
  repeat' (first
    | refine awp_seqR fun K' hK => ?_
    | refine awp_regR fun K' hK => ?_
    | refine awp_seqK ?_
    | refine awp_skip ?_
    | refine awp_block ?_
    | ((first | refine awp_cond ⟨_, rfl, fun hc => ?_, fun hc => ?_⟩ | refine awB_t (fun hc => ?_) (fun hc => ?_) | refine awB_f (fun hc => ?_) (fun hc => ?_)) <;> first | exact Bool.noConfusion hc | (exfalso; simp only [decide_eq_true_eq, decide_eq_false_iff_not, List.length_map, Bool.not_eq_true', Bool.not_eq_false'] at hc; omega) | (try simp only [decide_eq_true_eq, decide_eq_false_iff_not, beq_iff_eq, beq_eq_false_iff_ne, ne_eq, Bool.not_eq_true', Bool.not_eq_false'] at hc))
    | refine awp_ret ?_
    | refine awp_exit ?_
    | simp (maxSteps := 1000000) only [go_sem, Nat.reduceAdd, Nat.reduceMul, Nat.reduceEqDiff, Nat.reduceLeDiff, Nat.reduceLT, Nat.reduceSub, Int.reduceEq, Int.reduceBEq, Int.reduceLT, Int.reduceLE, Int.reduceAdd, Int.reduceToNat, reduceIte, reduceCtorEq, hw]
    | (refine hK _ ?_; clear hK; clear K')
    | refine And.intro ?_ ?_
    | (apply awC_A; (focus (simp only [go_sem, Nat.reduceAdd, Nat.reduceMul, Nat.reduceEqDiff, Nat.reduceLeDiff, Nat.reduceLT, Nat.reduceSub, Int.reduceEq, Int.reduceBEq, Int.reduceLT, Int.reduceLE, Int.reduceAdd, Int.reduceToNat, reduceIte, reduceCtorEq, hw]; first | exact hi.b | exact EvC.b h_catalog_Suites | exact (h_catalog_Code_1 _ _).b | exact (h_slices_IndexFunc___api_Suite_api_Suite _ _ _ _ (by first | assumption | omega | simp) (by first | assumption | omega | simp) (by first | assumption | omega | simp)).b)); (focus (simp only [go_sem, Nat.reduceAdd, Nat.reduceMul, Nat.reduceEqDiff, Nat.reduceLeDiff, Nat.reduceLT, Nat.reduceSub, Int.reduceEq, Int.reduceBEq, Int.reduceLT, Int.reduceLE, Int.reduceAdd, Int.reduceToNat, reduceIte, reduceCtorEq, hw])))
    | (simp only [List.length_append, List.length_cons, List.length_nil, List.length_map, Nat.reducePow, Nat.reduceAdd]; omega)
    | omega)
  refine ends_r _ rfl ?_; simp only [go_sem, Nat.reduceAdd, Nat.reduceMul, Nat.reduceEqDiff, Nat.reduceLeDiff, Nat.reduceLT, Nat.reduceSub, Int.reduceEq, Int.reduceBEq, Int.reduceLT, Int.reduceLE, Int.reduceAdd, Int.reduceToNat, reduceIte, reduceCtorEq]

theorem codes_ok : ∀ k, k < 16 → ∀ s, suitesL[k]? = some s → s.code = ((k + 1 : Nat) : Int) := by decide

def c_cipherplanref02_Code (f_cipherplanref02_Suites : Nat) : AC :=
  seqK [0] (.reg [⟨(some 2), .mov (.c (V.int 0)), none⟩])
  (seqK [0, 3] (.reg [⟨(some 5), .call f_cipherplanref02_Suites [], none⟩,
      ⟨(some 3), .mov (.t 5), none⟩])
   (seqK [] (seqK [0, 3, 4] (.reg [⟨(some 4), .mov (.c (V.int 0)), none⟩])
     (.block 0 (loopK [0, 3, 4] (seqK [0, 3, 4] (seqK [0, 3, 4, 9] (.reg [⟨(some 6), .mov (.t 4), none⟩,
            ⟨(some 7), .mov (.t 3), none⟩,
            ⟨(some 8), .lenL (.t 7), none⟩,
            ⟨(some 9), .bin .lss (.t 6) (.t 8), none⟩])
         (.cond (.t 9)
           (.skip)
           (.exit 0)))
        (seqK [0, 3, 4] (.block 1 (seqK [0, 3, 4, 18] (.reg [⟨(some 12), .mov (.t 3), none⟩,
              ⟨(some 13), .mov (.t 4), none⟩,
              ⟨(some 14), .iaddr 12 (.t 12) (.t 13), none⟩,
              ⟨(some 15), .faddr 1 (.t 14), none⟩,
              ⟨(some 16), .load false 1 (.t 15), none⟩,
              ⟨(some 17), .mov (.t 0), none⟩,
              ⟨(some 18), .bin .eql (.t 16) (.t 17), none⟩])
           (.cond (.t 18)
             (seqK [2] (.reg [⟨(some 19), .mov (.t 3), none⟩,
                 ⟨(some 20), .mov (.t 4), none⟩,
                 ⟨(some 21), .iaddr 12 (.t 19) (.t 20), none⟩,
                 ⟨(some 22), .faddr 0 (.t 21), none⟩,
                 ⟨(some 23), .load false 1 (.t 22), none⟩,
                 ⟨(some 2), .mov (.t 23), none⟩])
              (.ret))
             (.skip))))
         (.reg [⟨(some 10), .mov (.t 4), none⟩,
            ⟨(some 11), .bin .add (.t 10) (.c (V.int 1)), none⟩,
            ⟨(some 4), .mov (.t 11), none⟩]))))))
    (seqK [2] (.reg [⟨(some 2), .mov (.c (V.int 0)), none⟩])
     (.ret))))

def r_cipherplanref02_Code : List ARes := [.tmp 2]
def CE_cipherplanref02_Code (Γ : Env) (f : Nat) : Prop := ∀ (n : List UInt8), EvN Γ f [V.str n] (V.int (codeN n))
theorem ev_cipherplanref02_Code {Γ : Env} {f f_cipherplanref02_Suites : Nat} (h : Has Γ.P f 24 (c_cipherplanref02_Code f_cipherplanref02_Suites) r_cipherplanref02_Code) (h_cipherplanref02_Suites : CE_cipherplanref02_Suites Γ f_cipherplanref02_Suites) : CE_cipherplanref02_Code Γ f := by
  intro n
  refine evN_of_body h (by simp) (by simp only [V.closed, closedL, V.noSl, noSlL, and_self, and_true, true_and]) (by simp only [V.closed, closedL, V.noSl, noSlL, and_self, and_true, true_and]) fun C hC hm => ?_
  subst hC
  unfold c_cipherplanref02_Code
  have hl := suites_len
  repeat' (first
    | refine awp_seqR fun K' hK => ?_
    | refine awp_regR fun K' hK => ?_
    | refine awp_seqK ?_
    | refine awp_skip ?_
    | refine awp_block ?_
    | ((first | refine awp_cond ⟨_, rfl, fun hc => ?_, fun hc => ?_⟩ | refine awB_t (fun hc => ?_) (fun hc => ?_) | refine awB_f (fun hc => ?_) (fun hc => ?_)) <;> first | exact Bool.noConfusion hc | (exfalso; simp only [decide_eq_true_eq, decide_eq_false_iff_not, List.length_map, Bool.not_eq_true', Bool.not_eq_false'] at hc; omega) | (try simp only [decide_eq_true_eq, decide_eq_false_iff_not, beq_iff_eq, beq_eq_false_iff_ne, ne_eq, Bool.not_eq_true', Bool.not_eq_false'] at hc))
    | refine awp_ret ?_
    | refine awp_exit ?_
    | simp (maxSteps := 1000000) only [go_sem, Nat.reduceAdd, Nat.reduceMul, Nat.reduceEqDiff, Nat.reduceLeDiff, Nat.reduceLT, Nat.reduceSub, Int.reduceEq, Int.reduceBEq, Int.reduceLT, Int.reduceLE, Int.reduceAdd, Int.reduceToNat, reduceIte, reduceCtorEq]
    | (refine hK _ ?_; clear hK; clear K')
    | refine And.intro ?_ ?_
    | (apply awC_A; (focus (simp only [go_sem, Nat.reduceAdd, Nat.reduceMul, Nat.reduceEqDiff, Nat.reduceLeDiff, Nat.reduceLT, Nat.reduceSub, Int.reduceEq, Int.reduceBEq, Int.reduceLT, Int.reduceLE, Int.reduceAdd, Int.reduceToNat, reduceIte, reduceCtorEq]; first | exact EvC.b h_cipherplanref02_Suites)); (focus (simp only [go_sem, Nat.reduceAdd, Nat.reduceMul, Nat.reduceEqDiff, Nat.reduceLeDiff, Nat.reduceLT, Nat.reduceSub, Int.reduceEq, Int.reduceBEq, Int.reduceLT, Int.reduceLE, Int.reduceAdd, Int.reduceToNat, reduceIte, reduceCtorEq])))
    | (simp only [List.length_append, List.length_cons, List.length_nil, List.length_map, Nat.reducePow, Nat.reduceAdd]; omega)
    | omega)
  refine awp_loopP (ι := Nat) (fun k => k ≤ 16 ∧ idxF (fun s : CSuite => s.name == n) k (suitesL.drop k) = idxF (fun s : CSuite => s.name == n) 0 suitesL) (fun k => [(4, V.int k)]) (fun k => 16 - k) 0 (by omega) ⟨by simp, by simp⟩ (by repeat' first | exact ltO_none | refine ltO_upd (by omega) (by simp only [Ob.lt, ltL, V.lt, and_self, and_true]; try omega) ?_) (fun i hi => by simp only [ovT, lookD, Nat.reduceEqDiff, reduceIte]; (repeat' first | exact ltT_nil | refine ltT_cons ?_ ?_ | simp only [V.lt, ltL, and_self, and_true] | omega)) (by simp only [Nat.reduceAdd, ovT, lookD, Nat.reduceEqDiff, reduceIte, eqT_cons, eqT_nil, renI, u32, u33, u34, u35, u36, u37, u38, u39, and_self, and_true, true_and]; rfl) fun k hk K' hL => ?_
  obtain ⟨hk, hinv⟩ := hk
  simp only [ovT, lookD, Nat.reduceEqDiff, reduceIte]
  rcases hd : suitesL.drop k with _ | ⟨y, r⟩
  · have := drop_nil hd
    rw [hd] at hinv
    have e1 : decide ((k : Int) < (((suitesL.map CSuite.v).length : Nat) : Int)) = false := by simp [hl]; omega
    repeat' (first
    | refine awp_seqR fun K' hK => ?_
    | refine awp_regR fun K' hK => ?_
    | refine awp_seqK ?_
    | refine awp_skip ?_
    | refine awp_block ?_
    | ((first | refine awp_cond ⟨_, rfl, fun hc => ?_, fun hc => ?_⟩ | refine awB_t (fun hc => ?_) (fun hc => ?_) | refine awB_f (fun hc => ?_) (fun hc => ?_)) <;> first | exact Bool.noConfusion hc | (exfalso; simp only [decide_eq_true_eq, decide_eq_false_iff_not, List.length_map, Bool.not_eq_true', Bool.not_eq_false'] at hc; omega) | (try simp only [decide_eq_true_eq, decide_eq_false_iff_not, beq_iff_eq, beq_eq_false_iff_ne, ne_eq, Bool.not_eq_true', Bool.not_eq_false'] at hc))
    | refine awp_ret ?_
    | refine awp_exit ?_
    | simp (maxSteps := 1000000) only [go_sem, Nat.reduceAdd, Nat.reduceMul, Nat.reduceEqDiff, Nat.reduceLeDiff, Nat.reduceLT, Nat.reduceSub, Int.reduceEq, Int.reduceBEq, Int.reduceLT, Int.reduceLE, Int.reduceAdd, Int.reduceToNat, reduceIte, reduceCtorEq, e1]
    | (refine hK _ ?_; clear hK; clear K')
    | refine And.intro ?_ ?_
    | (apply awC_A; (focus (simp only [go_sem, Nat.reduceAdd, Nat.reduceMul, Nat.reduceEqDiff, Nat.reduceLeDiff, Nat.reduceLT, Nat.reduceSub, Int.reduceEq, Int.reduceBEq, Int.reduceLT, Int.reduceLE, Int.reduceAdd, Int.reduceToNat, reduceIte, reduceCtorEq, e1]; first | exact EvC.b h_cipherplanref02_Suites)); (focus (simp only [go_sem, Nat.reduceAdd, Nat.reduceMul, Nat.reduceEqDiff, Nat.reduceLeDiff, Nat.reduceLT, Nat.reduceSub, Int.reduceEq, Int.reduceBEq, Int.reduceLT, Int.reduceLE, Int.reduceAdd, Int.reduceToNat, reduceIte, reduceCtorEq, e1])))
    | (simp only [List.length_append, List.length_cons, List.length_nil, List.length_map, Nat.reducePow, Nat.reduceAdd]; omega)
    | omega)
    all_goals (refine ends_r _ rfl ?_; simp only [go_sem, Nat.reduceAdd, Nat.reduceMul, Nat.reduceEqDiff, Nat.reduceLeDiff, Nat.reduceLT, Nat.reduceSub, Int.reduceEq, Int.reduceBEq, Int.reduceLT, Int.reduceLE, Int.reduceAdd, Int.reduceToNat, reduceIte, reduceCtorEq]; rw [codeN, ← hinv]; rfl)
  · obtain ⟨hk', hget, hr⟩ := drop_cons hd
    rw [hd] at hinv
    have hw := wrap_succ (k := k) (by omega)
    have e1 : decide ((k : Int) < (((suitesL.map CSuite.v).length : Nat) : Int)) = true := by simp [hl]; omega
    have hcode := codes_ok k (by omega) y hget
    repeat' (first
    | refine awp_seqR fun K' hK => ?_
    | refine awp_regR fun K' hK => ?_
    | refine awp_seqK ?_
    | refine awp_skip ?_
    | refine awp_block ?_
    | ((first | refine awp_cond ⟨_, rfl, fun hc => ?_, fun hc => ?_⟩ | refine awB_t (fun hc => ?_) (fun hc => ?_) | refine awB_f (fun hc => ?_) (fun hc => ?_)) <;> first | exact Bool.noConfusion hc | (exfalso; simp only [decide_eq_true_eq, decide_eq_false_iff_not, List.length_map, Bool.not_eq_true', Bool.not_eq_false'] at hc; omega) | (try simp only [decide_eq_true_eq, decide_eq_false_iff_not, beq_iff_eq, beq_eq_false_iff_ne, ne_eq, Bool.not_eq_true', Bool.not_eq_false'] at hc))
    | refine awp_ret ?_
    | refine awp_exit ?_
    | simp (maxSteps := 1000000) only [go_sem, Nat.reduceAdd, Nat.reduceMul, Nat.reduceEqDiff, Nat.reduceLeDiff, Nat.reduceLT, Nat.reduceSub, Int.reduceEq, Int.reduceBEq, Int.reduceLT, Int.reduceLE, Int.reduceAdd, Int.reduceToNat, reduceIte, reduceCtorEq, Int.toNat_natCast, List.getElem?_map, hget, hw, e1, CSuite.v, CSuite.cells]
    | (refine hK _ ?_; clear hK; clear K')
    | refine And.intro ?_ ?_
    | (apply awC_A; (focus (simp only [go_sem, Nat.reduceAdd, Nat.reduceMul, Nat.reduceEqDiff, Nat.reduceLeDiff, Nat.reduceLT, Nat.reduceSub, Int.reduceEq, Int.reduceBEq, Int.reduceLT, Int.reduceLE, Int.reduceAdd, Int.reduceToNat, reduceIte, reduceCtorEq, Int.toNat_natCast, List.getElem?_map, hget, hw, e1, CSuite.v, CSuite.cells]; first | exact EvC.b h_cipherplanref02_Suites)); (focus (simp only [go_sem, Nat.reduceAdd, Nat.reduceMul, Nat.reduceEqDiff, Nat.reduceLeDiff, Nat.reduceLT, Nat.reduceSub, Int.reduceEq, Int.reduceBEq, Int.reduceLT, Int.reduceLE, Int.reduceAdd, Int.reduceToNat, reduceIte, reduceCtorEq, Int.toNat_natCast, List.getElem?_map, hget, hw, e1, CSuite.v, CSuite.cells])))
    | (simp only [List.length_append, List.length_cons, List.length_nil, List.length_map, Nat.reducePow, Nat.reduceAdd]; omega)
    | omega)
    · refine ends_r _ rfl ?_; simp only [go_sem, Nat.reduceAdd, Nat.reduceMul, Nat.reduceEqDiff, Nat.reduceLeDiff, Nat.reduceLT, Nat.reduceSub, Int.reduceEq, Int.reduceBEq, Int.reduceLT, Int.reduceLE, Int.reduceAdd, Int.reduceToNat, reduceIte, reduceCtorEq]
      rw [codeN, ← hinv, hcode]; simp [idxF, *]
    · refine hL _ (k + 1) (by simp only [Nat.reduceAdd, ovT, lookD, Nat.reduceEqDiff, reduceIte, eqT_cons, eqT_nil, renI, u32, u33, u34, u35, u36, u37, u38, u39, and_self, and_true, true_and]) ⟨by omega, ?_⟩ (by omega) (fun a ha => by simp only [u32, u33, u34, u35, u36, u37, u38, u39]; repeat rw [if_neg (by omega)])
      rw [hr, ← hinv, idxF, if_neg (by simpa using hc)]

def hasL (n : Int) (l : List Int) : Bool := l.contains n

def c_cipherplanref02_Has : AC :=
  seqK [0, 1] (.reg [⟨(some 4), .mov (.c (V.bool false)), none⟩])
  (seqK [] (seqK [0, 1, 5] (.reg [⟨(some 5), .mov (.c (V.int 0)), none⟩])
    (.block 0 (loopK [0, 1, 5] (seqK [0, 1, 5] (seqK [0, 1, 5, 9] (.reg [⟨(some 6), .mov (.t 5), none⟩,
           ⟨(some 7), .mov (.t 0), none⟩,
           ⟨(some 8), .lenL (.t 7), none⟩,
           ⟨(some 9), .bin .lss (.t 6) (.t 8), none⟩])
        (.cond (.t 9)
          (.skip)
          (.exit 0)))
       (seqK [0, 1, 5] (.block 1 (seqK [0, 1, 5, 17] (.reg [⟨(some 12), .mov (.t 0), none⟩,
             ⟨(some 13), .mov (.t 5), none⟩,
             ⟨(some 14), .iaddr 1 (.t 12) (.t 13), none⟩,
             ⟨(some 15), .load false 1 (.t 14), none⟩,
             ⟨(some 16), .mov (.t 1), none⟩,
             ⟨(some 17), .bin .eql (.t 15) (.t 16), none⟩])
          (.cond (.t 17)
            (seqK [4] (.reg [⟨(some 4), .mov (.c (V.bool true)), none⟩])
             (.ret))
            (.skip))))
        (.reg [⟨(some 10), .mov (.t 5), none⟩,
           ⟨(some 11), .bin .add (.t 10) (.c (V.int 1)), none⟩,
           ⟨(some 5), .mov (.t 11), none⟩]))))))
   (seqK [4] (.reg [⟨(some 4), .mov (.c (V.bool false)), none⟩])
    (.ret)))

def r_cipherplanref02_Has : List ARes := [.tmp 4]
def CE_cipherplanref02_Has (Γ : Env) (f : Nat) : Prop := ∀ (l : List Int) (n : Int) (hl : l.length < 2 ^ 62), EvN Γ f [.sl 1 (l.map V.int), V.int n] (V.bool (l.contains n))
theorem ev_cipherplanref02_Has {Γ : Env} {f : Nat} (h : Has Γ.P f 18 c_cipherplanref02_Has r_cipherplanref02_Has)  : CE_cipherplanref02_Has Γ f := by
  intro l n hl
  refine evN_of_body h (by simp) (by simp only [V.closed, closedL, V.noSl, noSlL, and_self, and_true, true_and]) (by simp only [V.closed, closedL, V.noSl, noSlL, and_self, and_true, true_and]) fun C hC hm => ?_
  subst hC
  unfold c_cipherplanref02_Has
  repeat' (first
    | refine awp_seqR fun K' hK => ?_
    | refine awp_regR fun K' hK => ?_
    | refine awp_seqK ?_
    | refine awp_skip ?_
    | refine awp_block ?_
    | ((first | refine awp_cond ⟨_, rfl, fun hc => ?_, fun hc => ?_⟩ | refine awB_t (fun hc => ?_) (fun hc => ?_) | refine awB_f (fun hc => ?_) (fun hc => ?_)) <;> first | exact Bool.noConfusion hc | (exfalso; simp only [decide_eq_true_eq, decide_eq_false_iff_not, List.length_map, Bool.not_eq_true', Bool.not_eq_false'] at hc; omega) | (try simp only [decide_eq_true_eq, decide_eq_false_iff_not, beq_iff_eq, beq_eq_false_iff_ne, ne_eq, Bool.not_eq_true', Bool.not_eq_false'] at hc))
    | refine awp_ret ?_
    | refine awp_exit ?_
    | simp (maxSteps := 1000000) only [go_sem, Nat.reduceAdd, Nat.reduceMul, Nat.reduceEqDiff, Nat.reduceLeDiff, Nat.reduceLT, Nat.reduceSub, Int.reduceEq, Int.reduceBEq, Int.reduceLT, Int.reduceLE, Int.reduceAdd, Int.reduceToNat, reduceIte, reduceCtorEq]
    | (refine hK _ ?_; clear hK; clear K')
    | refine And.intro ?_ ?_
    | (simp only [List.length_append, List.length_cons, List.length_nil, List.length_map, Nat.reducePow, Nat.reduceAdd]; omega)
    | omega)
  refine awp_loopP (ι := Nat) (fun k => k ≤ l.length ∧ (l.drop k).contains n = l.contains n) (fun k => [(5, V.int k)]) (fun k => l.length - k) 0 (by omega) ⟨by simp, by simp⟩ (by repeat' first | exact ltO_none | refine ltO_upd (by omega) (by simp only [Ob.lt, ltL, V.lt, and_self, and_true]; try omega) ?_) (fun i hi => by simp only [ovT, lookD, Nat.reduceEqDiff, reduceIte]; (repeat' first | exact ltT_nil | refine ltT_cons ?_ ?_ | simp only [V.lt, ltL, and_self, and_true] | omega)) (by simp only [Nat.reduceAdd, ovT, lookD, Nat.reduceEqDiff, reduceIte, eqT_cons, eqT_nil, renI, u32, u33, u34, u35, u36, u37, u38, u39, and_self, and_true, true_and]; rfl) fun k hk K' hL => ?_
  obtain ⟨hk, hinv⟩ := hk
  simp only [ovT, lookD, Nat.reduceEqDiff, reduceIte]
  rcases hd : l.drop k with _ | ⟨y, r⟩
  · have := drop_nil hd
    rw [hd] at hinv
    repeat' (first
    | refine awp_seqR fun K' hK => ?_
    | refine awp_regR fun K' hK => ?_
    | refine awp_seqK ?_
    | refine awp_skip ?_
    | refine awp_block ?_
    | ((first | refine awp_cond ⟨_, rfl, fun hc => ?_, fun hc => ?_⟩ | refine awB_t (fun hc => ?_) (fun hc => ?_) | refine awB_f (fun hc => ?_) (fun hc => ?_)) <;> first | exact Bool.noConfusion hc | (exfalso; simp only [decide_eq_true_eq, decide_eq_false_iff_not, List.length_map, Bool.not_eq_true', Bool.not_eq_false'] at hc; omega) | (try simp only [decide_eq_true_eq, decide_eq_false_iff_not, beq_iff_eq, beq_eq_false_iff_ne, ne_eq, Bool.not_eq_true', Bool.not_eq_false'] at hc))
    | refine awp_ret ?_
    | refine awp_exit ?_
    | simp (maxSteps := 1000000) only [go_sem, Nat.reduceAdd, Nat.reduceMul, Nat.reduceEqDiff, Nat.reduceLeDiff, Nat.reduceLT, Nat.reduceSub, Int.reduceEq, Int.reduceBEq, Int.reduceLT, Int.reduceLE, Int.reduceAdd, Int.reduceToNat, reduceIte, reduceCtorEq]
    | (refine hK _ ?_; clear hK; clear K')
    | refine And.intro ?_ ?_
    | (simp only [List.length_append, List.length_cons, List.length_nil, List.length_map, Nat.reducePow, Nat.reduceAdd]; omega)
    | omega)
    all_goals (refine ends_r _ rfl ?_; simp only [go_sem, Nat.reduceAdd, Nat.reduceMul, Nat.reduceEqDiff, Nat.reduceLeDiff, Nat.reduceLT, Nat.reduceSub, Int.reduceEq, Int.reduceBEq, Int.reduceLT, Int.reduceLE, Int.reduceAdd, Int.reduceToNat, reduceIte, reduceCtorEq]; rw [← hinv]; rfl)
  · obtain ⟨hk', hget, hr⟩ := drop_cons hd
    rw [hd] at hinv
    have hw := wrap_succ (k := k) (by omega)
    repeat' (first
    | refine awp_seqR fun K' hK => ?_
    | refine awp_regR fun K' hK => ?_
    | refine awp_seqK ?_
    | refine awp_skip ?_
    | refine awp_block ?_
    | ((first | refine awp_cond ⟨_, rfl, fun hc => ?_, fun hc => ?_⟩ | refine awB_t (fun hc => ?_) (fun hc => ?_) | refine awB_f (fun hc => ?_) (fun hc => ?_)) <;> first | exact Bool.noConfusion hc | (exfalso; simp only [decide_eq_true_eq, decide_eq_false_iff_not, List.length_map, Bool.not_eq_true', Bool.not_eq_false'] at hc; omega) | (try simp only [decide_eq_true_eq, decide_eq_false_iff_not, beq_iff_eq, beq_eq_false_iff_ne, ne_eq, Bool.not_eq_true', Bool.not_eq_false'] at hc))
    | refine awp_ret ?_
    | refine awp_exit ?_
    | simp (maxSteps := 1000000) only [go_sem, Nat.reduceAdd, Nat.reduceMul, Nat.reduceEqDiff, Nat.reduceLeDiff, Nat.reduceLT, Nat.reduceSub, Int.reduceEq, Int.reduceBEq, Int.reduceLT, Int.reduceLE, Int.reduceAdd, Int.reduceToNat, reduceIte, reduceCtorEq, Int.toNat_natCast, List.getElem?_map, hget, hw]
    | (refine hK _ ?_; clear hK; clear K')
    | refine And.intro ?_ ?_
    | (simp only [List.length_append, List.length_cons, List.length_nil, List.length_map, Nat.reducePow, Nat.reduceAdd]; omega)
    | omega)
    · refine ends_r _ rfl ?_; simp only [go_sem, Nat.reduceAdd, Nat.reduceMul, Nat.reduceEqDiff, Nat.reduceLeDiff, Nat.reduceLT, Nat.reduceSub, Int.reduceEq, Int.reduceBEq, Int.reduceLT, Int.reduceLE, Int.reduceAdd, Int.reduceToNat, reduceIte, reduceCtorEq]
      rw [← hinv]; simp [hc]
    · refine hL _ (k + 1) (by simp only [Nat.reduceAdd, ovT, lookD, Nat.reduceEqDiff, reduceIte, eqT_cons, eqT_nil, renI, u32, u33, u34, u35, u36, u37, u38, u39, and_self, and_true, true_and]) ⟨by omega, ?_⟩ (by omega) (fun a ha => by simp only [u32, u33, u34, u35, u36, u37, u38, u39]; repeat rw [if_neg (by omega)])
      rw [hr, ← hinv, List.contains_cons]
      have : (n == y) = false := by simp; exact fun h => hc h.symm
      rw [this, Bool.false_or]

-- REGION cipherplanref02_SameInts 0: 9 operations, 1 orders, L [], X false, ok true
def o_cipherplanref02_SameInts_0 : List AO :=
  [⟨(some 17), .mov (.t 0), none⟩,
    ⟨(some 18), .mov (.t 5), none⟩,
    ⟨(some 19), .iaddr 1 (.t 17) (.t 18), none⟩,
    ⟨(some 20), .load false 1 (.t 19), none⟩,
    ⟨(some 21), .mov (.t 1), none⟩,
    ⟨(some 22), .mov (.t 5), none⟩,
    ⟨(some 23), .iaddr 1 (.t 21) (.t 22), none⟩,
    ⟨(some 24), .load false 1 (.t 23), none⟩,
    ⟨(some 25), .bin .neq (.t 20) (.t 24), none⟩]
def a_cipherplanref02_SameInts_0 : List (List Nat) := [[], [], [0, 1], [2], [], [], [4, 5], [6], [3, 7]]
def t_cipherplanref02_SameInts_0 : OT := .one 0 (.one 1 (.one 2 (.one 3 (.one 4 (.one 5 (.one 6 (.one 7 (.one 8 (.done)))))))))
def p_cipherplanref02_SameInts_0 : OP :=
  .one 0 false [] ⟨(some 17), .mov (.t 0), none⟩
  (.one 1 false [] ⟨(some 18), .mov (.t 5), none⟩
  (.one 2 false [] ⟨(some 19), .iaddr 1 (.t 17) (.t 18), none⟩
  (.one 3 false [] ⟨(some 20), .load false 1 (.t 19), none⟩
  (.one 4 false [] ⟨(some 21), .mov (.t 1), none⟩
  (.one 5 false [] ⟨(some 22), .mov (.t 5), none⟩
  (.one 6 false [] ⟨(some 23), .iaddr 1 (.t 21) (.t 22), none⟩
  (.one 7 false [] ⟨(some 24), .load false 1 (.t 23), none⟩
  (.one 8 false [] ⟨(some 25), .bin .neq (.t 20) (.t 24), none⟩
  (.done)))))))))
theorem k_cipherplanref02_SameInts_0 : okR (o_cipherplanref02_SameInts_0) a_cipherplanref02_SameInts_0 [] t_cipherplanref02_SameInts_0 = true := by kernel_rfl
theorem q_cipherplanref02_SameInts_0 : plan (ris (o_cipherplanref02_SameInts_0) a_cipherplanref02_SameInts_0 []) t_cipherplanref02_SameInts_0 = p_cipherplanref02_SameInts_0 := by kernel_rfl

def c_cipherplanref02_SameInts : AC :=
  seqK [0, 1] (.reg [⟨(some 4), .mov (.c (V.bool false)), none⟩])
  (seqK [0, 1] (seqK [0, 1, 10] (.reg [⟨(some 6), .mov (.t 0), none⟩,
       ⟨(some 7), .lenL (.t 6), none⟩,
       ⟨(some 8), .mov (.t 1), none⟩,
       ⟨(some 9), .lenL (.t 8), none⟩,
       ⟨(some 10), .bin .neq (.t 7) (.t 9), none⟩])
    (.cond (.t 10)
      (seqK [4] (.reg [⟨(some 4), .mov (.c (V.bool false)), none⟩])
       (.ret))
      (.skip)))
   (seqK [] (seqK [0, 1, 5] (.reg [⟨(some 5), .mov (.c (V.int 0)), none⟩])
     (.block 0 (loopK [0, 1, 5] (seqK [0, 1, 5] (seqK [0, 1, 5, 14] (.reg [⟨(some 11), .mov (.t 5), none⟩,
            ⟨(some 12), .mov (.t 0), none⟩,
            ⟨(some 13), .lenL (.t 12), none⟩,
            ⟨(some 14), .bin .lss (.t 11) (.t 13), none⟩])
         (.cond (.t 14)
           (.skip)
           (.exit 0)))
        (seqK [0, 1, 5] (.block 1 (seqK [0, 1, 5, 25] (regK [] t_cipherplanref02_SameInts_0 (p_cipherplanref02_SameInts_0) (o_cipherplanref02_SameInts_0) a_cipherplanref02_SameInts_0)
           (.cond (.t 25)
             (seqK [4] (.reg [⟨(some 4), .mov (.c (V.bool false)), none⟩])
              (.ret))
             (.skip))))
         (.reg [⟨(some 15), .mov (.t 5), none⟩,
            ⟨(some 16), .bin .add (.t 15) (.c (V.int 1)), none⟩,
            ⟨(some 5), .mov (.t 16), none⟩]))))))
    (seqK [4] (.reg [⟨(some 4), .mov (.c (V.bool true)), none⟩])
     (.ret))))

def r_cipherplanref02_SameInts : List ARes := [.tmp 4]
def CE_cipherplanref02_SameInts (Γ : Env) (f : Nat) : Prop := ∀ (a b : List Int) (hl : a.length < 2 ^ 62), EvN Γ f [.sl 1 (a.map V.int), .sl 1 (b.map V.int)] (V.bool (a == b))
theorem ev_cipherplanref02_SameInts {Γ : Env} {f : Nat} (h : Has Γ.P f 26 c_cipherplanref02_SameInts r_cipherplanref02_SameInts)  : CE_cipherplanref02_SameInts Γ f := by
  intro a b hl
  refine evN_of_body h (by simp) (by simp only [V.closed, closedL, V.noSl, noSlL, and_self, and_true, true_and]) (by simp only [V.closed, closedL, V.noSl, noSlL, and_self, and_true, true_and]) fun C hC hm => ?_
  subst hC
  unfold c_cipherplanref02_SameInts
  by_cases hlen : a.length = b.length
  · have e0 : ((((a.map V.int).length : Nat) : Int) != (((b.map V.int).length : Nat) : Int)) = false := by simp [hlen]
    repeat' (first
    | refine awp_seqR fun K' hK => ?_
    | refine awp_regR fun K' hK => ?_
    | refine awp_seqP 9 (fun _ => true) rfl (k_cipherplanref02_SameInts_0) (q_cipherplanref02_SameInts_0) fun K' hK => ?_
    | refine awp_regP 9 (fun _ => true) rfl (k_cipherplanref02_SameInts_0) (q_cipherplanref02_SameInts_0) fun K' hK => ?_
    | refine awp_seqK ?_
    | refine awp_skip ?_
    | refine awp_block ?_
    | ((first | refine awp_cond ⟨_, rfl, fun hc => ?_, fun hc => ?_⟩ | refine awB_t (fun hc => ?_) (fun hc => ?_) | refine awB_f (fun hc => ?_) (fun hc => ?_)) <;> first | exact Bool.noConfusion hc | (exfalso; simp only [decide_eq_true_eq, decide_eq_false_iff_not, List.length_map, Bool.not_eq_true', Bool.not_eq_false'] at hc; omega) | (try simp only [decide_eq_true_eq, decide_eq_false_iff_not, beq_iff_eq, beq_eq_false_iff_ne, ne_eq, Bool.not_eq_true', Bool.not_eq_false'] at hc))
    | refine awp_ret ?_
    | refine awp_exit ?_
    | simp (maxSteps := 1000000) only [go_sem, Nat.reduceAdd, Nat.reduceMul, Nat.reduceEqDiff, Nat.reduceLeDiff, Nat.reduceLT, Nat.reduceSub, Int.reduceEq, Int.reduceBEq, Int.reduceLT, Int.reduceLE, Int.reduceAdd, Int.reduceToNat, reduceIte, reduceCtorEq, e0, p_cipherplanref02_SameInts_0]
    | (refine hK _ ?_; clear hK; clear K')
    | refine And.intro ?_ ?_
    | (simp only [List.length_append, List.length_cons, List.length_nil, List.length_map, Nat.reducePow, Nat.reduceAdd]; omega)
    | omega)
    refine awp_loopP (ι := Nat) (fun k => k ≤ a.length ∧ (a.drop k == b.drop k) = (a == b)) (fun k => [(5, V.int k)]) (fun k => a.length - k) 0 (by omega) ⟨by simp, by simp⟩ (by repeat' first | exact ltO_none | refine ltO_upd (by omega) (by simp only [Ob.lt, ltL, V.lt, and_self, and_true]; try omega) ?_) (fun i hi => by simp only [ovT, lookD, Nat.reduceEqDiff, reduceIte]; (repeat' first | exact ltT_nil | refine ltT_cons ?_ ?_ | simp only [V.lt, ltL, and_self, and_true] | omega)) (by simp only [Nat.reduceAdd, ovT, lookD, Nat.reduceEqDiff, reduceIte, eqT_cons, eqT_nil, renI, u32, u33, u34, u35, u36, u37, u38, u39, and_self, and_true, true_and] <;> rfl) fun k hk K' hL => ?_
    obtain ⟨hk, hinv⟩ := hk
    simp only [ovT, lookD, Nat.reduceEqDiff, reduceIte]
    rcases hd : a.drop k with _ | ⟨y, r⟩
    · have := drop_nil hd
      have hd2 : b.drop k = [] := List.drop_eq_nil_of_le (by omega)
      rw [hd, hd2] at hinv
      repeat' (first
    | refine awp_seqR fun K' hK => ?_
    | refine awp_regR fun K' hK => ?_
    | refine awp_seqP 9 (fun _ => true) rfl (k_cipherplanref02_SameInts_0) (q_cipherplanref02_SameInts_0) fun K' hK => ?_
    | refine awp_regP 9 (fun _ => true) rfl (k_cipherplanref02_SameInts_0) (q_cipherplanref02_SameInts_0) fun K' hK => ?_
    | refine awp_seqK ?_
    | refine awp_skip ?_
    | refine awp_block ?_
    | ((first | refine awp_cond ⟨_, rfl, fun hc => ?_, fun hc => ?_⟩ | refine awB_t (fun hc => ?_) (fun hc => ?_) | refine awB_f (fun hc => ?_) (fun hc => ?_)) <;> first | exact Bool.noConfusion hc | (exfalso; simp only [decide_eq_true_eq, decide_eq_false_iff_not, List.length_map, Bool.not_eq_true', Bool.not_eq_false'] at hc; omega) | (try simp only [decide_eq_true_eq, decide_eq_false_iff_not, beq_iff_eq, beq_eq_false_iff_ne, ne_eq, Bool.not_eq_true', Bool.not_eq_false'] at hc))
    | refine awp_ret ?_
    | refine awp_exit ?_
    | simp (maxSteps := 1000000) only [go_sem, Nat.reduceAdd, Nat.reduceMul, Nat.reduceEqDiff, Nat.reduceLeDiff, Nat.reduceLT, Nat.reduceSub, Int.reduceEq, Int.reduceBEq, Int.reduceLT, Int.reduceLE, Int.reduceAdd, Int.reduceToNat, reduceIte, reduceCtorEq, p_cipherplanref02_SameInts_0]
    | (refine hK _ ?_; clear hK; clear K')
    | refine And.intro ?_ ?_
    | (simp only [List.length_append, List.length_cons, List.length_nil, List.length_map, Nat.reducePow, Nat.reduceAdd]; omega)
    | omega)
      all_goals (refine ends_r _ rfl ?_; simp only [go_sem, Nat.reduceAdd, Nat.reduceMul, Nat.reduceEqDiff, Nat.reduceLeDiff, Nat.reduceLT, Nat.reduceSub, Int.reduceEq, Int.reduceBEq, Int.reduceLT, Int.reduceLE, Int.reduceAdd, Int.reduceToNat, reduceIte, reduceCtorEq]; rw [← hinv]; rfl)
    · obtain ⟨hk', hget, hr⟩ := drop_cons hd
      rcases hd2 : b.drop k with _ | ⟨z, r2⟩
      · have := drop_nil hd2; omega
      · obtain ⟨hk2, hget2, hr2⟩ := drop_cons hd2
        rw [hd, hd2] at hinv
        have hw := wrap_succ (k := k) (by omega)
        by_cases hyz : y = z
        · have e2 : (y != z) = false := by simp [hyz]
          repeat' (first
    | refine awp_seqR fun K' hK => ?_
    | refine awp_regR fun K' hK => ?_
    | refine awp_seqP 9 (fun _ => true) rfl (k_cipherplanref02_SameInts_0) (q_cipherplanref02_SameInts_0) fun K' hK => ?_
    | refine awp_regP 9 (fun _ => true) rfl (k_cipherplanref02_SameInts_0) (q_cipherplanref02_SameInts_0) fun K' hK => ?_
    | refine awp_seqK ?_
    | refine awp_skip ?_
    | refine awp_block ?_
    | ((first | refine awp_cond ⟨_, rfl, fun hc => ?_, fun hc => ?_⟩ | refine awB_t (fun hc => ?_) (fun hc => ?_) | refine awB_f (fun hc => ?_) (fun hc => ?_)) <;> first | exact Bool.noConfusion hc | (exfalso; simp only [decide_eq_true_eq, decide_eq_false_iff_not, List.length_map, Bool.not_eq_true', Bool.not_eq_false'] at hc; omega) | (try simp only [decide_eq_true_eq, decide_eq_false_iff_not, beq_iff_eq, beq_eq_false_iff_ne, ne_eq, Bool.not_eq_true', Bool.not_eq_false'] at hc))
    | refine awp_ret ?_
    | refine awp_exit ?_
    | simp (maxSteps := 1000000) only [go_sem, Nat.reduceAdd, Nat.reduceMul, Nat.reduceEqDiff, Nat.reduceLeDiff, Nat.reduceLT, Nat.reduceSub, Int.reduceEq, Int.reduceBEq, Int.reduceLT, Int.reduceLE, Int.reduceAdd, Int.reduceToNat, reduceIte, reduceCtorEq, Int.toNat_natCast, List.getElem?_map, hget, hget2, hw, e2, p_cipherplanref02_SameInts_0]
    | (refine hK _ ?_; clear hK; clear K')
    | refine And.intro ?_ ?_
    | (simp only [List.length_append, List.length_cons, List.length_nil, List.length_map, Nat.reducePow, Nat.reduceAdd]; omega)
    | omega)
          refine hL _ (k + 1) (by simp only [Nat.reduceAdd, ovT, lookD, Nat.reduceEqDiff, reduceIte, eqT_cons, eqT_nil, renI, u32, u33, u34, u35, u36, u37, u38, u39, and_self, and_true, true_and]) ⟨by omega, ?_⟩ (by omega) (fun a ha => by simp only [u32, u33, u34, u35, u36, u37, u38, u39]; repeat rw [if_neg (by omega)])
          rw [hr, hr2, ← hinv]; simp [hyz]
        · have e2 : (y != z) = true := by simp [hyz]
          repeat' (first
    | refine awp_seqR fun K' hK => ?_
    | refine awp_regR fun K' hK => ?_
    | refine awp_seqP 9 (fun _ => true) rfl (k_cipherplanref02_SameInts_0) (q_cipherplanref02_SameInts_0) fun K' hK => ?_
    | refine awp_regP 9 (fun _ => true) rfl (k_cipherplanref02_SameInts_0) (q_cipherplanref02_SameInts_0) fun K' hK => ?_
    | refine awp_seqK ?_
    | refine awp_skip ?_
    | refine awp_block ?_
    | ((first | refine awp_cond ⟨_, rfl, fun hc => ?_, fun hc => ?_⟩ | refine awB_t (fun hc => ?_) (fun hc => ?_) | refine awB_f (fun hc => ?_) (fun hc => ?_)) <;> first | exact Bool.noConfusion hc | (exfalso; simp only [decide_eq_true_eq, decide_eq_false_iff_not, List.length_map, Bool.not_eq_true', Bool.not_eq_false'] at hc; omega) | (try simp only [decide_eq_true_eq, decide_eq_false_iff_not, beq_iff_eq, beq_eq_false_iff_ne, ne_eq, Bool.not_eq_true', Bool.not_eq_false'] at hc))
    | refine awp_ret ?_
    | refine awp_exit ?_
    | simp (maxSteps := 1000000) only [go_sem, Nat.reduceAdd, Nat.reduceMul, Nat.reduceEqDiff, Nat.reduceLeDiff, Nat.reduceLT, Nat.reduceSub, Int.reduceEq, Int.reduceBEq, Int.reduceLT, Int.reduceLE, Int.reduceAdd, Int.reduceToNat, reduceIte, reduceCtorEq, Int.toNat_natCast, List.getElem?_map, hget, hget2, hw, e2, p_cipherplanref02_SameInts_0]
    | (refine hK _ ?_; clear hK; clear K')
    | refine And.intro ?_ ?_
    | (simp only [List.length_append, List.length_cons, List.length_nil, List.length_map, Nat.reducePow, Nat.reduceAdd]; omega)
    | omega)
          all_goals (refine ends_r _ rfl ?_; simp only [go_sem, Nat.reduceAdd, Nat.reduceMul, Nat.reduceEqDiff, Nat.reduceLeDiff, Nat.reduceLT, Nat.reduceSub, Int.reduceEq, Int.reduceBEq, Int.reduceLT, Int.reduceLE, Int.reduceAdd, Int.reduceToNat, reduceIte, reduceCtorEq]; rw [← hinv]; simp [hyz])
  · have e0 : ((((a.map V.int).length : Nat) : Int) != (((b.map V.int).length : Nat) : Int)) = true := by simp; omega
    have e1 : (a == b) = false := by
      simp only [beq_eq_false_iff_ne, ne_eq]
      intro h; exact hlen (by rw [h])
    repeat' (first
    | refine awp_seqR fun K' hK => ?_
    | refine awp_regR fun K' hK => ?_
    | refine awp_seqP 9 (fun _ => true) rfl (k_cipherplanref02_SameInts_0) (q_cipherplanref02_SameInts_0) fun K' hK => ?_
    | refine awp_regP 9 (fun _ => true) rfl (k_cipherplanref02_SameInts_0) (q_cipherplanref02_SameInts_0) fun K' hK => ?_
    | refine awp_seqK ?_
    | refine awp_skip ?_
    | refine awp_block ?_
    | ((first | refine awp_cond ⟨_, rfl, fun hc => ?_, fun hc => ?_⟩ | refine awB_t (fun hc => ?_) (fun hc => ?_) | refine awB_f (fun hc => ?_) (fun hc => ?_)) <;> first | exact Bool.noConfusion hc | (exfalso; simp only [decide_eq_true_eq, decide_eq_false_iff_not, List.length_map, Bool.not_eq_true', Bool.not_eq_false'] at hc; omega) | (try simp only [decide_eq_true_eq, decide_eq_false_iff_not, beq_iff_eq, beq_eq_false_iff_ne, ne_eq, Bool.not_eq_true', Bool.not_eq_false'] at hc))
    | refine awp_ret ?_
    | refine awp_exit ?_
    | simp (maxSteps := 1000000) only [go_sem, Nat.reduceAdd, Nat.reduceMul, Nat.reduceEqDiff, Nat.reduceLeDiff, Nat.reduceLT, Nat.reduceSub, Int.reduceEq, Int.reduceBEq, Int.reduceLT, Int.reduceLE, Int.reduceAdd, Int.reduceToNat, reduceIte, reduceCtorEq, e0, p_cipherplanref02_SameInts_0]
    | (refine hK _ ?_; clear hK; clear K')
    | refine And.intro ?_ ?_
    | (simp only [List.length_append, List.length_cons, List.length_nil, List.length_map, Nat.reducePow, Nat.reduceAdd]; omega)
    | omega)
    all_goals (refine ends_r _ rfl ?_; simp only [go_sem, Nat.reduceAdd, Nat.reduceMul, Nat.reduceEqDiff, Nat.reduceLeDiff, Nat.reduceLT, Nat.reduceSub, Int.reduceEq, Int.reduceBEq, Int.reduceLT, Int.reduceLE, Int.reduceAdd, Int.reduceToNat, reduceIte, reduceCtorEq]; rw [e1])
end Av
end

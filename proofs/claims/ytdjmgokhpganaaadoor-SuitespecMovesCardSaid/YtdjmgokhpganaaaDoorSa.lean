/- Sa -/
import Derived.Test.YtdjmgokhpganaaaDoorTab
import Derived.Test.YtdjmgokhpganaaaDoorAvM
set_option linter.unusedVariables false
set_option linter.unusedSimpArgs false
section
set_option linter.unusedSimpArgs false
set_option linter.unusedVariables false
set_option maxRecDepth 10000
set_option maxHeartbeats 4000000
namespace Av
open Go
attribute [local irreducible] AWp runO runP runG awS awC awCv awQ awRd awCallR awCvR awQR awR awRdR awB okR plan ris
def sufS (c : Int) : Int := if 1 ≤ c ∧ c ≤ 16 then strengthS (suiteAt c).ci1 (suiteAt c).ci2 else 0
def c_suitespec_Strength (f_catalog_Suite f_catalog_Strength : Nat) : AC := seqK [0] (.reg [mc 2 (V.int 0)]) (seqK [3, 4] (.reg [mv 6 0, cl 7 f_catalog_Suite [6], mv 5 7, ex 8 5 0, ex 9 5 1, xo 3 (.alloc [.val (.int .i64 0), .val (.string ⟨#[]⟩), .val (.int .i64 0), .val (.int .i64 0), .val (.int .i64 0), .val (.int .i64 0), .val (.int .i64 0), .val (.int .i64 0), .val (.int .i64 0), .val (.int .i64 0), .val (.int .i64 0), .val (.int .i64 0)]), xs 12 3 8, mv 4 9]) (seqK [3] (seqK [3, 11] (.reg [mv 10 4, bc 11 .neq 10 (V.int 0)]) (.cond (.t 11) (seqK [2] (.reg [mc 2 (V.int 0)]) (.ret)) (.skip))) (seqK [2] (.reg [fa 12 6 3, xo 13 (.load true 2 (.t 12)), cl 14 f_catalog_Strength [13], mv 2 14]) (.ret)))) def r_suitespec_Strength : List ARes := [.tmp 2]
def CE_suitespec_Strength (Γ : Env) (f : Nat) : Prop := ∀ (c : Int), EvN Γ f [V.int c] (V.int (sufS c))
theorem ev_suitespec_Strength {Γ : Env} {f f_catalog_Suite f_catalog_Strength : Nat} (h : Has Γ.P f 15 (c_suitespec_Strength f_catalog_Suite f_catalog_Strength) r_suitespec_Strength) (h_catalog_Suite : CE_catalog_Suite Γ f_catalog_Suite) (h_catalog_Strength : CE_catalog_Strength Γ f_catalog_Strength) : CE_suitespec_Strength Γ f := by
  intro c
  refine evN_of_body h (by simp) (by simp only [V.closed, closedL, V.noSl, noSlL, and_self, and_true, true_and]) (by simp only [V.closed, closedL, V.noSl, noSlL, and_self, and_true, true_and]) fun C hC hm => ?_
  subst hC
  unfold c_suitespec_Strength
  by_cases h : 1 ≤ c ∧ c ≤ 16
  · have e : suiteV c = .tup [(suiteAt c).v, V.int 0] := by rw [suiteV, if_pos h]
    have hs : sufS c = strengthS (suiteAt c).ci1 (suiteAt c).ci2 := by rw [sufS, if_pos h]
    rw [hs]
    repeat' (first | refine awp_seqR fun K' hK => ?_ | refine awp_regR fun K' hK => ?_ | refine awp_seqK ?_ | refine awp_skip ?_ | refine awp_block ?_ | ((first | refine awp_cond ⟨_, rfl, fun hc => ?_, fun hc => ?_⟩ | refine awB_t (fun hc => ?_) (fun hc => ?_) | refine awB_f (fun hc => ?_) (fun hc => ?_)) <;> first | exact Bool.noConfusion hc | ((try simp only [decide_eq_true_eq, decide_eq_false_iff_not, beq_iff_eq, beq_eq_false_iff_ne, ne_eq, Bool.not_eq_true', Bool.not_eq_false'] at hc); first | (exfalso; simp only [List.length_map] at hc; omega) | (exfalso; omega) | skip)) | refine awp_ret ?_ | refine awp_exit ?_ | simp (maxSteps := 1000000) only [go_sem, Nat.reduceAdd, Nat.reduceMul, Nat.reduceEqDiff, Nat.reduceLeDiff, Nat.reduceLT, Nat.reduceSub, Int.reduceEq, Int.reduceBEq, Int.reduceLT, Int.reduceLE, Int.reduceAdd, Int.reduceToNat, reduceIte, reduceCtorEq, e, CSuite.v, CSuite.cells] | (refine hK _ ?_; clear hK; clear K') | refine And.intro ?_ ?_ | (apply awCs_A; (focus (first | exact (h_catalog_Suite _).b | exact (h_catalog_Strength _ _).b))) | (simp only [List.length_append, List.length_cons, List.length_nil, List.length_map, Nat.reducePow, Nat.reduceAdd]; omega) | omega | exact List.mem_singleton_self _)
    all_goals (refine ends_r _ rfl ?_; simp only [go_sem, Nat.reduceEqDiff, Nat.reduceAdd, reduceIte, reduceCtorEq])
  · have e : suiteV c = .tup [(suiteAt c).v, V.int 8] := by rw [suiteV, if_neg h]
    have hs : sufS c = 0 := by rw [sufS, if_neg h]
    rw [hs]
    repeat' (first | refine awp_seqR fun K' hK => ?_ | refine awp_regR fun K' hK => ?_ | refine awp_seqK ?_ | refine awp_skip ?_ | refine awp_block ?_ | ((first | refine awp_cond ⟨_, rfl, fun hc => ?_, fun hc => ?_⟩ | refine awB_t (fun hc => ?_) (fun hc => ?_) | refine awB_f (fun hc => ?_) (fun hc => ?_)) <;> first | exact Bool.noConfusion hc | ((try simp only [decide_eq_true_eq, decide_eq_false_iff_not, beq_iff_eq, beq_eq_false_iff_ne, ne_eq, Bool.not_eq_true', Bool.not_eq_false'] at hc); first | (exfalso; simp only [List.length_map] at hc; omega) | (exfalso; omega) | skip)) | refine awp_ret ?_ | refine awp_exit ?_ | simp (maxSteps := 1000000) only [go_sem, Nat.reduceAdd, Nat.reduceMul, Nat.reduceEqDiff, Nat.reduceLeDiff, Nat.reduceLT, Nat.reduceSub, Int.reduceEq, Int.reduceBEq, Int.reduceLT, Int.reduceLE, Int.reduceAdd, Int.reduceToNat, reduceIte, reduceCtorEq, e, CSuite.v, CSuite.cells] | (refine hK _ ?_; clear hK; clear K') | refine And.intro ?_ ?_ | (apply awCs_A; (focus (first | exact (h_catalog_Suite _).b | exact (h_catalog_Strength _ _).b))) | (simp only [List.length_append, List.length_cons, List.length_nil, List.length_map, Nat.reducePow, Nat.reduceAdd]; omega) | omega | exact List.mem_singleton_self _)
    all_goals (refine ends_r _ rfl ?_; simp only [go_sem, Nat.reduceEqDiff, Nat.reduceAdd, reduceIte, reduceCtorEq])
def c_ref08_Strength (f_ref02_Suite f_ref02_Strength : Nat) : AC := seqK [0] (.reg [mc 2 (V.int 0)]) (seqK [3, 4] (.reg [mv 6 0, cl 7 f_ref02_Suite [6], mv 5 7, ex 8 5 0, ex 9 5 1, xo 3 (.alloc [.val (.int .i64 0), .val (.string ⟨#[]⟩), .val (.int .i64 0), .val (.int .i64 0), .val (.int .i64 0), .val (.int .i64 0), .val (.int .i64 0), .val (.int .i64 0), .val (.int .i64 0), .val (.int .i64 0), .val (.int .i64 0), .val (.int .i64 0)]), xs 12 3 8, mv 4 9]) (seqK [3] (seqK [3, 11] (.reg [mv 10 4, bc 11 .neq 10 (V.int 0)]) (.cond (.t 11) (seqK [2] (.reg [mc 2 (V.int 0)]) (.ret)) (.skip))) (seqK [2] (.reg [fa 12 6 3, xo 13 (.load true 2 (.t 12)), cl 14 f_ref02_Strength [13], mv 2 14]) (.ret)))) def r_ref08_Strength : List ARes := [.tmp 2]
def CE_ref08_Strength (Γ : Env) (f : Nat) : Prop := ∀ (c : Int), EvN Γ f [V.int c] (V.int (sufS c))
theorem ev_ref08_Strength {Γ : Env} {f f_ref02_Suite f_ref02_Strength : Nat} (h : Has Γ.P f 15 (c_ref08_Strength f_ref02_Suite f_ref02_Strength) r_ref08_Strength) (h_ref02_Suite : CE_ref02_Suite Γ f_ref02_Suite) (h_ref02_Strength : CE_ref02_Strength Γ f_ref02_Strength) : CE_ref08_Strength Γ f := by
  intro c
  refine evN_of_body h (by simp) (by simp only [V.closed, closedL, V.noSl, noSlL, and_self, and_true, true_and]) (by simp only [V.closed, closedL, V.noSl, noSlL, and_self, and_true, true_and]) fun C hC hm => ?_
  subst hC
  unfold c_ref08_Strength
  by_cases h : 1 ≤ c ∧ c ≤ 16
  · have e : suiteV c = .tup [(suiteAt c).v, V.int 0] := by rw [suiteV, if_pos h]
    have hs : sufS c = strengthS (suiteAt c).ci1 (suiteAt c).ci2 := by rw [sufS, if_pos h]
    rw [hs]
    repeat' (first | refine awp_seqR fun K' hK => ?_ | refine awp_regR fun K' hK => ?_ | refine awp_seqK ?_ | refine awp_skip ?_ | refine awp_block ?_ | ((first | refine awp_cond ⟨_, rfl, fun hc => ?_, fun hc => ?_⟩ | refine awB_t (fun hc => ?_) (fun hc => ?_) | refine awB_f (fun hc => ?_) (fun hc => ?_)) <;> first | exact Bool.noConfusion hc | ((try simp only [decide_eq_true_eq, decide_eq_false_iff_not, beq_iff_eq, beq_eq_false_iff_ne, ne_eq, Bool.not_eq_true', Bool.not_eq_false'] at hc); first | (exfalso; simp only [List.length_map] at hc; omega) | (exfalso; omega) | skip)) | refine awp_ret ?_ | refine awp_exit ?_ | simp (maxSteps := 1000000) only [go_sem, Nat.reduceAdd, Nat.reduceMul, Nat.reduceEqDiff, Nat.reduceLeDiff, Nat.reduceLT, Nat.reduceSub, Int.reduceEq, Int.reduceBEq, Int.reduceLT, Int.reduceLE, Int.reduceAdd, Int.reduceToNat, reduceIte, reduceCtorEq, e, CSuite.v, CSuite.cells] | (refine hK _ ?_; clear hK; clear K') | refine And.intro ?_ ?_ | (apply awCs_A; (focus (first | exact (h_ref02_Suite _).b | exact (h_ref02_Strength _ _).b))) | (simp only [List.length_append, List.length_cons, List.length_nil, List.length_map, Nat.reducePow, Nat.reduceAdd]; omega) | omega | exact List.mem_singleton_self _)
    all_goals (refine ends_r _ rfl ?_; simp only [go_sem, Nat.reduceEqDiff, Nat.reduceAdd, reduceIte, reduceCtorEq])
  · have e : suiteV c = .tup [(suiteAt c).v, V.int 8] := by rw [suiteV, if_neg h]
    have hs : sufS c = 0 := by rw [sufS, if_neg h]
    rw [hs]
    repeat' (first | refine awp_seqR fun K' hK => ?_ | refine awp_regR fun K' hK => ?_ | refine awp_seqK ?_ | refine awp_skip ?_ | refine awp_block ?_ | ((first | refine awp_cond ⟨_, rfl, fun hc => ?_, fun hc => ?_⟩ | refine awB_t (fun hc => ?_) (fun hc => ?_) | refine awB_f (fun hc => ?_) (fun hc => ?_)) <;> first | exact Bool.noConfusion hc | ((try simp only [decide_eq_true_eq, decide_eq_false_iff_not, beq_iff_eq, beq_eq_false_iff_ne, ne_eq, Bool.not_eq_true', Bool.not_eq_false'] at hc); first | (exfalso; simp only [List.length_map] at hc; omega) | (exfalso; omega) | skip)) | refine awp_ret ?_ | refine awp_exit ?_ | simp (maxSteps := 1000000) only [go_sem, Nat.reduceAdd, Nat.reduceMul, Nat.reduceEqDiff, Nat.reduceLeDiff, Nat.reduceLT, Nat.reduceSub, Int.reduceEq, Int.reduceBEq, Int.reduceLT, Int.reduceLE, Int.reduceAdd, Int.reduceToNat, reduceIte, reduceCtorEq, e, CSuite.v, CSuite.cells] | (refine hK _ ?_; clear hK; clear K') | refine And.intro ?_ ?_ | (apply awCs_A; (focus (first | exact (h_ref02_Suite _).b | exact (h_ref02_Strength _ _).b))) | (simp only [List.length_append, List.length_cons, List.length_nil, List.length_map, Nat.reducePow, Nat.reduceAdd]; omega) | omega | exact List.mem_singleton_self _)
    all_goals (refine ends_r _ rfl ?_; simp only [go_sem, Nat.reduceEqDiff, Nat.reduceAdd, reduceIte, reduceCtorEq])
def groupsS : List (List UInt8) := [[97, 108, 108], [104, 105, 103, 104], [109, 101, 100, 105, 117, 109], [108, 111, 119], [118, 49], [118, 50], [118, 51], [118, 52]]
def knownS (n : List UInt8) : Bool := groupsS.contains n || decide (findR n 0 rowsL > 0) || decide (codeN n > 0)
def c_ref08_known (f_ref02_Find f_ref02_Code : Nat) : AC := seqK [0] (.reg [mc 2 (V.bool false)]) (seqK [0] (seqK [0, 3] (.reg [mv 3 0]) (.block 0 (seqK [0, 4] (seqK [0, 3, 4] (.reg [bc 5 .eql 3 (V.str [97, 108, 108]), mv 4 5]) (.cond (.t 4) (.skip) (seqK [0, 3, 4] (.reg [bc 6 .eql 3 (V.str [104, 105, 103, 104]), mv 4 6]) (.cond (.t 4) (.skip) (seqK [0, 3, 4] (.reg [bc 7 .eql 3 (V.str [109, 101, 100, 105, 117, 109]), mv 4 7]) (.cond (.t 4) (.skip) (seqK [0, 3, 4] (.reg [bc 8 .eql 3 (V.str [108, 111, 119]), mv 4 8]) (.cond (.t 4) (.skip) (seqK [0, 3, 4] (.reg [bc 9 .eql 3 (V.str [118, 49]), mv 4 9]) (.cond (.t 4) (.skip) (seqK [0, 3, 4] (.reg [bc 10 .eql 3 (V.str [118, 50]), mv 4 10]) (.cond (.t 4) (.skip) (seqK [0, 3, 4] (.reg [bc 11 .eql 3 (V.str [118, 51]), mv 4 11]) (.cond (.t 4) (.skip) (.reg [bc 12 .eql 3 (V.str [118, 52]), mv 4 12]))))))))))))))) (.cond (.t 4) (seqK [2] (.reg [mc 2 (V.bool true)]) (.ret)) (.skip))))) (seqK [2] (.reg [mv 13 0, cl 14 f_ref02_Find [13], bc 15 .gtr 14 (V.int 0), mv 16 15, mg 17 0 16 false, xg 18 (.call f_ref02_Code [(.t 17)]) 16 false, xg 19 (.bin .gtr (.t 18) (.c (V.int 0))) 16 false, xo 20 (.pick (.t 16) (.c (V.bool true)) (.t 19)), mv 2 20]) (.ret))) def r_ref08_known : List ARes := [.tmp 2]
def CE_ref08_known (Γ : Env) (f : Nat) : Prop := ∀ (n : List UInt8), EvN Γ f [V.str n] (V.bool (knownS n))
theorem ev_ref08_known {Γ : Env} {f f_ref02_Find f_ref02_Code : Nat} (h : Has Γ.P f 21 (c_ref08_known f_ref02_Find f_ref02_Code) r_ref08_known) (h_ref02_Find : CE_ref02_Find Γ f_ref02_Find) (h_ref02_Code : CE_ref02_Code Γ f_ref02_Code) : CE_ref08_known Γ f := by
  intro n
  refine evN_of_body h (by simp) (by simp only [V.closed, closedL, V.noSl, noSlL, and_self, and_true, true_and]) (by simp only [V.closed, closedL, V.noSl, noSlL, and_self, and_true, true_and]) fun C hC hm => ?_
  subst hC
  unfold c_ref08_known
  by_cases hg : n ∈ groupsS
  · have e : knownS n = true := by simp [knownS, hg]
    rw [e]
    simp only [groupsS, List.mem_cons, List.not_mem_nil, or_false] at hg
    rcases hg with rfl | rfl | rfl | rfl | rfl | rfl | rfl | rfl
    all_goals
      repeat' (first | refine awp_seqR fun K' hK => ?_ | refine awp_regR fun K' hK => ?_ | refine awp_seqK ?_ | refine awp_skip ?_ | refine awp_block ?_ | ((first | refine awp_cond ⟨_, rfl, fun hc => ?_, fun hc => ?_⟩ | refine awB_t (fun hc => ?_) (fun hc => ?_) | refine awB_f (fun hc => ?_) (fun hc => ?_)) <;> first | exact Bool.noConfusion hc | ((try simp only [decide_eq_true_eq, decide_eq_false_iff_not, beq_iff_eq, beq_eq_false_iff_ne, ne_eq, Bool.not_eq_true', Bool.not_eq_false'] at hc); first | (exfalso; simp only [List.length_map] at hc; omega) | (exfalso; omega) | skip)) | refine awp_ret ?_ | refine awp_exit ?_ | simp (maxSteps := 1000000) only [go_sem, Nat.reduceAdd, Nat.reduceMul, Nat.reduceEqDiff, Nat.reduceLeDiff, Nat.reduceLT, Nat.reduceSub, Int.reduceEq, Int.reduceBEq, Int.reduceLT, Int.reduceLE, Int.reduceAdd, Int.reduceToNat, reduceIte, reduceCtorEq] | (refine hK _ ?_; clear hK; clear K') | refine And.intro ?_ ?_ | (apply awCs_A; (focus (first | exact (h_ref02_Find _).b | exact (h_ref02_Code _).b))) | (simp only [List.length_append, List.length_cons, List.length_nil, List.length_map, Nat.reducePow, Nat.reduceAdd]; omega) | omega | exact List.mem_singleton_self _)
      all_goals (refine ends_r _ rfl ?_; simp only [go_sem, Nat.reduceEqDiff, Nat.reduceAdd, reduceIte, reduceCtorEq])
  · have e0 : groupsS.contains n = false := by simpa using hg
    have e : knownS n = (decide (findR n 0 rowsL > 0) || decide (codeN n > 0)) := by simp only [knownS, e0, Bool.false_or]
    rw [e]
    simp only [groupsS, List.mem_cons, List.not_mem_nil, or_false, not_or] at hg
    obtain ⟨h1, h2, h3, h4, h5, h6, h7, h8⟩ := hg
    have g1 := beq_eq_false_iff_ne.2 h1
    have g2 := beq_eq_false_iff_ne.2 h2
    have g3 := beq_eq_false_iff_ne.2 h3
    have g4 := beq_eq_false_iff_ne.2 h4
    have g5 := beq_eq_false_iff_ne.2 h5
    have g6 := beq_eq_false_iff_ne.2 h6
    have g7 := beq_eq_false_iff_ne.2 h7
    have g8 := beq_eq_false_iff_ne.2 h8
    rcases hf : decide (findR n 0 rowsL > 0) with _ | _
    all_goals
      repeat' (first | refine awp_seqR fun K' hK => ?_ | refine awp_regR fun K' hK => ?_ | refine awp_seqK ?_ | refine awp_skip ?_ | refine awp_block ?_ | ((first | refine awp_cond ⟨_, rfl, fun hc => ?_, fun hc => ?_⟩ | refine awB_t (fun hc => ?_) (fun hc => ?_) | refine awB_f (fun hc => ?_) (fun hc => ?_)) <;> first | exact Bool.noConfusion hc | ((try simp only [decide_eq_true_eq, decide_eq_false_iff_not, beq_iff_eq, beq_eq_false_iff_ne, ne_eq, Bool.not_eq_true', Bool.not_eq_false'] at hc); first | (exfalso; simp only [List.length_map] at hc; omega) | (exfalso; omega) | skip)) | refine awp_ret ?_ | refine awp_exit ?_ | simp (maxSteps := 1000000) only [go_sem, Nat.reduceAdd, Nat.reduceMul, Nat.reduceEqDiff, Nat.reduceLeDiff, Nat.reduceLT, Nat.reduceSub, Int.reduceEq, Int.reduceBEq, Int.reduceLT, Int.reduceLE, Int.reduceAdd, Int.reduceToNat, reduceIte, reduceCtorEq, hf, g1, g2, g3, g4, g5, g6, g7, g8] | (refine hK _ ?_; clear hK; clear K') | refine And.intro ?_ ?_ | (apply awCs_A; (focus (first | exact (h_ref02_Find _).b | exact (h_ref02_Code _).b))) | (simp only [List.length_append, List.length_cons, List.length_nil, List.length_map, Nat.reducePow, Nat.reduceAdd]; omega) | omega | exact List.mem_singleton_self _)
      all_goals first | (refine ends_r _ rfl ?_; simp only [go_sem, Nat.reduceEqDiff, Nat.reduceAdd, reduceIte, reduceCtorEq]; done) | (refine ends_r _ rfl ?_; simp only [go_sem, Nat.reduceEqDiff, Nat.reduceAdd, reduceIte, reduceCtorEq]; simp; done) | trace_state
def groupS (n : List UInt8) (st lo up : Int) : Option Bool :=
  if n = [97, 108, 108] then some true else if n = [104, 105, 103, 104] then some (decide (st ≥ 128)) else if n = [109, 101, 100, 105, 117, 109] then some (decide (st ≥ 112) && decide (st < 128))
  else if n = [108, 111, 119] then some (decide (st < 112)) else if n = [118, 49] then some (decide (lo ≤ 1) && decide (1 ≤ up)) else if n = [118, 50] then some (decide (lo ≤ 2) && decide (2 ≤ up))
  else if n = [118, 51] then some (decide (lo ≤ 3) && decide (3 ≤ up)) else if n = [118, 52] then some (decide (lo ≤ 4) && decide (4 ≤ up)) else none
def optV : Option Bool → V
  | some b => .tup [V.bool b, V.bool true]
  | none => .tup [V.bool false, V.bool false]
theorem optV_closed (x : Option Bool) : (optV x).closed := by cases x <;> simp only [optV, V.closed, closedL, and_self]
theorem optV_noSl (x : Option Bool) : (optV x).noSl := by cases x <;> simp only [optV, V.noSl, noSlL, and_self]
theorem groupS_out {n : List UInt8} (st lo up : Int) (h : n ∉ groupsS) : groupS n st lo up = none := by
  simp only [groupsS, List.mem_cons, List.not_mem_nil, or_false, not_or] at h
  obtain ⟨h1, h2, h3, h4, h5, h6, h7, h8⟩ := h
  rw [groupS, if_neg h1, if_neg h2, if_neg h3, if_neg h4, if_neg h5, if_neg h6, if_neg h7, if_neg h8]
def c_suitespec_group (f_catalog_Strength : Nat) : AC := seqK [1, 2] (.reg [xo 2 (.box true 12 (.t 0)), mc 4 (V.bool false), mc 5 (V.bool false)]) (seqK [1, 2, 6] (.reg [fa 8 6 2, xo 9 (.load true 2 (.t 8)), cl 10 f_catalog_Strength [9], mv 6 10]) (seqK [] (seqK [1, 2, 6, 11] (.reg [mv 11 1]) (.block 0 (seqK [1, 2, 6, 11, 12] (.reg [bc 13 .eql 11 (V.str [97, 108, 108]), mv 12 13]) (.cond (.t 12) (seqK [4, 5] (.reg [mc 4 (V.bool true), mc 5 (V.bool true)]) (.ret)) (seqK [1, 2, 6, 11, 14] (.reg [bc 15 .eql 11 (V.str [104, 105, 103, 104]), mv 14 15]) (.cond (.t 14) (seqK [4, 5] (.reg [mv 16 6, bc 17 .geq 16 (V.int 128), mv 4 17, mc 5 (V.bool true)]) (.ret)) (seqK [1, 2, 6, 11, 18] (.reg [bc 19 .eql 11 (V.str [109, 101, 100, 105, 117, 109]), mv 18 19]) (.cond (.t 18) (seqK [4, 5] (.reg [mv 20 6, bc 21 .geq 20 (V.int 112), mv 22 21, mg 23 6 22 true, xg 24 (.bin .lss (.t 23) (.c (V.int 128))) 22 true, xo 25 (.pick (.t 22) (.t 24) (.c (V.bool false))), mv 4 25, mc 5 (V.bool true)]) (.ret)) (seqK [1, 2, 6, 11, 26] (.reg [bc 27 .eql 11 (V.str [108, 111, 119]), mv 26 27]) (.cond (.t 26) (seqK [4, 5] (.reg [mv 28 6, bc 29 .lss 28 (V.int 112), mv 4 29, mc 5 (V.bool true)]) (.ret)) (seqK [1, 2, 30] (seqK [1, 2, 11, 30] (.reg [bc 31 .eql 11 (V.str [118, 49]), mv 30 31]) (.cond (.t 30) (.skip) (seqK [1, 2, 11, 30] (.reg [bc 32 .eql 11 (V.str [118, 50]), mv 30 32]) (.cond (.t 30) (.skip) (seqK [1, 2, 11, 30] (.reg [bc 33 .eql 11 (V.str [118, 51]), mv 30 33]) (.cond (.t 30) (.skip) (.reg [bc 34 .eql 11 (V.str [118, 52]), mv 30 34]))))))) (.cond (.t 30) (seqK [2, 7] (.reg [mv 35 1, xo 36 (.idxS (.t 35) (.c (V.int 1))), bc 37 .sub 36 (.sc (.int .u8 48)), xo 38 (.convI .i64 (.t 37)), mv 7 38]) (seqK [4, 5] (.reg [fa 39 10 2, ld 40 1 39, mv 41 7, bn 42 .leq 40 41, mv 43 42, mg 44 7 43 true, xg 45 (.faddr 11 (.t 2)) 43 true, xg 46 (.load false 1 (.t 45)) 43 true, xg 47 (.bin .leq (.t 44) (.t 46)) 43 true, xo 48 (.pick (.t 43) (.t 47) (.c (V.bool false))), mv 4 48, mc 5 (V.bool true)]) (.ret))) (.skip))))))))))))) (seqK [4, 5] (.reg [mc 4 (V.bool false), mc 5 (V.bool false)]) (.ret)))) def r_suitespec_group : List ARes := [.tmp 4, .tmp 5]
def CE_suitespec_group (Γ : Env) (f : Nat) : Prop := ∀ (s : CSuite) (n : List UInt8), EvN Γ f [s.v, V.str n] (optV (groupS n (strengthS s.ci1 s.ci2) s.lo s.hi))
theorem ev_suitespec_group {Γ : Env} {f f_catalog_Strength : Nat} (h : Has Γ.P f 49 (c_suitespec_group f_catalog_Strength) r_suitespec_group) (h_catalog_Strength : CE_catalog_Strength Γ f_catalog_Strength) : CE_suitespec_group Γ f := by
  intro s n
  refine evN_of_body h (by simp) (by first | exact optV_closed _ | exact optV_noSl _) (by first | exact optV_closed _ | exact optV_noSl _) fun C hC hm => ?_
  subst hC
  unfold c_suitespec_group
  generalize hst : strengthS s.ci1 s.ci2 = st
  by_cases hg : n ∈ groupsS
  · simp only [groupsS, List.mem_cons, List.not_mem_nil, or_false] at hg
    rcases hg with rfl | rfl | rfl | rfl | rfl | rfl | rfl | rfl
    · repeat' (first | refine awp_seqR fun K' hK => ?_ | refine awp_regR fun K' hK => ?_ | refine awp_seqK ?_ | refine awp_skip ?_ | refine awp_block ?_ | ((first | refine awp_cond ⟨_, rfl, fun hc => ?_, fun hc => ?_⟩ | refine awB_t (fun hc => ?_) (fun hc => ?_) | refine awB_f (fun hc => ?_) (fun hc => ?_)) <;> first | exact Bool.noConfusion hc | ((try simp only [decide_eq_true_eq, decide_eq_false_iff_not, beq_iff_eq, beq_eq_false_iff_ne, ne_eq, Bool.not_eq_true', Bool.not_eq_false'] at hc); first | (exfalso; simp only [List.length_map] at hc; omega) | (exfalso; omega) | skip)) | refine awp_ret ?_ | refine awp_exit ?_ | simp (maxSteps := 1000000) only [go_sem, Nat.reduceAdd, Nat.reduceMul, Nat.reduceEqDiff, Nat.reduceLeDiff, Nat.reduceLT, Nat.reduceSub, Int.reduceEq, Int.reduceBEq, Int.reduceLT, Int.reduceLE, Int.reduceAdd, Int.reduceToNat, reduceIte, reduceCtorEq, CSuite.v, CSuite.cells, hst] | (refine hK _ ?_; clear hK; clear K') | refine And.intro ?_ ?_ | (apply awCs_A; (focus (first | exact (h_catalog_Strength _ _).b))) | (simp only [List.length_append, List.length_cons, List.length_nil, List.length_map, Nat.reducePow, Nat.reduceAdd]; omega) | omega | exact List.mem_singleton_self _)
      all_goals (simp only [groupS, optV, if_true]; refine ends_r _ rfl ?_; simp only [go_sem, Nat.reduceEqDiff, Nat.reduceAdd, reduceIte, reduceCtorEq])
    · repeat' (first | refine awp_seqR fun K' hK => ?_ | refine awp_regR fun K' hK => ?_ | refine awp_seqK ?_ | refine awp_skip ?_ | refine awp_block ?_ | ((first | refine awp_cond ⟨_, rfl, fun hc => ?_, fun hc => ?_⟩ | refine awB_t (fun hc => ?_) (fun hc => ?_) | refine awB_f (fun hc => ?_) (fun hc => ?_)) <;> first | exact Bool.noConfusion hc | ((try simp only [decide_eq_true_eq, decide_eq_false_iff_not, beq_iff_eq, beq_eq_false_iff_ne, ne_eq, Bool.not_eq_true', Bool.not_eq_false'] at hc); first | (exfalso; simp only [List.length_map] at hc; omega) | (exfalso; omega) | skip)) | refine awp_ret ?_ | refine awp_exit ?_ | simp (maxSteps := 1000000) only [go_sem, Nat.reduceAdd, Nat.reduceMul, Nat.reduceEqDiff, Nat.reduceLeDiff, Nat.reduceLT, Nat.reduceSub, Int.reduceEq, Int.reduceBEq, Int.reduceLT, Int.reduceLE, Int.reduceAdd, Int.reduceToNat, reduceIte, reduceCtorEq, CSuite.v, CSuite.cells, hst] | (refine hK _ ?_; clear hK; clear K') | refine And.intro ?_ ?_ | (apply awCs_A; (focus (first | exact (h_catalog_Strength _ _).b))) | (simp only [List.length_append, List.length_cons, List.length_nil, List.length_map, Nat.reducePow, Nat.reduceAdd]; omega) | omega | exact List.mem_singleton_self _)
      all_goals (have e : groupS [104, 105, 103, 104] st s.lo s.hi = some (decide (st ≥ 128)) := rfl; rw [e]; simp only [optV]; refine ends_r _ rfl ?_; simp only [go_sem, Nat.reduceEqDiff, Nat.reduceAdd, reduceIte, reduceCtorEq])
    · have e : groupS [109, 101, 100, 105, 117, 109] st s.lo s.hi = some (decide (st ≥ 112) && decide (st < 128)) := rfl
      rw [e]
      rcases h1 : decide (st ≥ 112) with _ | _ <;> rcases h2 : decide (st < 128) with _ | _
      all_goals
        repeat' (first | refine awp_seqR fun K' hK => ?_ | refine awp_regR fun K' hK => ?_ | refine awp_seqK ?_ | refine awp_skip ?_ | refine awp_block ?_ | ((first | refine awp_cond ⟨_, rfl, fun hc => ?_, fun hc => ?_⟩ | refine awB_t (fun hc => ?_) (fun hc => ?_) | refine awB_f (fun hc => ?_) (fun hc => ?_)) <;> first | exact Bool.noConfusion hc | ((try simp only [decide_eq_true_eq, decide_eq_false_iff_not, beq_iff_eq, beq_eq_false_iff_ne, ne_eq, Bool.not_eq_true', Bool.not_eq_false'] at hc); first | (exfalso; simp only [List.length_map] at hc; omega) | (exfalso; omega) | skip)) | refine awp_ret ?_ | refine awp_exit ?_ | simp (maxSteps := 1000000) only [go_sem, Nat.reduceAdd, Nat.reduceMul, Nat.reduceEqDiff, Nat.reduceLeDiff, Nat.reduceLT, Nat.reduceSub, Int.reduceEq, Int.reduceBEq, Int.reduceLT, Int.reduceLE, Int.reduceAdd, Int.reduceToNat, reduceIte, reduceCtorEq, CSuite.v, CSuite.cells, hst, h1, h2] | (refine hK _ ?_; clear hK; clear K') | refine And.intro ?_ ?_ | (apply awCs_A; (focus (first | exact (h_catalog_Strength _ _).b))) | (simp only [List.length_append, List.length_cons, List.length_nil, List.length_map, Nat.reducePow, Nat.reduceAdd]; omega) | omega | exact List.mem_singleton_self _)
        all_goals (simp only [optV, Bool.and_self, Bool.and_true, Bool.and_false, Bool.false_and, Bool.true_and]; refine ends_r _ rfl ?_; simp only [go_sem, Nat.reduceEqDiff, Nat.reduceAdd, reduceIte, reduceCtorEq])
    · repeat' (first | refine awp_seqR fun K' hK => ?_ | refine awp_regR fun K' hK => ?_ | refine awp_seqK ?_ | refine awp_skip ?_ | refine awp_block ?_ | ((first | refine awp_cond ⟨_, rfl, fun hc => ?_, fun hc => ?_⟩ | refine awB_t (fun hc => ?_) (fun hc => ?_) | refine awB_f (fun hc => ?_) (fun hc => ?_)) <;> first | exact Bool.noConfusion hc | ((try simp only [decide_eq_true_eq, decide_eq_false_iff_not, beq_iff_eq, beq_eq_false_iff_ne, ne_eq, Bool.not_eq_true', Bool.not_eq_false'] at hc); first | (exfalso; simp only [List.length_map] at hc; omega) | (exfalso; omega) | skip)) | refine awp_ret ?_ | refine awp_exit ?_ | simp (maxSteps := 1000000) only [go_sem, Nat.reduceAdd, Nat.reduceMul, Nat.reduceEqDiff, Nat.reduceLeDiff, Nat.reduceLT, Nat.reduceSub, Int.reduceEq, Int.reduceBEq, Int.reduceLT, Int.reduceLE, Int.reduceAdd, Int.reduceToNat, reduceIte, reduceCtorEq, CSuite.v, CSuite.cells, hst] | (refine hK _ ?_; clear hK; clear K') | refine And.intro ?_ ?_ | (apply awCs_A; (focus (first | exact (h_catalog_Strength _ _).b))) | (simp only [List.length_append, List.length_cons, List.length_nil, List.length_map, Nat.reducePow, Nat.reduceAdd]; omega) | omega | exact List.mem_singleton_self _)
      all_goals (have e : groupS [108, 111, 119] st s.lo s.hi = some (decide (st < 112)) := rfl; rw [e]; simp only [optV]; refine ends_r _ rfl ?_; simp only [go_sem, Nat.reduceEqDiff, Nat.reduceAdd, reduceIte, reduceCtorEq])
    · have e : groupS [118, 49] st s.lo s.hi = some (decide (s.lo ≤ 1) && decide (1 ≤ s.hi)) := rfl
      have ew : IntKind.i64.wrap (IntKind.u8.wrap (((UInt8.toNat 49 : Nat) : Int) - 48)) = 1 := rfl
      rw [e]
      rcases h1 : decide (s.lo ≤ 1) with _ | _ <;> rcases h2 : decide (1 ≤ s.hi) with _ | _
      all_goals
        repeat' (first | refine awp_seqR fun K' hK => ?_ | refine awp_regR fun K' hK => ?_ | refine awp_seqK ?_ | refine awp_skip ?_ | refine awp_block ?_ | ((first | refine awp_cond ⟨_, rfl, fun hc => ?_, fun hc => ?_⟩ | refine awB_t (fun hc => ?_) (fun hc => ?_) | refine awB_f (fun hc => ?_) (fun hc => ?_)) <;> first | exact Bool.noConfusion hc | ((try simp only [decide_eq_true_eq, decide_eq_false_iff_not, beq_iff_eq, beq_eq_false_iff_ne, ne_eq, Bool.not_eq_true', Bool.not_eq_false'] at hc); first | (exfalso; simp only [List.length_map] at hc; omega) | (exfalso; omega) | skip)) | refine awp_ret ?_ | refine awp_exit ?_ | simp (maxSteps := 1000000) only [go_sem, Nat.reduceAdd, Nat.reduceMul, Nat.reduceEqDiff, Nat.reduceLeDiff, Nat.reduceLT, Nat.reduceSub, Int.reduceEq, Int.reduceBEq, Int.reduceLT, Int.reduceLE, Int.reduceAdd, Int.reduceToNat, reduceIte, reduceCtorEq, CSuite.v, CSuite.cells, hst, ew, h1, h2] | (refine hK _ ?_; clear hK; clear K') | refine And.intro ?_ ?_ | (apply awCs_A; (focus (first | exact (h_catalog_Strength _ _).b))) | (simp only [List.length_append, List.length_cons, List.length_nil, List.length_map, Nat.reducePow, Nat.reduceAdd]; omega) | omega | exact List.mem_singleton_self _)
        all_goals (simp only [optV, Bool.and_self, Bool.and_true, Bool.and_false, Bool.false_and, Bool.true_and]; refine ends_r _ rfl ?_; simp only [go_sem, Nat.reduceEqDiff, Nat.reduceAdd, reduceIte, reduceCtorEq])
    · have e : groupS [118, 50] st s.lo s.hi = some (decide (s.lo ≤ 2) && decide (2 ≤ s.hi)) := rfl
      have ew : IntKind.i64.wrap (IntKind.u8.wrap (((UInt8.toNat 50 : Nat) : Int) - 48)) = 2 := rfl
      rw [e]
      rcases h1 : decide (s.lo ≤ 2) with _ | _ <;> rcases h2 : decide (2 ≤ s.hi) with _ | _
      all_goals
        repeat' (first | refine awp_seqR fun K' hK => ?_ | refine awp_regR fun K' hK => ?_ | refine awp_seqK ?_ | refine awp_skip ?_ | refine awp_block ?_ | ((first | refine awp_cond ⟨_, rfl, fun hc => ?_, fun hc => ?_⟩ | refine awB_t (fun hc => ?_) (fun hc => ?_) | refine awB_f (fun hc => ?_) (fun hc => ?_)) <;> first | exact Bool.noConfusion hc | ((try simp only [decide_eq_true_eq, decide_eq_false_iff_not, beq_iff_eq, beq_eq_false_iff_ne, ne_eq, Bool.not_eq_true', Bool.not_eq_false'] at hc); first | (exfalso; simp only [List.length_map] at hc; omega) | (exfalso; omega) | skip)) | refine awp_ret ?_ | refine awp_exit ?_ | simp (maxSteps := 1000000) only [go_sem, Nat.reduceAdd, Nat.reduceMul, Nat.reduceEqDiff, Nat.reduceLeDiff, Nat.reduceLT, Nat.reduceSub, Int.reduceEq, Int.reduceBEq, Int.reduceLT, Int.reduceLE, Int.reduceAdd, Int.reduceToNat, reduceIte, reduceCtorEq, CSuite.v, CSuite.cells, hst, ew, h1, h2] | (refine hK _ ?_; clear hK; clear K') | refine And.intro ?_ ?_ | (apply awCs_A; (focus (first | exact (h_catalog_Strength _ _).b))) | (simp only [List.length_append, List.length_cons, List.length_nil, List.length_map, Nat.reducePow, Nat.reduceAdd]; omega) | omega | exact List.mem_singleton_self _)
        all_goals (simp only [optV, Bool.and_self, Bool.and_true, Bool.and_false, Bool.false_and, Bool.true_and]; refine ends_r _ rfl ?_; simp only [go_sem, Nat.reduceEqDiff, Nat.reduceAdd, reduceIte, reduceCtorEq])
    · have e : groupS [118, 51] st s.lo s.hi = some (decide (s.lo ≤ 3) && decide (3 ≤ s.hi)) := rfl
      have ew : IntKind.i64.wrap (IntKind.u8.wrap (((UInt8.toNat 51 : Nat) : Int) - 48)) = 3 := rfl
      rw [e]
      rcases h1 : decide (s.lo ≤ 3) with _ | _ <;> rcases h2 : decide (3 ≤ s.hi) with _ | _
      all_goals
        repeat' (first | refine awp_seqR fun K' hK => ?_ | refine awp_regR fun K' hK => ?_ | refine awp_seqK ?_ | refine awp_skip ?_ | refine awp_block ?_ | ((first | refine awp_cond ⟨_, rfl, fun hc => ?_, fun hc => ?_⟩ | refine awB_t (fun hc => ?_) (fun hc => ?_) | refine awB_f (fun hc => ?_) (fun hc => ?_)) <;> first | exact Bool.noConfusion hc | ((try simp only [decide_eq_true_eq, decide_eq_false_iff_not, beq_iff_eq, beq_eq_false_iff_ne, ne_eq, Bool.not_eq_true', Bool.not_eq_false'] at hc); first | (exfalso; simp only [List.length_map] at hc; omega) | (exfalso; omega) | skip)) | refine awp_ret ?_ | refine awp_exit ?_ | simp (maxSteps := 1000000) only [go_sem, Nat.reduceAdd, Nat.reduceMul, Nat.reduceEqDiff, Nat.reduceLeDiff, Nat.reduceLT, Nat.reduceSub, Int.reduceEq, Int.reduceBEq, Int.reduceLT, Int.reduceLE, Int.reduceAdd, Int.reduceToNat, reduceIte, reduceCtorEq, CSuite.v, CSuite.cells, hst, ew, h1, h2] | (refine hK _ ?_; clear hK; clear K') | refine And.intro ?_ ?_ | (apply awCs_A; (focus (first | exact (h_catalog_Strength _ _).b))) | (simp only [List.length_append, List.length_cons, List.length_nil, List.length_map, Nat.reducePow, Nat.reduceAdd]; omega) | omega | exact List.mem_singleton_self _)
        all_goals (simp only [optV, Bool.and_self, Bool.and_true, Bool.and_false, Bool.false_and, Bool.true_and]; refine ends_r _ rfl ?_; simp only [go_sem, Nat.reduceEqDiff, Nat.reduceAdd, reduceIte, reduceCtorEq])
    · have e : groupS [118, 52] st s.lo s.hi = some (decide (s.lo ≤ 4) && decide (4 ≤ s.hi)) := rfl
      have ew : IntKind.i64.wrap (IntKind.u8.wrap (((UInt8.toNat 52 : Nat) : Int) - 48)) = 4 := rfl
      rw [e]
      rcases h1 : decide (s.lo ≤ 4) with _ | _ <;> rcases h2 : decide (4 ≤ s.hi) with _ | _
      all_goals
        repeat' (first | refine awp_seqR fun K' hK => ?_ | refine awp_regR fun K' hK => ?_ | refine awp_seqK ?_ | refine awp_skip ?_ | refine awp_block ?_ | ((first | refine awp_cond ⟨_, rfl, fun hc => ?_, fun hc => ?_⟩ | refine awB_t (fun hc => ?_) (fun hc => ?_) | refine awB_f (fun hc => ?_) (fun hc => ?_)) <;> first | exact Bool.noConfusion hc | ((try simp only [decide_eq_true_eq, decide_eq_false_iff_not, beq_iff_eq, beq_eq_false_iff_ne, ne_eq, Bool.not_eq_true', Bool.not_eq_false'] at hc); first | (exfalso; simp only [List.length_map] at hc; omega) | (exfalso; omega) | skip)) | refine awp_ret ?_ | refine awp_exit ?_ | simp (maxSteps := 1000000) only [go_sem, Nat.reduceAdd, Nat.reduceMul, Nat.reduceEqDiff, Nat.reduceLeDiff, Nat.reduceLT, Nat.reduceSub, Int.reduceEq, Int.reduceBEq, Int.reduceLT, Int.reduceLE, Int.reduceAdd, Int.reduceToNat, reduceIte, reduceCtorEq, CSuite.v, CSuite.cells, hst, ew, h1, h2] | (refine hK _ ?_; clear hK; clear K') | refine And.intro ?_ ?_ | (apply awCs_A; (focus (first | exact (h_catalog_Strength _ _).b))) | (simp only [List.length_append, List.length_cons, List.length_nil, List.length_map, Nat.reducePow, Nat.reduceAdd]; omega) | omega | exact List.mem_singleton_self _)
        all_goals (simp only [optV, Bool.and_self, Bool.and_true, Bool.and_false, Bool.false_and, Bool.true_and]; refine ends_r _ rfl ?_; simp only [go_sem, Nat.reduceEqDiff, Nat.reduceAdd, reduceIte, reduceCtorEq])
  · rw [groupS_out st s.lo s.hi hg]
    simp only [groupsS, List.mem_cons, List.not_mem_nil, or_false, not_or] at hg
    obtain ⟨h1, h2, h3, h4, h5, h6, h7, h8⟩ := hg
    have g1 := beq_eq_false_iff_ne.2 h1
    have g2 := beq_eq_false_iff_ne.2 h2
    have g3 := beq_eq_false_iff_ne.2 h3
    have g4 := beq_eq_false_iff_ne.2 h4
    have g5 := beq_eq_false_iff_ne.2 h5
    have g6 := beq_eq_false_iff_ne.2 h6
    have g7 := beq_eq_false_iff_ne.2 h7
    have g8 := beq_eq_false_iff_ne.2 h8
    repeat' (first | refine awp_seqR fun K' hK => ?_ | refine awp_regR fun K' hK => ?_ | refine awp_seqK ?_ | refine awp_skip ?_ | refine awp_block ?_ | ((first | refine awp_cond ⟨_, rfl, fun hc => ?_, fun hc => ?_⟩ | refine awB_t (fun hc => ?_) (fun hc => ?_) | refine awB_f (fun hc => ?_) (fun hc => ?_)) <;> first | exact Bool.noConfusion hc | ((try simp only [decide_eq_true_eq, decide_eq_false_iff_not, beq_iff_eq, beq_eq_false_iff_ne, ne_eq, Bool.not_eq_true', Bool.not_eq_false'] at hc); first | (exfalso; simp only [List.length_map] at hc; omega) | (exfalso; omega) | skip)) | refine awp_ret ?_ | refine awp_exit ?_ | simp (maxSteps := 1000000) only [go_sem, Nat.reduceAdd, Nat.reduceMul, Nat.reduceEqDiff, Nat.reduceLeDiff, Nat.reduceLT, Nat.reduceSub, Int.reduceEq, Int.reduceBEq, Int.reduceLT, Int.reduceLE, Int.reduceAdd, Int.reduceToNat, reduceIte, reduceCtorEq, CSuite.v, CSuite.cells, hst, g1, g2, g3, g4, g5, g6, g7, g8] | (refine hK _ ?_; clear hK; clear K') | refine And.intro ?_ ?_ | (apply awCs_A; (focus (first | exact (h_catalog_Strength _ _).b))) | (simp only [List.length_append, List.length_cons, List.length_nil, List.length_map, Nat.reducePow, Nat.reduceAdd]; omega) | omega | exact List.mem_singleton_self _)
    all_goals (simp only [optV]; refine ends_r _ rfl ?_; simp only [go_sem, Nat.reduceEqDiff, Nat.reduceAdd, reduceIte, reduceCtorEq])
def namedP (n : List UInt8) (s : CSuite) : Bool × Bool :=
  match groupS n (strengthS s.ci1 s.ci2) s.lo s.hi with
  | some b => (b, true)
  | none => ((decide (findR n 0 rowsL > 0) && decide (find0 (findR n 0 rowsL) 0 [s.kx1, s.sg1, s.ci1, s.mc1] ≥ 0)) || (decide (codeN n > 0) && s.code == codeN n), decide (findR n 0 rowsL > 0) || decide (codeN n > 0))
def namedR (n : List UInt8) (s : CSuite) : Bool :=
  match groupS n (sufS s.code) s.lo s.hi with
  | some b => b
  | none => (decide (findR n 0 rowsL > 0) && (s.kx1 == findR n 0 rowsL || s.sg1 == findR n 0 rowsL || s.ci1 == findR n 0 rowsL || s.mc1 == findR n 0 rowsL)) || s.name == n
def pairV (p : Bool × Bool) : V := .tup [V.bool p.1, V.bool p.2]
def c_suitespec_named (f_suitespec_group f_catalog_Find f_catalog_Code f_slices_Contains___int_int : Nat) : AC := seqK [1, 2] (.reg [xo 2 (.box true 12 (.t 0)), mc 4 (V.bool false), mc 5 (V.bool false)]) (seqK [1, 2] (seqK [1, 2, 6, 7] (.reg [xo 12 (.load true 12 (.t 2)), mv 13 1, cl 14 f_suitespec_group [12, 13], mv 11 14, ex 15 11 0, ex 16 11 1, mv 6 15, mv 7 16]) (seqK [1, 2, 6, 17] (.reg [mv 17 7]) (.cond (.t 17) (seqK [4, 5] (.reg [mv 18 6, mv 4 18, mc 5 (V.bool true)]) (.ret)) (.skip)))) (seqK [2, 8, 9] (.reg [mv 19 1, cl 20 f_catalog_Find [19], mv 21 1, cl 22 f_catalog_Code [21], mv 8 20, mv 9 22]) (seqK [2, 8, 9, 10] (.reg [fa 23 2 2, fa 24 0 23, ld 25 1 24, fa 26 4 2, fa 27 0 26, ld 28 1 27, fa 29 6 2, fa 30 0 29, ld 31 1 30, fa 32 8 2, fa 33 0 32, ld 34 1 33, xo 35 (.bslice 4 1 false [(.int .i64 0)] [(0, (.t 25)), (1, (.t 28)), (2, (.t 31)), (3, (.t 34))]), mv 10 35]) (seqK [4, 5] (.reg [mv 36 8, bc 37 .gtr 36 (V.int 0), mv 38 37, mg 39 10 38 true, mg 40 8 38 true, xg 41 (.call f_slices_Contains___int_int [(.t 39), (.t 40)]) 38 true, xo 42 (.pick (.t 38) (.t 41) (.c (V.bool false))), mv 43 42, mg 44 9 43 false, xg 45 (.bin .gtr (.t 44) (.c (V.int 0))) 43 false, mg 46 45 43 false, xg 47 (.faddr 0 (.t 2)) 46 true, xg 48 (.load false 1 (.t 47)) 46 true, mg 49 9 46 true, xg 50 (.bin .eql (.t 48) (.t 49)) 46 true, xg 51 (.pick (.t 46) (.t 50) (.c (V.bool false))) 43 false, xo 52 (.pick (.t 43) (.c (V.bool true)) (.t 51)), mv 53 8, bc 54 .gtr 53 (V.int 0), mv 55 54, mg 56 9 55 false, xg 57 (.bin .gtr (.t 56) (.c (V.int 0))) 55 false, xo 58 (.pick (.t 55) (.c (V.bool true)) (.t 57)), mv 4 52, mv 5 58]) (.ret))))) def r_suitespec_named : List ARes := [.tmp 4, .tmp 5]
def CE_suitespec_named (Γ : Env) (f : Nat) : Prop := ∀ (s : CSuite) (n : List UInt8), EvN Γ f [s.v, V.str n] (pairV (namedP n s))
theorem ev_suitespec_named {Γ : Env} {f f_suitespec_group f_catalog_Find f_catalog_Code f_slices_Contains___int_int : Nat} (h : Has Γ.P f 59 (c_suitespec_named f_suitespec_group f_catalog_Find f_catalog_Code f_slices_Contains___int_int) r_suitespec_named) (h_suitespec_group : CE_suitespec_group Γ f_suitespec_group) (h_catalog_Find : CE_catalog_Find Γ f_catalog_Find) (h_catalog_Code : CE_catalog_Code Γ f_catalog_Code) (h_slices_Contains___int_int : CE_slices_Contains___int_int Γ f_slices_Contains___int_int) : CE_suitespec_named Γ f := by
  intro s n
  refine evN_of_body h (by simp) (by simp only [pairV, V.closed, closedL, V.noSl, noSlL, and_self]) (by simp only [pairV, V.closed, closedL, V.noSl, noSlL, and_self]) fun C hC hm => ?_
  subst hC
  unfold c_suitespec_named
  have hg := (h_suitespec_group s n).b
  rcases hn : groupS n (strengthS s.ci1 s.ci2) s.lo s.hi with _ | b
  · have e : namedP n s = ((decide (findR n 0 rowsL > 0) && decide (find0 (findR n 0 rowsL) 0 [s.kx1, s.sg1, s.ci1, s.mc1] ≥ 0)) || (decide (codeN n > 0) && s.code == codeN n), decide (findR n 0 rowsL > 0) || decide (codeN n > 0)) := by rw [namedP, hn]
    rw [e]
    rw [hn] at hg
    simp only [optV, CSuite.v, CSuite.cells] at hg
    have hf := (h_slices_Contains___int_int [s.kx1, s.sg1, s.ci1, s.mc1] (findR n 0 rowsL) (by simp)).b
    simp only [List.map_cons, List.map_nil] at hf
    rcases h1 : decide (findR n 0 rowsL > 0) with _ | _ <;> rcases h2 : decide (codeN n > 0) with _ | _ <;> rcases h3 : decide (find0 (findR n 0 rowsL) 0 [s.kx1, s.sg1, s.ci1, s.mc1] ≥ 0) with _ | _
    all_goals
      rw [h3] at hf
      repeat' (first | refine awp_seqR fun K' hK => ?_ | refine awp_regR fun K' hK => ?_ | refine awp_seqK ?_ | refine awp_skip ?_ | refine awp_block ?_ | ((first | refine awp_cond ⟨_, rfl, fun hc => ?_, fun hc => ?_⟩ | refine awB_t (fun hc => ?_) (fun hc => ?_) | refine awB_f (fun hc => ?_) (fun hc => ?_)) <;> first | exact Bool.noConfusion hc | ((try simp only [decide_eq_true_eq, decide_eq_false_iff_not, beq_iff_eq, beq_eq_false_iff_ne, ne_eq, Bool.not_eq_true', Bool.not_eq_false'] at hc); first | (exfalso; simp only [List.length_map] at hc; omega) | (exfalso; omega) | skip)) | refine awp_ret ?_ | refine awp_exit ?_ | simp (maxSteps := 1000000) only [go_sem, Nat.reduceAdd, Nat.reduceMul, Nat.reduceEqDiff, Nat.reduceLeDiff, Nat.reduceLT, Nat.reduceSub, Int.reduceEq, Int.reduceBEq, Int.reduceLT, Int.reduceLE, Int.reduceAdd, Int.reduceToNat, reduceIte, reduceCtorEq, CSuite.v, CSuite.cells, h1, h2] | (refine hK _ ?_; clear hK; clear K') | refine And.intro ?_ ?_ | (apply awCs_A; (focus (first | exact hg | exact hf | exact (h_suitespec_group _ _).b | exact (h_catalog_Find _).b | exact (h_catalog_Code _).b | exact (h_slices_Contains___int_int _ _ (by first | assumption | omega | (simp; done))).b))) | (simp only [List.length_append, List.length_cons, List.length_nil, List.length_map, Nat.reducePow, Nat.reduceAdd]; omega) | omega | exact List.mem_singleton_self _)
      all_goals first | (simp only [pairV, Bool.and_self, Bool.and_true, Bool.and_false, Bool.false_and, Bool.true_and, Bool.or_self, Bool.or_true, Bool.or_false, Bool.false_or, Bool.true_or]; refine ends_r _ rfl ?_; simp only [go_sem, Nat.reduceEqDiff, Nat.reduceAdd, reduceIte, reduceCtorEq]; done) | trace_state
  · have e : namedP n s = (b, true) := by rw [namedP, hn]
    rw [e]
    rw [hn] at hg
    simp only [optV, CSuite.v, CSuite.cells] at hg
    repeat' (first | refine awp_seqR fun K' hK => ?_ | refine awp_regR fun K' hK => ?_ | refine awp_seqK ?_ | refine awp_skip ?_ | refine awp_block ?_ | ((first | refine awp_cond ⟨_, rfl, fun hc => ?_, fun hc => ?_⟩ | refine awB_t (fun hc => ?_) (fun hc => ?_) | refine awB_f (fun hc => ?_) (fun hc => ?_)) <;> first | exact Bool.noConfusion hc | ((try simp only [decide_eq_true_eq, decide_eq_false_iff_not, beq_iff_eq, beq_eq_false_iff_ne, ne_eq, Bool.not_eq_true', Bool.not_eq_false'] at hc); first | (exfalso; simp only [List.length_map] at hc; omega) | (exfalso; omega) | skip)) | refine awp_ret ?_ | refine awp_exit ?_ | simp (maxSteps := 1000000) only [go_sem, Nat.reduceAdd, Nat.reduceMul, Nat.reduceEqDiff, Nat.reduceLeDiff, Nat.reduceLT, Nat.reduceSub, Int.reduceEq, Int.reduceBEq, Int.reduceLT, Int.reduceLE, Int.reduceAdd, Int.reduceToNat, reduceIte, reduceCtorEq, CSuite.v, CSuite.cells] | (refine hK _ ?_; clear hK; clear K') | refine And.intro ?_ ?_ | (apply awCs_A; (focus (first | exact hg | exact (h_suitespec_group _ _).b | exact (h_catalog_Find _).b | exact (h_catalog_Code _).b | exact (h_slices_Contains___int_int _ _ (by first | assumption | omega | (simp; done))).b))) | (simp only [List.length_append, List.length_cons, List.length_nil, List.length_map, Nat.reducePow, Nat.reduceAdd]; omega) | omega | exact List.mem_singleton_self _)
    all_goals first | (simp only [pairV]; refine ends_r _ rfl ?_; simp only [go_sem, Nat.reduceEqDiff, Nat.reduceAdd, reduceIte, reduceCtorEq]; done) | trace_state
end Av
end
section
set_option linter.unusedSimpArgs false
set_option linter.unusedVariables false
set_option maxRecDepth 10000
set_option maxHeartbeats 4000000
namespace Av
open Go
attribute [local irreducible] AWp runO runP runG awS awC awCv awQ awRd awCallR awCvR awQR awR awRdR awB okR plan ris
def c_ref08_named (f_ref08_Strength f_ref02_Find : Nat) : AC := seqK [0, 3] (.reg [xo 3 (.box true 12 (.t 1)), mc 4 (V.bool false)]) (seqK [0, 3, 5] (.reg [fa 8 0 3, ld 9 1 8, cl 10 f_ref08_Strength [9], mv 5 10]) (seqK [0, 3] (seqK [0, 3, 5, 11] (.reg [mv 11 0]) (.block 0 (seqK [0, 3, 5, 11, 12] (.reg [bc 13 .eql 11 (V.str [97, 108, 108]), mv 12 13]) (.cond (.t 12) (seqK [4] (.reg [mc 4 (V.bool true)]) (.ret)) (seqK [0, 3, 5, 11, 14] (.reg [bc 15 .eql 11 (V.str [104, 105, 103, 104]), mv 14 15]) (.cond (.t 14) (seqK [4] (.reg [mv 16 5, bc 17 .geq 16 (V.int 128), mv 4 17]) (.ret)) (seqK [0, 3, 5, 11, 18] (.reg [bc 19 .eql 11 (V.str [109, 101, 100, 105, 117, 109]), mv 18 19]) (.cond (.t 18) (seqK [4] (.reg [mv 20 5, bc 21 .geq 20 (V.int 112), mv 22 21, mg 23 5 22 true, xg 24 (.bin .lss (.t 23) (.c (V.int 128))) 22 true, xo 25 (.pick (.t 22) (.t 24) (.c (V.bool false))), mv 4 25]) (.ret)) (seqK [0, 3, 5, 11, 26] (.reg [bc 27 .eql 11 (V.str [108, 111, 119]), mv 26 27]) (.cond (.t 26) (seqK [4] (.reg [mv 28 5, bc 29 .lss 28 (V.int 112), mv 4 29]) (.ret)) (seqK [0, 3, 30] (seqK [0, 3, 11, 30] (.reg [bc 31 .eql 11 (V.str [118, 49]), mv 30 31]) (.cond (.t 30) (.skip) (seqK [0, 3, 11, 30] (.reg [bc 32 .eql 11 (V.str [118, 50]), mv 30 32]) (.cond (.t 30) (.skip) (seqK [0, 3, 11, 30] (.reg [bc 33 .eql 11 (V.str [118, 51]), mv 30 33]) (.cond (.t 30) (.skip) (.reg [bc 34 .eql 11 (V.str [118, 52]), mv 30 34]))))))) (.cond (.t 30) (seqK [3, 6] (.reg [mv 35 0, xo 36 (.idxS (.t 35) (.c (V.int 1))), bc 37 .sub 36 (.sc (.int .u8 48)), xo 38 (.convI .i64 (.t 37)), mv 6 38]) (seqK [4] (.reg [fa 39 10 3, ld 40 1 39, mv 41 6, bn 42 .leq 40 41, mv 43 42, mg 44 6 43 true, xg 45 (.faddr 11 (.t 3)) 43 true, xg 46 (.load false 1 (.t 45)) 43 true, xg 47 (.bin .leq (.t 44) (.t 46)) 43 true, xo 48 (.pick (.t 43) (.t 47) (.c (V.bool false))), mv 4 48]) (.ret))) (.skip))))))))))))) (seqK [0, 3] (seqK [0, 3, 7] (.reg [mv 49 0, cl 50 f_ref02_Find [49], mv 7 50]) (seqK [0, 3, 80] (.reg [mv 51 7, bc 52 .gtr 51 (V.int 0), mv 53 52, xg 54 (.faddr 2 (.t 3)) 53 true, xg 55 (.faddr 0 (.t 54)) 53 true, xg 56 (.load false 1 (.t 55)) 53 true, mg 57 7 53 true, xg 58 (.bin .eql (.t 56) (.t 57)) 53 true, mg 59 58 53 true, xg 60 (.faddr 4 (.t 3)) 59 false, xg 61 (.faddr 0 (.t 60)) 59 false, xg 62 (.load false 1 (.t 61)) 59 false, mg 63 7 59 false, xg 64 (.bin .eql (.t 62) (.t 63)) 59 false, xg 65 (.pick (.t 59) (.c (V.bool true)) (.t 64)) 53 true, mg 66 65 53 true, xg 67 (.faddr 6 (.t 3)) 66 false, xg 68 (.faddr 0 (.t 67)) 66 false, xg 69 (.load false 1 (.t 68)) 66 false, mg 70 7 66 false, xg 71 (.bin .eql (.t 69) (.t 70)) 66 false, xg 72 (.pick (.t 66) (.c (V.bool true)) (.t 71)) 53 true, mg 73 72 53 true, xg 74 (.faddr 8 (.t 3)) 73 false, xg 75 (.faddr 0 (.t 74)) 73 false, xg 76 (.load false 1 (.t 75)) 73 false, mg 77 7 73 false, xg 78 (.bin .eql (.t 76) (.t 77)) 73 false, xg 79 (.pick (.t 73) (.c (V.bool true)) (.t 78)) 53 true, xo 80 (.pick (.t 53) (.t 79) (.c (V.bool false)))]) (.cond (.t 80) (seqK [4] (.reg [mc 4 (V.bool true)]) (.ret)) (.skip)))) (seqK [4] (.reg [fa 81 1 3, ld 82 1 81, mv 83 0, bn 84 .eql 82 83, mv 4 84]) (.ret))))) def r_ref08_named : List ARes := [.tmp 4]
def CE_ref08_named (Γ : Env) (f : Nat) : Prop := ∀ (n : List UInt8) (s : CSuite), EvN Γ f [V.str n, s.v] (V.bool (namedR n s))
theorem ev_ref08_named {Γ : Env} {f f_ref08_Strength f_ref02_Find : Nat} (h : Has Γ.P f 85 (c_ref08_named f_ref08_Strength f_ref02_Find) r_ref08_named) (h_ref08_Strength : CE_ref08_Strength Γ f_ref08_Strength) (h_ref02_Find : CE_ref02_Find Γ f_ref02_Find) : CE_ref08_named Γ f := by
  intro n s
  refine evN_of_body h (by simp) (by simp only [V.closed, closedL, V.noSl, noSlL, and_self, and_true, true_and]) (by simp only [V.closed, closedL, V.noSl, noSlL, and_self, and_true, true_and]) fun C hC hm => ?_
  subst hC
  unfold c_ref08_named
  generalize hst : sufS s.code = st
  by_cases hg : n ∈ groupsS
  · simp only [groupsS, List.mem_cons, List.not_mem_nil, or_false] at hg
    rcases hg with rfl | rfl | rfl | rfl | rfl | rfl | rfl | rfl
    · have e : namedR [97, 108, 108] s = true := rfl
      rw [e]
      repeat' (first | refine awp_seqR fun K' hK => ?_ | refine awp_regR fun K' hK => ?_ | refine awp_seqK ?_ | refine awp_skip ?_ | refine awp_block ?_ | ((first | refine awp_cond ⟨_, rfl, fun hc => ?_, fun hc => ?_⟩ | refine awB_t (fun hc => ?_) (fun hc => ?_) | refine awB_f (fun hc => ?_) (fun hc => ?_)) <;> first | exact Bool.noConfusion hc | ((try simp only [decide_eq_true_eq, decide_eq_false_iff_not, beq_iff_eq, beq_eq_false_iff_ne, ne_eq, Bool.not_eq_true', Bool.not_eq_false'] at hc); first | (exfalso; simp only [List.length_map] at hc; omega) | (exfalso; omega) | skip)) | refine awp_ret ?_ | refine awp_exit ?_ | simp (maxSteps := 1000000) only [go_sem, Nat.reduceAdd, Nat.reduceMul, Nat.reduceEqDiff, Nat.reduceLeDiff, Nat.reduceLT, Nat.reduceSub, Int.reduceEq, Int.reduceBEq, Int.reduceLT, Int.reduceLE, Int.reduceAdd, Int.reduceToNat, reduceIte, reduceCtorEq, CSuite.v, CSuite.cells, hst] | (refine hK _ ?_; clear hK; clear K') | refine And.intro ?_ ?_ | (apply awCs_A; (focus (first | exact (h_ref08_Strength _).b | exact (h_ref02_Find _).b))) | (simp only [List.length_append, List.length_cons, List.length_nil, List.length_map, Nat.reducePow, Nat.reduceAdd]; omega) | omega | exact List.mem_singleton_self _)
      all_goals (refine ends_r _ rfl ?_; simp only [go_sem, Nat.reduceEqDiff, Nat.reduceAdd, reduceIte, reduceCtorEq])
    · have e : namedR [104, 105, 103, 104] s = decide (sufS s.code ≥ 128) := rfl
      rw [e, hst]
      repeat' (first | refine awp_seqR fun K' hK => ?_ | refine awp_regR fun K' hK => ?_ | refine awp_seqK ?_ | refine awp_skip ?_ | refine awp_block ?_ | ((first | refine awp_cond ⟨_, rfl, fun hc => ?_, fun hc => ?_⟩ | refine awB_t (fun hc => ?_) (fun hc => ?_) | refine awB_f (fun hc => ?_) (fun hc => ?_)) <;> first | exact Bool.noConfusion hc | ((try simp only [decide_eq_true_eq, decide_eq_false_iff_not, beq_iff_eq, beq_eq_false_iff_ne, ne_eq, Bool.not_eq_true', Bool.not_eq_false'] at hc); first | (exfalso; simp only [List.length_map] at hc; omega) | (exfalso; omega) | skip)) | refine awp_ret ?_ | refine awp_exit ?_ | simp (maxSteps := 1000000) only [go_sem, Nat.reduceAdd, Nat.reduceMul, Nat.reduceEqDiff, Nat.reduceLeDiff, Nat.reduceLT, Nat.reduceSub, Int.reduceEq, Int.reduceBEq, Int.reduceLT, Int.reduceLE, Int.reduceAdd, Int.reduceToNat, reduceIte, reduceCtorEq, CSuite.v, CSuite.cells, hst] | (refine hK _ ?_; clear hK; clear K') | refine And.intro ?_ ?_ | (apply awCs_A; (focus (first | exact (h_ref08_Strength _).b | exact (h_ref02_Find _).b))) | (simp only [List.length_append, List.length_cons, List.length_nil, List.length_map, Nat.reducePow, Nat.reduceAdd]; omega) | omega | exact List.mem_singleton_self _)
      all_goals (refine ends_r _ rfl ?_; simp only [go_sem, Nat.reduceEqDiff, Nat.reduceAdd, reduceIte, reduceCtorEq])
    · have e : namedR [109, 101, 100, 105, 117, 109] s = (decide (sufS s.code ≥ 112) && decide (sufS s.code < 128)) := rfl
      rw [e, hst]
      rcases h1 : decide (st ≥ 112) with _ | _ <;> rcases h2 : decide (st < 128) with _ | _
      all_goals
        repeat' (first | refine awp_seqR fun K' hK => ?_ | refine awp_regR fun K' hK => ?_ | refine awp_seqK ?_ | refine awp_skip ?_ | refine awp_block ?_ | ((first | refine awp_cond ⟨_, rfl, fun hc => ?_, fun hc => ?_⟩ | refine awB_t (fun hc => ?_) (fun hc => ?_) | refine awB_f (fun hc => ?_) (fun hc => ?_)) <;> first | exact Bool.noConfusion hc | ((try simp only [decide_eq_true_eq, decide_eq_false_iff_not, beq_iff_eq, beq_eq_false_iff_ne, ne_eq, Bool.not_eq_true', Bool.not_eq_false'] at hc); first | (exfalso; simp only [List.length_map] at hc; omega) | (exfalso; omega) | skip)) | refine awp_ret ?_ | refine awp_exit ?_ | simp (maxSteps := 1000000) only [go_sem, Nat.reduceAdd, Nat.reduceMul, Nat.reduceEqDiff, Nat.reduceLeDiff, Nat.reduceLT, Nat.reduceSub, Int.reduceEq, Int.reduceBEq, Int.reduceLT, Int.reduceLE, Int.reduceAdd, Int.reduceToNat, reduceIte, reduceCtorEq, CSuite.v, CSuite.cells, hst, h1, h2] | (refine hK _ ?_; clear hK; clear K') | refine And.intro ?_ ?_ | (apply awCs_A; (focus (first | exact (h_ref08_Strength _).b | exact (h_ref02_Find _).b))) | (simp only [List.length_append, List.length_cons, List.length_nil, List.length_map, Nat.reducePow, Nat.reduceAdd]; omega) | omega | exact List.mem_singleton_self _)
        all_goals ((try simp only [Bool.and_self, Bool.and_true, Bool.and_false, Bool.false_and, Bool.true_and]); refine ends_r _ rfl ?_; simp only [go_sem, Nat.reduceEqDiff, Nat.reduceAdd, reduceIte, reduceCtorEq])
    · have e : namedR [108, 111, 119] s = decide (sufS s.code < 112) := rfl
      rw [e, hst]
      repeat' (first | refine awp_seqR fun K' hK => ?_ | refine awp_regR fun K' hK => ?_ | refine awp_seqK ?_ | refine awp_skip ?_ | refine awp_block ?_ | ((first | refine awp_cond ⟨_, rfl, fun hc => ?_, fun hc => ?_⟩ | refine awB_t (fun hc => ?_) (fun hc => ?_) | refine awB_f (fun hc => ?_) (fun hc => ?_)) <;> first | exact Bool.noConfusion hc | ((try simp only [decide_eq_true_eq, decide_eq_false_iff_not, beq_iff_eq, beq_eq_false_iff_ne, ne_eq, Bool.not_eq_true', Bool.not_eq_false'] at hc); first | (exfalso; simp only [List.length_map] at hc; omega) | (exfalso; omega) | skip)) | refine awp_ret ?_ | refine awp_exit ?_ | simp (maxSteps := 1000000) only [go_sem, Nat.reduceAdd, Nat.reduceMul, Nat.reduceEqDiff, Nat.reduceLeDiff, Nat.reduceLT, Nat.reduceSub, Int.reduceEq, Int.reduceBEq, Int.reduceLT, Int.reduceLE, Int.reduceAdd, Int.reduceToNat, reduceIte, reduceCtorEq, CSuite.v, CSuite.cells, hst] | (refine hK _ ?_; clear hK; clear K') | refine And.intro ?_ ?_ | (apply awCs_A; (focus (first | exact (h_ref08_Strength _).b | exact (h_ref02_Find _).b))) | (simp only [List.length_append, List.length_cons, List.length_nil, List.length_map, Nat.reducePow, Nat.reduceAdd]; omega) | omega | exact List.mem_singleton_self _)
      all_goals (refine ends_r _ rfl ?_; simp only [go_sem, Nat.reduceEqDiff, Nat.reduceAdd, reduceIte, reduceCtorEq])
    · have e : namedR [118, 49] s = (decide (s.lo ≤ 1) && decide (1 ≤ s.hi)) := rfl
      have ew : IntKind.i64.wrap (IntKind.u8.wrap (((UInt8.toNat 49 : Nat) : Int) - 48)) = 1 := rfl
      rw [e]
      rcases h1 : decide (s.lo ≤ 1) with _ | _ <;> rcases h2 : decide (1 ≤ s.hi) with _ | _
      all_goals
        repeat' (first | refine awp_seqR fun K' hK => ?_ | refine awp_regR fun K' hK => ?_ | refine awp_seqK ?_ | refine awp_skip ?_ | refine awp_block ?_ | ((first | refine awp_cond ⟨_, rfl, fun hc => ?_, fun hc => ?_⟩ | refine awB_t (fun hc => ?_) (fun hc => ?_) | refine awB_f (fun hc => ?_) (fun hc => ?_)) <;> first | exact Bool.noConfusion hc | ((try simp only [decide_eq_true_eq, decide_eq_false_iff_not, beq_iff_eq, beq_eq_false_iff_ne, ne_eq, Bool.not_eq_true', Bool.not_eq_false'] at hc); first | (exfalso; simp only [List.length_map] at hc; omega) | (exfalso; omega) | skip)) | refine awp_ret ?_ | refine awp_exit ?_ | simp (maxSteps := 1000000) only [go_sem, Nat.reduceAdd, Nat.reduceMul, Nat.reduceEqDiff, Nat.reduceLeDiff, Nat.reduceLT, Nat.reduceSub, Int.reduceEq, Int.reduceBEq, Int.reduceLT, Int.reduceLE, Int.reduceAdd, Int.reduceToNat, reduceIte, reduceCtorEq, CSuite.v, CSuite.cells, hst, ew, h1, h2] | (refine hK _ ?_; clear hK; clear K') | refine And.intro ?_ ?_ | (apply awCs_A; (focus (first | exact (h_ref08_Strength _).b | exact (h_ref02_Find _).b))) | (simp only [List.length_append, List.length_cons, List.length_nil, List.length_map, Nat.reducePow, Nat.reduceAdd]; omega) | omega | exact List.mem_singleton_self _)
        all_goals ((try simp only [Bool.and_self, Bool.and_true, Bool.and_false, Bool.false_and, Bool.true_and]); refine ends_r _ rfl ?_; simp only [go_sem, Nat.reduceEqDiff, Nat.reduceAdd, reduceIte, reduceCtorEq])
    · have e : namedR [118, 50] s = (decide (s.lo ≤ 2) && decide (2 ≤ s.hi)) := rfl
      have ew : IntKind.i64.wrap (IntKind.u8.wrap (((UInt8.toNat 50 : Nat) : Int) - 48)) = 2 := rfl
      rw [e]
      rcases h1 : decide (s.lo ≤ 2) with _ | _ <;> rcases h2 : decide (2 ≤ s.hi) with _ | _
      all_goals
        repeat' (first | refine awp_seqR fun K' hK => ?_ | refine awp_regR fun K' hK => ?_ | refine awp_seqK ?_ | refine awp_skip ?_ | refine awp_block ?_ | ((first | refine awp_cond ⟨_, rfl, fun hc => ?_, fun hc => ?_⟩ | refine awB_t (fun hc => ?_) (fun hc => ?_) | refine awB_f (fun hc => ?_) (fun hc => ?_)) <;> first | exact Bool.noConfusion hc | ((try simp only [decide_eq_true_eq, decide_eq_false_iff_not, beq_iff_eq, beq_eq_false_iff_ne, ne_eq, Bool.not_eq_true', Bool.not_eq_false'] at hc); first | (exfalso; simp only [List.length_map] at hc; omega) | (exfalso; omega) | skip)) | refine awp_ret ?_ | refine awp_exit ?_ | simp (maxSteps := 1000000) only [go_sem, Nat.reduceAdd, Nat.reduceMul, Nat.reduceEqDiff, Nat.reduceLeDiff, Nat.reduceLT, Nat.reduceSub, Int.reduceEq, Int.reduceBEq, Int.reduceLT, Int.reduceLE, Int.reduceAdd, Int.reduceToNat, reduceIte, reduceCtorEq, CSuite.v, CSuite.cells, hst, ew, h1, h2] | (refine hK _ ?_; clear hK; clear K') | refine And.intro ?_ ?_ | (apply awCs_A; (focus (first | exact (h_ref08_Strength _).b | exact (h_ref02_Find _).b))) | (simp only [List.length_append, List.length_cons, List.length_nil, List.length_map, Nat.reducePow, Nat.reduceAdd]; omega) | omega | exact List.mem_singleton_self _)
        all_goals ((try simp only [Bool.and_self, Bool.and_true, Bool.and_false, Bool.false_and, Bool.true_and]); refine ends_r _ rfl ?_; simp only [go_sem, Nat.reduceEqDiff, Nat.reduceAdd, reduceIte, reduceCtorEq])
    · have e : namedR [118, 51] s = (decide (s.lo ≤ 3) && decide (3 ≤ s.hi)) := rfl
      have ew : IntKind.i64.wrap (IntKind.u8.wrap (((UInt8.toNat 51 : Nat) : Int) - 48)) = 3 := rfl
      rw [e]
      rcases h1 : decide (s.lo ≤ 3) with _ | _ <;> rcases h2 : decide (3 ≤ s.hi) with _ | _
      all_goals
        repeat' (first | refine awp_seqR fun K' hK => ?_ | refine awp_regR fun K' hK => ?_ | refine awp_seqK ?_ | refine awp_skip ?_ | refine awp_block ?_ | ((first | refine awp_cond ⟨_, rfl, fun hc => ?_, fun hc => ?_⟩ | refine awB_t (fun hc => ?_) (fun hc => ?_) | refine awB_f (fun hc => ?_) (fun hc => ?_)) <;> first | exact Bool.noConfusion hc | ((try simp only [decide_eq_true_eq, decide_eq_false_iff_not, beq_iff_eq, beq_eq_false_iff_ne, ne_eq, Bool.not_eq_true', Bool.not_eq_false'] at hc); first | (exfalso; simp only [List.length_map] at hc; omega) | (exfalso; omega) | skip)) | refine awp_ret ?_ | refine awp_exit ?_ | simp (maxSteps := 1000000) only [go_sem, Nat.reduceAdd, Nat.reduceMul, Nat.reduceEqDiff, Nat.reduceLeDiff, Nat.reduceLT, Nat.reduceSub, Int.reduceEq, Int.reduceBEq, Int.reduceLT, Int.reduceLE, Int.reduceAdd, Int.reduceToNat, reduceIte, reduceCtorEq, CSuite.v, CSuite.cells, hst, ew, h1, h2] | (refine hK _ ?_; clear hK; clear K') | refine And.intro ?_ ?_ | (apply awCs_A; (focus (first | exact (h_ref08_Strength _).b | exact (h_ref02_Find _).b))) | (simp only [List.length_append, List.length_cons, List.length_nil, List.length_map, Nat.reducePow, Nat.reduceAdd]; omega) | omega | exact List.mem_singleton_self _)
        all_goals ((try simp only [Bool.and_self, Bool.and_true, Bool.and_false, Bool.false_and, Bool.true_and]); refine ends_r _ rfl ?_; simp only [go_sem, Nat.reduceEqDiff, Nat.reduceAdd, reduceIte, reduceCtorEq])
    · have e : namedR [118, 52] s = (decide (s.lo ≤ 4) && decide (4 ≤ s.hi)) := rfl
      have ew : IntKind.i64.wrap (IntKind.u8.wrap (((UInt8.toNat 52 : Nat) : Int) - 48)) = 4 := rfl
      rw [e]
      rcases h1 : decide (s.lo ≤ 4) with _ | _ <;> rcases h2 : decide (4 ≤ s.hi) with _ | _
      all_goals
        repeat' (first | refine awp_seqR fun K' hK => ?_ | refine awp_regR fun K' hK => ?_ | refine awp_seqK ?_ | refine awp_skip ?_ | refine awp_block ?_ | ((first | refine awp_cond ⟨_, rfl, fun hc => ?_, fun hc => ?_⟩ | refine awB_t (fun hc => ?_) (fun hc => ?_) | refine awB_f (fun hc => ?_) (fun hc => ?_)) <;> first | exact Bool.noConfusion hc | ((try simp only [decide_eq_true_eq, decide_eq_false_iff_not, beq_iff_eq, beq_eq_false_iff_ne, ne_eq, Bool.not_eq_true', Bool.not_eq_false'] at hc); first | (exfalso; simp only [List.length_map] at hc; omega) | (exfalso; omega) | skip)) | refine awp_ret ?_ | refine awp_exit ?_ | simp (maxSteps := 1000000) only [go_sem, Nat.reduceAdd, Nat.reduceMul, Nat.reduceEqDiff, Nat.reduceLeDiff, Nat.reduceLT, Nat.reduceSub, Int.reduceEq, Int.reduceBEq, Int.reduceLT, Int.reduceLE, Int.reduceAdd, Int.reduceToNat, reduceIte, reduceCtorEq, CSuite.v, CSuite.cells, hst, ew, h1, h2] | (refine hK _ ?_; clear hK; clear K') | refine And.intro ?_ ?_ | (apply awCs_A; (focus (first | exact (h_ref08_Strength _).b | exact (h_ref02_Find _).b))) | (simp only [List.length_append, List.length_cons, List.length_nil, List.length_map, Nat.reducePow, Nat.reduceAdd]; omega) | omega | exact List.mem_singleton_self _)
        all_goals ((try simp only [Bool.and_self, Bool.and_true, Bool.and_false, Bool.false_and, Bool.true_and]); refine ends_r _ rfl ?_; simp only [go_sem, Nat.reduceEqDiff, Nat.reduceAdd, reduceIte, reduceCtorEq])
  · have e : namedR n s = ((decide (findR n 0 rowsL > 0) && (s.kx1 == findR n 0 rowsL || s.sg1 == findR n 0 rowsL || s.ci1 == findR n 0 rowsL || s.mc1 == findR n 0 rowsL)) || s.name == n) := by rw [namedR, groupS_out _ _ _ hg]
    rw [e]
    simp only [groupsS, List.mem_cons, List.not_mem_nil, or_false, not_or] at hg
    obtain ⟨h1, h2, h3, h4, h5, h6, h7, h8⟩ := hg
    have g1 := beq_eq_false_iff_ne.2 h1
    have g2 := beq_eq_false_iff_ne.2 h2
    have g3 := beq_eq_false_iff_ne.2 h3
    have g4 := beq_eq_false_iff_ne.2 h4
    have g5 := beq_eq_false_iff_ne.2 h5
    have g6 := beq_eq_false_iff_ne.2 h6
    have g7 := beq_eq_false_iff_ne.2 h7
    have g8 := beq_eq_false_iff_ne.2 h8
    generalize hf : findR n 0 rowsL = a
    rcases k0 : decide (a > 0) with _ | _
    · repeat' (first | refine awp_seqR fun K' hK => ?_ | refine awp_regR fun K' hK => ?_ | refine awp_seqK ?_ | refine awp_skip ?_ | refine awp_block ?_ | ((first | refine awp_cond ⟨_, rfl, fun hc => ?_, fun hc => ?_⟩ | refine awB_t (fun hc => ?_) (fun hc => ?_) | refine awB_f (fun hc => ?_) (fun hc => ?_)) <;> first | exact Bool.noConfusion hc | ((try simp only [decide_eq_true_eq, decide_eq_false_iff_not, beq_iff_eq, beq_eq_false_iff_ne, ne_eq, Bool.not_eq_true', Bool.not_eq_false'] at hc); first | (exfalso; simp only [List.length_map] at hc; omega) | (exfalso; omega) | skip)) | refine awp_ret ?_ | refine awp_exit ?_ | simp (maxSteps := 1000000) only [go_sem, Nat.reduceAdd, Nat.reduceMul, Nat.reduceEqDiff, Nat.reduceLeDiff, Nat.reduceLT, Nat.reduceSub, Int.reduceEq, Int.reduceBEq, Int.reduceLT, Int.reduceLE, Int.reduceAdd, Int.reduceToNat, reduceIte, reduceCtorEq, CSuite.v, CSuite.cells, hst, hf, k0, g1, g2, g3, g4, g5, g6, g7, g8] | (refine hK _ ?_; clear hK; clear K') | refine And.intro ?_ ?_ | (apply awCs_A; (focus (first | exact (h_ref08_Strength _).b | exact (h_ref02_Find _).b))) | (simp only [List.length_append, List.length_cons, List.length_nil, List.length_map, Nat.reducePow, Nat.reduceAdd]; omega) | omega | exact List.mem_singleton_self _)
      all_goals ((try simp only [Bool.false_and, Bool.false_or]); refine ends_r _ rfl ?_; simp only [go_sem, Nat.reduceEqDiff, Nat.reduceAdd, reduceIte, reduceCtorEq])
    · rcases k1 : s.kx1 == a with _ | _ <;> rcases k2 : s.sg1 == a with _ | _ <;> rcases k3 : s.ci1 == a with _ | _ <;> rcases k4 : s.mc1 == a with _ | _
      all_goals
        repeat' (first | refine awp_seqR fun K' hK => ?_ | refine awp_regR fun K' hK => ?_ | refine awp_seqK ?_ | refine awp_skip ?_ | refine awp_block ?_ | ((first | refine awp_cond ⟨_, rfl, fun hc => ?_, fun hc => ?_⟩ | refine awB_t (fun hc => ?_) (fun hc => ?_) | refine awB_f (fun hc => ?_) (fun hc => ?_)) <;> first | exact Bool.noConfusion hc | ((try simp only [decide_eq_true_eq, decide_eq_false_iff_not, beq_iff_eq, beq_eq_false_iff_ne, ne_eq, Bool.not_eq_true', Bool.not_eq_false'] at hc); first | (exfalso; simp only [List.length_map] at hc; omega) | (exfalso; omega) | skip)) | refine awp_ret ?_ | refine awp_exit ?_ | simp (maxSteps := 1000000) only [go_sem, Nat.reduceAdd, Nat.reduceMul, Nat.reduceEqDiff, Nat.reduceLeDiff, Nat.reduceLT, Nat.reduceSub, Int.reduceEq, Int.reduceBEq, Int.reduceLT, Int.reduceLE, Int.reduceAdd, Int.reduceToNat, reduceIte, reduceCtorEq, CSuite.v, CSuite.cells, hst, hf, k0, k1, k2, k3, k4, g1, g2, g3, g4, g5, g6, g7, g8] | (refine hK _ ?_; clear hK; clear K') | refine And.intro ?_ ?_ | (apply awCs_A; (focus (first | exact (h_ref08_Strength _).b | exact (h_ref02_Find _).b))) | (simp only [List.length_append, List.length_cons, List.length_nil, List.length_map, Nat.reducePow, Nat.reduceAdd]; omega) | omega | exact List.mem_singleton_self _)
        all_goals first | ((try simp only [Bool.and_self, Bool.and_true, Bool.and_false, Bool.false_and, Bool.true_and, Bool.or_self, Bool.or_true, Bool.or_false, Bool.false_or, Bool.true_or]); refine ends_r _ rfl ?_; simp only [go_sem, Nat.reduceEqDiff, Nat.reduceAdd, reduceIte, reduceCtorEq]; done) | trace_state
end Av
end
section
set_option linter.unusedSimpArgs false
set_option linter.unusedVariables false
set_option maxRecDepth 10000
set_option maxHeartbeats 4000000
namespace Av
open Go
attribute [local irreducible] AWp runO runP runG awS awC awCv awQ awRd awCallR awCvR awQR awR awRdR awB okR plan ris
theorem idxF_get {α : Type} (p : α → Bool) : ∀ (l : List α) (k : Nat), 0 ≤ idxF p k l → ∃ j x, l[j]? = some x ∧ p x = true ∧ idxF p k l = ((k + j : Nat) : Int)
  | [], k, h => by simp [idxF] at h
  | x :: r, k, h => by
    by_cases hx : p x = true
    · exact ⟨0, x, rfl, hx, by simp [idxF, hx]⟩
    · have e : idxF p k (x :: r) = idxF p (k + 1) r := by simp [idxF, hx]
      rw [e] at h ⊢
      obtain ⟨j, y, h1, h2, h3⟩ := idxF_get p r (k + 1) h
      exact ⟨j + 1, y, by simpa using h1, h2, by rw [h3]; congr 1; omega⟩
theorem find0_iff (x : Int) : ∀ (l : List Int) (k : Nat), 0 ≤ find0 x k l ↔ x ∈ l
  | [], k => by simp [find0]
  | y :: r, k => by
    by_cases hy : y = x
    · subst hy; simp [find0]
    · have := find0_iff x r (k + 1)
      have e : find0 x k (y :: r) = find0 x (k + 1) r := by rw [find0, if_neg (fun h => hy h.symm)]
      rw [e, this, List.mem_cons]
      exact ⟨Or.inr, fun h => h.elim (fun h => absurd h.symm hy) id⟩
theorem code_name : ∀ s ∈ suitesL, codeN s.name = s.code := by decide
theorem sufS_cipher : ∀ s ∈ suitesL, sufS s.code = strengthS s.ci1 s.ci2 := by decide
theorem codeN_name {s : CSuite} (hs : s ∈ suitesL) (n : List UInt8) : (decide (codeN n > 0) && s.code == codeN n) = (s.name == n) := by
  by_cases h : s.name = n
  · subst h
    have h1 := code_name s hs
    obtain ⟨k, hk, hg⟩ := List.getElem_of_mem hs
    have h2 := codes_ok k hk s (by rw [List.getElem?_eq_getElem hk, hg])
    have h3 : codeN s.name > 0 := by rw [h1, h2]; omega
    simp [h3, h1]; omega
  · have e : (s.name == n) = false := by simpa using h
    rw [e, Bool.and_eq_false_iff]
    by_cases h0 : codeN n > 0
    · right
      simp only [beq_eq_false_iff_ne, ne_eq]
      intro hc
      obtain ⟨j, x, h1, h2, h3⟩ := idxF_get (fun s : CSuite => s.name == n) suitesL 0 (by unfold codeN at h0; omega)
      obtain ⟨k, hk, hg⟩ := List.getElem_of_mem hs
      have h4 := codes_ok k hk s (by rw [List.getElem?_eq_getElem hk, hg])
      have hkj : k = j := by unfold codeN at hc; omega
      subst hkj
      rw [List.getElem?_eq_getElem hk, hg] at h1
      cases h1
      exact h (by simpa using h2)
    · left; simpa using h0
theorem group_some {n : List UInt8} (st lo hi : Int) (h : n ∈ groupsS) : ∃ b, groupS n st lo hi = some b := by
  simp only [groupsS, List.mem_cons, List.not_mem_nil, or_false] at h
  rcases h with rfl | rfl | rfl | rfl | rfl | rfl | rfl | rfl <;> exact ⟨_, rfl⟩
theorem named_known {n : List UInt8} {s : CSuite} : (namedP n s).2 = knownS n := by
  by_cases h : n ∈ groupsS
  · obtain ⟨b, hb⟩ := group_some (strengthS s.ci1 s.ci2) s.lo s.hi h
    rw [namedP, hb, knownS]; simp [h]
  · rw [namedP, groupS_out _ _ _ h, knownS]; simp [h]
theorem named_same {s : CSuite} (hs : s ∈ suitesL) (n : List UInt8) : namedR n s = (namedP n s).1 := by
  have h1 := sufS_cipher s hs
  have h2 := codeN_name hs n
  have h3 : decide (find0 (findR n 0 rowsL) 0 [s.kx1, s.sg1, s.ci1, s.mc1] ≥ 0) = (s.kx1 == findR n 0 rowsL || s.sg1 == findR n 0 rowsL || s.ci1 == findR n 0 rowsL || s.mc1 == findR n 0 rowsL) := by
    rw [Bool.eq_iff_iff]
    simp only [decide_eq_true_eq, ge_iff_le, find0_iff, List.mem_cons, List.not_mem_nil, or_false, Bool.or_eq_true, beq_iff_eq]
    constructor
    · rintro (h | h | h | h) <;> simp [h]
    · rintro (((h | h) | h) | h) <;> simp [h]
  rw [namedR, namedP, h1]
  cases groupS n (strengthS s.ci1 s.ci2) s.lo s.hi with
  | some b => rfl
  | none => simp only [h2, h3]
end Av
end
section
set_option linter.unusedSimpArgs false
set_option linter.unusedVariables false
set_option maxRecDepth 10000
set_option maxHeartbeats 4000000
namespace Av
open Go
attribute [local irreducible] AWp runO runP runG awS awC awCv awQ awRd awCallR awCvR awQR awR awRdR awB okR plan ris
def splitA (c : UInt8) : List UInt8 → List UInt8 → List (List UInt8)
  | cur, [] => [cur]
  | cur, x :: r => if x = c then cur :: splitA c [] r else splitA c (cur ++ [x]) r
def splitL (c : UInt8) (s : List UInt8) : List (List UInt8) := splitA c [] s
theorem splitA_ne (c : UInt8) : ∀ (r cur : List UInt8), splitA c cur r ≠ []
  | [], cur => by simp [splitA]
  | x :: r, cur => by
    rw [splitA]; split
    · simp
    · exact splitA_ne c r _
def c_ref08_split : AC := seqK [0, 1] (.reg [xo 4 (.mknil 1)]) (seqK [0, 1, 5] (.reg [xo 5 (.mknil 1)]) (seqK [0, 1, 5, 6] (.reg [mc 6 (V.int 0)]) (seqK [5] (seqK [0, 1, 5, 6, 7] (.reg [mc 7 (V.int 0)]) (.block 0 (loopK [0, 1, 5, 6, 7] (seqK [0, 1, 5, 6, 7] (seqK [0, 1, 5, 6, 7, 11] (.reg [mv 8 7, mv 9 0, xo 10 (.lenS (.t 9)), bn 11 .leq 8 10]) (.cond (.t 11) (.skip) (.exit 0))) (seqK [0, 1, 5, 6, 7] (.block 1 (seqK [0, 1, 5, 6, 7, 24] (.reg [mv 14 7, mv 15 0, xo 16 (.lenS (.t 15)), bn 17 .eql 14 16, mv 18 17, mg 19 0 18 false, mg 20 7 18 false, xg 21 (.idxS (.t 19) (.t 20)) 18 false, mg 22 1 18 false, xg 23 (.bin .eql (.t 21) (.t 22)) 18 false, xo 24 (.pick (.t 18) (.c (V.bool true)) (.t 23))]) (.cond (.t 24) (seqK [0, 1, 5, 7] (.reg [mv 25 5, mv 26 0, mv 27 6, mv 28 7, xo 29 (.slstr (.t 26) (some (.t 27)) (some (.t 28))), xo 30 (.bslice 1 1 false [(.string ⟨#[]⟩)] [(0, (.t 29))]), xo 31 (.append 1 16 [(.string ⟨#[]⟩)] (.t 25) (.t 30)), mv 5 31]) (.reg [mv 32 7, bc 33 .add 32 (V.int 1), mv 6 33])) (.skip)))) (.reg [mv 12 7, bc 13 .add 12 (V.int 1), mv 7 13])))))) (seqK [4] (.reg [mv 34 5, mv 4 34]) (.ret))))) def r_ref08_split : List ARes := [.tmp 4]
def CE_ref08_split (Γ : Env) (f : Nat) : Prop := ∀ (s : List UInt8) (c : UInt8) (hs : s.length < 2 ^ 34), EvC Γ f [V.str s, .sc (.int .u8 c.toNat)] (.sl 1 ((splitL c s).map V.str))
theorem ev_ref08_split {Γ : Env} {f : Nat} (h : Has Γ.P f 35 c_ref08_split r_ref08_split)  : CE_ref08_split Γ f := by
  intro s c hs
  refine evC_of_body h (by simp) (by simp only [V.closed]) fun C hC hm => ?_
  subst hC
  unfold c_ref08_split
  repeat' (first | refine awp_seqR fun K' hK => ?_ | refine awp_regR fun K' hK => ?_ | refine awp_seqK ?_ | refine awp_skip ?_ | refine awp_block ?_ | ((first | refine awp_cond ⟨_, rfl, fun hc => ?_, fun hc => ?_⟩ | refine awB_t (fun hc => ?_) (fun hc => ?_) | refine awB_f (fun hc => ?_) (fun hc => ?_)) <;> first | exact Bool.noConfusion hc | ((try simp only [decide_eq_true_eq, decide_eq_false_iff_not, beq_iff_eq, beq_eq_false_iff_ne, ne_eq, Bool.not_eq_true', Bool.not_eq_false'] at hc); first | (exfalso; simp only [List.length_map] at hc; omega) | (exfalso; omega) | skip)) | refine awp_ret ?_ | refine awp_exit ?_ | simp (maxSteps := 1000000) only [go_sem, Nat.reduceAdd, Nat.reduceMul, Nat.reduceEqDiff, Nat.reduceLeDiff, Nat.reduceLT, Nat.reduceSub, Int.reduceEq, Int.reduceBEq, Int.reduceLT, Int.reduceLE, Int.reduceAdd, Int.reduceToNat, reduceIte, reduceCtorEq] | (refine hK _ ?_; clear hK; clear K') | refine And.intro ?_ ?_ | (simp only [List.length_append, List.length_cons, List.length_nil, List.length_map, Nat.reducePow, Nat.reduceAdd]; omega) | omega | exact List.mem_singleton_self _)
  refine awp_loopV (ι := Nat × Nat × List (List UInt8)) (fun p => p.1 ≤ s.length + 1 ∧ p.2.1 ≤ p.1 ∧ p.2.2.length ≤ p.1 ∧ (p.1 ≤ s.length → p.2.2 ++ splitA c ((s.take p.1).drop p.2.1) (s.drop p.1) = splitL c s) ∧ (p.1 = s.length + 1 → p.2.2 = splitL c s))
    (fun p => mkSt [(0, V.str s), (1, .sc (.int .u8 c.toNat)), (5, .hd 0 0 p.2.2.length), (6, V.int p.2.1), (7, V.int p.1)] [(0, .buf true 1 (p.2.2.map V.str))] 1) (fun p => s.length + 2 - p.1) (0, 0, []) ⟨by simp, by simp, by simp, fun _ => by simp [splitL], fun h => by simp at h⟩ (lookN [(0, 1000)]) (weak_g [(0, 1000)] (by simp only [go_sem, Nat.reduceAdd, Nat.reduceMul, Nat.reduceEqDiff, Nat.reduceLT, Int.reduceToNat, reduceIte, reduceCtorEq, and_true, true_and, implies_true, Option.some.injEq, exists_eq_left', closedL_ren, closed_ren]; (repeat' (first | rfl | refine And.intro ?_ ?_ | omega | exact fun h => h | exact Exists.intro _ rfl))) (by simp only [go_sem, Nat.reduceAdd, Nat.reduceMul, Nat.reduceEqDiff, Nat.reduceLT, Int.reduceToNat, reduceIte, reduceCtorEq, and_true, true_and, implies_true, Option.some.injEq, exists_eq_left', closedL_ren, closed_ren]; (repeat' (first | rfl | refine And.intro ?_ ?_ | omega | exact fun h => h | exact Exists.intro _ rfl))) (by simp) (by simp; omega) (by omega)) fun p hp K' hL => ?_
  obtain ⟨k, fr, out⟩ := p
  obtain ⟨h1, h2, h3, h4, h5⟩ := hp
  simp only at h1 h2 h3 h4 h5
  by_cases hk : k ≤ s.length
  · have e1 : decide ((k : Int) ≤ s.length) = true := by simp; omega
    have hw : IntKind.i64.wrap ((k : Int) + 1) = ((k + 1 : Nat) : Int) := by rw [wrap_id (by omega) (by omega)]; rfl
    have hcur : List.take (k - fr) (List.drop fr s) = (s.take k).drop fr := by rw [List.drop_take]
    have hb : List.take out.length (List.map V.str out) ++ [V.sc (Value.string ⟨((s.take k).drop fr).toArray⟩)] = (out ++ [(s.take k).drop fr]).map V.str := by
      rw [List.take_of_length_le (by simp), List.map_append]; rfl
    have hlen : out.length + 1 = (out ++ [(s.take k).drop fr]).length := by simp
    by_cases hkl : k = s.length
    · have e2 : ((k : Int) == s.length) = true := by simp; omega
      have hfin : out ++ [(s.take k).drop fr] = splitL c s := by
        have hdr : s.drop k = [] := List.drop_eq_nil_of_le (by omega)
        rw [← h4 hk, hdr, splitA]
      repeat' (first | refine awp_seqR fun K' hK => ?_ | refine awp_regR fun K' hK => ?_ | refine awp_seqK ?_ | refine awp_skip ?_ | refine awp_block ?_ | ((first | refine awp_cond ⟨_, rfl, fun hc => ?_, fun hc => ?_⟩ | refine awB_t (fun hc => ?_) (fun hc => ?_) | refine awB_f (fun hc => ?_) (fun hc => ?_)) <;> first | exact Bool.noConfusion hc | ((try simp only [decide_eq_true_eq, decide_eq_false_iff_not, beq_iff_eq, beq_eq_false_iff_ne, ne_eq, Bool.not_eq_true', Bool.not_eq_false'] at hc); first | (exfalso; simp only [List.length_map] at hc; omega) | (exfalso; omega) | skip)) | refine awp_ret ?_ | refine awp_exit ?_ | simp (maxSteps := 1000000) only [go_sem, Nat.reduceAdd, Nat.reduceMul, Nat.reduceEqDiff, Nat.reduceLeDiff, Nat.reduceLT, Nat.reduceSub, Int.reduceEq, Int.reduceBEq, Int.reduceLT, Int.reduceLE, Int.reduceAdd, Int.reduceToNat, reduceIte, reduceCtorEq, mkSt, e1, e2, hw] | (refine hK _ ?_; clear hK; clear K') | refine And.intro ?_ ?_ | (simp only [List.length_append, List.length_cons, List.length_nil, List.length_map, Nat.reducePow, Nat.reduceAdd]; omega) | omega | exact List.mem_singleton_self _)
      all_goals
        rw [hcur, hb, hlen]
        exact hL _ (k + 1, k + 1, out ++ [(s.take k).drop fr]) (lookN [(0, 21001)]) ⟨by simp only; omega, by simp, by simp; omega, fun h => by simp only at h; omega, fun _ => hfin⟩ (by simp only; omega) (weak_g [(0, 21001)] (by simp only [go_sem, Nat.reduceAdd, Nat.reduceMul, Nat.reduceEqDiff, Nat.reduceLT, Int.reduceToNat, reduceIte, reduceCtorEq, and_true, true_and, implies_true, Option.some.injEq, exists_eq_left', closedL_ren, closed_ren]; (repeat' (first | rfl | refine And.intro ?_ ?_ | omega | exact fun h => h | exact Exists.intro _ rfl))) (by simp only [go_sem, Nat.reduceAdd, Nat.reduceMul, Nat.reduceEqDiff, Nat.reduceLT, Int.reduceToNat, reduceIte, reduceCtorEq, and_true, true_and, implies_true, Option.some.injEq, exists_eq_left', closedL_ren, closed_ren]; (repeat' (first | rfl | refine And.intro ?_ ?_ | omega | exact fun h => h | exact Exists.intro _ rfl))) (by simp) (by simp; omega) (by omega))
    · have e2 : ((k : Int) == s.length) = false := by simp; omega
      obtain ⟨x, hx⟩ : ∃ x, s[k]? = some x := ⟨s[k]'(by omega), List.getElem?_eq_getElem (by omega)⟩
      have hd : s.drop k = x :: s.drop (k + 1) := by
        rw [List.drop_eq_getElem_cons (by omega)]; congr 1
        rw [List.getElem?_eq_getElem (by omega)] at hx; exact Option.some.inj hx
      have ht : (s.take (k + 1)).drop fr = (s.take k).drop fr ++ [x] := by
        rw [List.take_add_one, hx, List.drop_append_of_le_length (by simp; omega)]; rfl
      have h4' := h4 hk
      rw [hd, splitA] at h4'
      by_cases hxc : x = c
      · have e3 : ((x.toNat : Int) == (c.toNat : Int)) = true := by simp [hxc]
        rw [if_pos hxc] at h4'
        have hz : (s.take (k + 1)).drop (k + 1) = [] := List.drop_eq_nil_of_le (by simp; omega)
        repeat' (first | refine awp_seqR fun K' hK => ?_ | refine awp_regR fun K' hK => ?_ | refine awp_seqK ?_ | refine awp_skip ?_ | refine awp_block ?_ | ((first | refine awp_cond ⟨_, rfl, fun hc => ?_, fun hc => ?_⟩ | refine awB_t (fun hc => ?_) (fun hc => ?_) | refine awB_f (fun hc => ?_) (fun hc => ?_)) <;> first | exact Bool.noConfusion hc | ((try simp only [decide_eq_true_eq, decide_eq_false_iff_not, beq_iff_eq, beq_eq_false_iff_ne, ne_eq, Bool.not_eq_true', Bool.not_eq_false'] at hc); first | (exfalso; simp only [List.length_map] at hc; omega) | (exfalso; omega) | skip)) | refine awp_ret ?_ | refine awp_exit ?_ | simp (maxSteps := 1000000) only [go_sem, Nat.reduceAdd, Nat.reduceMul, Nat.reduceEqDiff, Nat.reduceLeDiff, Nat.reduceLT, Nat.reduceSub, Int.reduceEq, Int.reduceBEq, Int.reduceLT, Int.reduceLE, Int.reduceAdd, Int.reduceToNat, reduceIte, reduceCtorEq, mkSt, e1, e2, hw, hx, e3, Int.toNat_natCast] | (refine hK _ ?_; clear hK; clear K') | refine And.intro ?_ ?_ | (simp only [List.length_append, List.length_cons, List.length_nil, List.length_map, Nat.reducePow, Nat.reduceAdd]; omega) | omega | exact List.mem_singleton_self _)
        all_goals
          rw [hcur, hb, hlen]
          exact hL _ (k + 1, k + 1, out ++ [(s.take k).drop fr]) (lookN [(0, 21001)]) ⟨by simp only; omega, by simp, by simp; omega, fun h => by simp only; rw [hz, List.append_assoc]; exact h4', fun h => by simp only at h; omega⟩ (by simp only; omega) (weak_g [(0, 21001)] (by simp only [go_sem, Nat.reduceAdd, Nat.reduceMul, Nat.reduceEqDiff, Nat.reduceLT, Int.reduceToNat, reduceIte, reduceCtorEq, and_true, true_and, implies_true, Option.some.injEq, exists_eq_left', closedL_ren, closed_ren]; (repeat' (first | rfl | refine And.intro ?_ ?_ | omega | exact fun h => h | exact Exists.intro _ rfl))) (by simp only [go_sem, Nat.reduceAdd, Nat.reduceMul, Nat.reduceEqDiff, Nat.reduceLT, Int.reduceToNat, reduceIte, reduceCtorEq, and_true, true_and, implies_true, Option.some.injEq, exists_eq_left', closedL_ren, closed_ren]; (repeat' (first | rfl | refine And.intro ?_ ?_ | omega | exact fun h => h | exact Exists.intro _ rfl))) (by simp) (by simp; omega) (by omega))
      · have e3 : ((x.toNat : Int) == (c.toNat : Int)) = false := by
          simp only [beq_eq_false_iff_ne, ne_eq]; intro h; exact hxc (UInt8.toNat_inj.1 (by omega))
        rw [if_neg hxc] at h4'
        repeat' (first | refine awp_seqR fun K' hK => ?_ | refine awp_regR fun K' hK => ?_ | refine awp_seqK ?_ | refine awp_skip ?_ | refine awp_block ?_ | ((first | refine awp_cond ⟨_, rfl, fun hc => ?_, fun hc => ?_⟩ | refine awB_t (fun hc => ?_) (fun hc => ?_) | refine awB_f (fun hc => ?_) (fun hc => ?_)) <;> first | exact Bool.noConfusion hc | ((try simp only [decide_eq_true_eq, decide_eq_false_iff_not, beq_iff_eq, beq_eq_false_iff_ne, ne_eq, Bool.not_eq_true', Bool.not_eq_false'] at hc); first | (exfalso; simp only [List.length_map] at hc; omega) | (exfalso; omega) | skip)) | refine awp_ret ?_ | refine awp_exit ?_ | simp (maxSteps := 1000000) only [go_sem, Nat.reduceAdd, Nat.reduceMul, Nat.reduceEqDiff, Nat.reduceLeDiff, Nat.reduceLT, Nat.reduceSub, Int.reduceEq, Int.reduceBEq, Int.reduceLT, Int.reduceLE, Int.reduceAdd, Int.reduceToNat, reduceIte, reduceCtorEq, mkSt, e1, e2, hw, hx, e3, Int.toNat_natCast] | (refine hK _ ?_; clear hK; clear K') | refine And.intro ?_ ?_ | (simp only [List.length_append, List.length_cons, List.length_nil, List.length_map, Nat.reducePow, Nat.reduceAdd]; omega) | omega | exact List.mem_singleton_self _)
        all_goals
          exact hL _ (k + 1, fr, out) (lookN []) ⟨by simp only; omega, by simp only; omega, by simp only; omega, fun h => by simp only; rw [ht]; exact h4', fun h => by simp only at h; omega⟩ (by simp only; omega) (weak_g [] (by simp only [go_sem, Nat.reduceAdd, Nat.reduceMul, Nat.reduceEqDiff, Nat.reduceLT, Int.reduceToNat, reduceIte, reduceCtorEq, and_true, true_and, implies_true, Option.some.injEq, exists_eq_left', closedL_ren, closed_ren]; (repeat' (first | rfl | refine And.intro ?_ ?_ | omega | exact fun h => h | exact Exists.intro _ rfl))) (by simp only [go_sem, Nat.reduceAdd, Nat.reduceMul, Nat.reduceEqDiff, Nat.reduceLT, Int.reduceToNat, reduceIte, reduceCtorEq, and_true, true_and, implies_true, Option.some.injEq, exists_eq_left', closedL_ren, closed_ren]; (repeat' (first | rfl | refine And.intro ?_ ?_ | omega | exact fun h => h | exact Exists.intro _ rfl))) (by simp) (by simp) (by omega))
  · have e1 : decide ((k : Int) ≤ s.length) = false := by simp; omega
    have hout := h5 (by omega)
    subst hout
    repeat' (first | refine awp_seqR fun K' hK => ?_ | refine awp_regR fun K' hK => ?_ | refine awp_seqK ?_ | refine awp_skip ?_ | refine awp_block ?_ | ((first | refine awp_cond ⟨_, rfl, fun hc => ?_, fun hc => ?_⟩ | refine awB_t (fun hc => ?_) (fun hc => ?_) | refine awB_f (fun hc => ?_) (fun hc => ?_)) <;> first | exact Bool.noConfusion hc | ((try simp only [decide_eq_true_eq, decide_eq_false_iff_not, beq_iff_eq, beq_eq_false_iff_ne, ne_eq, Bool.not_eq_true', Bool.not_eq_false'] at hc); first | (exfalso; simp only [List.length_map] at hc; omega) | (exfalso; omega) | skip)) | refine awp_ret ?_ | refine awp_exit ?_ | simp (maxSteps := 1000000) only [go_sem, Nat.reduceAdd, Nat.reduceMul, Nat.reduceEqDiff, Nat.reduceLeDiff, Nat.reduceLT, Nat.reduceSub, Int.reduceEq, Int.reduceBEq, Int.reduceLT, Int.reduceLE, Int.reduceAdd, Int.reduceToNat, reduceIte, reduceCtorEq, mkSt, e1] | (refine hK _ ?_; clear hK; clear K') | refine And.intro ?_ ?_ | (simp only [List.length_append, List.length_cons, List.length_nil, List.length_map, Nat.reducePow, Nat.reduceAdd]; omega) | omega | exact List.mem_singleton_self _)
    all_goals (refine ends_r _ rfl ?_; simp only [go_sem, Nat.reduceEqDiff, Nat.reduceAdd, reduceIte, reduceCtorEq]; rw [List.take_of_length_le (by simp)])
end Av
end
section
set_option linter.unusedSimpArgs false
set_option linter.unusedVariables false
set_option maxRecDepth 10000
set_option maxHeartbeats 4000000
namespace Av
open Go
attribute [local irreducible] AWp runO runP runG awS awC awCv awQ awRd awCallR awCvR awQR awR awRdR awB okR plan ris
theorem splitA_len (c : UInt8) : ∀ (r cur : List UInt8), (splitA c cur r).length ≤ r.length + 1
  | [], cur => by simp [splitA]
  | x :: r, cur => by
    rw [splitA]; split
    · have := splitA_len c r []; simp; omega
    · have := splitA_len c r (cur ++ [x]); simp; omega
theorem splitL_len (c : UInt8) (s : List UInt8) : (splitL c s).length ≤ s.length + 1 := splitA_len c s []
def inAll (L : List (List UInt8)) (x : CSuite) : Bool := L.all fun n => namedR n x
def codesIn (L : List (List UInt8)) (xs : List CSuite) : List Int := (xs.filter (inAll L)).map CSuite.code
theorem codesIn_succ (L : List (List UInt8)) (k : Nat) (x : CSuite) (h : suitesL[k]? = some x) : codesIn L (suitesL.take (k + 1)) = codesIn L (suitesL.take k) ++ (if inAll L x = true then [x.code] else []) := by
  rw [codesIn, codesIn, List.take_add_one, h, List.filter_append, List.map_append]
  congr 1
  by_cases hx : inAll L x = true <;> simp [hx]
def setS (s : List UInt8) : List Int × Bool := if (splitL 43 s).all knownS then (codesIn (splitL 43 s) suitesL, true) else ([], false)

-- REGION ref08_Set 0: 13 operations, 1 orders, L [], X false, ok true
def o_ref08_Set_0 (f_ref08_named : Nat) : List AO := [mv 38 9, mv 39 38, mg 40 4 39 true, mg 41 10 39 true, xg 42 (.iaddr 1 (.t 40) (.t 41)) 39 true, xg 43 (.load false 1 (.t 42)) 39 true, mg 44 6 39 true, mg 45 8 39 true, xg 46 (.iaddr 12 (.t 44) (.t 45)) 39 true, xg 47 (.load true 12 (.t 46)) 39 true, xg 48 (.call f_ref08_named [(.t 43), (.t 47)]) 39 true, xo 49 (.pick (.t 39) (.t 48) (.c (V.bool false))), mv 9 49]
def a_ref08_Set_0 : List (List Nat) := [[], [0], [1], [1], [2, 3, 1], [4, 1], [1], [1], [6, 7, 1], [8, 1], [5, 9, 1, 1], [1, 10], [11, 10, 0, 1, 2, 3, 4, 5, 6, 7, 8, 9, 10, 11]]
def t_ref08_Set_0 : OT := .one 0 (.one 1 (.one 2 (.one 3 (.one 4 (.one 5 (.one 6 (.one 7 (.one 8 (.one 9 (.one 10 (.one 11 (.one 12 (.done)))))))))))))
def p_ref08_Set_0 (f_ref08_named : Nat) : OP := .one 0 false [] (mv 38 9) (.one 1 false [] (mv 39 38) (.one 2 false [] (mg 40 4 39 true) (.one 3 false [] (mg 41 10 39 true) (.one 4 false [] (xg 42 (.iaddr 1 (.t 40) (.t 41)) 39 true) (.one 5 false [] (xg 43 (.load false 1 (.t 42)) 39 true) (.one 6 false [] (mg 44 6 39 true) (.one 7 false [] (mg 45 8 39 true) (.one 8 false [] (xg 46 (.iaddr 12 (.t 44) (.t 45)) 39 true) (.one 9 false [] (xg 47 (.load true 12 (.t 46)) 39 true) (.one 10 false [] (xg 48 (.call f_ref08_named [(.t 43), (.t 47)]) 39 true) (.one 11 false [10] (xo 49 (.pick (.t 39) (.t 48) (.c (V.bool false)))) (.one 12 false [10] (mv 9 49) (.done)))))))))))))
theorem k_ref08_Set_0 (f_ref08_named : Nat) : okR (o_ref08_Set_0 f_ref08_named) a_ref08_Set_0 [] t_ref08_Set_0 = true := by kernel_rfl
theorem q_ref08_Set_0 (f_ref08_named : Nat) : plan (ris (o_ref08_Set_0 f_ref08_named) a_ref08_Set_0 []) t_ref08_Set_0 = p_ref08_Set_0 f_ref08_named := by kernel_rfl def c_ref08_Set (f_ref08_split f_ref08_known f_ref02_Suites f_ref08_named : Nat) : AC := seqK [0] (.reg [xo 2 (.mknil 1), mc 3 (V.bool false)]) (seqK [4] (.reg [mv 11 0, xo 12 (.call f_ref08_split [(.t 11), (.c (.sc (.int .u8 43)))]), mv 4 12]) (seqK [4] (seqK [4, 5] (.reg [mc 5 (V.int 0)]) (.block 0 (loopK [4, 5] (seqK [4, 5] (seqK [4, 5, 16] (.reg [mv 13 5, mv 14 4, ln 15 14, bn 16 .lss 13 15]) (.cond (.t 16) (.skip) (.exit 0))) (seqK [4, 5] (.block 1 (seqK [4, 5, 24] (.reg [mv 19 4, mv 20 5, ia 21 1 19 20, ld 22 1 21, cl 23 f_ref08_known [22], xo 24 (.un .not (.t 23))]) (.cond (.t 24) (seqK [2, 3] (.reg [xo 2 (.mknil 1), mc 3 (V.bool false)]) (.ret)) (.skip)))) (.reg [mv 17 5, bc 18 .add 17 (V.int 1), mv 5 18])))))) (seqK [4, 6] (.reg [cl 25 f_ref02_Suites [], mv 6 25]) (seqK [4, 6, 7] (.reg [xo 7 (.mknil 1)]) (seqK [7] (seqK [4, 6, 7, 8] (.reg [mc 8 (V.int 0)]) (.block 2 (loopK [4, 6, 7, 8] (seqK [4, 6, 7, 8] (seqK [4, 6, 7, 8, 29] (.reg [mv 26 8, mv 27 6, ln 28 27, bn 29 .lss 26 28]) (.cond (.t 29) (.skip) (.exit 2))) (seqK [4, 6, 7, 8] (.block 3 (seqK [4, 6, 7, 8, 9] (.reg [mc 9 (V.bool true)]) (seqK [4, 6, 7, 8, 9] (seqK [4, 6, 7, 8, 9, 10] (.reg [mc 10 (V.int 0)]) (.block 4 (loopK [4, 6, 7, 8, 9, 10] (seqK [4, 6, 7, 8, 9, 10] (seqK [4, 6, 7, 8, 9, 10, 35] (.reg [mv 32 10, mv 33 4, ln 34 33, bn 35 .lss 32 34]) (.cond (.t 35) (.skip) (.exit 4))) (seqK [4, 6, 7, 8, 9, 10] (.block 5 (regK [] t_ref08_Set_0 (p_ref08_Set_0 f_ref08_named) (o_ref08_Set_0 f_ref08_named) a_ref08_Set_0)) (.reg [mv 36 10, bc 37 .add 36 (V.int 1), mv 10 37])))))) (seqK [4, 6, 7, 8, 50] (.reg [mv 50 9]) (.cond (.t 50) (.reg [mv 51 7, mv 52 6, mv 53 8, ia 54 12 52 53, fa 55 0 54, ld 56 1 55, xo 57 (.bslice 1 1 false [(.int .i64 0)] [(0, (.t 56))]), xo 58 (.append 1 8 [(.int .i64 0)] (.t 51) (.t 57)), mv 7 58]) (.skip)))))) (.reg [mv 30 8, bc 31 .add 30 (V.int 1), mv 8 31])))))) (seqK [2, 3] (.reg [mv 59 7, mv 2 59, mc 3 (V.bool true)]) (.ret))))))) def r_ref08_Set : List ARes := [.tmp 2, .tmp 3]
def CE_ref08_Set (Γ : Env) (f : Nat) : Prop := ∀ (s : List UInt8) (hs : s.length < 2 ^ 34), EvC Γ f [V.str s] (.tup [.sl 1 ((setS s).1.map V.int), V.bool (setS s).2])
theorem ev_ref08_Set {Γ : Env} {f f_ref08_split f_ref08_known f_ref02_Suites f_ref08_named : Nat} (h : Has Γ.P f 60 (c_ref08_Set f_ref08_split f_ref08_known f_ref02_Suites f_ref08_named) r_ref08_Set) (h_ref08_split : CE_ref08_split Γ f_ref08_split) (h_ref08_known : CE_ref08_known Γ f_ref08_known) (h_ref02_Suites : CE_ref02_Suites Γ f_ref02_Suites) (h_ref08_named : CE_ref08_named Γ f_ref08_named) : CE_ref08_Set Γ f := by
  intro s hs
  refine evC_of_body h (by simp) (by simp only [V.closed, closedL, and_self]) fun C hC hm => ?_
  subst hC
  unfold c_ref08_Set
  have hlen := splitL_len 43 s
  have hsp := (h_ref08_split s 43 hs).b
  have hset : setS s = if (splitL 43 s).all knownS then (codesIn (splitL 43 s) suitesL, true) else ([], false) := rfl
  rw [hset]
  generalize splitL 43 s = L at *
  have e43 : ((43 : UInt8).toNat : Int) = 43 := rfl
  rw [e43] at hsp
  repeat' (first | refine awp_seqR fun K' hK => ?_ | refine awp_regR fun K' hK => ?_ | refine awp_seqP 13 (fun _ => true) rfl (k_ref08_Set_0 _) (q_ref08_Set_0 _) fun K' hK => ?_ | refine awp_regP 13 (fun _ => true) rfl (k_ref08_Set_0 _) (q_ref08_Set_0 _) fun K' hK => ?_ | refine awp_seqK ?_ | refine awp_skip ?_ | refine awp_block ?_ | ((first | refine awp_cond ⟨_, rfl, fun hc => ?_, fun hc => ?_⟩ | refine awB_t (fun hc => ?_) (fun hc => ?_) | refine awB_f (fun hc => ?_) (fun hc => ?_)) <;> first | exact Bool.noConfusion hc | ((try simp only [decide_eq_true_eq, decide_eq_false_iff_not, beq_iff_eq, beq_eq_false_iff_ne, ne_eq, Bool.not_eq_true', Bool.not_eq_false'] at hc); first | (exfalso; simp only [List.length_map] at hc; omega) | (exfalso; omega) | skip)) | refine awp_ret ?_ | refine awp_exit ?_ | simp (maxSteps := 1000000) only [go_sem, Nat.reduceAdd, Nat.reduceMul, Nat.reduceEqDiff, Nat.reduceLeDiff, Nat.reduceLT, Nat.reduceSub, Int.reduceEq, Int.reduceBEq, Int.reduceLT, Int.reduceLE, Int.reduceAdd, Int.reduceToNat, reduceIte, reduceCtorEq, p_ref08_Set_0] | (refine hK _ ?_; clear hK; clear K') | refine And.intro ?_ ?_ | ((first | apply awCs_A | apply awCRs_A); (focus (first | exact hsp | exact (h_ref08_split _ _ (by first | assumption | omega | (simp; done))).b | exact (h_ref08_known _).b | exact EvC.b h_ref02_Suites | exact (h_ref08_named _ _).b))) | (simp only [List.length_append, List.length_cons, List.length_nil, List.length_map, Nat.reducePow, Nat.reduceAdd]; omega) | omega | exact List.mem_singleton_self _)
  refine awp_loopP (ι := Nat) (fun k => k ≤ L.length ∧ (L.drop k).all knownS = L.all knownS) (fun k => [(5, V.int k)]) (fun k => L.length - k) 0 (by omega) ⟨by simp, by simp⟩ (by repeat' first | exact ltO_none | refine ltO_upd (by omega) (by simp only [Ob.lt, ltL, V.lt, and_self, and_true]; try omega) ?_) (fun i hi => by simp only [ovT, lookD, Nat.reduceEqDiff, reduceIte]; (repeat' first | exact ltT_nil | refine ltT_cons ?_ ?_ | simp only [V.lt, ltL, and_self, and_true] | omega)) (by simp only [Nat.reduceAdd, ovT, lookD, Nat.reduceEqDiff, reduceIte, eqT_cons, eqT_nil, renI, u32, u33, u34, u35, u36, u37, u38, u39, and_self, and_true, true_and]; rfl) fun k hk K' hL => ?_
  obtain ⟨hk, hinv⟩ := hk
  simp only [ovT, lookD, Nat.reduceEqDiff, reduceIte]
  rcases hd : L.drop k with _ | ⟨y, r⟩
  · have := drop_nil hd
    rw [hd] at hinv
    have e1 : decide ((k : Int) < (((L.map V.str).length : Nat) : Int)) = false := by simp; omega
    have e2 : L.all knownS = true := by rw [← hinv]; rfl
    rw [e2]
    repeat' (first | refine awp_seqR fun K' hK => ?_ | refine awp_regR fun K' hK => ?_ | refine awp_seqP 13 (fun _ => true) rfl (k_ref08_Set_0 _) (q_ref08_Set_0 _) fun K' hK => ?_ | refine awp_regP 13 (fun _ => true) rfl (k_ref08_Set_0 _) (q_ref08_Set_0 _) fun K' hK => ?_ | refine awp_seqK ?_ | refine awp_skip ?_ | refine awp_block ?_ | ((first | refine awp_cond ⟨_, rfl, fun hc => ?_, fun hc => ?_⟩ | refine awB_t (fun hc => ?_) (fun hc => ?_) | refine awB_f (fun hc => ?_) (fun hc => ?_)) <;> first | exact Bool.noConfusion hc | ((try simp only [decide_eq_true_eq, decide_eq_false_iff_not, beq_iff_eq, beq_eq_false_iff_ne, ne_eq, Bool.not_eq_true', Bool.not_eq_false'] at hc); first | (exfalso; simp only [List.length_map] at hc; omega) | (exfalso; omega) | skip)) | refine awp_ret ?_ | refine awp_exit ?_ | simp (maxSteps := 1000000) only [go_sem, Nat.reduceAdd, Nat.reduceMul, Nat.reduceEqDiff, Nat.reduceLeDiff, Nat.reduceLT, Nat.reduceSub, Int.reduceEq, Int.reduceBEq, Int.reduceLT, Int.reduceLE, Int.reduceAdd, Int.reduceToNat, reduceIte, reduceCtorEq, e1, p_ref08_Set_0] | (refine hK _ ?_; clear hK; clear K') | refine And.intro ?_ ?_ | ((first | apply awCs_A | apply awCRs_A); (focus (first | exact (h_ref08_split _ _ (by first | assumption | omega | (simp; done))).b | exact (h_ref08_known _).b | exact EvC.b h_ref02_Suites | exact (h_ref08_named _ _).b))) | (simp only [List.length_append, List.length_cons, List.length_nil, List.length_map, Nat.reducePow, Nat.reduceAdd]; omega) | omega | exact List.mem_singleton_self _)
    refine awp_loopV (ι := Nat) (fun k => k ≤ 16) (fun k => mkSt [(4, .sl 1 (L.map V.str)), (6, .sl 12 (suitesL.map CSuite.v)), (7, .hd 0 0 (codesIn L (suitesL.take k)).length), (8, V.int k)] [(0, .buf true 1 ((codesIn L (suitesL.take k)).map V.int))] 1) (fun k => 17 - k) 0 (by omega) (lookN [(0, 12000)]) (weak_g [(0, 12000)] (by simp only [go_sem, Nat.reduceAdd, Nat.reduceMul, Nat.reduceEqDiff, Nat.reduceLT, Int.reduceToNat, reduceIte, reduceCtorEq, and_true, true_and, implies_true, Option.some.injEq, exists_eq_left', closedL_ren, closed_ren]; (repeat' (first | rfl | refine And.intro ?_ ?_ | omega | exact fun h => h | exact Exists.intro _ rfl))) (by simp only [go_sem, Nat.reduceAdd, Nat.reduceMul, Nat.reduceEqDiff, Nat.reduceLT, Int.reduceToNat, reduceIte, reduceCtorEq, and_true, true_and, implies_true, Option.some.injEq, exists_eq_left', closedL_ren, closed_ren]; (repeat' (first | rfl | refine And.intro ?_ ?_ | omega | exact fun h => h | exact Exists.intro _ rfl))) (by simp) (by simp; omega) (by omega)) fun k hk K' hL => ?_
    rcases hd : suitesL.drop k with _ | ⟨x, r⟩
    · have hk16 := drop_nil hd
      have e1 : decide ((k : Int) < (((suitesL.map CSuite.v).length : Nat) : Int)) = false := by simp; omega
      have e3 : suitesL.take k = suitesL := List.take_of_length_le hk16
      rw [e3]
      repeat' (first | refine awp_seqR fun K' hK => ?_ | refine awp_regR fun K' hK => ?_ | refine awp_seqP 13 (fun _ => true) rfl (k_ref08_Set_0 _) (q_ref08_Set_0 _) fun K' hK => ?_ | refine awp_regP 13 (fun _ => true) rfl (k_ref08_Set_0 _) (q_ref08_Set_0 _) fun K' hK => ?_ | refine awp_seqK ?_ | refine awp_skip ?_ | refine awp_block ?_ | ((first | refine awp_cond ⟨_, rfl, fun hc => ?_, fun hc => ?_⟩ | refine awB_t (fun hc => ?_) (fun hc => ?_) | refine awB_f (fun hc => ?_) (fun hc => ?_)) <;> first | exact Bool.noConfusion hc | ((try simp only [decide_eq_true_eq, decide_eq_false_iff_not, beq_iff_eq, beq_eq_false_iff_ne, ne_eq, Bool.not_eq_true', Bool.not_eq_false'] at hc); first | (exfalso; simp only [List.length_map] at hc; omega) | (exfalso; omega) | skip)) | refine awp_ret ?_ | refine awp_exit ?_ | simp (maxSteps := 1000000) only [go_sem, Nat.reduceAdd, Nat.reduceMul, Nat.reduceEqDiff, Nat.reduceLeDiff, Nat.reduceLT, Nat.reduceSub, Int.reduceEq, Int.reduceBEq, Int.reduceLT, Int.reduceLE, Int.reduceAdd, Int.reduceToNat, reduceIte, reduceCtorEq, mkSt, e1, p_ref08_Set_0] | (refine hK _ ?_; clear hK; clear K') | refine And.intro ?_ ?_ | ((first | apply awCs_A | apply awCRs_A); (focus (first | exact (h_ref08_split _ _ (by first | assumption | omega | (simp; done))).b | exact (h_ref08_known _).b | exact EvC.b h_ref02_Suites | exact (h_ref08_named _ _).b))) | (simp only [List.length_append, List.length_cons, List.length_nil, List.length_map, Nat.reducePow, Nat.reduceAdd]; omega) | omega | exact List.mem_singleton_self _)
      all_goals (refine ends_r _ rfl ?_; simp only [go_sem, Nat.reduceEqDiff, Nat.reduceAdd, reduceIte, reduceCtorEq]; rw [List.take_of_length_le (by simp)])
    · obtain ⟨hk', hget, hr⟩ := drop_cons hd
      rw [suites_len] at hk'
      have hw := wrap_succ (k := k) (by omega)
      have e1 : decide ((k : Int) < (((suitesL.map CSuite.v).length : Nat) : Int)) = true := by simp [suites_len]; omega
      have hcs := codesIn_succ L k x hget
      have hol : (codesIn L (suitesL.take k)).length ≤ 16 := by
        rw [codesIn, List.length_map]
        refine Nat.le_trans (List.length_filter_le _ _) ?_
        rw [List.length_take]; omega
      generalize codesIn L (suitesL.take k) = out at *
      repeat' (first | refine awp_seqR fun K' hK => ?_ | refine awp_regR fun K' hK => ?_ | refine awp_seqP 13 (fun _ => true) rfl (k_ref08_Set_0 _) (q_ref08_Set_0 _) fun K' hK => ?_ | refine awp_regP 13 (fun _ => true) rfl (k_ref08_Set_0 _) (q_ref08_Set_0 _) fun K' hK => ?_ | refine awp_seqK ?_ | refine awp_skip ?_ | refine awp_block ?_ | ((first | refine awp_cond ⟨_, rfl, fun hc => ?_, fun hc => ?_⟩ | refine awB_t (fun hc => ?_) (fun hc => ?_) | refine awB_f (fun hc => ?_) (fun hc => ?_)) <;> first | exact Bool.noConfusion hc | ((try simp only [decide_eq_true_eq, decide_eq_false_iff_not, beq_iff_eq, beq_eq_false_iff_ne, ne_eq, Bool.not_eq_true', Bool.not_eq_false'] at hc); first | (exfalso; simp only [List.length_map] at hc; omega) | (exfalso; omega) | skip)) | refine awp_ret ?_ | refine awp_exit ?_ | simp (maxSteps := 1000000) only [go_sem, Nat.reduceAdd, Nat.reduceMul, Nat.reduceEqDiff, Nat.reduceLeDiff, Nat.reduceLT, Nat.reduceSub, Int.reduceEq, Int.reduceBEq, Int.reduceLT, Int.reduceLE, Int.reduceAdd, Int.reduceToNat, reduceIte, reduceCtorEq, mkSt, e1, p_ref08_Set_0] | (refine hK _ ?_; clear hK; clear K') | refine And.intro ?_ ?_ | ((first | apply awCs_A | apply awCRs_A); (focus (first | exact (h_ref08_split _ _ (by first | assumption | omega | (simp; done))).b | exact (h_ref08_known _).b | exact EvC.b h_ref02_Suites | exact (h_ref08_named _ _).b))) | (simp only [List.length_append, List.length_cons, List.length_nil, List.length_map, Nat.reducePow, Nat.reduceAdd]; omega) | omega | exact List.mem_singleton_self _)
      refine awp_loopP (ι := Nat) (fun j => j ≤ L.length) (fun j => [(9, V.bool ((L.take j).all fun n => namedR n x)), (10, V.int j)]) (fun j => L.length - j) 0 (by omega) (by omega) (by repeat' first | exact ltO_none | refine ltO_upd (by omega) (by simp only [Ob.lt, ltL, V.lt, and_self, and_true]; try omega) ?_) (fun i hi => by simp only [ovT, lookD, Nat.reduceEqDiff, reduceIte]; (repeat' first | exact ltT_nil | refine ltT_cons ?_ ?_ | simp only [V.lt, ltL, and_self, and_true] | omega)) (by simp only [Nat.reduceAdd, ovT, lookD, Nat.reduceEqDiff, reduceIte, eqT_cons, eqT_nil, renI, u32, u33, u34, u35, u36, u37, u38, u39, and_self, and_true, true_and]; exact ⟨rfl, rfl⟩) fun j hj K'' hL2 => ?_
      simp only [ovT, lookD, Nat.reduceEqDiff, reduceIte]
      rcases hdj : L.drop j with _ | ⟨y, r2⟩
      · have hjl := drop_nil hdj
        have e2 : decide ((j : Int) < (((L.map V.str).length : Nat) : Int)) = false := by simp; omega
        have e3 : L.take j = L := List.take_of_length_le hjl
        rw [e3]
        rcases hin : inAll L x with _ | _
        · have hin2 : (L.all fun n => namedR n x) = false := hin
          rw [hin2]
          rw [hin] at hcs
          repeat' (first | refine awp_seqR fun K' hK => ?_ | refine awp_regR fun K' hK => ?_ | refine awp_seqP 13 (fun _ => true) rfl (k_ref08_Set_0 _) (q_ref08_Set_0 _) fun K' hK => ?_ | refine awp_regP 13 (fun _ => true) rfl (k_ref08_Set_0 _) (q_ref08_Set_0 _) fun K' hK => ?_ | refine awp_seqK ?_ | refine awp_skip ?_ | refine awp_block ?_ | ((first | refine awp_cond ⟨_, rfl, fun hc => ?_, fun hc => ?_⟩ | refine awB_t (fun hc => ?_) (fun hc => ?_) | refine awB_f (fun hc => ?_) (fun hc => ?_)) <;> first | exact Bool.noConfusion hc | ((try simp only [decide_eq_true_eq, decide_eq_false_iff_not, beq_iff_eq, beq_eq_false_iff_ne, ne_eq, Bool.not_eq_true', Bool.not_eq_false'] at hc); first | (exfalso; simp only [List.length_map] at hc; omega) | (exfalso; omega) | skip)) | refine awp_ret ?_ | refine awp_exit ?_ | simp (maxSteps := 1000000) only [go_sem, Nat.reduceAdd, Nat.reduceMul, Nat.reduceEqDiff, Nat.reduceLeDiff, Nat.reduceLT, Nat.reduceSub, Int.reduceEq, Int.reduceBEq, Int.reduceLT, Int.reduceLE, Int.reduceAdd, Int.reduceToNat, reduceIte, reduceCtorEq, e2, hw, p_ref08_Set_0] | (refine hK _ ?_; clear hK; clear K') | refine And.intro ?_ ?_ | ((first | apply awCs_A | apply awCRs_A); (focus (first | exact (h_ref08_split _ _ (by first | assumption | omega | (simp; done))).b | exact (h_ref08_known _).b | exact EvC.b h_ref02_Suites | exact (h_ref08_named _ _).b))) | (simp only [List.length_append, List.length_cons, List.length_nil, List.length_map, Nat.reducePow, Nat.reduceAdd]; omega) | omega | exact List.mem_singleton_self _)
          simp only [Bool.false_eq_true, if_false, List.append_nil] at hcs
          refine hL _ (k + 1) (lookN []) (by omega) (by omega) ?_
          rw [hcs]
          exact weak_g [] (by simp only [go_sem, Nat.reduceAdd, Nat.reduceMul, Nat.reduceEqDiff, Nat.reduceLT, Int.reduceToNat, reduceIte, reduceCtorEq, and_true, true_and, implies_true, Option.some.injEq, exists_eq_left', closedL_ren, closed_ren]; (repeat' (first | rfl | refine And.intro ?_ ?_ | omega | exact fun h => h | exact Exists.intro _ rfl))) (by simp only [go_sem, Nat.reduceAdd, Nat.reduceMul, Nat.reduceEqDiff, Nat.reduceLT, Int.reduceToNat, reduceIte, reduceCtorEq, and_true, true_and, implies_true, Option.some.injEq, exists_eq_left', closedL_ren, closed_ren]; (repeat' (first | rfl | refine And.intro ?_ ?_ | omega | exact fun h => h | exact Exists.intro _ rfl))) (by simp) (by simp) (by omega)
        · have hin2 : (L.all fun n => namedR n x) = true := hin
          rw [hin2]
          rw [hin] at hcs
          repeat' (first | refine awp_seqR fun K' hK => ?_ | refine awp_regR fun K' hK => ?_ | refine awp_seqP 13 (fun _ => true) rfl (k_ref08_Set_0 _) (q_ref08_Set_0 _) fun K' hK => ?_ | refine awp_regP 13 (fun _ => true) rfl (k_ref08_Set_0 _) (q_ref08_Set_0 _) fun K' hK => ?_ | refine awp_seqK ?_ | refine awp_skip ?_ | refine awp_block ?_ | ((first | refine awp_cond ⟨_, rfl, fun hc => ?_, fun hc => ?_⟩ | refine awB_t (fun hc => ?_) (fun hc => ?_) | refine awB_f (fun hc => ?_) (fun hc => ?_)) <;> first | exact Bool.noConfusion hc | ((try simp only [decide_eq_true_eq, decide_eq_false_iff_not, beq_iff_eq, beq_eq_false_iff_ne, ne_eq, Bool.not_eq_true', Bool.not_eq_false'] at hc); first | (exfalso; simp only [List.length_map] at hc; omega) | (exfalso; omega) | skip)) | refine awp_ret ?_ | refine awp_exit ?_ | simp (maxSteps := 1000000) only [go_sem, Nat.reduceAdd, Nat.reduceMul, Nat.reduceEqDiff, Nat.reduceLeDiff, Nat.reduceLT, Nat.reduceSub, Int.reduceEq, Int.reduceBEq, Int.reduceLT, Int.reduceLE, Int.reduceAdd, Int.reduceToNat, reduceIte, reduceCtorEq, e2, hw, Int.toNat_natCast, List.getElem?_map, hget, CSuite.v, CSuite.cells, p_ref08_Set_0] | (refine hK _ ?_; clear hK; clear K') | refine And.intro ?_ ?_ | ((first | apply awCs_A | apply awCRs_A); (focus (first | exact (h_ref08_split _ _ (by first | assumption | omega | (simp; done))).b | exact (h_ref08_known _).b | exact EvC.b h_ref02_Suites | exact (h_ref08_named _ _).b))) | (simp only [List.length_append, List.length_cons, List.length_nil, List.length_map, Nat.reducePow, Nat.reduceAdd]; omega) | omega | exact List.mem_singleton_self _)
          rw [if_pos rfl] at hcs
          have hb : List.take out.length (List.map V.int out) ++ [V.int x.code] = (out ++ [x.code]).map V.int := by
            rw [List.take_of_length_le (by simp), List.map_append]; rfl
          have hln : out.length + 1 = (out ++ [x.code]).length := by simp
          rw [hb, hln]
          refine hL _ (k + 1) (lookN [(0, 18001)]) (by omega) (by omega) ?_
          rw [hcs]
          exact weak_g [(0, 18001)] (by simp only [go_sem, Nat.reduceAdd, Nat.reduceMul, Nat.reduceEqDiff, Nat.reduceLT, Int.reduceToNat, reduceIte, reduceCtorEq, and_true, true_and, implies_true, Option.some.injEq, exists_eq_left', closedL_ren, closed_ren]; (repeat' (first | rfl | refine And.intro ?_ ?_ | omega | exact fun h => h | exact Exists.intro _ rfl))) (by simp only [go_sem, Nat.reduceAdd, Nat.reduceMul, Nat.reduceEqDiff, Nat.reduceLT, Int.reduceToNat, reduceIte, reduceCtorEq, and_true, true_and, implies_true, Option.some.injEq, exists_eq_left', closedL_ren, closed_ren]; (repeat' (first | rfl | refine And.intro ?_ ?_ | omega | exact fun h => h | exact Exists.intro _ rfl))) (by simp) (by simp; omega) (by omega)
      · obtain ⟨hj', hgj, hrj⟩ := drop_cons hdj
        have hwj := wrap_succ (k := j) (by omega)
        have e2 : decide ((j : Int) < (((L.map V.str).length : Nat) : Int)) = true := by simp; omega
        have hall : ((L.take (j + 1)).all fun n => namedR n x) = (((L.take j).all fun n => namedR n x) && namedR y x) := by
          rw [List.take_add_one, hgj]; simp
        rcases hb : ((L.take j).all fun n => namedR n x) with _ | _
        · rw [hb, Bool.false_and] at hall
          repeat' (first | refine awp_seqR fun K' hK => ?_ | refine awp_regR fun K' hK => ?_ | refine awp_seqP 13 (fun _ => true) rfl (k_ref08_Set_0 _) (q_ref08_Set_0 _) fun K' hK => ?_ | refine awp_regP 13 (fun _ => true) rfl (k_ref08_Set_0 _) (q_ref08_Set_0 _) fun K' hK => ?_ | refine awp_seqK ?_ | refine awp_skip ?_ | refine awp_block ?_ | ((first | refine awp_cond ⟨_, rfl, fun hc => ?_, fun hc => ?_⟩ | refine awB_t (fun hc => ?_) (fun hc => ?_) | refine awB_f (fun hc => ?_) (fun hc => ?_)) <;> first | exact Bool.noConfusion hc | ((try simp only [decide_eq_true_eq, decide_eq_false_iff_not, beq_iff_eq, beq_eq_false_iff_ne, ne_eq, Bool.not_eq_true', Bool.not_eq_false'] at hc); first | (exfalso; simp only [List.length_map] at hc; omega) | (exfalso; omega) | skip)) | refine awp_ret ?_ | refine awp_exit ?_ | simp (maxSteps := 1000000) only [go_sem, Nat.reduceAdd, Nat.reduceMul, Nat.reduceEqDiff, Nat.reduceLeDiff, Nat.reduceLT, Nat.reduceSub, Int.reduceEq, Int.reduceBEq, Int.reduceLT, Int.reduceLE, Int.reduceAdd, Int.reduceToNat, reduceIte, reduceCtorEq, e2, hwj, p_ref08_Set_0] | (refine hK _ ?_; clear hK; clear K') | refine And.intro ?_ ?_ | ((first | apply awCs_A | apply awCRs_A); (focus (first | exact (h_ref08_split _ _ (by first | assumption | omega | (simp; done))).b | exact (h_ref08_known _).b | exact EvC.b h_ref02_Suites | exact (h_ref08_named _ _).b))) | (simp only [List.length_append, List.length_cons, List.length_nil, List.length_map, Nat.reducePow, Nat.reduceAdd]; omega) | omega | exact List.mem_singleton_self _)
          all_goals exact hL2 _ (j + 1) (by rw [hall]; simp only [Nat.reduceAdd, ovT, lookD, Nat.reduceEqDiff, reduceIte, eqT_cons, eqT_nil, renI, u32, u33, u34, u35, u36, u37, u38, u39, and_self, and_true, true_and]) (by omega) (by omega) (fun a ha => by simp only [u32, u33, u34, u35, u36, u37, u38, u39]; repeat rw [if_neg (by omega)])
        · rw [hb, Bool.true_and] at hall
          repeat' (first | refine awp_seqR fun K' hK => ?_ | refine awp_regR fun K' hK => ?_ | refine awp_seqP 13 (fun _ => true) rfl (k_ref08_Set_0 _) (q_ref08_Set_0 _) fun K' hK => ?_ | refine awp_regP 13 (fun _ => true) rfl (k_ref08_Set_0 _) (q_ref08_Set_0 _) fun K' hK => ?_ | refine awp_seqK ?_ | refine awp_skip ?_ | refine awp_block ?_ | ((first | refine awp_cond ⟨_, rfl, fun hc => ?_, fun hc => ?_⟩ | refine awB_t (fun hc => ?_) (fun hc => ?_) | refine awB_f (fun hc => ?_) (fun hc => ?_)) <;> first | exact Bool.noConfusion hc | ((try simp only [decide_eq_true_eq, decide_eq_false_iff_not, beq_iff_eq, beq_eq_false_iff_ne, ne_eq, Bool.not_eq_true', Bool.not_eq_false'] at hc); first | (exfalso; simp only [List.length_map] at hc; omega) | (exfalso; omega) | skip)) | refine awp_ret ?_ | refine awp_exit ?_ | simp (maxSteps := 1000000) only [go_sem, Nat.reduceAdd, Nat.reduceMul, Nat.reduceEqDiff, Nat.reduceLeDiff, Nat.reduceLT, Nat.reduceSub, Int.reduceEq, Int.reduceBEq, Int.reduceLT, Int.reduceLE, Int.reduceAdd, Int.reduceToNat, reduceIte, reduceCtorEq, e2, hwj, Int.toNat_natCast, List.getElem?_map, hget, hgj, p_ref08_Set_0] | (refine hK _ ?_; clear hK; clear K') | refine And.intro ?_ ?_ | ((first | apply awCs_A | apply awCRs_A); (focus (first | exact (h_ref08_split _ _ (by first | assumption | omega | (simp; done))).b | exact (h_ref08_known _).b | exact EvC.b h_ref02_Suites | exact (h_ref08_named _ _).b))) | (simp only [List.length_append, List.length_cons, List.length_nil, List.length_map, Nat.reducePow, Nat.reduceAdd]; omega) | omega | exact List.mem_singleton_self _)
          · exact Nat.le_refl 12
          · exact hL2 _ (j + 1) (by rw [hall]; simp only [Nat.reduceAdd, ovT, lookD, Nat.reduceEqDiff, reduceIte, eqT_cons, eqT_nil, renI, u32, u33, u34, u35, u36, u37, u38, u39, and_self, and_true, true_and]) (by omega) (by omega) (fun a ha => by simp only [u32, u33, u34, u35, u36, u37, u38, u39]; repeat rw [if_neg (by omega)])
  · obtain ⟨hk', hget, hr⟩ := drop_cons hd
    rw [hd] at hinv
    have hw := wrap_succ (k := k) (by omega)
    have e1 : decide ((k : Int) < (((L.map V.str).length : Nat) : Int)) = true := by simp; omega
    rcases hy : knownS y with _ | _
    · have e2 : L.all knownS = false := by rw [← hinv]; simp [hy]
      rw [e2]
      repeat' (first | refine awp_seqR fun K' hK => ?_ | refine awp_regR fun K' hK => ?_ | refine awp_seqP 13 (fun _ => true) rfl (k_ref08_Set_0 _) (q_ref08_Set_0 _) fun K' hK => ?_ | refine awp_regP 13 (fun _ => true) rfl (k_ref08_Set_0 _) (q_ref08_Set_0 _) fun K' hK => ?_ | refine awp_seqK ?_ | refine awp_skip ?_ | refine awp_block ?_ | ((first | refine awp_cond ⟨_, rfl, fun hc => ?_, fun hc => ?_⟩ | refine awB_t (fun hc => ?_) (fun hc => ?_) | refine awB_f (fun hc => ?_) (fun hc => ?_)) <;> first | exact Bool.noConfusion hc | ((try simp only [decide_eq_true_eq, decide_eq_false_iff_not, beq_iff_eq, beq_eq_false_iff_ne, ne_eq, Bool.not_eq_true', Bool.not_eq_false'] at hc); first | (exfalso; simp only [List.length_map] at hc; omega) | (exfalso; omega) | skip)) | refine awp_ret ?_ | refine awp_exit ?_ | simp (maxSteps := 1000000) only [go_sem, Nat.reduceAdd, Nat.reduceMul, Nat.reduceEqDiff, Nat.reduceLeDiff, Nat.reduceLT, Nat.reduceSub, Int.reduceEq, Int.reduceBEq, Int.reduceLT, Int.reduceLE, Int.reduceAdd, Int.reduceToNat, reduceIte, reduceCtorEq, Int.toNat_natCast, List.getElem?_map, hget, hw, e1, hy, p_ref08_Set_0] | (refine hK _ ?_; clear hK; clear K') | refine And.intro ?_ ?_ | ((first | apply awCs_A | apply awCRs_A); (focus (first | exact (h_ref08_split _ _ (by first | assumption | omega | (simp; done))).b | exact (h_ref08_known _).b | exact EvC.b h_ref02_Suites | exact (h_ref08_named _ _).b))) | (simp only [List.length_append, List.length_cons, List.length_nil, List.length_map, Nat.reducePow, Nat.reduceAdd]; omega) | omega | exact List.mem_singleton_self _)
      all_goals (refine ends_r _ rfl ?_; simp only [go_sem, Nat.reduceEqDiff, Nat.reduceAdd, reduceIte, reduceCtorEq]; exact ⟨_, _, rfl⟩)
    · repeat' (first | refine awp_seqR fun K' hK => ?_ | refine awp_regR fun K' hK => ?_ | refine awp_seqP 13 (fun _ => true) rfl (k_ref08_Set_0 _) (q_ref08_Set_0 _) fun K' hK => ?_ | refine awp_regP 13 (fun _ => true) rfl (k_ref08_Set_0 _) (q_ref08_Set_0 _) fun K' hK => ?_ | refine awp_seqK ?_ | refine awp_skip ?_ | refine awp_block ?_ | ((first | refine awp_cond ⟨_, rfl, fun hc => ?_, fun hc => ?_⟩ | refine awB_t (fun hc => ?_) (fun hc => ?_) | refine awB_f (fun hc => ?_) (fun hc => ?_)) <;> first | exact Bool.noConfusion hc | ((try simp only [decide_eq_true_eq, decide_eq_false_iff_not, beq_iff_eq, beq_eq_false_iff_ne, ne_eq, Bool.not_eq_true', Bool.not_eq_false'] at hc); first | (exfalso; simp only [List.length_map] at hc; omega) | (exfalso; omega) | skip)) | refine awp_ret ?_ | refine awp_exit ?_ | simp (maxSteps := 1000000) only [go_sem, Nat.reduceAdd, Nat.reduceMul, Nat.reduceEqDiff, Nat.reduceLeDiff, Nat.reduceLT, Nat.reduceSub, Int.reduceEq, Int.reduceBEq, Int.reduceLT, Int.reduceLE, Int.reduceAdd, Int.reduceToNat, reduceIte, reduceCtorEq, Int.toNat_natCast, List.getElem?_map, hget, hw, e1, hy, p_ref08_Set_0] | (refine hK _ ?_; clear hK; clear K') | refine And.intro ?_ ?_ | ((first | apply awCs_A | apply awCRs_A); (focus (first | exact (h_ref08_split _ _ (by first | assumption | omega | (simp; done))).b | exact (h_ref08_known _).b | exact EvC.b h_ref02_Suites | exact (h_ref08_named _ _).b))) | (simp only [List.length_append, List.length_cons, List.length_nil, List.length_map, Nat.reducePow, Nat.reduceAdd]; omega) | omega | exact List.mem_singleton_self _)
      all_goals
        refine hL _ (k + 1) (by simp only [Nat.reduceAdd, ovT, lookD, Nat.reduceEqDiff, reduceIte, eqT_cons, eqT_nil, renI, u32, u33, u34, u35, u36, u37, u38, u39, and_self, and_true, true_and]) ⟨by omega, ?_⟩ (by omega) (fun a ha => by simp only [u32, u33, u34, u35, u36, u37, u38, u39]; repeat rw [if_neg (by omega)])
        rw [hr, ← hinv]; simp [hy]
end Av
end

/- Sa -/
import Derived.Test.YtdjmgokhpganaaaDoorTab
import Derived.Test.YtdjmgokhpganaaaDoorAvM
set_option linter.unusedVariables false
set_option linter.unusedSimpArgs false
section
set_option linter.unusedSimpArgs false
set_option linter.unusedVariables false
set_option maxRecDepth 10000
set_option maxHeartbeats 4000000
namespace Av
open Go
attribute [local irreducible] AWp runO runP runG awS awC awCv awQ awRd awCallR awCvR awQR awR awRdR awB okR plan ris
def sufS (c : Int) : Int := if 1 ≤ c ∧ c ≤ 16 then strengthS (suiteAt c).ci1 (suiteAt c).ci2 else 0
def c_suitespec_Strength (f_catalog_Suite f_catalog_Strength : Nat) : AC := seqK [0] (.reg [mc 2 (V.int 0)]) (seqK [3, 4] (.reg [mv 6 0, cl 7 f_catalog_Suite [6], mv 5 7, ex 8 5 0, ex 9 5 1, xo 3 (.alloc [.val (.int .i64 0), .val (.string ⟨#[]⟩), .val (.int .i64 0), .val (.int .i64 0), .val (.int .i64 0), .val (.int .i64 0), .val (.int .i64 0), .val (.int .i64 0), .val (.int .i64 0), .val (.int .i64 0), .val (.int .i64 0), .val (.int .i64 0)]), xs 12 3 8, mv 4 9]) (seqK [3] (seqK [3, 11] (.reg [mv 10 4, bc 11 .neq 10 (V.int 0)]) (.cond (.t 11) (seqK [2] (.reg [mc 2 (V.int 0)]) (.ret)) (.skip))) (seqK [2] (.reg [fa 12 6 3, xo 13 (.load true 2 (.t 12)), cl 14 f_catalog_Strength [13], mv 2 14]) (.ret)))) def r_suitespec_Strength : List ARes := [.tmp 2]
def CE_suitespec_Strength (Γ : Env) (f : Nat) : Prop := ∀ (c : Int), EvN Γ f [V.int c] (V.int (sufS c))
theorem ev_suitespec_Strength {Γ : Env} {f f_catalog_Suite f_catalog_Strength : Nat} (h : Has Γ.P f 15 (c_suitespec_Strength f_catalog_Suite f_catalog_Strength) r_suitespec_Strength) (h_catalog_Suite : CE_catalog_Suite Γ f_catalog_Suite) (h_catalog_Strength : CE_catalog_Strength Γ f_catalog_Strength) : CE_suitespec_Strength Γ f := by
  intro c
  refine evN_of_body h (by simp) (by simp only [V.closed, closedL, V.noSl, noSlL, and_self, and_true, true_and]) (by simp only [V.closed, closedL, V.noSl, noSlL, and_self, and_true, true_and]) fun C hC hm => ?_
  subst hC
  unfold c_suitespec_Strength
  by_cases h : 1 ≤ c ∧ c ≤ 16
  · have e : suiteV c = .tup [(suiteAt c).v, V.int 0] := by rw [suiteV, if_pos h]
    have hs : sufS c = strengthS (suiteAt c).ci1 (suiteAt c).ci2 := by rw [sufS, if_pos h]
    rw [hs]
    repeat' (first | refine awp_seqR fun K' hK => ?_ | refine awp_regR fun K' hK => ?_ | refine awp_seqK ?_ | refine awp_skip ?_ | refine awp_block ?_ | ((first | refine awp_cond ⟨_, rfl, fun hc => ?_, fun hc => ?_⟩ | refine awB_t (fun hc => ?_) (fun hc => ?_) | refine awB_f (fun hc => ?_) (fun hc => ?_)) <;> first | exact Bool.noConfusion hc | ((try simp only [decide_eq_true_eq, decide_eq_false_iff_not, beq_iff_eq, beq_eq_false_iff_ne, ne_eq, Bool.not_eq_true', Bool.not_eq_false'] at hc); first | (exfalso; simp only [List.length_map] at hc; omega) | (exfalso; omega) | skip)) | refine awp_ret ?_ | refine awp_exit ?_ | simp (maxSteps := 1000000) only [go_sem, Nat.reduceAdd, Nat.reduceMul, Nat.reduceEqDiff, Nat.reduceLeDiff, Nat.reduceLT, Nat.reduceSub, Int.reduceEq, Int.reduceBEq, Int.reduceLT, Int.reduceLE, Int.reduceAdd, Int.reduceToNat, reduceIte, reduceCtorEq, e, CSuite.v, CSuite.cells] | (refine hK _ ?_; clear hK; clear K') | refine And.intro ?_ ?_ | (apply awCs_A; (focus (first | exact (h_catalog_Suite _).b | exact (h_catalog_Strength _ _).b))) | (simp only [List.length_append, List.length_cons, List.length_nil, List.length_map, Nat.reducePow, Nat.reduceAdd]; omega) | omega | exact List.mem_singleton_self _)
    all_goals (refine ends_r _ rfl ?_; simp only [go_sem, Nat.reduceEqDiff, Nat.reduceAdd, reduceIte, reduceCtorEq])
  · have e : suiteV c = .tup [(suiteAt c).v, V.int 8] := by rw [suiteV, if_neg h]
    have hs : sufS c = 0 := by rw [sufS, if_neg h]
    rw [hs]
    repeat' (first | refine awp_seqR fun K' hK => ?_ | refine awp_regR fun K' hK => ?_ | refine awp_seqK ?_ | refine awp_skip ?_ | refine awp_block ?_ | ((first | refine awp_cond ⟨_, rfl, fun hc => ?_, fun hc => ?_⟩ | refine awB_t (fun hc => ?_) (fun hc => ?_) | refine awB_f (fun hc => ?_) (fun hc => ?_)) <;> first | exact Bool.noConfusion hc | ((try simp only [decide_eq_true_eq, decide_eq_false_iff_not, beq_iff_eq, beq_eq_false_iff_ne, ne_eq, Bool.not_eq_true', Bool.not_eq_false'] at hc); first | (exfalso; simp only [List.length_map] at hc; omega) | (exfalso; omega) | skip)) | refine awp_ret ?_ | refine awp_exit ?_ | simp (maxSteps := 1000000) only [go_sem, Nat.reduceAdd, Nat.reduceMul, Nat.reduceEqDiff, Nat.reduceLeDiff, Nat.reduceLT, Nat.reduceSub, Int.reduceEq, Int.reduceBEq, Int.reduceLT, Int.reduceLE, Int.reduceAdd, Int.reduceToNat, reduceIte, reduceCtorEq, e, CSuite.v, CSuite.cells] | (refine hK _ ?_; clear hK; clear K') | refine And.intro ?_ ?_ | (apply awCs_A; (focus (first | exact (h_catalog_Suite _).b | exact (h_catalog_Strength _ _).b))) | (simp only [List.length_append, List.length_cons, List.length_nil, List.length_map, Nat.reducePow, Nat.reduceAdd]; omega) | omega | exact List.mem_singleton_self _)
    all_goals (refine ends_r _ rfl ?_; simp only [go_sem, Nat.reduceEqDiff, Nat.reduceAdd, reduceIte, reduceCtorEq])
def c_ref08_Strength (f_ref02_Suite f_ref02_Strength : Nat) : AC := seqK [0] (.reg [mc 2 (V.int 0)]) (seqK [3, 4] (.reg [mv 6 0, cl 7 f_ref02_Suite [6], mv 5 7, ex 8 5 0, ex 9 5 1, xo 3 (.alloc [.val (.int .i64 0), .val (.string ⟨#[]⟩), .val (.int .i64 0), .val (.int .i64 0), .val (.int .i64 0), .val (.int .i64 0), .val (.int .i64 0), .val (.int .i64 0), .val (.int .i64 0), .val (.int .i64 0), .val (.int .i64 0), .val (.int .i64 0)]), xs 12 3 8, mv 4 9]) (seqK [3] (seqK [3, 11] (.reg [mv 10 4, bc 11 .neq 10 (V.int 0)]) (.cond (.t 11) (seqK [2] (.reg [mc 2 (V.int 0)]) (.ret)) (.skip))) (seqK [2] (.reg [fa 12 6 3, xo 13 (.load true 2 (.t 12)), cl 14 f_ref02_Strength [13], mv 2 14]) (.ret)))) def r_ref08_Strength : List ARes := [.tmp 2]
def CE_ref08_Strength (Γ : Env) (f : Nat) : Prop := ∀ (c : Int), EvN Γ f [V.int c] (V.int (sufS c))
theorem ev_ref08_Strength {Γ : Env} {f f_ref02_Suite f_ref02_Strength : Nat} (h : Has Γ.P f 15 (c_ref08_Strength f_ref02_Suite f_ref02_Strength) r_ref08_Strength) (h_ref02_Suite : CE_ref02_Suite Γ f_ref02_Suite) (h_ref02_Strength : CE_ref02_Strength Γ f_ref02_Strength) : CE_ref08_Strength Γ f := by
  intro c
  refine evN_of_body h (by simp) (by simp only [V.closed, closedL, V.noSl, noSlL, and_self, and_true, true_and]) (by simp only [V.closed, closedL, V.noSl, noSlL, and_self, and_true, true_and]) fun C hC hm => ?_
  subst hC
  unfold c_ref08_Strength
  by_cases h : 1 ≤ c ∧ c ≤ 16
  · have e : suiteV c = .tup [(suiteAt c).v, V.int 0] := by rw [suiteV, if_pos h]
    have hs : sufS c = strengthS (suiteAt c).ci1 (suiteAt c).ci2 := by rw [sufS, if_pos h]
    rw [hs]
    repeat' (first | refine awp_seqR fun K' hK => ?_ | refine awp_regR fun K' hK => ?_ | refine awp_seqK ?_ | refine awp_skip ?_ | refine awp_block ?_ | ((first | refine awp_cond ⟨_, rfl, fun hc => ?_, fun hc => ?_⟩ | refine awB_t (fun hc => ?_) (fun hc => ?_) | refine awB_f (fun hc => ?_) (fun hc => ?_)) <;> first | exact Bool.noConfusion hc | ((try simp only [decide_eq_true_eq, decide_eq_false_iff_not, beq_iff_eq, beq_eq_false_iff_ne, ne_eq, Bool.not_eq_true', Bool.not_eq_false'] at hc); first | (exfalso; simp only [List.length_map] at hc; omega) | (exfalso; omega) | skip)) | refine awp_ret ?_ | refine awp_exit ?_ | simp (maxSteps := 1000000) only [go_sem, Nat.reduceAdd, Nat.reduceMul, Nat.reduceEqDiff, Nat.reduceLeDiff, Nat.reduceLT, Nat.reduceSub, Int.reduceEq, Int.reduceBEq, Int.reduceLT, Int.reduceLE, Int.reduceAdd, Int.reduceToNat, reduceIte, reduceCtorEq, e, CSuite.v, CSuite.cells] | (refine hK _ ?_; clear hK; clear K') | refine And.intro ?_ ?_ | (apply awCs_A; (focus (first | exact (h_ref02_Suite _).b | exact (h_ref02_Strength _ _).b))) | (simp only [List.length_append, List.length_cons, List.length_nil, List.length_map, Nat.reducePow, Nat.reduceAdd]; omega) | omega | exact List.mem_singleton_self _)
    all_goals (refine ends_r _ rfl ?_; simp only [go_sem, Nat.reduceEqDiff, Nat.reduceAdd, reduceIte, reduceCtorEq])
  · have e : suiteV c = .tup [(suiteAt c).v, V.int 8] := by rw [suiteV, if_neg h]
    have hs : sufS c = 0 := by rw [sufS, if_neg h]
    rw [hs]
    repeat' (first | refine awp_seqR fun K' hK => ?_ | refine awp_regR fun K' hK => ?_ | refine awp_seqK ?_ | refine awp_skip ?_ | refine awp_block ?_ | ((first | refine awp_cond ⟨_, rfl, fun hc => ?_, fun hc => ?_⟩ | refine awB_t (fun hc => ?_) (fun hc => ?_) | refine awB_f (fun hc => ?_) (fun hc => ?_)) <;> first | exact Bool.noConfusion hc | ((try simp only [decide_eq_true_eq, decide_eq_false_iff_not, beq_iff_eq, beq_eq_false_iff_ne, ne_eq, Bool.not_eq_true', Bool.not_eq_false'] at hc); first | (exfalso; simp only [List.length_map] at hc; omega) | (exfalso; omega) | skip)) | refine awp_ret ?_ | refine awp_exit ?_ | simp (maxSteps := 1000000) only [go_sem, Nat.reduceAdd, Nat.reduceMul, Nat.reduceEqDiff, Nat.reduceLeDiff, Nat.reduceLT, Nat.reduceSub, Int.reduceEq, Int.reduceBEq, Int.reduceLT, Int.reduceLE, Int.reduceAdd, Int.reduceToNat, reduceIte, reduceCtorEq, e, CSuite.v, CSuite.cells] | (refine hK _ ?_; clear hK; clear K') | refine And.intro ?_ ?_ | (apply awCs_A; (focus (first | exact (h_ref02_Suite _).b | exact (h_ref02_Strength _ _).b))) | (simp only [List.length_append, List.length_cons, List.length_nil, List.length_map, Nat.reducePow, Nat.reduceAdd]; omega) | omega | exact List.mem_singleton_self _)
    all_goals (refine ends_r _ rfl ?_; simp only [go_sem, Nat.reduceEqDiff, Nat.reduceAdd, reduceIte, reduceCtorEq])
def groupsS : List (List UInt8) := [[97, 108, 108], [104, 105, 103, 104], [109, 101, 100, 105, 117, 109], [108, 111, 119], [118, 49], [118, 50], [118, 51], [118, 52]]
def knownS (n : List UInt8) : Bool := groupsS.contains n || decide (findR n 0 rowsL > 0) || decide (codeN n > 0)
def groupS (n : List UInt8) (st lo up : Int) : Option Bool :=
  if n = [97, 108, 108] then some true else if n = [104, 105, 103, 104] then some (decide (st ≥ 128)) else if n = [109, 101, 100, 105, 117, 109] then some (decide (st ≥ 112) && decide (st < 128))
  else if n = [108, 111, 119] then some (decide (st < 112)) else if n = [118, 49] then some (decide (lo ≤ 1) && decide (1 ≤ up)) else if n = [118, 50] then some (decide (lo ≤ 2) && decide (2 ≤ up))
  else if n = [118, 51] then some (decide (lo ≤ 3) && decide (3 ≤ up)) else if n = [118, 52] then some (decide (lo ≤ 4) && decide (4 ≤ up)) else none
def optV : Option Bool → V
  | some b => .tup [V.bool b, V.bool true]
  | none => .tup [V.bool false, V.bool false]
theorem optV_closed (x : Option Bool) : (optV x).closed := by cases x <;> simp only [optV, V.closed, closedL, and_self]
theorem optV_noSl (x : Option Bool) : (optV x).noSl := by cases x <;> simp only [optV, V.noSl, noSlL, and_self]
theorem groupS_out {n : List UInt8} (st lo up : Int) (h : n ∉ groupsS) : groupS n st lo up = none := by
  simp only [groupsS, List.mem_cons, List.not_mem_nil, or_false, not_or] at h
  obtain ⟨h1, h2, h3, h4, h5, h6, h7, h8⟩ := h
  rw [groupS, if_neg h1, if_neg h2, if_neg h3, if_neg h4, if_neg h5, if_neg h6, if_neg h7, if_neg h8]
def c_suitespec_group (f_catalog_Strength : Nat) : AC := seqK [1, 2] (.reg [xo 2 (.box true 12 (.t 0)), mc 4 (V.bool false), mc 5 (V.bool false)]) (seqK [1, 2, 6] (.reg [fa 8 6 2, xo 9 (.load true 2 (.t 8)), cl 10 f_catalog_Strength [9], mv 6 10]) (seqK [] (seqK [1, 2, 6, 11] (.reg [mv 11 1]) (.block 0 (seqK [1, 2, 6, 11, 12] (.reg [bc 13 .eql 11 (V.str [97, 108, 108]), mv 12 13]) (.cond (.t 12) (seqK [4, 5] (.reg [mc 4 (V.bool true), mc 5 (V.bool true)]) (.ret)) (seqK [1, 2, 6, 11, 14] (.reg [bc 15 .eql 11 (V.str [104, 105, 103, 104]), mv 14 15]) (.cond (.t 14) (seqK [4, 5] (.reg [mv 16 6, bc 17 .geq 16 (V.int 128), mv 4 17, mc 5 (V.bool true)]) (.ret)) (seqK [1, 2, 6, 11, 18] (.reg [bc 19 .eql 11 (V.str [109, 101, 100, 105, 117, 109]), mv 18 19]) (.cond (.t 18) (seqK [4, 5] (.reg [mv 20 6, bc 21 .geq 20 (V.int 112), mv 22 21, mg 23 6 22 true, xg 24 (.bin .lss (.t 23) (.c (V.int 128))) 22 true, xo 25 (.pick (.t 22) (.t 24) (.c (V.bool false))), mv 4 25, mc 5 (V.bool true)]) (.ret)) (seqK [1, 2, 6, 11, 26] (.reg [bc 27 .eql 11 (V.str [108, 111, 119]), mv 26 27]) (.cond (.t 26) (seqK [4, 5] (.reg [mv 28 6, bc 29 .lss 28 (V.int 112), mv 4 29, mc 5 (V.bool true)]) (.ret)) (seqK [1, 2, 30] (seqK [1, 2, 11, 30] (.reg [bc 31 .eql 11 (V.str [118, 49]), mv 30 31]) (.cond (.t 30) (.skip) (seqK [1, 2, 11, 30] (.reg [bc 32 .eql 11 (V.str [118, 50]), mv 30 32]) (.cond (.t 30) (.skip) (seqK [1, 2, 11, 30] (.reg [bc 33 .eql 11 (V.str [118, 51]), mv 30 33]) (.cond (.t 30) (.skip) (.reg [bc 34 .eql 11 (V.str [118, 52]), mv 30 34]))))))) (.cond (.t 30) (seqK [2, 7] (.reg [mv 35 1, xo 36 (.idxS (.t 35) (.c (V.int 1))), bc 37 .sub 36 (.sc (.int .u8 48)), xo 38 (.convI .i64 (.t 37)), mv 7 38]) (seqK [4, 5] (.reg [fa 39 10 2, ld 40 1 39, mv 41 7, bn 42 .leq 40 41, mv 43 42, mg 44 7 43 true, xg 45 (.faddr 11 (.t 2)) 43 true, xg 46 (.load false 1 (.t 45)) 43 true, xg 47 (.bin .leq (.t 44) (.t 46)) 43 true, xo 48 (.pick (.t 43) (.t 47) (.c (V.bool false))), mv 4 48, mc 5 (V.bool true)]) (.ret))) (.skip))))))))))))) (seqK [4, 5] (.reg [mc 4 (V.bool false), mc 5 (V.bool false)]) (.ret)))) def r_suitespec_group : List ARes := [.tmp 4, .tmp 5]
def CE_suitespec_group (Γ : Env) (f : Nat) : Prop := ∀ (s : CSuite) (n : List UInt8), EvN Γ f [s.v, V.str n] (optV (groupS n (strengthS s.ci1 s.ci2) s.lo s.hi))
theorem ev_suitespec_group {Γ : Env} {f f_catalog_Strength : Nat} (h : Has Γ.P f 49 (c_suitespec_group f_catalog_Strength) r_suitespec_group) (h_catalog_Strength : CE_catalog_Strength Γ f_catalog_Strength) : CE_suitespec_group Γ f := by
  intro s n
  refine evN_of_body h (by simp) (by first | exact optV_closed _ | exact optV_noSl _) (by first | exact optV_closed _ | exact optV_noSl _) fun C hC hm => ?_
  subst hC
  unfold c_suitespec_group
  generalize hst : strengthS s.ci1 s.ci2 = st
  by_cases hg : n ∈ groupsS
  · simp only [groupsS, List.mem_cons, List.not_mem_nil, or_false] at hg
    rcases hg with rfl | rfl | rfl | rfl | rfl | rfl | rfl | rfl
    · repeat' (first | refine awp_seqR fun K' hK => ?_ | refine awp_regR fun K' hK => ?_ | refine awp_seqK ?_ | refine awp_skip ?_ | refine awp_block ?_ | ((first | refine awp_cond ⟨_, rfl, fun hc => ?_, fun hc => ?_⟩ | refine awB_t (fun hc => ?_) (fun hc => ?_) | refine awB_f (fun hc => ?_) (fun hc => ?_)) <;> first | exact Bool.noConfusion hc | ((try simp only [decide_eq_true_eq, decide_eq_false_iff_not, beq_iff_eq, beq_eq_false_iff_ne, ne_eq, Bool.not_eq_true', Bool.not_eq_false'] at hc); first | (exfalso; simp only [List.length_map] at hc; omega) | (exfalso; omega) | skip)) | refine awp_ret ?_ | refine awp_exit ?_ | simp (maxSteps := 1000000) only [go_sem, Nat.reduceAdd, Nat.reduceMul, Nat.reduceEqDiff, Nat.reduceLeDiff, Nat.reduceLT, Nat.reduceSub, Int.reduceEq, Int.reduceBEq, Int.reduceLT, Int.reduceLE, Int.reduceAdd, Int.reduceToNat, reduceIte, reduceCtorEq, CSuite.v, CSuite.cells, hst] | (refine hK _ ?_; clear hK; clear K') | refine And.intro ?_ ?_ | (apply awCs_A; (focus (first | exact (h_catalog_Strength _ _).b))) | (simp only [List.length_append, List.length_cons, List.length_nil, List.length_map, Nat.reducePow, Nat.reduceAdd]; omega) | omega | exact List.mem_singleton_self _)
      all_goals (simp only [groupS, optV, if_true]; refine ends_r _ rfl ?_; simp only [go_sem, Nat.reduceEqDiff, Nat.reduceAdd, reduceIte, reduceCtorEq])
    · repeat' (first | refine awp_seqR fun K' hK => ?_ | refine awp_regR fun K' hK => ?_ | refine awp_seqK ?_ | refine awp_skip ?_ | refine awp_block ?_ | ((first | refine awp_cond ⟨_, rfl, fun hc => ?_, fun hc => ?_⟩ | refine awB_t (fun hc => ?_) (fun hc => ?_) | refine awB_f (fun hc => ?_) (fun hc => ?_)) <;> first | exact Bool.noConfusion hc | ((try simp only [decide_eq_true_eq, decide_eq_false_iff_not, beq_iff_eq, beq_eq_false_iff_ne, ne_eq, Bool.not_eq_true', Bool.not_eq_false'] at hc); first | (exfalso; simp only [List.length_map] at hc; omega) | (exfalso; omega) | skip)) | refine awp_ret ?_ | refine awp_exit ?_ | simp (maxSteps := 1000000) only [go_sem, Nat.reduceAdd, Nat.reduceMul, Nat.reduceEqDiff, Nat.reduceLeDiff, Nat.reduceLT, Nat.reduceSub, Int.reduceEq, Int.reduceBEq, Int.reduceLT, Int.reduceLE, Int.reduceAdd, Int.reduceToNat, reduceIte, reduceCtorEq, CSuite.v, CSuite.cells, hst] | (refine hK _ ?_; clear hK; clear K') | refine And.intro ?_ ?_ | (apply awCs_A; (focus (first | exact (h_catalog_Strength _ _).b))) | (simp only [List.length_append, List.length_cons, List.length_nil, List.length_map, Nat.reducePow, Nat.reduceAdd]; omega) | omega | exact List.mem_singleton_self _)
      all_goals (have e : groupS [104, 105, 103, 104] st s.lo s.hi = some (decide (st ≥ 128)) := rfl; rw [e]; simp only [optV]; refine ends_r _ rfl ?_; simp only [go_sem, Nat.reduceEqDiff, Nat.reduceAdd, reduceIte, reduceCtorEq])
    · have e : groupS [109, 101, 100, 105, 117, 109] st s.lo s.hi = some (decide (st ≥ 112) && decide (st < 128)) := rfl
      rw [e]
      rcases h1 : decide (st ≥ 112) with _ | _ <;> rcases h2 : decide (st < 128) with _ | _
      all_goals
        repeat' (first | refine awp_seqR fun K' hK => ?_ | refine awp_regR fun K' hK => ?_ | refine awp_seqK ?_ | refine awp_skip ?_ | refine awp_block ?_ | ((first | refine awp_cond ⟨_, rfl, fun hc => ?_, fun hc => ?_⟩ | refine awB_t (fun hc => ?_) (fun hc => ?_) | refine awB_f (fun hc => ?_) (fun hc => ?_)) <;> first | exact Bool.noConfusion hc | ((try simp only [decide_eq_true_eq, decide_eq_false_iff_not, beq_iff_eq, beq_eq_false_iff_ne, ne_eq, Bool.not_eq_true', Bool.not_eq_false'] at hc); first | (exfalso; simp only [List.length_map] at hc; omega) | (exfalso; omega) | skip)) | refine awp_ret ?_ | refine awp_exit ?_ | simp (maxSteps := 1000000) only [go_sem, Nat.reduceAdd, Nat.reduceMul, Nat.reduceEqDiff, Nat.reduceLeDiff, Nat.reduceLT, Nat.reduceSub, Int.reduceEq, Int.reduceBEq, Int.reduceLT, Int.reduceLE, Int.reduceAdd, Int.reduceToNat, reduceIte, reduceCtorEq, CSuite.v, CSuite.cells, hst, h1, h2] | (refine hK _ ?_; clear hK; clear K') | refine And.intro ?_ ?_ | (apply awCs_A; (focus (first | exact (h_catalog_Strength _ _).b))) | (simp only [List.length_append, List.length_cons, List.length_nil, List.length_map, Nat.reducePow, Nat.reduceAdd]; omega) | omega | exact List.mem_singleton_self _)
        all_goals (simp only [optV, Bool.and_self, Bool.and_true, Bool.and_false, Bool.false_and, Bool.true_and]; refine ends_r _ rfl ?_; simp only [go_sem, Nat.reduceEqDiff, Nat.reduceAdd, reduceIte, reduceCtorEq])
    · repeat' (first | refine awp_seqR fun K' hK => ?_ | refine awp_regR fun K' hK => ?_ | refine awp_seqK ?_ | refine awp_skip ?_ | refine awp_block ?_ | ((first | refine awp_cond ⟨_, rfl, fun hc => ?_, fun hc => ?_⟩ | refine awB_t (fun hc => ?_) (fun hc => ?_) | refine awB_f (fun hc => ?_) (fun hc => ?_)) <;> first | exact Bool.noConfusion hc | ((try simp only [decide_eq_true_eq, decide_eq_false_iff_not, beq_iff_eq, beq_eq_false_iff_ne, ne_eq, Bool.not_eq_true', Bool.not_eq_false'] at hc); first | (exfalso; simp only [List.length_map] at hc; omega) | (exfalso; omega) | skip)) | refine awp_ret ?_ | refine awp_exit ?_ | simp (maxSteps := 1000000) only [go_sem, Nat.reduceAdd, Nat.reduceMul, Nat.reduceEqDiff, Nat.reduceLeDiff, Nat.reduceLT, Nat.reduceSub, Int.reduceEq, Int.reduceBEq, Int.reduceLT, Int.reduceLE, Int.reduceAdd, Int.reduceToNat, reduceIte, reduceCtorEq, CSuite.v, CSuite.cells, hst] | (refine hK _ ?_; clear hK; clear K') | refine And.intro ?_ ?_ | (apply awCs_A; (focus (first | exact (h_catalog_Strength _ _).b))) | (simp only [List.length_append, List.length_cons, List.length_nil, List.length_map, Nat.reducePow, Nat.reduceAdd]; omega) | omega | exact List.mem_singleton_self _)
      all_goals (have e : groupS [108, 111, 119] st s.lo s.hi = some (decide (st < 112)) := rfl; rw [e]; simp only [optV]; refine ends_r _ rfl ?_; simp only [go_sem, Nat.reduceEqDiff, Nat.reduceAdd, reduceIte, reduceCtorEq])
    · have e : groupS [118, 49] st s.lo s.hi = some (decide (s.lo ≤ 1) && decide (1 ≤ s.hi)) := rfl
      have ew : IntKind.i64.wrap (IntKind.u8.wrap (((UInt8.toNat 49 : Nat) : Int) - 48)) = 1 := rfl
      rw [e]
      rcases h1 : decide (s.lo ≤ 1) with _ | _ <;> rcases h2 : decide (1 ≤ s.hi) with _ | _
      all_goals
        repeat' (first | refine awp_seqR fun K' hK => ?_ | refine awp_regR fun K' hK => ?_ | refine awp_seqK ?_ | refine awp_skip ?_ | refine awp_block ?_ | ((first | refine awp_cond ⟨_, rfl, fun hc => ?_, fun hc => ?_⟩ | refine awB_t (fun hc => ?_) (fun hc => ?_) | refine awB_f (fun hc => ?_) (fun hc => ?_)) <;> first | exact Bool.noConfusion hc | ((try simp only [decide_eq_true_eq, decide_eq_false_iff_not, beq_iff_eq, beq_eq_false_iff_ne, ne_eq, Bool.not_eq_true', Bool.not_eq_false'] at hc); first | (exfalso; simp only [List.length_map] at hc; omega) | (exfalso; omega) | skip)) | refine awp_ret ?_ | refine awp_exit ?_ | simp (maxSteps := 1000000) only [go_sem, Nat.reduceAdd, Nat.reduceMul, Nat.reduceEqDiff, Nat.reduceLeDiff, Nat.reduceLT, Nat.reduceSub, Int.reduceEq, Int.reduceBEq, Int.reduceLT, Int.reduceLE, Int.reduceAdd, Int.reduceToNat, reduceIte, reduceCtorEq, CSuite.v, CSuite.cells, hst, ew, h1, h2] | (refine hK _ ?_; clear hK; clear K') | refine And.intro ?_ ?_ | (apply awCs_A; (focus (first | exact (h_catalog_Strength _ _).b))) | (simp only [List.length_append, List.length_cons, List.length_nil, List.length_map, Nat.reducePow, Nat.reduceAdd]; omega) | omega | exact List.mem_singleton_self _)
        all_goals (simp only [optV, Bool.and_self, Bool.and_true, Bool.and_false, Bool.false_and, Bool.true_and]; refine ends_r _ rfl ?_; simp only [go_sem, Nat.reduceEqDiff, Nat.reduceAdd, reduceIte, reduceCtorEq])
    · have e : groupS [118, 50] st s.lo s.hi = some (decide (s.lo ≤ 2) && decide (2 ≤ s.hi)) := rfl
      have ew : IntKind.i64.wrap (IntKind.u8.wrap (((UInt8.toNat 50 : Nat) : Int) - 48)) = 2 := rfl
      rw [e]
      rcases h1 : decide (s.lo ≤ 2) with _ | _ <;> rcases h2 : decide (2 ≤ s.hi) with _ | _
      all_goals
        repeat' (first | refine awp_seqR fun K' hK => ?_ | refine awp_regR fun K' hK => ?_ | refine awp_seqK ?_ | refine awp_skip ?_ | refine awp_block ?_ | ((first | refine awp_cond ⟨_, rfl, fun hc => ?_, fun hc => ?_⟩ | refine awB_t (fun hc => ?_) (fun hc => ?_) | refine awB_f (fun hc => ?_) (fun hc => ?_)) <;> first | exact Bool.noConfusion hc | ((try simp only [decide_eq_true_eq, decide_eq_false_iff_not, beq_iff_eq, beq_eq_false_iff_ne, ne_eq, Bool.not_eq_true', Bool.not_eq_false'] at hc); first | (exfalso; simp only [List.length_map] at hc; omega) | (exfalso; omega) | skip)) | refine awp_ret ?_ | refine awp_exit ?_ | simp (maxSteps := 1000000) only [go_sem, Nat.reduceAdd, Nat.reduceMul, Nat.reduceEqDiff, Nat.reduceLeDiff, Nat.reduceLT, Nat.reduceSub, Int.reduceEq, Int.reduceBEq, Int.reduceLT, Int.reduceLE, Int.reduceAdd, Int.reduceToNat, reduceIte, reduceCtorEq, CSuite.v, CSuite.cells, hst, ew, h1, h2] | (refine hK _ ?_; clear hK; clear K') | refine And.intro ?_ ?_ | (apply awCs_A; (focus (first | exact (h_catalog_Strength _ _).b))) | (simp only [List.length_append, List.length_cons, List.length_nil, List.length_map, Nat.reducePow, Nat.reduceAdd]; omega) | omega | exact List.mem_singleton_self _)
        all_goals (simp only [optV, Bool.and_self, Bool.and_true, Bool.and_false, Bool.false_and, Bool.true_and]; refine ends_r _ rfl ?_; simp only [go_sem, Nat.reduceEqDiff, Nat.reduceAdd, reduceIte, reduceCtorEq])
    · have e : groupS [118, 51] st s.lo s.hi = some (decide (s.lo ≤ 3) && decide (3 ≤ s.hi)) := rfl
      have ew : IntKind.i64.wrap (IntKind.u8.wrap (((UInt8.toNat 51 : Nat) : Int) - 48)) = 3 := rfl
      rw [e]
      rcases h1 : decide (s.lo ≤ 3) with _ | _ <;> rcases h2 : decide (3 ≤ s.hi) with _ | _
      all_goals
        repeat' (first | refine awp_seqR fun K' hK => ?_ | refine awp_regR fun K' hK => ?_ | refine awp_seqK ?_ | refine awp_skip ?_ | refine awp_block ?_ | ((first | refine awp_cond ⟨_, rfl, fun hc => ?_, fun hc => ?_⟩ | refine awB_t (fun hc => ?_) (fun hc => ?_) | refine awB_f (fun hc => ?_) (fun hc => ?_)) <;> first | exact Bool.noConfusion hc | ((try simp only [decide_eq_true_eq, decide_eq_false_iff_not, beq_iff_eq, beq_eq_false_iff_ne, ne_eq, Bool.not_eq_true', Bool.not_eq_false'] at hc); first | (exfalso; simp only [List.length_map] at hc; omega) | (exfalso; omega) | skip)) | refine awp_ret ?_ | refine awp_exit ?_ | simp (maxSteps := 1000000) only [go_sem, Nat.reduceAdd, Nat.reduceMul, Nat.reduceEqDiff, Nat.reduceLeDiff, Nat.reduceLT, Nat.reduceSub, Int.reduceEq, Int.reduceBEq, Int.reduceLT, Int.reduceLE, Int.reduceAdd, Int.reduceToNat, reduceIte, reduceCtorEq, CSuite.v, CSuite.cells, hst, ew, h1, h2] | (refine hK _ ?_; clear hK; clear K') | refine And.intro ?_ ?_ | (apply awCs_A; (focus (first | exact (h_catalog_Strength _ _).b))) | (simp only [List.length_append, List.length_cons, List.length_nil, List.length_map, Nat.reducePow, Nat.reduceAdd]; omega) | omega | exact List.mem_singleton_self _)
        all_goals (simp only [optV, Bool.and_self, Bool.and_true, Bool.and_false, Bool.false_and, Bool.true_and]; refine ends_r _ rfl ?_; simp only [go_sem, Nat.reduceEqDiff, Nat.reduceAdd, reduceIte, reduceCtorEq])
    · have e : groupS [118, 52] st s.lo s.hi = some (decide (s.lo ≤ 4) && decide (4 ≤ s.hi)) := rfl
      have ew : IntKind.i64.wrap (IntKind.u8.wrap (((UInt8.toNat 52 : Nat) : Int) - 48)) = 4 := rfl
      rw [e]
      rcases h1 : decide (s.lo ≤ 4) with _ | _ <;> rcases h2 : decide (4 ≤ s.hi) with _ | _
      all_goals
        repeat' (first | refine awp_seqR fun K' hK => ?_ | refine awp_regR fun K' hK => ?_ | refine awp_seqK ?_ | refine awp_skip ?_ | refine awp_block ?_ | ((first | refine awp_cond ⟨_, rfl, fun hc => ?_, fun hc => ?_⟩ | refine awB_t (fun hc => ?_) (fun hc => ?_) | refine awB_f (fun hc => ?_) (fun hc => ?_)) <;> first | exact Bool.noConfusion hc | ((try simp only [decide_eq_true_eq, decide_eq_false_iff_not, beq_iff_eq, beq_eq_false_iff_ne, ne_eq, Bool.not_eq_true', Bool.not_eq_false'] at hc); first | (exfalso; simp only [List.length_map] at hc; omega) | (exfalso; omega) | skip)) | refine awp_ret ?_ | refine awp_exit ?_ | simp (maxSteps := 1000000) only [go_sem, Nat.reduceAdd, Nat.reduceMul, Nat.reduceEqDiff, Nat.reduceLeDiff, Nat.reduceLT, Nat.reduceSub, Int.reduceEq, Int.reduceBEq, Int.reduceLT, Int.reduceLE, Int.reduceAdd, Int.reduceToNat, reduceIte, reduceCtorEq, CSuite.v, CSuite.cells, hst, ew, h1, h2] | (refine hK _ ?_; clear hK; clear K') | refine And.intro ?_ ?_ | (apply awCs_A; (focus (first | exact (h_catalog_Strength _ _).b))) | (simp only [List.length_append, List.length_cons, List.length_nil, List.length_map, Nat.reducePow, Nat.reduceAdd]; omega) | omega | exact List.mem_singleton_self _)
        all_goals (simp only [optV, Bool.and_self, Bool.and_true, Bool.and_false, Bool.false_and, Bool.true_and]; refine ends_r _ rfl ?_; simp only [go_sem, Nat.reduceEqDiff, Nat.reduceAdd, reduceIte, reduceCtorEq])
  · rw [groupS_out st s.lo s.hi hg]
    simp only [groupsS, List.mem_cons, List.not_mem_nil, or_false, not_or] at hg
    obtain ⟨h1, h2, h3, h4, h5, h6, h7, h8⟩ := hg
    have g1 := beq_eq_false_iff_ne.2 h1
    have g2 := beq_eq_false_iff_ne.2 h2
    have g3 := beq_eq_false_iff_ne.2 h3
    have g4 := beq_eq_false_iff_ne.2 h4
    have g5 := beq_eq_false_iff_ne.2 h5
    have g6 := beq_eq_false_iff_ne.2 h6
    have g7 := beq_eq_false_iff_ne.2 h7
    have g8 := beq_eq_false_iff_ne.2 h8
    repeat' (first | refine awp_seqR fun K' hK => ?_ | refine awp_regR fun K' hK => ?_ | refine awp_seqK ?_ | refine awp_skip ?_ | refine awp_block ?_ | ((first | refine awp_cond ⟨_, rfl, fun hc => ?_, fun hc => ?_⟩ | refine awB_t (fun hc => ?_) (fun hc => ?_) | refine awB_f (fun hc => ?_) (fun hc => ?_)) <;> first | exact Bool.noConfusion hc | ((try simp only [decide_eq_true_eq, decide_eq_false_iff_not, beq_iff_eq, beq_eq_false_iff_ne, ne_eq, Bool.not_eq_true', Bool.not_eq_false'] at hc); first | (exfalso; simp only [List.length_map] at hc; omega) | (exfalso; omega) | skip)) | refine awp_ret ?_ | refine awp_exit ?_ | simp (maxSteps := 1000000) only [go_sem, Nat.reduceAdd, Nat.reduceMul, Nat.reduceEqDiff, Nat.reduceLeDiff, Nat.reduceLT, Nat.reduceSub, Int.reduceEq, Int.reduceBEq, Int.reduceLT, Int.reduceLE, Int.reduceAdd, Int.reduceToNat, reduceIte, reduceCtorEq, CSuite.v, CSuite.cells, hst, g1, g2, g3, g4, g5, g6, g7, g8] | (refine hK _ ?_; clear hK; clear K') | refine And.intro ?_ ?_ | (apply awCs_A; (focus (first | exact (h_catalog_Strength _ _).b))) | (simp only [List.length_append, List.length_cons, List.length_nil, List.length_map, Nat.reducePow, Nat.reduceAdd]; omega) | omega | exact List.mem_singleton_self _)
    all_goals (simp only [optV]; refine ends_r _ rfl ?_; simp only [go_sem, Nat.reduceEqDiff, Nat.reduceAdd, reduceIte, reduceCtorEq])
def namedP (n : List UInt8) (s : CSuite) : Bool × Bool :=
  match groupS n (strengthS s.ci1 s.ci2) s.lo s.hi with
  | some b => (b, true)
  | none => ((decide (findR n 0 rowsL > 0) && decide (find0 (findR n 0 rowsL) 0 [s.kx1, s.sg1, s.ci1, s.mc1] ≥ 0)) || (decide (codeN n > 0) && s.code == codeN n), decide (findR n 0 rowsL > 0) || decide (codeN n > 0))
def namedR (n : List UInt8) (s : CSuite) : Bool :=
  match groupS n (sufS s.code) s.lo s.hi with
  | some b => b
  | none => (decide (findR n 0 rowsL > 0) && (s.kx1 == findR n 0 rowsL || s.sg1 == findR n 0 rowsL || s.ci1 == findR n 0 rowsL || s.mc1 == findR n 0 rowsL)) || s.name == n
def pairV (p : Bool × Bool) : V := .tup [V.bool p.1, V.bool p.2]
def c_suitespec_named (f_suitespec_group f_catalog_Find f_catalog_Code f_slices_Contains___int_int : Nat) : AC := seqK [1, 2] (.reg [xo 2 (.box true 12 (.t 0)), mc 4 (V.bool false), mc 5 (V.bool false)]) (seqK [1, 2] (seqK [1, 2, 6, 7] (.reg [xo 12 (.load true 12 (.t 2)), mv 13 1, cl 14 f_suitespec_group [12, 13], mv 11 14, ex 15 11 0, ex 16 11 1, mv 6 15, mv 7 16]) (seqK [1, 2, 6, 17] (.reg [mv 17 7]) (.cond (.t 17) (seqK [4, 5] (.reg [mv 18 6, mv 4 18, mc 5 (V.bool true)]) (.ret)) (.skip)))) (seqK [2, 8, 9] (.reg [mv 19 1, cl 20 f_catalog_Find [19], mv 21 1, cl 22 f_catalog_Code [21], mv 8 20, mv 9 22]) (seqK [2, 8, 9, 10] (.reg [fa 23 2 2, fa 24 0 23, ld 25 1 24, fa 26 4 2, fa 27 0 26, ld 28 1 27, fa 29 6 2, fa 30 0 29, ld 31 1 30, fa 32 8 2, fa 33 0 32, ld 34 1 33, xo 35 (.bslice 4 1 false [(.int .i64 0)] [(0, (.t 25)), (1, (.t 28)), (2, (.t 31)), (3, (.t 34))]), mv 10 35]) (seqK [4, 5] (.reg [mv 36 8, bc 37 .gtr 36 (V.int 0), mv 38 37, mg 39 10 38 true, mg 40 8 38 true, xg 41 (.call f_slices_Contains___int_int [(.t 39), (.t 40)]) 38 true, xo 42 (.pick (.t 38) (.t 41) (.c (V.bool false))), mv 43 42, mg 44 9 43 false, xg 45 (.bin .gtr (.t 44) (.c (V.int 0))) 43 false, mg 46 45 43 false, xg 47 (.faddr 0 (.t 2)) 46 true, xg 48 (.load false 1 (.t 47)) 46 true, mg 49 9 46 true, xg 50 (.bin .eql (.t 48) (.t 49)) 46 true, xg 51 (.pick (.t 46) (.t 50) (.c (V.bool false))) 43 false, xo 52 (.pick (.t 43) (.c (V.bool true)) (.t 51)), mv 53 8, bc 54 .gtr 53 (V.int 0), mv 55 54, mg 56 9 55 false, xg 57 (.bin .gtr (.t 56) (.c (V.int 0))) 55 false, xo 58 (.pick (.t 55) (.c (V.bool true)) (.t 57)), mv 4 52, mv 5 58]) (.ret))))) def r_suitespec_named : List ARes := [.tmp 4, .tmp 5]
def CE_suitespec_named (Γ : Env) (f : Nat) : Prop := ∀ (s : CSuite) (n : List UInt8), EvN Γ f [s.v, V.str n] (pairV (namedP n s))
theorem ev_suitespec_named {Γ : Env} {f f_suitespec_group f_catalog_Find f_catalog_Code f_slices_Contains___int_int : Nat} (h : Has Γ.P f 59 (c_suitespec_named f_suitespec_group f_catalog_Find f_catalog_Code f_slices_Contains___int_int) r_suitespec_named) (h_suitespec_group : CE_suitespec_group Γ f_suitespec_group) (h_catalog_Find : CE_catalog_Find Γ f_catalog_Find) (h_catalog_Code : CE_catalog_Code Γ f_catalog_Code) (h_slices_Contains___int_int : CE_slices_Contains___int_int Γ f_slices_Contains___int_int) : CE_suitespec_named Γ f := by
  intro s n
  refine evN_of_body h (by simp) (by simp only [pairV, V.closed, closedL, V.noSl, noSlL, and_self]) (by simp only [pairV, V.closed, closedL, V.noSl, noSlL, and_self]) fun C hC hm => ?_
  subst hC
  unfold c_suitespec_named
  have hg := (h_suitespec_group s n).b
  rcases hn : groupS n (strengthS s.ci1 s.ci2) s.lo s.hi with _ | b
  · have e : namedP n s = ((decide (findR n 0 rowsL > 0) && decide (find0 (findR n 0 rowsL) 0 [s.kx1, s.sg1, s.ci1, s.mc1] ≥ 0)) || (decide (codeN n > 0) && s.code == codeN n), decide (findR n 0 rowsL > 0) || decide (codeN n > 0)) := by rw [namedP, hn]
    rw [e]
    rw [hn] at hg
    simp only [optV, CSuite.v, CSuite.cells] at hg
    have hf := (h_slices_Contains___int_int [s.kx1, s.sg1, s.ci1, s.mc1] (findR n 0 rowsL) (by simp)).b
    simp only [List.map_cons, List.map_nil] at hf
    rcases h1 : decide (findR n 0 rowsL > 0) with _ | _ <;> rcases h2 : decide (codeN n > 0) with _ | _ <;> rcases h3 : decide (find0 (findR n 0 rowsL) 0 [s.kx1, s.sg1, s.ci1, s.mc1] ≥ 0) with _ | _
    all_goals
      rw [h3] at hf
      repeat' (first | refine awp_seqR fun K' hK => ?_ | refine awp_regR fun K' hK => ?_ | refine awp_seqK ?_ | refine awp_skip ?_ | refine awp_block ?_ | ((first | refine awp_cond ⟨_, rfl, fun hc => ?_, fun hc => ?_⟩ | refine awB_t (fun hc => ?_) (fun hc => ?_) | refine awB_f (fun hc => ?_) (fun hc => ?_)) <;> first | exact Bool.noConfusion hc | ((try simp only [decide_eq_true_eq, decide_eq_false_iff_not, beq_iff_eq, beq_eq_false_iff_ne, ne_eq, Bool.not_eq_true', Bool.not_eq_false'] at hc); first | (exfalso; simp only [List.length_map] at hc; omega) | (exfalso; omega) | skip)) | refine awp_ret ?_ | refine awp_exit ?_ | simp (maxSteps := 1000000) only [go_sem, Nat.reduceAdd, Nat.reduceMul, Nat.reduceEqDiff, Nat.reduceLeDiff, Nat.reduceLT, Nat.reduceSub, Int.reduceEq, Int.reduceBEq, Int.reduceLT, Int.reduceLE, Int.reduceAdd, Int.reduceToNat, reduceIte, reduceCtorEq, CSuite.v, CSuite.cells, h1, h2] | (refine hK _ ?_; clear hK; clear K') | refine And.intro ?_ ?_ | (apply awCs_A; (focus (first | exact hg | exact hf | exact (h_suitespec_group _ _).b | exact (h_catalog_Find _).b | exact (h_catalog_Code _).b | exact (h_slices_Contains___int_int _ _ (by first | assumption | omega | (simp; done))).b))) | (simp only [List.length_append, List.length_cons, List.length_nil, List.length_map, Nat.reducePow, Nat.reduceAdd]; omega) | omega | exact List.mem_singleton_self _)
      all_goals first | (simp only [pairV, Bool.and_self, Bool.and_true, Bool.and_false, Bool.false_and, Bool.true_and, Bool.or_self, Bool.or_true, Bool.or_false, Bool.false_or, Bool.true_or]; refine ends_r _ rfl ?_; simp only [go_sem, Nat.reduceEqDiff, Nat.reduceAdd, reduceIte, reduceCtorEq]; done) | trace_state
  · have e : namedP n s = (b, true) := by rw [namedP, hn]
    rw [e]
    rw [hn] at hg
    simp only [optV, CSuite.v, CSuite.cells] at hg
    repeat' (first | refine awp_seqR fun K' hK => ?_ | refine awp_regR fun K' hK => ?_ | refine awp_seqK ?_ | refine awp_skip ?_ | refine awp_block ?_ | ((first | refine awp_cond ⟨_, rfl, fun hc => ?_, fun hc => ?_⟩ | refine awB_t (fun hc => ?_) (fun hc => ?_) | refine awB_f (fun hc => ?_) (fun hc => ?_)) <;> first | exact Bool.noConfusion hc | ((try simp only [decide_eq_true_eq, decide_eq_false_iff_not, beq_iff_eq, beq_eq_false_iff_ne, ne_eq, Bool.not_eq_true', Bool.not_eq_false'] at hc); first | (exfalso; simp only [List.length_map] at hc; omega) | (exfalso; omega) | skip)) | refine awp_ret ?_ | refine awp_exit ?_ | simp (maxSteps := 1000000) only [go_sem, Nat.reduceAdd, Nat.reduceMul, Nat.reduceEqDiff, Nat.reduceLeDiff, Nat.reduceLT, Nat.reduceSub, Int.reduceEq, Int.reduceBEq, Int.reduceLT, Int.reduceLE, Int.reduceAdd, Int.reduceToNat, reduceIte, reduceCtorEq, CSuite.v, CSuite.cells] | (refine hK _ ?_; clear hK; clear K') | refine And.intro ?_ ?_ | (apply awCs_A; (focus (first | exact hg | exact (h_suitespec_group _ _).b | exact (h_catalog_Find _).b | exact (h_catalog_Code _).b | exact (h_slices_Contains___int_int _ _ (by first | assumption | omega | (simp; done))).b))) | (simp only [List.length_append, List.length_cons, List.length_nil, List.length_map, Nat.reducePow, Nat.reduceAdd]; omega) | omega | exact List.mem_singleton_self _)
    all_goals first | (simp only [pairV]; refine ends_r _ rfl ?_; simp only [go_sem, Nat.reduceEqDiff, Nat.reduceAdd, reduceIte, reduceCtorEq]; done) | trace_state
end Av
end
section
set_option linter.unusedSimpArgs false
set_option linter.unusedVariables false
set_option maxRecDepth 10000
set_option maxHeartbeats 4000000
namespace Av
open Go
attribute [local irreducible] AWp runO runP runG awS awC awCv awQ awRd awCallR awCvR awQR awR awRdR awB okR plan ris
end Av
end
section
set_option linter.unusedSimpArgs false
set_option linter.unusedVariables false
set_option maxRecDepth 10000
set_option maxHeartbeats 4000000
namespace Av
open Go
attribute [local irreducible] AWp runO runP runG awS awC awCv awQ awRd awCallR awCvR awQR awR awRdR awB okR plan ris
theorem idxF_get {α : Type} (p : α → Bool) : ∀ (l : List α) (k : Nat), 0 ≤ idxF p k l → ∃ j x, l[j]? = some x ∧ p x = true ∧ idxF p k l = ((k + j : Nat) : Int)
  | [], k, h => by simp [idxF] at h
  | x :: r, k, h => by
    by_cases hx : p x = true
    · exact ⟨0, x, rfl, hx, by simp [idxF, hx]⟩
    · have e : idxF p k (x :: r) = idxF p (k + 1) r := by simp [idxF, hx]
      rw [e] at h ⊢
      obtain ⟨j, y, h1, h2, h3⟩ := idxF_get p r (k + 1) h
      exact ⟨j + 1, y, by simpa using h1, h2, by rw [h3]; congr 1; omega⟩
theorem find0_iff (x : Int) : ∀ (l : List Int) (k : Nat), 0 ≤ find0 x k l ↔ x ∈ l
  | [], k => by simp [find0]
  | y :: r, k => by
    by_cases hy : y = x
    · subst hy; simp [find0]
    · have := find0_iff x r (k + 1)
      have e : find0 x k (y :: r) = find0 x (k + 1) r := by rw [find0, if_neg (fun h => hy h.symm)]
      rw [e, this, List.mem_cons]
      exact ⟨Or.inr, fun h => h.elim (fun h => absurd h.symm hy) id⟩
theorem code_name : ∀ s ∈ suitesL, codeN s.name = s.code := by decide
theorem sufS_cipher : ∀ s ∈ suitesL, sufS s.code = strengthS s.ci1 s.ci2 := by decide
theorem codeN_name {s : CSuite} (hs : s ∈ suitesL) (n : List UInt8) : (decide (codeN n > 0) && s.code == codeN n) = (s.name == n) := by
  by_cases h : s.name = n
  · subst h
    have h1 := code_name s hs
    obtain ⟨k, hk, hg⟩ := List.getElem_of_mem hs
    have h2 := codes_ok k hk s (by rw [List.getElem?_eq_getElem hk, hg])
    have h3 : codeN s.name > 0 := by rw [h1, h2]; omega
    simp [h3, h1]; omega
  · have e : (s.name == n) = false := by simpa using h
    rw [e, Bool.and_eq_false_iff]
    by_cases h0 : codeN n > 0
    · right
      simp only [beq_eq_false_iff_ne, ne_eq]
      intro hc
      obtain ⟨j, x, h1, h2, h3⟩ := idxF_get (fun s : CSuite => s.name == n) suitesL 0 (by unfold codeN at h0; omega)
      obtain ⟨k, hk, hg⟩ := List.getElem_of_mem hs
      have h4 := codes_ok k hk s (by rw [List.getElem?_eq_getElem hk, hg])
      have hkj : k = j := by unfold codeN at hc; omega
      subst hkj
      rw [List.getElem?_eq_getElem hk, hg] at h1
      cases h1
      exact h (by simpa using h2)
    · left; simpa using h0
theorem group_some {n : List UInt8} (st lo hi : Int) (h : n ∈ groupsS) : ∃ b, groupS n st lo hi = some b := by
  simp only [groupsS, List.mem_cons, List.not_mem_nil, or_false] at h
  rcases h with rfl | rfl | rfl | rfl | rfl | rfl | rfl | rfl <;> exact ⟨_, rfl⟩
theorem named_known {n : List UInt8} {s : CSuite} : (namedP n s).2 = knownS n := by
  by_cases h : n ∈ groupsS
  · obtain ⟨b, hb⟩ := group_some (strengthS s.ci1 s.ci2) s.lo s.hi h
    rw [namedP, hb, knownS]; simp [h]
  · rw [namedP, groupS_out _ _ _ h, knownS]; simp [h]
theorem named_same {s : CSuite} (hs : s ∈ suitesL) (n : List UInt8) : namedR n s = (namedP n s).1 := by
  have h1 := sufS_cipher s hs
  have h2 := codeN_name hs n
  have h3 : decide (find0 (findR n 0 rowsL) 0 [s.kx1, s.sg1, s.ci1, s.mc1] ≥ 0) = (s.kx1 == findR n 0 rowsL || s.sg1 == findR n 0 rowsL || s.ci1 == findR n 0 rowsL || s.mc1 == findR n 0 rowsL) := by
    rw [Bool.eq_iff_iff]
    simp only [decide_eq_true_eq, ge_iff_le, find0_iff, List.mem_cons, List.not_mem_nil, or_false, Bool.or_eq_true, beq_iff_eq]
    constructor
    · rintro (h | h | h | h) <;> simp [h]
    · rintro (((h | h) | h) | h) <;> simp [h]
  rw [namedR, namedP, h1]
  cases groupS n (strengthS s.ci1 s.ci2) s.lo s.hi with
  | some b => rfl
  | none => simp only [h2, h3]
end Av
end
section
set_option linter.unusedSimpArgs false
set_option linter.unusedVariables false
set_option maxRecDepth 10000
set_option maxHeartbeats 4000000
namespace Av
open Go
attribute [local irreducible] AWp runO runP runG awS awC awCv awQ awRd awCallR awCvR awQR awR awRdR awB okR plan ris
def splitA (c : UInt8) : List UInt8 → List UInt8 → List (List UInt8)
  | cur, [] => [cur]
  | cur, x :: r => if x = c then cur :: splitA c [] r else splitA c (cur ++ [x]) r
def splitL (c : UInt8) (s : List UInt8) : List (List UInt8) := splitA c [] s
theorem splitA_ne (c : UInt8) : ∀ (r cur : List UInt8), splitA c cur r ≠ []
  | [], cur => by simp [splitA]
  | x :: r, cur => by
    rw [splitA]; split
    · simp
    · exact splitA_ne c r _
end Av
end
section
set_option linter.unusedSimpArgs false
set_option linter.unusedVariables false
set_option maxRecDepth 10000
set_option maxHeartbeats 4000000
namespace Av
open Go
attribute [local irreducible] AWp runO runP runG awS awC awCv awQ awRd awCallR awCvR awQR awR awRdR awB okR plan ris
theorem splitA_len (c : UInt8) : ∀ (r cur : List UInt8), (splitA c cur r).length ≤ r.length + 1
  | [], cur => by simp [splitA]
  | x :: r, cur => by
    rw [splitA]; split
    · have := splitA_len c r []; simp; omega
    · have := splitA_len c r (cur ++ [x]); simp; omega
theorem splitL_len (c : UInt8) (s : List UInt8) : (splitL c s).length ≤ s.length + 1 := splitA_len c s []
def inAll (L : List (List UInt8)) (x : CSuite) : Bool := L.all fun n => namedR n x
def codesIn (L : List (List UInt8)) (xs : List CSuite) : List Int := (xs.filter (inAll L)).map CSuite.code
theorem codesIn_succ (L : List (List UInt8)) (k : Nat) (x : CSuite) (h : suitesL[k]? = some x) : codesIn L (suitesL.take (k + 1)) = codesIn L (suitesL.take k) ++ (if inAll L x = true then [x.code] else []) := by
  rw [codesIn, codesIn, List.take_add_one, h, List.filter_append, List.map_append]
  congr 1
  by_cases hx : inAll L x = true <;> simp [hx]
def setS (s : List UInt8) : List Int × Bool := if (splitL 43 s).all knownS then (codesIn (splitL 43 s) suitesL, true) else ([], false)

-- REGION ref08_Set 0: 13 operations, 1 orders, L [], X false, ok true
end Av
end

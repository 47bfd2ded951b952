/- Wc -/
import Derived.Test.YtdjmgokhpganaaaDoorSe
set_option linter.unusedVariables false
set_option linter.unusedSimpArgs false
section
set_option linter.unusedSimpArgs false
set_option linter.unusedVariables false
set_option maxRecDepth 10000
set_option maxHeartbeats 4000000
namespace Av
open Go
attribute [local irreducible] AWp runO runP runG awS awC awCv awQ awRd awCallR awCvR awQR awR awRdR awB okR plan ris
theorem parse_specD {l : List Int} {k : Nat} (hk : k ≤ l.length) (hl : l.length ≤ 400) : ∃ P, parseW (specD l k).1 = (P, 0, 0) ∧ NR P := by
  have so := specD_ok l k
  have sl := specD_len6 l k
  have sk := specD_le hk
  by_cases hs : (specD l k).1 = []
  · rw [hs]; exact ⟨[], rfl, List.nodup_nil, fun x h => by simp at h⟩
  · have ro := runW_ok (splitL 58 (specD l k).1) _ row0_ok
    exact ⟨_, parse_spec hs so (by omega) (by omega), ro.nd, ro.rg⟩
def c_law08_SuitespecBack (f_make_Light f_law08_awake f_make_Roll f_make_Suites f_suitespec_Print f_suitespec_Parse f_law08_spec f_ref02_SameInts : Nat) : AC := seqK [0] (.reg [mc 2 (V.bool false)]) (seqK [0] (seqK [0, 20] (.reg [mv 18 0, cl 19 f_make_Light [18], xo 20 (.un .not (.t 19))]) (.cond (.t 20) (seqK [2] (.reg [cl 21 f_law08_awake [], mv 2 21]) (.ret)) (.skip))) (seqK [3] (.reg [mv 22 0, cl 23 f_make_Roll [22], mv 3 23]) (seqK [3, 4] (.reg [mv 24 3, cl 25 f_make_Suites [24], mv 4 25]) (seqK [3, 4, 5, 6] (.reg [mv 27 4, cl 28 f_suitespec_Print [27], mv 26 28, ex 29 26 0, ex 30 26 1, mv 5 29, mv 6 30]) (seqK [3, 4, 6, 7, 8, 9] (.reg [mv 32 5, cl 33 f_suitespec_Parse [32], mv 31 33, ex 34 31 0, ex 35 31 1, ex 36 31 2, mv 7 34, mv 8 35, mv 9 36]) (seqK [4, 6, 7, 8, 9, 10, 11, 12] (.reg [mv 38 3, cl 39 f_law08_spec [38], cl 40 f_suitespec_Parse [39], mv 37 40, ex 41 37 0, ex 42 37 1, ex 43 37 2, mv 10 41, mv 11 42, mv 12 43]) (seqK [4, 6, 7, 8, 9, 10, 11, 12, 13, 14] (.reg [mv 45 10, cl 46 f_suitespec_Print [45], mv 44 46, ex 47 44 0, ex 48 44 1, mv 13 47, mv 14 48]) (seqK [4, 6, 7, 8, 9, 10, 11, 12, 14, 15, 16, 17] (.reg [mv 50 13, cl 51 f_suitespec_Parse [50], mv 49 51, ex 52 49 0, ex 53 49 1, ex 54 49 2, mv 15 52, mv 16 53, mv 17 54]) (seqK [2] (.reg [mv 55 6, bc 56 .eql 55 (V.int 0), mv 57 56, mg 58 9 57 true, xg 59 (.bin .eql (.t 58) (.c (V.int 0))) 57 true, xo 60 (.pick (.t 57) (.t 59) (.c (V.bool false))), mv 61 60, mg 62 8 61 true, xg 63 (.bin .eql (.t 62) (.c (V.int 0))) 61 true, xo 64 (.pick (.t 61) (.t 63) (.c (V.bool false))), mv 65 64, mg 66 7 65 true, mg 67 4 65 true, xg 68 (.call f_ref02_SameInts [(.t 66), (.t 67)]) 65 true, xo 69 (.pick (.t 65) (.t 68) (.c (V.bool false))), mv 70 69, mg 71 12 70 true, xg 72 (.bin .eql (.t 71) (.c (V.int 0))) 70 true, xo 73 (.pick (.t 70) (.t 72) (.c (V.bool false))), mv 74 73, mg 75 11 74 true, xg 76 (.bin .eql (.t 75) (.c (V.int 0))) 74 true, xo 77 (.pick (.t 74) (.t 76) (.c (V.bool false))), mv 78 77, mg 79 14 78 true, xg 80 (.bin .eql (.t 79) (.c (V.int 0))) 78 true, xo 81 (.pick (.t 78) (.t 80) (.c (V.bool false))), mv 82 81, mg 83 17 82 true, xg 84 (.bin .eql (.t 83) (.c (V.int 0))) 82 true, xo 85 (.pick (.t 82) (.t 84) (.c (V.bool false))), mv 86 85, mg 87 16 86 true, xg 88 (.bin .eql (.t 87) (.c (V.int 0))) 86 true, xo 89 (.pick (.t 86) (.t 88) (.c (V.bool false))), mv 90 89, mg 91 10 90 true, mg 92 15 90 true, xg 93 (.call f_ref02_SameInts [(.t 91), (.t 92)]) 90 true, xo 94 (.pick (.t 90) (.t 93) (.c (V.bool false))), mv 95 94, xg 96 (.call f_law08_awake []) 95 true, xo 97 (.pick (.t 95) (.t 96) (.c (V.bool false))), mv 2 97]) (.ret)))))))))) def r_law08_SuitespecBack : List ARes := [.tmp 2]
def CE_law08_SuitespecBack (Γ : Env) (f : Nat) : Prop := ∀ (l : List Int), EvN Γ f [.sl 1 (l.map V.int)] (V.bool true)
theorem ev_law08_SuitespecBack {Γ : Env} {f f_make_Light f_law08_awake f_make_Roll f_make_Suites f_suitespec_Print f_suitespec_Parse f_law08_spec f_ref02_SameInts : Nat} (h : Has Γ.P f 98 (c_law08_SuitespecBack f_make_Light f_law08_awake f_make_Roll f_make_Suites f_suitespec_Print f_suitespec_Parse f_law08_spec f_ref02_SameInts) r_law08_SuitespecBack) (h_make_Light : CE_make_Light Γ f_make_Light) (h_law08_awake : CE_law08_awake Γ f_law08_awake) (h_make_Roll : CE_make_Roll Γ f_make_Roll) (h_make_Suites : CE_make_Suites Γ f_make_Suites) (h_suitespec_Print : CE_suitespec_Print Γ f_suitespec_Print) (h_suitespec_Parse : CE_suitespec_Parse Γ f_suitespec_Parse) (h_law08_spec : CE_law08_spec Γ f_law08_spec) (h_ref02_SameInts : CE_ref02_SameInts Γ f_ref02_SameInts) : CE_law08_SuitespecBack Γ f := by
  intro l
  refine evN_of_body h (by simp) (by simp only [V.closed, closedL, V.noSl, noSlL, and_self, and_true, true_and]) (by simp only [V.closed, closedL, V.noSl, noSlL, and_self, and_true, true_and]) fun C hC hm => ?_
  subst hC
  unfold c_law08_SuitespecBack
  by_cases hlen : l.length ≤ 400
  · have e0 : decide ((l.length : Int) ≤ 400) = true := by simp; omega
    have n1 := h_make_Roll l
    have n2 := h_make_Suites l 0 hlen (Nat.zero_le _)
    obtain ⟨hr, hk⟩ := suitesD_ok (l := l) (k := 0) (Nat.zero_le _)
    generalize suitesD l 0 = u at *
    obtain ⟨r, k⟩ := u
    simp only at n2 hr hk
    have n3 := h_law08_spec l k hlen hk
    obtain ⟨P, hP, hp⟩ := parse_specD hk hlen
    have hsl := specD_len hk hlen
    generalize specD l k = u at *
    obtain ⟨s, k2⟩ := u
    simp only at n3 hP hsl
    simp only [dcell] at n1 n2 n3
    have hrl := nd_len hr.nd hr.rg
    have hpl := nd_len hp.nd hp.rg
    have j1 := joinN_len r
    have j2 := joinN_len P
    have g1 := (h_suitespec_Print r (by omega)).b
    have g2 := (h_suitespec_Print P (by omega)).b
    rw [printV_join hr.nd hr.rg] at g1
    rw [printV_join hp.nd hp.rg] at g2
    have q1 := (h_suitespec_Parse (joinN r) (by omega)).b
    have q2 := (h_suitespec_Parse s (by omega)).b
    have q3 := (h_suitespec_Parse (joinN P) (by omega)).b
    rw [parse_print hr.nd hr.rg, parseV] at q1
    rw [hP, parseV] at q2
    rw [parse_print hp.nd hp.rg, parseV] at q3
    have s1 := (h_ref02_SameInts r r (by omega)).b
    have s2 := (h_ref02_SameInts P P (by omega)).b
    rw [beq_ints] at s1 s2
    repeat' (first | refine awp_seqR fun K' hK => ?_ | refine awp_regR fun K' hK => ?_ | refine awp_seqK ?_ | refine awp_skip ?_ | refine awp_block ?_ | ((first | refine awp_cond ⟨_, rfl, fun hc => ?_, fun hc => ?_⟩ | refine awB_t (fun hc => ?_) (fun hc => ?_) | refine awB_f (fun hc => ?_) (fun hc => ?_)) <;> first | exact Bool.noConfusion hc | ((try simp only [decide_eq_true_eq, decide_eq_false_iff_not, beq_iff_eq, beq_eq_false_iff_ne, ne_eq, Bool.not_eq_true', Bool.not_eq_false'] at hc); first | (exfalso; simp only [List.length_map] at hc; omega) | (exfalso; omega) | skip)) | refine awp_ret ?_ | refine awp_exit ?_ | simp (maxSteps := 1000000) only [go_sem, Nat.reduceAdd, Nat.reduceMul, Nat.reduceEqDiff, Nat.reduceLeDiff, Nat.reduceLT, Nat.reduceSub, Int.reduceEq, Int.reduceBEq, Int.reduceLT, Int.reduceLE, Int.reduceAdd, Int.reduceToNat, reduceIte, reduceCtorEq, e0] | (refine hK _ ?_; clear hK; clear K') | refine And.intro ?_ ?_ | (apply awCs_D; (focus (exact rfl)); (focus (first | exact n2 | exact n3 | exact (h_make_Suites _ _ (by first | assumption | omega | (simp; done)) (by first | assumption | omega | (simp; done))) | exact (h_law08_spec _ _ (by first | assumption | omega | (simp; done)) (by first | assumption | omega | (simp; done))))); (focus (exact rfl)); (focus (exact rfl))) | (apply awCs_R; (focus (first | exact n1 | exact (h_make_Roll _)))) | (apply awCs_A; (focus (first | exact g1 | exact g2 | exact q1 | exact q2 | exact q3 | exact s1 | exact s2 | exact (h_make_Light _).b | exact EvN.b h_law08_awake | exact (h_suitespec_Print _ (by first | assumption | omega | (simp; done))).b | exact (h_suitespec_Parse _ (by first | assumption | omega | (simp; done))).b | exact (h_ref02_SameInts _ _ (by first | assumption | omega | (simp; done))).b))) | (simp only [List.length_append, List.length_cons, List.length_nil, List.length_map, Nat.reducePow, Nat.reduceAdd]; omega) | omega | exact List.mem_singleton_self _)
    all_goals first | (refine ends_r _ rfl ?_; simp only [go_sem, Nat.reduceEqDiff, Nat.reduceAdd, reduceIte, reduceCtorEq]; done) | trace_state
  · have e0 : decide ((l.length : Int) ≤ 400) = false := by simp; omega
    repeat' (first | refine awp_seqR fun K' hK => ?_ | refine awp_regR fun K' hK => ?_ | refine awp_seqK ?_ | refine awp_skip ?_ | refine awp_block ?_ | ((first | refine awp_cond ⟨_, rfl, fun hc => ?_, fun hc => ?_⟩ | refine awB_t (fun hc => ?_) (fun hc => ?_) | refine awB_f (fun hc => ?_) (fun hc => ?_)) <;> first | exact Bool.noConfusion hc | ((try simp only [decide_eq_true_eq, decide_eq_false_iff_not, beq_iff_eq, beq_eq_false_iff_ne, ne_eq, Bool.not_eq_true', Bool.not_eq_false'] at hc); first | (exfalso; simp only [List.length_map] at hc; omega) | (exfalso; omega) | skip)) | refine awp_ret ?_ | refine awp_exit ?_ | simp (maxSteps := 1000000) only [go_sem, Nat.reduceAdd, Nat.reduceMul, Nat.reduceEqDiff, Nat.reduceLeDiff, Nat.reduceLT, Nat.reduceSub, Int.reduceEq, Int.reduceBEq, Int.reduceLT, Int.reduceLE, Int.reduceAdd, Int.reduceToNat, reduceIte, reduceCtorEq, e0] | (refine hK _ ?_; clear hK; clear K') | refine And.intro ?_ ?_ | (apply awCs_D; (focus (exact rfl)); (focus (first | exact (h_make_Suites _ _ (by first | assumption | omega | (simp; done)) (by first | assumption | omega | (simp; done))) | exact (h_law08_spec _ _ (by first | assumption | omega | (simp; done)) (by first | assumption | omega | (simp; done))))); (focus (exact rfl)); (focus (exact rfl))) | (apply awCs_R; (focus (first | exact (h_make_Roll _)))) | (apply awCs_A; (focus (first | exact (h_make_Light _).b | exact EvN.b h_law08_awake | exact (h_suitespec_Print _ (by first | assumption | omega | (simp; done))).b | exact (h_suitespec_Parse _ (by first | assumption | omega | (simp; done))).b | exact (h_ref02_SameInts _ _ (by first | assumption | omega | (simp; done))).b))) | (simp only [List.length_append, List.length_cons, List.length_nil, List.length_map, Nat.reducePow, Nat.reduceAdd]; omega) | omega | exact List.mem_singleton_self _)
    all_goals first | (refine ends_r _ rfl ?_; simp only [go_sem, Nat.reduceEqDiff, Nat.reduceAdd, reduceIte, reduceCtorEq]; done) | trace_state
end Av
end

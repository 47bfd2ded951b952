/- Wb -/
import Derived.Test.YtmclfdgmbfdacaaDoorRe
set_option linter.unusedVariables false
set_option linter.unusedSimpArgs false
section
-- ALL all2.txt
set_option linter.unusedSimpArgs false
set_option linter.unusedVariables false
set_option maxRecDepth 10000
set_option maxHeartbeats 4000000
namespace Av
open Go
attribute [local irreducible] AWp runO runP runG awS awC awCv awQ awRd awCallR awCvR awQR awR awRdR awB okR plan ris
def c_law17_RuleBack (f_make_Light f_law17_awake f_make_Roll f_make_Policy f_rule_Print f_rule_Parse f_rule_Same f_law17_text : Nat) : AC := seqK [0] (.reg [mc 2 (V.bool false)]) (seqK [0] (seqK [0, 22] (.reg [mv 20 0, cl 21 f_make_Light [20], xo 22 (.un .not (.t 21))]) (.cond (.t 22) (seqK [2] (.reg [cl 23 f_law17_awake [], mv 2 23]) (.ret)) (.skip))) (seqK [3] (.reg [mv 24 0, cl 25 f_make_Roll [24], mv 3 25]) (seqK [3, 4] (.reg [mv 26 3, cl 27 f_make_Policy [26], xo 4 (.alloc [.nil 6, .nil 2]), xs 2 4 27]) (seqK [3, 4, 5, 6] (.reg [xo 29 (.load true 2 (.t 4)), cl 30 f_rule_Print [29], mv 28 30, ex 31 28 0, ex 32 28 1, mv 5 31, mv 6 32]) (seqK [3, 4, 5, 6, 7, 8, 9] (.reg [mv 34 5, cl 35 f_rule_Parse [34], mv 33 35, ex 36 33 0, ex 37 33 1, ex 38 33 2, xo 7 (.alloc [.nil 6, .nil 2]), xs 2 7 36, mv 8 37, mv 9 38]) (seqK [3, 4, 5, 6, 7, 8, 9, 10, 11] (.reg [xo 40 (.load true 2 (.t 7)), cl 41 f_rule_Print [40], mv 39 41, ex 42 39 0, ex 43 39 1, mv 10 42, mv 11 43]) (seqK [3] (seqK [3, 68] (.reg [mv 44 6, bc 45 .neq 44 (V.int 0), mv 46 45, mg 47 9 46 false, xg 48 (.bin .neq (.t 47) (.c (V.int 0))) 46 false, xo 49 (.pick (.t 46) (.c (V.bool true)) (.t 48)), mv 50 49, mg 51 11 50 false, xg 52 (.bin .neq (.t 51) (.c (V.int 0))) 50 false, xo 53 (.pick (.t 50) (.c (V.bool true)) (.t 52)), mv 54 53, mg 55 8 54 false, xg 56 (.bin .neq (.t 55) (.c (V.int 0))) 54 false, xo 57 (.pick (.t 54) (.c (V.bool true)) (.t 56)), mv 58 57, mg 59 5 58 false, mg 60 10 58 false, xg 61 (.bin .neq (.t 59) (.t 60)) 58 false, xo 62 (.pick (.t 58) (.c (V.bool true)) (.t 61)), mv 63 62, xg 64 (.load true 2 (.t 4)) 63 false, xg 65 (.load true 2 (.t 7)) 63 false, xg 66 (.call f_rule_Same [(.t 64), (.t 65)]) 63 false, xg 67 (.un .not (.t 66)) 63 false, xo 68 (.pick (.t 63) (.c (V.bool true)) (.t 67))]) (.cond (.t 68) (seqK [2] (.reg [mc 2 (V.bool false)]) (.ret)) (.skip))) (seqK [] (seqK [12, 14] (.reg [mv 70 3, cl 71 f_law17_text [70], cl 72 f_rule_Parse [71], mv 69 72, ex 73 69 0, ex 74 69 1, ex 75 69 2, xo 12 (.alloc [.nil 6, .nil 2]), xs 2 12 73, mv 13 74, mv 14 75]) (seqK [12, 77] (.reg [mv 76 14, bc 77 .eql 76 (V.int 0)]) (.cond (.t 77) (seqK [12, 15, 16] (.reg [xo 79 (.load true 2 (.t 12)), cl 80 f_rule_Print [79], mv 78 80, ex 81 78 0, ex 82 78 1, mv 15 81, mv 16 82]) (seqK [12, 16, 17, 19] (.reg [mv 84 15, cl 85 f_rule_Parse [84], mv 83 85, ex 86 83 0, ex 87 83 1, ex 88 83 2, xo 17 (.alloc [.nil 6, .nil 2]), xs 2 17 86, mv 18 87, mv 19 88]) (seqK [2] (.reg [mv 89 16, bc 90 .eql 89 (V.int 0), mv 91 90, mg 92 19 91 true, xg 93 (.bin .eql (.t 92) (.c (V.int 0))) 91 true, xo 94 (.pick (.t 91) (.t 93) (.c (V.bool false))), mv 95 94, xg 96 (.load true 2 (.t 12)) 95 true, xg 97 (.load true 2 (.t 17)) 95 true, xg 98 (.call f_rule_Same [(.t 96), (.t 97)]) 95 true, xo 99 (.pick (.t 95) (.t 98) (.c (V.bool false))), mv 100 99, xg 101 (.call f_law17_awake []) 100 true, xo 102 (.pick (.t 100) (.t 101) (.c (V.bool false))), mv 2 102]) (.ret)))) (.skip)))) (seqK [2] (.reg [cl 103 f_law17_awake [], mv 2 103]) (.ret)))))))))) def r_law17_RuleBack : List ARes := [.tmp 2]
def CE_law17_RuleBack (Γ : Env) (f : Nat) : Prop := ∀ (l : List Int), EvN Γ f [.sl 1 (l.map V.int)] (V.bool true)
theorem ev_law17_RuleBack {Γ : Env} {f f_make_Light f_law17_awake f_make_Roll f_make_Policy f_rule_Print f_rule_Parse f_rule_Same f_law17_text : Nat} (h : Has Γ.P f 104 (c_law17_RuleBack f_make_Light f_law17_awake f_make_Roll f_make_Policy f_rule_Print f_rule_Parse f_rule_Same f_law17_text) r_law17_RuleBack) (h_make_Light : CE_make_Light Γ f_make_Light) (h_law17_awake : CE_law17_awake Γ f_law17_awake) (h_make_Roll : CE_make_Roll Γ f_make_Roll) (h_make_Policy : CE_make_Policy Γ f_make_Policy) (h_rule_Print : CE_rule_Print Γ f_rule_Print) (h_rule_Parse : CE_rule_Parse Γ f_rule_Parse) (h_rule_Same : CE_rule_Same Γ f_rule_Same) (h_law17_text : CE_law17_text Γ f_law17_text) : CE_law17_RuleBack Γ f := by
  intro l
  refine evN_of_body h (by simp) (by simp only [V.closed, closedL, V.noSl, noSlL, and_self, and_true, true_and]) (by simp only [V.closed, closedL, V.noSl, noSlL, and_self, and_true, true_and]) fun C hC hm => ?_
  subst hC
  unfold c_law17_RuleBack
  by_cases hlen : l.length ≤ 400
  · have e0 : decide ((l.length : Int) ≤ 400) = true := by simp; omega
    have n1 := h_make_Roll l
    have n2 := h_make_Policy l 0 hlen (Nat.zero_le _)
    have hR := polRs_ok l (Nat.zero_le l.length)
    have hK := polKs_ok l (Nat.zero_le l.length)
    generalize (polKs l 0).2 = k at *
    generalize (polRs l 0).1 = rs at *
    generalize (polKs l 0).1 = ks at *
    obtain ⟨hk0, v2, l2⟩ := hK
    obtain ⟨_, v1, l1⟩ := hR
    have hc0 := checkV_ok v1 v2 (by omega) (by omega)
    have hP : printP rs ks = (printL rs ks, 0) := if_pos hc0
    have q1 := (h_rule_Print rs ks (by omega) (by omega)).b
    rw [hP] at q1
    have hpl := printL_len v1 v2
    have q2 := (h_rule_Parse (printL rs ks) (by omega)).b
    rw [polParse v1 v2 (by omega)] at q2
    have q3 := (h_rule_Same rs ks rs ks (by omega) (by omega) (by omega) (by omega)).b
    rw [samePol_refl] at q3
    have n4 := h_law17_text l k hlen hk0
    have hT := textD_len l k
    have hTc := textD_cnt l k
    generalize textD l k = u at *
    obtain ⟨T, k2⟩ := u
    simp only [dcell] at n1 n2 n4 hT hTc
    have q5 := (h_rule_Parse T (by omega)).b
    have hv := parse_valid (s := T)
    generalize parseP T = X at *
    obtain ⟨rs2, ks2, m, e⟩ := X
    simp only [resV] at q1 q2 q5 hv
    generalize printL rs ks = S at *
    by_cases he : e = 0
    · subst he
      obtain ⟨w1, w2, w3, w4, w5, w6⟩ := hv rfl
      have hc2 := checkV_ok w1 w2 w3 w4
      have hP2 : printP rs2 ks2 = (printL rs2 ks2, 0) := if_pos hc2
      have q6 := (h_rule_Print rs2 ks2 (by omega) (by omega)).b
      rw [hP2] at q6
      have hpl2 := printL_len w1 w2
      have q7 := (h_rule_Parse (printL rs2 ks2) (by omega)).b
      rw [polParse w1 w2 (by omega)] at q7
      have q8 := (h_rule_Same rs2 ks2 rs2 ks2 (by omega) (by omega) (by omega) (by omega)).b
      rw [samePol_refl] at q8
      simp only [resV] at q7
      generalize printL rs2 ks2 = S2 at *
      have e5 : (S != S) = false := by simp
      repeat' (first | refine awp_seqR fun K' hK => ?_ | refine awp_regR fun K' hK => ?_ | refine awp_seqK ?_ | refine awp_skip ?_ | refine awp_block ?_ | ((first | refine awp_cond ⟨_, rfl, fun hc => ?_, fun hc => ?_⟩ | refine awB_t (fun hc => ?_) (fun hc => ?_) | refine awB_f (fun hc => ?_) (fun hc => ?_)) <;> first | exact Bool.noConfusion hc | ((try simp only [decide_eq_true_eq, decide_eq_false_iff_not, beq_iff_eq, beq_eq_false_iff_ne, ne_eq, Bool.not_eq_true', Bool.not_eq_false'] at hc); first | (exfalso; simp only [List.length_map] at hc; omega) | (exfalso; omega) | skip)) | refine awp_ret ?_ | refine awp_exit ?_ | simp (maxSteps := 1000000) only [go_sem, Nat.reduceAdd, Nat.reduceMul, Nat.reduceEqDiff, Nat.reduceLeDiff, Nat.reduceLT, Nat.reduceSub, Int.reduceEq, Int.reduceBEq, Int.reduceLT, Int.reduceLE, Int.reduceAdd, Int.reduceToNat, reduceIte, reduceCtorEq, dcell, e0, e5] | (refine hK _ ?_; clear hK; clear K') | refine And.intro ?_ ?_ | (apply awCs_D; (focus (exact rfl)); (focus (first | exact n2 | exact n4 | exact (h_make_Policy _ _ (by first | assumption | omega | (simp; done)) (by first | assumption | omega | (simp; done))) | exact (h_law17_text _ _ (by first | assumption | omega | (simp; done)) (by first | assumption | omega | (simp; done))))); (focus (exact rfl)); (focus (exact rfl))) | (apply awCs_R; (focus (first | exact n1 | exact (h_make_Roll _)))) | (apply awCs_A; (focus (first | exact q1 | exact q2 | exact q3 | exact q5 | exact q6 | exact q7 | exact q8 | exact (h_make_Light _).b | exact EvN.b h_law17_awake | exact (h_rule_Print _ _ (by first | assumption | omega | (simp; done)) (by first | assumption | omega | (simp; done))).b | exact (h_rule_Parse _ (by first | assumption | omega | (simp; done))).b | exact (h_rule_Same _ _ _ _ (by first | assumption | omega | (simp; done)) (by first | assumption | omega | (simp; done)) (by first | assumption | omega | (simp; done)) (by first | assumption | omega | (simp; done))).b))) | (simp only [List.length_append, List.length_cons, List.length_nil, List.length_map, Nat.reducePow, Nat.reduceAdd]; omega) | omega | exact List.mem_singleton_self _)
      all_goals first | (refine ends_r _ rfl ?_; simp only [go_sem, Nat.reduceEqDiff, Nat.reduceAdd, reduceIte, reduceCtorEq]; done) | trace_state
    · have e4 : (e == 0) = false := by simpa using he
      have e5 : (S != S) = false := by simp
      repeat' (first | refine awp_seqR fun K' hK => ?_ | refine awp_regR fun K' hK => ?_ | refine awp_seqK ?_ | refine awp_skip ?_ | refine awp_block ?_ | ((first | refine awp_cond ⟨_, rfl, fun hc => ?_, fun hc => ?_⟩ | refine awB_t (fun hc => ?_) (fun hc => ?_) | refine awB_f (fun hc => ?_) (fun hc => ?_)) <;> first | exact Bool.noConfusion hc | ((try simp only [decide_eq_true_eq, decide_eq_false_iff_not, beq_iff_eq, beq_eq_false_iff_ne, ne_eq, Bool.not_eq_true', Bool.not_eq_false'] at hc); first | (exfalso; simp only [List.length_map] at hc; omega) | (exfalso; omega) | skip)) | refine awp_ret ?_ | refine awp_exit ?_ | simp (maxSteps := 1000000) only [go_sem, Nat.reduceAdd, Nat.reduceMul, Nat.reduceEqDiff, Nat.reduceLeDiff, Nat.reduceLT, Nat.reduceSub, Int.reduceEq, Int.reduceBEq, Int.reduceLT, Int.reduceLE, Int.reduceAdd, Int.reduceToNat, reduceIte, reduceCtorEq, dcell, e0, e4, e5] | (refine hK _ ?_; clear hK; clear K') | refine And.intro ?_ ?_ | (apply awCs_D; (focus (exact rfl)); (focus (first | exact n2 | exact n4 | exact (h_make_Policy _ _ (by first | assumption | omega | (simp; done)) (by first | assumption | omega | (simp; done))) | exact (h_law17_text _ _ (by first | assumption | omega | (simp; done)) (by first | assumption | omega | (simp; done))))); (focus (exact rfl)); (focus (exact rfl))) | (apply awCs_R; (focus (first | exact n1 | exact (h_make_Roll _)))) | (apply awCs_A; (focus (first | exact q1 | exact q2 | exact q3 | exact q5 | exact (h_make_Light _).b | exact EvN.b h_law17_awake | exact (h_rule_Print _ _ (by first | assumption | omega | (simp; done)) (by first | assumption | omega | (simp; done))).b | exact (h_rule_Parse _ (by first | assumption | omega | (simp; done))).b | exact (h_rule_Same _ _ _ _ (by first | assumption | omega | (simp; done)) (by first | assumption | omega | (simp; done)) (by first | assumption | omega | (simp; done)) (by first | assumption | omega | (simp; done))).b))) | (simp only [List.length_append, List.length_cons, List.length_nil, List.length_map, Nat.reducePow, Nat.reduceAdd]; omega) | omega | exact List.mem_singleton_self _)
      all_goals first | (refine ends_r _ rfl ?_; simp only [go_sem, Nat.reduceEqDiff, Nat.reduceAdd, reduceIte, reduceCtorEq]; done) | trace_state
  · have e0 : decide ((l.length : Int) ≤ 400) = false := by simp; omega
    repeat' (first | refine awp_seqR fun K' hK => ?_ | refine awp_regR fun K' hK => ?_ | refine awp_seqK ?_ | refine awp_skip ?_ | refine awp_block ?_ | ((first | refine awp_cond ⟨_, rfl, fun hc => ?_, fun hc => ?_⟩ | refine awB_t (fun hc => ?_) (fun hc => ?_) | refine awB_f (fun hc => ?_) (fun hc => ?_)) <;> first | exact Bool.noConfusion hc | ((try simp only [decide_eq_true_eq, decide_eq_false_iff_not, beq_iff_eq, beq_eq_false_iff_ne, ne_eq, Bool.not_eq_true', Bool.not_eq_false'] at hc); first | (exfalso; simp only [List.length_map] at hc; omega) | (exfalso; omega) | skip)) | refine awp_ret ?_ | refine awp_exit ?_ | simp (maxSteps := 1000000) only [go_sem, Nat.reduceAdd, Nat.reduceMul, Nat.reduceEqDiff, Nat.reduceLeDiff, Nat.reduceLT, Nat.reduceSub, Int.reduceEq, Int.reduceBEq, Int.reduceLT, Int.reduceLE, Int.reduceAdd, Int.reduceToNat, reduceIte, reduceCtorEq, e0] | (refine hK _ ?_; clear hK; clear K') | refine And.intro ?_ ?_ | (apply awCs_D; (focus (exact rfl)); (focus (first | exact (h_make_Policy _ _ (by first | assumption | omega | (simp; done)) (by first | assumption | omega | (simp; done))) | exact (h_law17_text _ _ (by first | assumption | omega | (simp; done)) (by first | assumption | omega | (simp; done))))); (focus (exact rfl)); (focus (exact rfl))) | (apply awCs_R; (focus (first | exact (h_make_Roll _)))) | (apply awCs_A; (focus (first | exact (h_make_Light _).b | exact EvN.b h_law17_awake | exact (h_rule_Print _ _ (by first | assumption | omega | (simp; done)) (by first | assumption | omega | (simp; done))).b | exact (h_rule_Parse _ (by first | assumption | omega | (simp; done))).b | exact (h_rule_Same _ _ _ _ (by first | assumption | omega | (simp; done)) (by first | assumption | omega | (simp; done)) (by first | assumption | omega | (simp; done)) (by first | assumption | omega | (simp; done))).b))) | (simp only [List.length_append, List.length_cons, List.length_nil, List.length_map, Nat.reducePow, Nat.reduceAdd]; omega) | omega | exact List.mem_singleton_self _)
    all_goals first | (refine ends_r _ rfl ?_; simp only [go_sem, Nat.reduceEqDiff, Nat.reduceAdd, reduceIte, reduceCtorEq]; done) | trace_state
end Av
end

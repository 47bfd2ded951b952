/- TabW -/
import Derived.Test.YtdjmgokhpganaaaDoorTab
set_option linter.unusedVariables false
set_option linter.unusedSimpArgs false
section
set_option linter.unusedSimpArgs false
set_option linter.unusedVariables false
set_option maxRecDepth 10000
set_option maxHeartbeats 4000000
namespace Av
open Go
attribute [local irreducible] AWp runO runP runG awS awC awCv awQ awRd awCallR awCvR awQR awR awRdR awB okR plan ris

-- REGION cipherplanlaw02_CatalogTable 0: 9 operations, 1 orders, L [], X false, ok true
def o_cipherplanlaw02_CatalogTable_0 : List AO :=
  [⟨(some 23), .mov (.t 3), none⟩,
    ⟨(some 24), .mov (.t 5), none⟩,
    ⟨(some 25), .iaddr 12 (.t 23) (.t 24), none⟩,
    ⟨(some 26), .load true 12 (.t 25), none⟩,
    ⟨(some 27), .mov (.t 4), none⟩,
    ⟨(some 28), .mov (.t 5), none⟩,
    ⟨(some 29), .iaddr 12 (.t 27) (.t 28), none⟩,
    ⟨(some 30), .load true 12 (.t 29), none⟩,
    ⟨(some 31), .eqagg true [0, 1, 0, 0, 0, 0, 0, 0, 0, 0, 0, 0] (.t 26) (.t 30), none⟩]
def a_cipherplanlaw02_CatalogTable_0 : List (List Nat) := [[], [], [0, 1], [2], [], [], [4, 5], [6], [3, 7]]
def t_cipherplanlaw02_CatalogTable_0 : OT := .one 0 (.one 1 (.one 2 (.one 3 (.one 4 (.one 5 (.one 6 (.one 7 (.one 8 (.done)))))))))
def p_cipherplanlaw02_CatalogTable_0 : OP :=
  .one 0 false [] ⟨(some 23), .mov (.t 3), none⟩
  (.one 1 false [] ⟨(some 24), .mov (.t 5), none⟩
  (.one 2 false [] ⟨(some 25), .iaddr 12 (.t 23) (.t 24), none⟩
  (.one 3 false [] ⟨(some 26), .load true 12 (.t 25), none⟩
  (.one 4 false [] ⟨(some 27), .mov (.t 4), none⟩
  (.one 5 false [] ⟨(some 28), .mov (.t 5), none⟩
  (.one 6 false [] ⟨(some 29), .iaddr 12 (.t 27) (.t 28), none⟩
  (.one 7 false [] ⟨(some 30), .load true 12 (.t 29), none⟩
  (.one 8 false [] ⟨(some 31), .eqagg true [0, 1, 0, 0, 0, 0, 0, 0, 0, 0, 0, 0] (.t 26) (.t 30), none⟩
  (.done)))))))))
theorem k_cipherplanlaw02_CatalogTable_0 : okR (o_cipherplanlaw02_CatalogTable_0) a_cipherplanlaw02_CatalogTable_0 [] t_cipherplanlaw02_CatalogTable_0 = true := by kernel_rfl
theorem q_cipherplanlaw02_CatalogTable_0 : plan (ris (o_cipherplanlaw02_CatalogTable_0) a_cipherplanlaw02_CatalogTable_0 []) t_cipherplanlaw02_CatalogTable_0 = p_cipherplanlaw02_CatalogTable_0 := by kernel_rfl

def c_cipherplanlaw02_CatalogTable (f_catalog_Suites f_cipherplanref02_Suites f_catalog_Suite f_cipherplanref02_Suite f_cipherplanlaw02_awake : Nat) : AC :=
  seqK [0] (.reg [⟨(some 2), .mov (.c (V.bool false)), none⟩])
  (seqK [0, 3, 4] (.reg [⟨(some 10), .call f_catalog_Suites [], none⟩,
      ⟨(some 11), .call f_cipherplanref02_Suites [], none⟩,
      ⟨(some 3), .mov (.t 10), none⟩,
      ⟨(some 4), .mov (.t 11), none⟩])
   (seqK [0, 3, 4] (seqK [0, 3, 4, 16] (.reg [⟨(some 12), .mov (.t 3), none⟩,
        ⟨(some 13), .lenL (.t 12), none⟩,
        ⟨(some 14), .mov (.t 4), none⟩,
        ⟨(some 15), .lenL (.t 14), none⟩,
        ⟨(some 16), .bin .neq (.t 13) (.t 15), none⟩])
     (.cond (.t 16)
       (seqK [2] (.reg [⟨(some 2), .mov (.c (V.bool false)), none⟩])
        (.ret))
       (.skip)))
    (seqK [0] (seqK [0, 3, 4, 5] (.reg [⟨(some 5), .mov (.c (V.int 0)), none⟩])
      (.block 0 (loopK [0, 3, 4, 5] (seqK [0, 3, 4, 5] (seqK [0, 3, 4, 5, 20] (.reg [⟨(some 17), .mov (.t 5), none⟩,
             ⟨(some 18), .mov (.t 3), none⟩,
             ⟨(some 19), .lenL (.t 18), none⟩,
             ⟨(some 20), .bin .lss (.t 17) (.t 19), none⟩])
          (.cond (.t 20)
            (.skip)
            (.exit 0)))
         (seqK [0, 3, 4, 5] (.block 1 (seqK [0, 3, 4, 5, 31] (regK [] t_cipherplanlaw02_CatalogTable_0 (p_cipherplanlaw02_CatalogTable_0) (o_cipherplanlaw02_CatalogTable_0) a_cipherplanlaw02_CatalogTable_0)
            (.cond (.t 31)
              (seqK [2] (.reg [⟨(some 2), .mov (.c (V.bool false)), none⟩])
               (.ret))
              (.skip))))
          (.reg [⟨(some 21), .mov (.t 5), none⟩,
             ⟨(some 22), .bin .add (.t 21) (.c (V.int 1)), none⟩,
             ⟨(some 5), .mov (.t 22), none⟩]))))))
     (seqK [0, 6, 7] (.reg [⟨(some 33), .mov (.t 0), none⟩,
         ⟨(some 34), .call f_catalog_Suite [(.t 33)], none⟩,
         ⟨(some 32), .mov (.t 34), none⟩,
         ⟨(some 35), .ext (.t 32) 0, none⟩,
         ⟨(some 36), .ext (.t 32) 1, none⟩,
         ⟨(some 6), .alloc [.val (.int .i64 0), .val (.string ⟨#[]⟩), .val (.int .i64 0), .val (.int .i64 0), .val (.int .i64 0), .val (.int .i64 0), .val (.int .i64 0), .val (.int .i64 0), .val (.int .i64 0), .val (.int .i64 0), .val (.int .i64 0), .val (.int .i64 0)], none⟩,
         ⟨none, .store 12 (.t 6) (.t 35), none⟩,
         ⟨(some 7), .mov (.t 36), none⟩])
      (seqK [6, 7, 8, 9] (.reg [⟨(some 38), .mov (.t 0), none⟩,
          ⟨(some 39), .call f_cipherplanref02_Suite [(.t 38)], none⟩,
          ⟨(some 37), .mov (.t 39), none⟩,
          ⟨(some 40), .ext (.t 37) 0, none⟩,
          ⟨(some 41), .ext (.t 37) 1, none⟩,
          ⟨(some 8), .alloc [.val (.int .i64 0), .val (.string ⟨#[]⟩), .val (.int .i64 0), .val (.int .i64 0), .val (.int .i64 0), .val (.int .i64 0), .val (.int .i64 0), .val (.int .i64 0), .val (.int .i64 0), .val (.int .i64 0), .val (.int .i64 0), .val (.int .i64 0)], none⟩,
          ⟨none, .store 12 (.t 8) (.t 40), none⟩,
          ⟨(some 9), .mov (.t 41), none⟩])
       (seqK [2] (.reg [⟨(some 42), .load true 12 (.t 6), none⟩,
           ⟨(some 43), .load true 12 (.t 8), none⟩,
           ⟨(some 44), .eqagg false [0, 1, 0, 0, 0, 0, 0, 0, 0, 0, 0, 0] (.t 42) (.t 43), none⟩,
           ⟨(some 45), .mov (.t 44), none⟩,
           ⟨(some 46), .mov (.t 7), (some (45, true))⟩,
           ⟨(some 47), .mov (.t 9), (some (45, true))⟩,
           ⟨(some 48), .bin .eql (.t 46) (.t 47), (some (45, true))⟩,
           ⟨(some 49), .pick (.t 45) (.t 48) (.c (V.bool false)), none⟩,
           ⟨(some 50), .mov (.t 49), none⟩,
           ⟨(some 51), .call f_cipherplanlaw02_awake [], (some (50, true))⟩,
           ⟨(some 52), .pick (.t 50) (.t 51) (.c (V.bool false)), none⟩,
           ⟨(some 2), .mov (.t 52), none⟩])
        (.ret)))))))

def r_cipherplanlaw02_CatalogTable : List ARes := [.tmp 2]
def CE_cipherplanlaw02_CatalogTable (Γ : Env) (f : Nat) : Prop := ∀ (c : Int), EvN Γ f [V.int c] (V.bool true)
theorem ev_cipherplanlaw02_CatalogTable {Γ : Env} {f f_catalog_Suites f_cipherplanref02_Suites f_catalog_Suite f_cipherplanref02_Suite f_cipherplanlaw02_awake : Nat} (h : Has Γ.P f 53 (c_cipherplanlaw02_CatalogTable f_catalog_Suites f_cipherplanref02_Suites f_catalog_Suite f_cipherplanref02_Suite f_cipherplanlaw02_awake) r_cipherplanlaw02_CatalogTable) (h_catalog_Suites : CE_catalog_Suites Γ f_catalog_Suites) (h_cipherplanref02_Suites : CE_cipherplanref02_Suites Γ f_cipherplanref02_Suites) (h_catalog_Suite : CE_catalog_Suite Γ f_catalog_Suite) (h_cipherplanref02_Suite : CE_cipherplanref02_Suite Γ f_cipherplanref02_Suite) (h_cipherplanlaw02_awake : CE_cipherplanlaw02_awake Γ f_cipherplanlaw02_awake) : CE_cipherplanlaw02_CatalogTable Γ f := by
  intro c
  refine evN_of_body h (by simp) (by simp only [V.closed, closedL, V.noSl, noSlL, and_self, and_true, true_and]) (by simp only [V.closed, closedL, V.noSl, noSlL, and_self, and_true, true_and]) fun C hC hm => ?_
  subst hC
  unfold c_cipherplanlaw02_CatalogTable
  have hl := suites_len
  have e0 : ((((suitesL.map CSuite.v).length : Nat) : Int) != (((suitesL.map CSuite.v).length : Nat) : Int)) = false := by simp
  have x1 := h_catalog_Suite c
  have x2 := h_cipherplanref02_Suite c
  have ec : ∀ n : Int, (n == n) = true := by simp
  repeat' (first
    | refine awp_seqR fun K' hK => ?_
    | refine awp_regR fun K' hK => ?_
    | refine awp_seqP 9 (fun _ => true) rfl (k_cipherplanlaw02_CatalogTable_0) (q_cipherplanlaw02_CatalogTable_0) fun K' hK => ?_
    | refine awp_regP 9 (fun _ => true) rfl (k_cipherplanlaw02_CatalogTable_0) (q_cipherplanlaw02_CatalogTable_0) fun K' hK => ?_
    | refine awp_seqK ?_
    | refine awp_skip ?_
    | refine awp_block ?_
    | ((first | refine awp_cond ⟨_, rfl, fun hc => ?_, fun hc => ?_⟩ | refine awB_t (fun hc => ?_) (fun hc => ?_) | refine awB_f (fun hc => ?_) (fun hc => ?_)) <;> first | exact Bool.noConfusion hc | (exfalso; simp only [decide_eq_true_eq, decide_eq_false_iff_not, List.length_map, Bool.not_eq_true', Bool.not_eq_false'] at hc; omega) | (try simp only [decide_eq_true_eq, decide_eq_false_iff_not, beq_iff_eq, beq_eq_false_iff_ne, ne_eq, Bool.not_eq_true', Bool.not_eq_false'] at hc))
    | refine awp_ret ?_
    | refine awp_exit ?_
    | simp (maxSteps := 1000000) only [go_sem, Nat.reduceAdd, Nat.reduceMul, Nat.reduceEqDiff, Nat.reduceLeDiff, Nat.reduceLT, Nat.reduceSub, Int.reduceEq, Int.reduceBEq, Int.reduceLT, Int.reduceLE, Int.reduceAdd, Int.reduceToNat, reduceIte, reduceCtorEq, e0, p_cipherplanlaw02_CatalogTable_0]
    | (refine hK _ ?_; clear hK; clear K')
    | refine And.intro ?_ ?_
    | ((first | apply awC_A | apply awCR_A); (focus (simp only [go_sem, Nat.reduceAdd, Nat.reduceMul, Nat.reduceEqDiff, Nat.reduceLeDiff, Nat.reduceLT, Nat.reduceSub, Int.reduceEq, Int.reduceBEq, Int.reduceLT, Int.reduceLE, Int.reduceAdd, Int.reduceToNat, reduceIte, reduceCtorEq, e0]; first | exact EvC.b h_catalog_Suites | exact EvC.b h_cipherplanref02_Suites | exact (h_catalog_Suite _).b | exact (h_cipherplanref02_Suite _).b | exact EvN.b h_cipherplanlaw02_awake)); (focus (simp only [go_sem, Nat.reduceAdd, Nat.reduceMul, Nat.reduceEqDiff, Nat.reduceLeDiff, Nat.reduceLT, Nat.reduceSub, Int.reduceEq, Int.reduceBEq, Int.reduceLT, Int.reduceLE, Int.reduceAdd, Int.reduceToNat, reduceIte, reduceCtorEq, e0])))
    | (simp only [List.length_append, List.length_cons, List.length_nil, List.length_map, Nat.reducePow, Nat.reduceAdd]; omega)
    | omega)
  refine awp_loopP (ι := Nat) (fun k => k ≤ 16) (fun k => [(5, V.int k)]) (fun k => 16 - k) 0 (by omega) (by omega) (by repeat' first | exact ltO_none | refine ltO_upd (by omega) (by simp only [Ob.lt, ltL, V.lt, and_self, and_true]; try omega) ?_) (fun i hi => by simp only [ovT, lookD, Nat.reduceEqDiff, reduceIte]; (repeat' first | exact ltT_nil | refine ltT_cons ?_ ?_ | simp only [V.lt, ltL, and_self, and_true] | omega)) (by simp only [Nat.reduceAdd, ovT, lookD, Nat.reduceEqDiff, reduceIte, eqT_cons, eqT_nil, renI, u32, u33, u34, u35, u36, u37, u38, u39, and_self, and_true, true_and] <;> rfl) fun k hk K' hL => ?_
  simp only [ovT, lookD, Nat.reduceEqDiff, reduceIte]
  by_cases hk2 : k < 16
  · have e1 : decide ((k : Int) < (((suitesL.map CSuite.v).length : Nat) : Int)) = true := by simp [hl]; omega
    obtain ⟨y, hget⟩ : ∃ y, suitesL[k]? = some y := ⟨suitesL[k]'(by omega), List.getElem?_eq_getElem (by omega)⟩
    have hw := wrap_succ (k := k) (by omega)
    repeat' (first
    | refine awp_seqR fun K' hK => ?_
    | refine awp_regR fun K' hK => ?_
    | refine awp_seqP 9 (fun _ => true) rfl (k_cipherplanlaw02_CatalogTable_0) (q_cipherplanlaw02_CatalogTable_0) fun K' hK => ?_
    | refine awp_regP 9 (fun _ => true) rfl (k_cipherplanlaw02_CatalogTable_0) (q_cipherplanlaw02_CatalogTable_0) fun K' hK => ?_
    | refine awp_seqK ?_
    | refine awp_skip ?_
    | refine awp_block ?_
    | ((first | refine awp_cond ⟨_, rfl, fun hc => ?_, fun hc => ?_⟩ | refine awB_t (fun hc => ?_) (fun hc => ?_) | refine awB_f (fun hc => ?_) (fun hc => ?_)) <;> first | exact Bool.noConfusion hc | (exfalso; simp only [decide_eq_true_eq, decide_eq_false_iff_not, List.length_map, Bool.not_eq_true', Bool.not_eq_false'] at hc; omega) | (try simp only [decide_eq_true_eq, decide_eq_false_iff_not, beq_iff_eq, beq_eq_false_iff_ne, ne_eq, Bool.not_eq_true', Bool.not_eq_false'] at hc))
    | refine awp_ret ?_
    | refine awp_exit ?_
    | simp (maxSteps := 1000000) only [go_sem, Nat.reduceAdd, Nat.reduceMul, Nat.reduceEqDiff, Nat.reduceLeDiff, Nat.reduceLT, Nat.reduceSub, Int.reduceEq, Int.reduceBEq, Int.reduceLT, Int.reduceLE, Int.reduceAdd, Int.reduceToNat, reduceIte, reduceCtorEq, Int.toNat_natCast, List.getElem?_map, hget, hw, e1, CSuite.v, CSuite.cells, p_cipherplanlaw02_CatalogTable_0]
    | (refine hK _ ?_; clear hK; clear K')
    | refine And.intro ?_ ?_
    | ((first | apply awC_A | apply awCR_A); (focus (simp only [go_sem, Nat.reduceAdd, Nat.reduceMul, Nat.reduceEqDiff, Nat.reduceLeDiff, Nat.reduceLT, Nat.reduceSub, Int.reduceEq, Int.reduceBEq, Int.reduceLT, Int.reduceLE, Int.reduceAdd, Int.reduceToNat, reduceIte, reduceCtorEq, Int.toNat_natCast, List.getElem?_map, hget, hw, e1, CSuite.v, CSuite.cells]; first | exact EvC.b h_catalog_Suites | exact EvC.b h_cipherplanref02_Suites | exact (h_catalog_Suite _).b | exact (h_cipherplanref02_Suite _).b | exact EvN.b h_cipherplanlaw02_awake)); (focus (simp only [go_sem, Nat.reduceAdd, Nat.reduceMul, Nat.reduceEqDiff, Nat.reduceLeDiff, Nat.reduceLT, Nat.reduceSub, Int.reduceEq, Int.reduceBEq, Int.reduceLT, Int.reduceLE, Int.reduceAdd, Int.reduceToNat, reduceIte, reduceCtorEq, Int.toNat_natCast, List.getElem?_map, hget, hw, e1, CSuite.v, CSuite.cells])))
    | (simp only [List.length_append, List.length_cons, List.length_nil, List.length_map, Nat.reducePow, Nat.reduceAdd]; omega)
    | omega)
    all_goals first
      | (refine hL _ (k + 1) (by simp only [Nat.reduceAdd, ovT, lookD, Nat.reduceEqDiff, reduceIte, eqT_cons, eqT_nil, renI, u32, u33, u34, u35, u36, u37, u38, u39, and_self, and_true, true_and]) (by omega) (by omega) (fun a ha => by simp only [u32, u33, u34, u35, u36, u37, u38, u39]; repeat rw [if_neg (by omega)]); done)
      | trace_state
  · have e1 : decide ((k : Int) < (((suitesL.map CSuite.v).length : Nat) : Int)) = false := by simp [hl]; omega
    repeat' (first
    | refine awp_seqR fun K' hK => ?_
    | refine awp_regR fun K' hK => ?_
    | refine awp_seqP 9 (fun _ => true) rfl (k_cipherplanlaw02_CatalogTable_0) (q_cipherplanlaw02_CatalogTable_0) fun K' hK => ?_
    | refine awp_regP 9 (fun _ => true) rfl (k_cipherplanlaw02_CatalogTable_0) (q_cipherplanlaw02_CatalogTable_0) fun K' hK => ?_
    | refine awp_seqK ?_
    | refine awp_skip ?_
    | refine awp_block ?_
    | ((first | refine awp_cond ⟨_, rfl, fun hc => ?_, fun hc => ?_⟩ | refine awB_t (fun hc => ?_) (fun hc => ?_) | refine awB_f (fun hc => ?_) (fun hc => ?_)) <;> first | exact Bool.noConfusion hc | (exfalso; simp only [decide_eq_true_eq, decide_eq_false_iff_not, List.length_map, Bool.not_eq_true', Bool.not_eq_false'] at hc; omega) | (try simp only [decide_eq_true_eq, decide_eq_false_iff_not, beq_iff_eq, beq_eq_false_iff_ne, ne_eq, Bool.not_eq_true', Bool.not_eq_false'] at hc))
    | refine awp_ret ?_
    | refine awp_exit ?_
    | simp (maxSteps := 1000000) only [go_sem, Nat.reduceAdd, Nat.reduceMul, Nat.reduceEqDiff, Nat.reduceLeDiff, Nat.reduceLT, Nat.reduceSub, Int.reduceEq, Int.reduceBEq, Int.reduceLT, Int.reduceLE, Int.reduceAdd, Int.reduceToNat, reduceIte, reduceCtorEq, e1, suiteV, CSuite.v, CSuite.cells, p_cipherplanlaw02_CatalogTable_0]
    | (refine hK _ ?_; clear hK; clear K')
    | refine And.intro ?_ ?_
    | ((first | apply awC_A | apply awCR_A); (focus (simp only [go_sem, Nat.reduceAdd, Nat.reduceMul, Nat.reduceEqDiff, Nat.reduceLeDiff, Nat.reduceLT, Nat.reduceSub, Int.reduceEq, Int.reduceBEq, Int.reduceLT, Int.reduceLE, Int.reduceAdd, Int.reduceToNat, reduceIte, reduceCtorEq, e1, suiteV, CSuite.v, CSuite.cells]; first | exact x1.b | exact x2.b | exact EvC.b h_catalog_Suites | exact EvC.b h_cipherplanref02_Suites | exact (h_catalog_Suite _).b | exact (h_cipherplanref02_Suite _).b | exact EvN.b h_cipherplanlaw02_awake)); (focus (simp only [go_sem, Nat.reduceAdd, Nat.reduceMul, Nat.reduceEqDiff, Nat.reduceLeDiff, Nat.reduceLT, Nat.reduceSub, Int.reduceEq, Int.reduceBEq, Int.reduceLT, Int.reduceLE, Int.reduceAdd, Int.reduceToNat, reduceIte, reduceCtorEq, e1, suiteV, CSuite.v, CSuite.cells])))
    | (simp only [List.length_append, List.length_cons, List.length_nil, List.length_map, Nat.reducePow, Nat.reduceAdd]; omega)
    | omega)
    refine ends_r _ rfl ?_; simp only [go_sem, Nat.reduceAdd, Nat.reduceMul, Nat.reduceEqDiff, Nat.reduceLeDiff, Nat.reduceLT, Nat.reduceSub, Int.reduceEq, Int.reduceBEq, Int.reduceLT, Int.reduceLE, Int.reduceAdd, Int.reduceToNat, reduceIte, reduceCtorEq]
end Av
end

/- Sb -/
import Derived.Test.YtdjmgokhpganaaaDoorSa
import Derived.Test.YtdjmgokhpganaaaDoorAvM
set_option linter.unusedVariables false
set_option linter.unusedSimpArgs false
section
set_option linter.unusedSimpArgs false
set_option linter.unusedVariables false
set_option maxRecDepth 10000
set_option maxHeartbeats 4000000
namespace Av
open Go
attribute [local irreducible] AWp runO runP runG awS awC awCv awQ awRd awCallR awCvR awQR awR awRdR awB okR plan ris
def withoutL (l some : List Int) : List Int := l.filter fun x => !some.contains x
theorem withoutL_succ {l m : List Int} {k : Nat} {x : Int} (h : l[k]? = some x) : withoutL (l.take (k + 1)) m = withoutL (l.take k) m ++ (if m.contains x = true then [] else [x]) := by
  rw [withoutL, withoutL, List.take_add_one, h, List.filter_append]
  congr 1
  by_cases hx : m.contains x = true <;> simp at hx <;> simp [hx]
theorem withoutL_len (l m : List Int) : (withoutL l m).length ≤ l.length := List.length_filter_le _ _
end Av
end
section
set_option linter.unusedSimpArgs false
set_option linter.unusedVariables false
set_option maxRecDepth 10000
set_option maxHeartbeats 4000000
namespace Av
open Go
attribute [local irreducible] AWp runO runP runG awS awC awCv awQ awRd awCallR awCvR awQR awR awRdR awB okR plan ris
def insK (out : List Int) (x : Int) : Nat → Nat
  | 0 => 0
  | k + 1 => if sufS (out.getD k 0) < sufS x then insK out x k else k + 1
theorem insK_le (out : List Int) (x : Int) : ∀ k, insK out x k ≤ k
  | 0 => Nat.le_refl _
  | k + 1 => by
    rw [insK]; split
    · exact Nat.le_succ_of_le (insK_le out x k)
    · exact Nat.le_refl _
def insS (out : List Int) (x : Int) : List Int := out.take (insK out x out.length) ++ [x] ++ out.drop (insK out x out.length)
theorem insS_len (out : List Int) (x : Int) : (insS out x).length = out.length + 1 := by
  have := insK_le out x out.length
  simp [insS]; omega
def sortS (l : List Int) : List Int := l.foldl insS []
theorem sortS_succ {l : List Int} {k : Nat} {x : Int} (h : l[k]? = some x) : sortS (l.take (k + 1)) = insS (sortS (l.take k)) x := by
  rw [sortS, sortS, List.take_add_one, h, List.foldl_append]; rfl
theorem foldl_len : ∀ (l out : List Int), (l.foldl insS out).length = out.length + l.length
  | [], out => by simp
  | x :: r, out => by rw [List.foldl_cons, foldl_len r, insS_len]; simp; omega
theorem sortS_len (l : List Int) : (sortS l).length = l.length := by rw [sortS, foldl_len]; simp

-- REGION ref08_Sort 0: 16 operations, 1 orders, L [], X false, ok true
def o_ref08_Sort_0 (f_ref08_Strength : Nat) : List AO := [mv 14 5, bc 15 .gtr 14 (V.int 0), mv 16 15, mg 17 3 16 true, mg 18 5 16 true, xg 19 (.bin .sub (.t 18) (.c (V.int 1))) 16 true, xg 20 (.iaddr 1 (.t 17) (.t 19)) 16 true, xg 21 (.load false 1 (.t 20)) 16 true, xg 22 (.call f_ref08_Strength [(.t 21)]) 16 true, mg 23 0 16 true, mg 24 4 16 true, xg 25 (.iaddr 1 (.t 23) (.t 24)) 16 true, xg 26 (.load false 1 (.t 25)) 16 true, xg 27 (.call f_ref08_Strength [(.t 26)]) 16 true, xg 28 (.bin .lss (.t 22) (.t 27)) 16 true, xo 29 (.pick (.t 16) (.t 28) (.c (V.bool false)))]
def a_ref08_Sort_0 : List (List Nat) := [[], [0], [1], [2], [2], [4, 2], [3, 5, 2], [6, 2], [7, 2, 2], [2], [2], [9, 10, 2], [11, 2], [12, 8, 2], [8, 13, 2], [2, 14]]
def t_ref08_Sort_0 : OT := .one 0 (.one 1 (.one 2 (.one 3 (.one 4 (.one 5 (.one 6 (.one 7 (.one 9 (.one 10 (.one 11 (.one 12 (.or 8 (.or 13 (.one 14 (.one 15 (.done))) (.done)) (.done)))))))))))))
def p_ref08_Sort_0 (f_ref08_Strength : Nat) : OP := .one 0 false [] (mv 14 5) (.one 1 false [] (bc 15 .gtr 14 (V.int 0)) (.one 2 false [] (mv 16 15) (.one 3 false [] (mg 17 3 16 true) (.one 4 false [] (mg 18 5 16 true) (.one 5 false [] (xg 19 (.bin .sub (.t 18) (.c (V.int 1))) 16 true) (.one 6 false [] (xg 20 (.iaddr 1 (.t 17) (.t 19)) 16 true) (.one 7 false [] (xg 21 (.load false 1 (.t 20)) 16 true) (.one 9 false [] (mg 23 0 16 true) (.one 10 false [] (mg 24 4 16 true) (.one 11 false [] (xg 25 (.iaddr 1 (.t 23) (.t 24)) 16 true) (.one 12 false [] (xg 26 (.load false 1 (.t 25)) 16 true) (.or 8 false [] (xg 22 (.call f_ref08_Strength [(.t 21)]) 16 true) (.or 13 false [] (xg 27 (.call f_ref08_Strength [(.t 26)]) 16 true) (.one 14 false [13, 8] (xg 28 (.bin .lss (.t 22) (.t 27)) 16 true) (.one 15 false [13, 8] (xo 29 (.pick (.t 16) (.t 28) (.c (V.bool false)))) (.done))) (.done)) (.done)))))))))))))
theorem k_ref08_Sort_0 (f_ref08_Strength : Nat) : okR (o_ref08_Sort_0 f_ref08_Strength) a_ref08_Sort_0 [] t_ref08_Sort_0 = true := by kernel_rfl
theorem q_ref08_Sort_0 (f_ref08_Strength : Nat) : plan (ris (o_ref08_Sort_0 f_ref08_Strength) a_ref08_Sort_0 []) t_ref08_Sort_0 = p_ref08_Sort_0 f_ref08_Strength := by kernel_rfl -- REGION ref08_Sort 1: 16 operations, 3 orders, L [], X false, ok true
def o_ref08_Sort_1 : List AO := [xo 32 (.bslice 0 1 false [(.int .i64 0)] []), mv 33 3, mv 34 5, xo 35 (.slsl 1 (.t 33) none (some (.t 34))), xo 36 (.append 1 8 [(.int .i64 0)] (.t 32) (.t 35)), mv 37 0, mv 38 4, ia 39 1 37 38, ld 40 1 39, xo 41 (.bslice 1 1 false [(.int .i64 0)] [(0, (.t 40))]), xo 42 (.append 1 8 [(.int .i64 0)] (.t 36) (.t 41)), mv 43 3, mv 44 5, xo 45 (.slsl 1 (.t 43) (some (.t 44)) none), xo 46 (.append 1 8 [(.int .i64 0)] (.t 42) (.t 45)), mv 3 46]
def a_ref08_Sort_1 : List (List Nat) := [[], [], [], [1, 2], [0, 3], [], [], [5, 6], [7], [8], [4, 9, 4], [], [], [11, 12], [10, 13, 10], [14, 14, 0, 1, 2, 3, 4, 5, 6, 7, 8, 9, 10, 11, 12, 13, 14]]
def t_ref08_Sort_1 : OT := .one 1 (.one 2 (.one 3 (.one 5 (.one 6 (.one 7 (.one 8 (.one 11 (.one 12 (.one 13 (.or 0 (.or 4 (.or 9 (.one 10 (.one 14 (.one 15 (.done)))) (.done)) (.or 9 (.or 4 (.one 10 (.one 14 (.one 15 (.done)))) (.done)) (.done))) (.or 9 (.or 0 (.or 4 (.one 10 (.one 14 (.one 15 (.done)))) (.done)) (.done)) (.done))))))))))))
def p_ref08_Sort_1 : OP := .one 1 false [] (mv 33 3) (.one 2 false [] (mv 34 5) (.one 3 false [] (xo 35 (.slsl 1 (.t 33) none (some (.t 34)))) (.one 5 false [] (mv 37 0) (.one 6 false [] (mv 38 4) (.one 7 false [] (ia 39 1 37 38) (.one 8 false [] (ld 40 1 39) (.one 11 false [] (mv 43 3) (.one 12 false [] (mv 44 5) (.one 13 false [] (xo 45 (.slsl 1 (.t 43) (some (.t 44)) none)) (.or 0 false [] (xo 32 (.bslice 0 1 false [(.int .i64 0)] [])) (.or 4 true [0] (xo 36 (.append 1 8 [(.int .i64 0)] (.t 32) (.t 35))) (.or 9 false [] (xo 41 (.bslice 1 1 false [(.int .i64 0)] [(0, (.t 40))])) (.one 10 true [9, 4, 0] (xo 42 (.append 1 8 [(.int .i64 0)] (.t 36) (.t 41))) (.one 14 true [10, 9, 4, 0] (xo 46 (.append 1 8 [(.int .i64 0)] (.t 42) (.t 45))) (.one 15 false [14, 10, 9, 4, 0] (mv 3 46) (.done)))) (.done)) (.or 9 false [] (xo 41 (.bslice 1 1 false [(.int .i64 0)] [(0, (.t 40))])) (.or 4 true [0] (xo 36 (.append 1 8 [(.int .i64 0)] (.t 32) (.t 35))) (.one 10 true [9, 4, 0] (xo 42 (.append 1 8 [(.int .i64 0)] (.t 36) (.t 41))) (.one 14 true [10, 9, 4, 0] (xo 46 (.append 1 8 [(.int .i64 0)] (.t 42) (.t 45))) (.one 15 false [14, 10, 9, 4, 0] (mv 3 46) (.done)))) (.done)) (.done))) (.or 9 false [] (xo 41 (.bslice 1 1 false [(.int .i64 0)] [(0, (.t 40))])) (.or 0 false [] (xo 32 (.bslice 0 1 false [(.int .i64 0)] [])) (.or 4 true [0] (xo 36 (.append 1 8 [(.int .i64 0)] (.t 32) (.t 35))) (.one 10 true [9, 4, 0] (xo 42 (.append 1 8 [(.int .i64 0)] (.t 36) (.t 41))) (.one 14 true [10, 9, 4, 0] (xo 46 (.append 1 8 [(.int .i64 0)] (.t 42) (.t 45))) (.one 15 false [14, 10, 9, 4, 0] (mv 3 46) (.done)))) (.done)) (.done)) (.done))))))))))))
theorem k_ref08_Sort_1 : okR (o_ref08_Sort_1) a_ref08_Sort_1 [] t_ref08_Sort_1 = true := by kernel_rfl
theorem q_ref08_Sort_1 : plan (ris (o_ref08_Sort_1) a_ref08_Sort_1 []) t_ref08_Sort_1 = p_ref08_Sort_1 := by kernel_rfl def c_ref08_Sort (f_ref08_Strength : Nat) : AC := seqK [0] (.reg [xo 2 (.mknil 1)]) (seqK [0, 3] (.reg [xo 3 (.mknil 1)]) (seqK [3] (seqK [0, 3, 4] (.reg [mc 4 (V.int 0)]) (.block 0 (loopK [0, 3, 4] (seqK [0, 3, 4] (seqK [0, 3, 4, 9] (.reg [mv 6 4, mv 7 0, ln 8 7, bn 9 .lss 6 8]) (.cond (.t 9) (.skip) (.exit 0))) (seqK [0, 3, 4] (.block 1 (seqK [0, 3, 4, 5] (.reg [mv 12 3, ln 13 12, mv 5 13]) (seqK [0, 3, 4, 5] (.block 2 (loopK [0, 3, 4, 5] (seqK [0, 3, 4, 5] (seqK [0, 3, 4, 5, 29] (regK [] t_ref08_Sort_0 (p_ref08_Sort_0 f_ref08_Strength) (o_ref08_Sort_0 f_ref08_Strength) a_ref08_Sort_0) (.cond (.t 29) (.skip) (.exit 2))) (.block 3 (.reg [mv 30 5, bc 31 .sub 30 (V.int 1), mv 5 31]))))) (regK [] t_ref08_Sort_1 (p_ref08_Sort_1) (o_ref08_Sort_1) a_ref08_Sort_1)))) (.reg [mv 10 4, bc 11 .add 10 (V.int 1), mv 4 11])))))) (seqK [2] (.reg [mv 47 3, mv 2 47]) (.ret)))) def r_ref08_Sort : List ARes := [.tmp 2]
def CE_ref08_Sort (Γ : Env) (f : Nat) : Prop := ∀ (l : List Int) (hl : l.length < 2 ^ 34), EvW Γ f [.sl 1 (l.map V.int)] 1 ((sortS l).map V.int)
theorem ev_ref08_Sort {Γ : Env} {f f_ref08_Strength : Nat} (h : Has Γ.P f 48 (c_ref08_Sort f_ref08_Strength) r_ref08_Sort) (h_ref08_Strength : CE_ref08_Strength Γ f_ref08_Strength) : CE_ref08_Sort Γ f := by
  intro l hl
  refine evW_of_body h (by simp) (by first | exact ints_noSl _ | exact strs_noSl _) fun C hC hm => ?_
  subst hC
  unfold c_ref08_Sort
  repeat' (first | refine awp_seqR fun K' hK => ?_ | refine awp_regR fun K' hK => ?_ | refine awp_seqP 16 (fun _ => true) rfl (k_ref08_Sort_0 _) (q_ref08_Sort_0 _) fun K' hK => ?_ | refine awp_regP 16 (fun _ => true) rfl (k_ref08_Sort_0 _) (q_ref08_Sort_0 _) fun K' hK => ?_ | refine awp_seqP 16 (fun _ => true) rfl (k_ref08_Sort_1) (q_ref08_Sort_1) fun K' hK => ?_ | refine awp_regP 16 (fun _ => true) rfl (k_ref08_Sort_1) (q_ref08_Sort_1) fun K' hK => ?_ | refine awp_seqK ?_ | refine awp_skip ?_ | refine awp_block ?_ | ((first | refine awp_cond ⟨_, rfl, fun hc => ?_, fun hc => ?_⟩ | refine awB_t (fun hc => ?_) (fun hc => ?_) | refine awB_f (fun hc => ?_) (fun hc => ?_)) <;> first | exact Bool.noConfusion hc | ((try simp only [decide_eq_true_eq, decide_eq_false_iff_not, beq_iff_eq, beq_eq_false_iff_ne, ne_eq, Bool.not_eq_true', Bool.not_eq_false'] at hc); first | (exfalso; simp only [List.length_map] at hc; omega) | (exfalso; omega) | skip)) | refine awp_ret ?_ | refine awp_exit ?_ | simp (maxSteps := 1000000) only [go_sem, Nat.reduceAdd, Nat.reduceMul, Nat.reduceEqDiff, Nat.reduceLeDiff, Nat.reduceLT, Nat.reduceSub, Int.reduceEq, Int.reduceBEq, Int.reduceLT, Int.reduceLE, Int.reduceAdd, Int.reduceToNat, reduceIte, reduceCtorEq, p_ref08_Sort_0, p_ref08_Sort_1] | (refine hK _ ?_; clear hK; clear K') | refine And.intro ?_ ?_ | ((first | apply awCs_A | apply awCRs_A); (focus (first | exact (h_ref08_Strength _).b))) | (simp only [List.length_append, List.length_cons, List.length_nil, List.length_map, Nat.reducePow, Nat.reduceAdd]; omega) | omega | exact List.mem_singleton_self _)
  refine awp_loopV (ι := Nat) (fun k => k ≤ l.length) (fun k => mkSt [(0, .sl 1 (l.map V.int)), (3, .hd 0 0 (sortS (l.take k)).length), (4, V.int k)] [(0, .buf true 1 ((sortS (l.take k)).map V.int))] 1) (fun k => l.length - k) 0 (by omega) (lookN [(0, 1000)]) (weak_g [(0, 1000)] (by simp only [go_sem, Nat.reduceAdd, Nat.reduceMul, Nat.reduceEqDiff, Nat.reduceLT, Int.reduceToNat, reduceIte, reduceCtorEq, and_true, true_and, implies_true, Option.some.injEq, exists_eq_left', closedL_ren, closed_ren]; (repeat' (first | rfl | refine And.intro ?_ ?_ | omega | exact fun h => h | exact Exists.intro _ rfl))) (by simp only [go_sem, Nat.reduceAdd, Nat.reduceMul, Nat.reduceEqDiff, Nat.reduceLT, Int.reduceToNat, reduceIte, reduceCtorEq, and_true, true_and, implies_true, Option.some.injEq, exists_eq_left', closedL_ren, closed_ren]; (repeat' (first | rfl | refine And.intro ?_ ?_ | omega | exact fun h => h | exact Exists.intro _ rfl))) (by simp) (by simp; omega) (by omega)) fun k hk K' hL => ?_
  rcases hd : l.drop k with _ | ⟨x, r⟩
  · have hkl := drop_nil hd
    have e1 : decide ((k : Int) < (((l.map V.int).length : Nat) : Int)) = false := by simp; omega
    have e3 : l.take k = l := List.take_of_length_le hkl
    rw [e3]
    repeat' (first | refine awp_seqR fun K' hK => ?_ | refine awp_regR fun K' hK => ?_ | refine awp_seqP 16 (fun _ => true) rfl (k_ref08_Sort_0 _) (q_ref08_Sort_0 _) fun K' hK => ?_ | refine awp_regP 16 (fun _ => true) rfl (k_ref08_Sort_0 _) (q_ref08_Sort_0 _) fun K' hK => ?_ | refine awp_seqP 16 (fun _ => true) rfl (k_ref08_Sort_1) (q_ref08_Sort_1) fun K' hK => ?_ | refine awp_regP 16 (fun _ => true) rfl (k_ref08_Sort_1) (q_ref08_Sort_1) fun K' hK => ?_ | refine awp_seqK ?_ | refine awp_skip ?_ | refine awp_block ?_ | ((first | refine awp_cond ⟨_, rfl, fun hc => ?_, fun hc => ?_⟩ | refine awB_t (fun hc => ?_) (fun hc => ?_) | refine awB_f (fun hc => ?_) (fun hc => ?_)) <;> first | exact Bool.noConfusion hc | ((try simp only [decide_eq_true_eq, decide_eq_false_iff_not, beq_iff_eq, beq_eq_false_iff_ne, ne_eq, Bool.not_eq_true', Bool.not_eq_false'] at hc); first | (exfalso; simp only [List.length_map] at hc; omega) | (exfalso; omega) | skip)) | refine awp_ret ?_ | refine awp_exit ?_ | simp (maxSteps := 1000000) only [go_sem, Nat.reduceAdd, Nat.reduceMul, Nat.reduceEqDiff, Nat.reduceLeDiff, Nat.reduceLT, Nat.reduceSub, Int.reduceEq, Int.reduceBEq, Int.reduceLT, Int.reduceLE, Int.reduceAdd, Int.reduceToNat, reduceIte, reduceCtorEq, mkSt, e1, p_ref08_Sort_0, p_ref08_Sort_1] | (refine hK _ ?_; clear hK; clear K') | refine And.intro ?_ ?_ | ((first | apply awCs_A | apply awCRs_A); (focus (first | exact (h_ref08_Strength _).b))) | (simp only [List.length_append, List.length_cons, List.length_nil, List.length_map, Nat.reducePow, Nat.reduceAdd]; omega) | omega | exact List.mem_singleton_self _)
    all_goals (refine ends_w _ _ rfl ?_ ?_ <;> first | rfl | (simp; done))
  · obtain ⟨hk', hget, hr⟩ := drop_cons hd
    have hw := wrap_succ (k := k) (by omega)
    have e1 : decide ((k : Int) < (((l.map V.int).length : Nat) : Int)) = true := by simp; omega
    have hcs := sortS_succ hget
    have hol : (sortS (l.take k)).length = k := by rw [sortS_len, List.length_take]; omega
    generalize sortS (l.take k) = out at *
    repeat' (first | refine awp_seqR fun K' hK => ?_ | refine awp_regR fun K' hK => ?_ | refine awp_seqP 16 (fun _ => true) rfl (k_ref08_Sort_0 _) (q_ref08_Sort_0 _) fun K' hK => ?_ | refine awp_regP 16 (fun _ => true) rfl (k_ref08_Sort_0 _) (q_ref08_Sort_0 _) fun K' hK => ?_ | refine awp_seqP 16 (fun _ => true) rfl (k_ref08_Sort_1) (q_ref08_Sort_1) fun K' hK => ?_ | refine awp_regP 16 (fun _ => true) rfl (k_ref08_Sort_1) (q_ref08_Sort_1) fun K' hK => ?_ | refine awp_seqK ?_ | refine awp_skip ?_ | refine awp_block ?_ | ((first | refine awp_cond ⟨_, rfl, fun hc => ?_, fun hc => ?_⟩ | refine awB_t (fun hc => ?_) (fun hc => ?_) | refine awB_f (fun hc => ?_) (fun hc => ?_)) <;> first | exact Bool.noConfusion hc | ((try simp only [decide_eq_true_eq, decide_eq_false_iff_not, beq_iff_eq, beq_eq_false_iff_ne, ne_eq, Bool.not_eq_true', Bool.not_eq_false'] at hc); first | (exfalso; simp only [List.length_map] at hc; omega) | (exfalso; omega) | skip)) | refine awp_ret ?_ | refine awp_exit ?_ | simp (maxSteps := 1000000) only [go_sem, Nat.reduceAdd, Nat.reduceMul, Nat.reduceEqDiff, Nat.reduceLeDiff, Nat.reduceLT, Nat.reduceSub, Int.reduceEq, Int.reduceBEq, Int.reduceLT, Int.reduceLE, Int.reduceAdd, Int.reduceToNat, reduceIte, reduceCtorEq, mkSt, e1, p_ref08_Sort_0, p_ref08_Sort_1] | (refine hK _ ?_; clear hK; clear K') | refine And.intro ?_ ?_ | ((first | apply awCs_A | apply awCRs_A); (focus (first | exact (h_ref08_Strength _).b))) | (simp only [List.length_append, List.length_cons, List.length_nil, List.length_map, Nat.reducePow, Nat.reduceAdd]; omega) | omega | exact List.mem_singleton_self _)
    refine awp_loopP (ι := Nat) (fun j => j ≤ out.length ∧ insK out x j = insK out x out.length) (fun j => [(5, V.int j)]) (fun j => j) out.length (by omega) ⟨by omega, rfl⟩ (by repeat' first | exact ltO_none | refine ltO_upd (by omega) (by simp only [Ob.lt, ltL, V.lt, and_self, and_true]; try omega) ?_) (fun i hi => by simp only [ovT, lookD, Nat.reduceEqDiff, reduceIte]; (repeat' first | exact ltT_nil | refine ltT_cons ?_ ?_ | simp only [V.lt, ltL, and_self, and_true] | omega)) (by simp only [Nat.reduceAdd, ovT, lookD, Nat.reduceEqDiff, reduceIte, eqT_cons, eqT_nil, renI, u32, u33, u34, u35, u36, u37, u38, u39, and_self, and_true, true_and]) fun j hj K'' hL2 => ?_
    obtain ⟨hj, hinv⟩ := hj
    simp only [ovT, lookD, Nat.reduceEqDiff, reduceIte]
    rcases j with _ | j
    · have e2 : decide (((0 : Nat) : Int) > 0) = false := rfl
      have h0 : insK out x out.length = 0 := by rw [← hinv]; rfl
      have hfin : V.sc (Value.int .i64 x) :: List.take (out.length - 0) (out.map V.int) = (insS out x).map V.int := by
        rw [insS, h0, List.take_of_length_le (by simp)]; simp
      have hln : 1 + (List.take (out.length - 0) (out.map V.int)).length = (insS out x).length := by
        rw [insS_len]; simp; omega
      repeat' (first | refine awp_seqR fun K' hK => ?_ | refine awp_regR fun K' hK => ?_ | refine awp_seqP 16 (fun _ => true) rfl (k_ref08_Sort_0 _) (q_ref08_Sort_0 _) fun K' hK => ?_ | refine awp_regP 16 (fun _ => true) rfl (k_ref08_Sort_0 _) (q_ref08_Sort_0 _) fun K' hK => ?_ | refine awp_seqP 16 (fun _ => true) rfl (k_ref08_Sort_1) (q_ref08_Sort_1) fun K' hK => ?_ | refine awp_regP 16 (fun _ => true) rfl (k_ref08_Sort_1) (q_ref08_Sort_1) fun K' hK => ?_ | refine awp_seqK ?_ | refine awp_skip ?_ | refine awp_block ?_ | ((first | refine awp_cond ⟨_, rfl, fun hc => ?_, fun hc => ?_⟩ | refine awB_t (fun hc => ?_) (fun hc => ?_) | refine awB_f (fun hc => ?_) (fun hc => ?_)) <;> first | exact Bool.noConfusion hc | ((try simp only [decide_eq_true_eq, decide_eq_false_iff_not, beq_iff_eq, beq_eq_false_iff_ne, ne_eq, Bool.not_eq_true', Bool.not_eq_false'] at hc); first | (exfalso; simp only [List.length_map] at hc; omega) | (exfalso; omega) | skip)) | refine awp_ret ?_ | refine awp_exit ?_ | simp (maxSteps := 1000000) only [go_sem, Nat.reduceAdd, Nat.reduceMul, Nat.reduceEqDiff, Nat.reduceLeDiff, Nat.reduceLT, Nat.reduceSub, Int.reduceEq, Int.reduceBEq, Int.reduceLT, Int.reduceLE, Int.reduceAdd, Int.reduceToNat, reduceIte, reduceCtorEq, e2, hw, Int.toNat_natCast, List.getElem?_map, hget, p_ref08_Sort_0, p_ref08_Sort_1] | (refine hK _ ?_; clear hK; clear K') | refine And.intro ?_ ?_ | ((first | apply awCs_A | apply awCRs_A); (focus (first | exact (h_ref08_Strength _).b))) | (simp only [List.length_append, List.length_cons, List.length_nil, List.length_map, Nat.reducePow, Nat.reduceAdd]; omega) | omega | exact List.mem_singleton_self _)
      all_goals first
        | (intro y hy; have h9 := List.mem_of_mem_take hy; simp only [List.mem_map] at h9; obtain ⟨z, _, rfl⟩ := h9; rfl)
        | (rw [hln]; rw [insS_len]; omega)
        | (rw [hln, hfin]
           refine hL _ (k + 1) (lookN [(0, 37001)]) (by omega) (by omega) ?_
           rw [hcs]
           exact weak_g [(0, 37001)] (by simp only [go_sem, Nat.reduceAdd, Nat.reduceMul, Nat.reduceEqDiff, Nat.reduceLT, Int.reduceToNat, reduceIte, reduceCtorEq, and_true, true_and, implies_true, Option.some.injEq, exists_eq_left', closedL_ren, closed_ren]; (repeat' (first | rfl | refine And.intro ?_ ?_ | omega | exact fun h => h | exact Exists.intro _ rfl))) (by simp only [go_sem, Nat.reduceAdd, Nat.reduceMul, Nat.reduceEqDiff, Nat.reduceLT, Int.reduceToNat, reduceIte, reduceCtorEq, and_true, true_and, implies_true, Option.some.injEq, exists_eq_left', closedL_ren, closed_ren]; (repeat' (first | rfl | refine And.intro ?_ ?_ | omega | exact fun h => h | exact Exists.intro _ rfl))) (by simp) (by simp; omega) (by omega))
        | trace_state
    · have e2 : decide (((j + 1 : Nat) : Int) > 0) = true := decide_eq_true (by omega)
      have hwj : IntKind.i64.wrap (((j + 1 : Nat) : Int) - 1) = (j : Int) := by rw [wrap_id (by omega) (by omega)]; omega
      obtain ⟨y, hy⟩ : ∃ y, out[j]? = some y := ⟨out[j]'(by omega), List.getElem?_eq_getElem (by omega)⟩
      have hyd : out.getD j 0 = y := by rw [List.getD_eq_getElem?_getD, hy]; rfl
      rw [insK, hyd] at hinv
      have hyt : (List.take out.length (out.map V.int))[j]? = some (V.int y) := by rw [List.take_of_length_le (by simp), List.getElem?_map, hy]; rfl
      rcases hlt : decide (sufS y < sufS x) with _ | _
      · rw [if_neg (of_decide_eq_false hlt)] at hinv
        have hA : List.take (j + 1 - 0) (out.map V.int) = (out.take (j + 1)).map V.int := by rw [Nat.sub_zero, List.map_take]
        have hB : List.take (out.length - (j + 1)) (List.drop (j + 1) (out.map V.int)) = (out.drop (j + 1)).map V.int := by
          rw [List.take_of_length_le (by simp), List.map_drop]
        have hC : List.take ((out.take (j + 1)).map V.int).length ((out.take (j + 1)).map V.int) = (out.take (j + 1)).map V.int := List.take_length
        have hD : List.take (((out.take (j + 1)).map V.int).length + 1) ((out.take (j + 1)).map V.int ++ [V.sc (Value.int .i64 x)]) = (out.take (j + 1) ++ [x]).map V.int := by
          rw [List.take_of_length_le (by simp), List.map_append]; rfl
        have hfin : (out.take (j + 1) ++ [x]).map V.int ++ (out.drop (j + 1)).map V.int = (insS out x).map V.int := by
          rw [insS, ← hinv, List.map_append, List.map_append, List.map_append]
        have hln : ((out.take (j + 1)).map V.int).length + 1 + ((out.drop (j + 1)).map V.int).length = (insS out x).length := by
          rw [insS_len]; simp; omega
        repeat' (first | refine awp_seqR fun K' hK => ?_ | refine awp_regR fun K' hK => ?_ | refine awp_seqP 16 (fun _ => true) rfl (k_ref08_Sort_0 _) (q_ref08_Sort_0 _) fun K' hK => ?_ | refine awp_regP 16 (fun _ => true) rfl (k_ref08_Sort_0 _) (q_ref08_Sort_0 _) fun K' hK => ?_ | refine awp_seqP 16 (fun _ => true) rfl (k_ref08_Sort_1) (q_ref08_Sort_1) fun K' hK => ?_ | refine awp_regP 16 (fun _ => true) rfl (k_ref08_Sort_1) (q_ref08_Sort_1) fun K' hK => ?_ | refine awp_seqK ?_ | refine awp_skip ?_ | refine awp_block ?_ | ((first | refine awp_cond ⟨_, rfl, fun hc => ?_, fun hc => ?_⟩ | refine awB_t (fun hc => ?_) (fun hc => ?_) | refine awB_f (fun hc => ?_) (fun hc => ?_)) <;> first | exact Bool.noConfusion hc | ((try simp only [decide_eq_true_eq, decide_eq_false_iff_not, beq_iff_eq, beq_eq_false_iff_ne, ne_eq, Bool.not_eq_true', Bool.not_eq_false'] at hc); first | (exfalso; simp only [List.length_map] at hc; omega) | (exfalso; omega) | skip)) | refine awp_ret ?_ | refine awp_exit ?_ | simp (maxSteps := 1000000) only [go_sem, Nat.reduceAdd, Nat.reduceMul, Nat.reduceEqDiff, Nat.reduceLeDiff, Nat.reduceLT, Nat.reduceSub, Int.reduceEq, Int.reduceBEq, Int.reduceLT, Int.reduceLE, Int.reduceAdd, Int.reduceToNat, reduceIte, reduceCtorEq, e2, hw, hwj, Int.toNat_natCast, List.getElem?_map, hget, hy, hlt, p_ref08_Sort_0, p_ref08_Sort_1] | (refine hK _ ?_; clear hK; clear K') | refine And.intro ?_ ?_ | ((first | apply awCs_A | apply awCRs_A); (focus (first | exact (h_ref08_Strength _).b))) | (simp only [List.length_append, List.length_cons, List.length_nil, List.length_map, Nat.reducePow, Nat.reduceAdd]; omega) | omega | exact List.mem_singleton_self _)
        all_goals first
          | (intro z hz; rw [hA] at hz; simp only [List.mem_map] at hz; obtain ⟨w, _, rfl⟩ := hz; rfl)
          | (intro z hz; rw [hB] at hz; simp only [List.mem_map] at hz; obtain ⟨w, _, rfl⟩ := hz; rfl)
          | (simp; done)
          | (simp; omega)
          | (rw [hA, hB, hln, hC, hD, hfin]
             refine hL _ (k + 1) (lookN [(0, 37001)]) (by omega) (by omega) ?_
             rw [hcs]
             exact weak_g [(0, 37001)] (by simp only [go_sem, Nat.reduceAdd, Nat.reduceMul, Nat.reduceEqDiff, Nat.reduceLT, Int.reduceToNat, reduceIte, reduceCtorEq, and_true, true_and, implies_true, Option.some.injEq, exists_eq_left', closedL_ren, closed_ren]; (repeat' (first | rfl | refine And.intro ?_ ?_ | omega | exact fun h => h | exact Exists.intro _ rfl))) (by simp only [go_sem, Nat.reduceAdd, Nat.reduceMul, Nat.reduceEqDiff, Nat.reduceLT, Int.reduceToNat, reduceIte, reduceCtorEq, and_true, true_and, implies_true, Option.some.injEq, exists_eq_left', closedL_ren, closed_ren]; (repeat' (first | rfl | refine And.intro ?_ ?_ | omega | exact fun h => h | exact Exists.intro _ rfl))) (by simp) (by simp; omega) (by omega))
          | trace_state
      · repeat' (first | refine awp_seqR fun K' hK => ?_ | refine awp_regR fun K' hK => ?_ | refine awp_seqP 16 (fun _ => true) rfl (k_ref08_Sort_0 _) (q_ref08_Sort_0 _) fun K' hK => ?_ | refine awp_regP 16 (fun _ => true) rfl (k_ref08_Sort_0 _) (q_ref08_Sort_0 _) fun K' hK => ?_ | refine awp_seqP 16 (fun _ => true) rfl (k_ref08_Sort_1) (q_ref08_Sort_1) fun K' hK => ?_ | refine awp_regP 16 (fun _ => true) rfl (k_ref08_Sort_1) (q_ref08_Sort_1) fun K' hK => ?_ | refine awp_seqK ?_ | refine awp_skip ?_ | refine awp_block ?_ | ((first | refine awp_cond ⟨_, rfl, fun hc => ?_, fun hc => ?_⟩ | refine awB_t (fun hc => ?_) (fun hc => ?_) | refine awB_f (fun hc => ?_) (fun hc => ?_)) <;> first | exact Bool.noConfusion hc | ((try simp only [decide_eq_true_eq, decide_eq_false_iff_not, beq_iff_eq, beq_eq_false_iff_ne, ne_eq, Bool.not_eq_true', Bool.not_eq_false'] at hc); first | (exfalso; simp only [List.length_map] at hc; omega) | (exfalso; omega) | skip)) | refine awp_ret ?_ | refine awp_exit ?_ | simp (maxSteps := 1000000) only [go_sem, Nat.reduceAdd, Nat.reduceMul, Nat.reduceEqDiff, Nat.reduceLeDiff, Nat.reduceLT, Nat.reduceSub, Int.reduceEq, Int.reduceBEq, Int.reduceLT, Int.reduceLE, Int.reduceAdd, Int.reduceToNat, reduceIte, reduceCtorEq, e2, hw, hwj, Int.toNat_natCast, List.getElem?_map, hget, hy, hlt, p_ref08_Sort_0, p_ref08_Sort_1] | (refine hK _ ?_; clear hK; clear K') | refine And.intro ?_ ?_ | ((first | apply awCs_A | apply awCRs_A); (focus (first | exact (h_ref08_Strength _).b))) | (simp only [List.length_append, List.length_cons, List.length_nil, List.length_map, Nat.reducePow, Nat.reduceAdd]; omega) | omega | exact List.mem_singleton_self _)
        rw [if_pos (of_decide_eq_true hlt)] at hinv
        all_goals exact hL2 _ j (by simp only [Nat.reduceAdd, ovT, lookD, Nat.reduceEqDiff, reduceIte, eqT_cons, eqT_nil, renI, u32, u33, u34, u35, u36, u37, u38, u39, and_self, and_true, true_and]) ⟨by omega, hinv⟩ (by omega) (fun a ha => by simp only [u32, u33, u34, u35, u36, u37, u38, u39]; repeat rw [if_neg (by omega)])
end Av
end
section
set_option linter.unusedSimpArgs false
set_option linter.unusedVariables false
set_option maxRecDepth 10000
set_option maxHeartbeats 4000000
namespace Av
open Go
attribute [local irreducible] AWp runO runP runG awS awC awCv awQ awRd awCallR awCvR awQR awR awRdR awB okR plan ris
def nameP (c : Int) : List UInt8 := (suiteAt c).name ++ if (suiteAt c).name = [99, 104, 97, 99, 104, 97] then [43, 118, 52] else []
def printG : List Int → List Int → List UInt8 → Option (List UInt8)
  | _, [], s => some s
  | p, x :: r, s => if p.contains x = true then none else printG (p ++ [x]) r ((if p = [] then s else s ++ [58]) ++ nameP x)
def badC (c : Int) : Bool := decide (c < 1) || decide (c > 16)
def printV (l : List Int) : V := if l.any badC = true then .tup [V.str [], V.int 8] else match printG [] l [] with
  | none => .tup [V.str [], V.int 5]
  | some s => .tup [V.str s, V.int 0]
theorem nameP_len (c : Int) : (nameP c).length ≤ 40 := by
  have h : ∀ s ∈ suitesL, s.name.length ≤ 30 := by decide
  have h2 : (suiteAt c).name.length ≤ 30 := by
    unfold suiteAt; split
    · rename_i hc
      have hk : (c - 1).toNat < suitesL.length := by rw [suites_len]; omega
      rw [List.getD_eq_getElem?_getD, List.getElem?_eq_getElem hk, Option.getD_some]
      exact h _ (List.getElem_mem hk)
    · simp [suite0]
  unfold nameP
  rw [List.length_append]
  split <;> simp <;> omega
theorem printV_closed (l : List Int) : (printV l).closed := by
  unfold printV; split
  · simp only [V.closed, closedL, and_self]
  · split <;> simp only [V.closed, closedL, and_self]
theorem printV_noSl (l : List Int) : (printV l).noSl := by
  unfold printV; split
  · simp only [V.noSl, noSlL, and_self]
  · split <;> simp only [V.noSl, noSlL, and_self]

-- REGION ref08_Print 0: 8 operations, 1 orders, L [], X false, ok true
end Av
end
section
set_option linter.unusedSimpArgs false
set_option linter.unusedVariables false
set_option maxRecDepth 10000
set_option maxHeartbeats 4000000
namespace Av
open Go
attribute [local irreducible] AWp runO runP runG awS awC awCv awQ awRd awCallR awCvR awQR awR awRdR awB okR plan ris
def signS : List UInt8 → UInt8 × List UInt8
  | [] => (0, [])
  | c :: r => if c = 45 ∨ c = 33 ∨ c = 43 then (c, r) else (0, c :: r)
abbrev RowP := List Int × List Int
def doG (g : UInt8) (set : List Int) (p : RowP) : RowP :=
  if g = 45 then (withoutL p.1 set, p.2)
  else if g = 33 then (withoutL p.1 set, p.2 ++ set)
  else if g = 43 then (withoutL p.1 set ++ withoutL p.1 (withoutL p.1 set), p.2)
  else (p.1 ++ withoutL (withoutL set p.1) p.2, p.2)
def strW : List UInt8 := [64, 115, 116, 114, 101, 110, 103, 116, 104]
def wordOk (w : List UInt8) : Bool := w == strW || (setS (signS w).2).2
def doR (w : List UInt8) (p : RowP) : RowP := if w == strW then (sortS p.1, p.2) else doG (signS w).1 (setS (signS w).2).1 p
def goP : List (List UInt8) → Nat → RowP → List Int × Int × Int
  | [], _, p => (p.1, 0, 0)
  | w :: r, i, p => if wordOk w = true then goP r (i + 1) (doR w p) else ([], ((i + 1 : Nat) : Int), 17)
def parseW (s : List UInt8) : List Int × Int × Int :=
  if s.length > 8192 then ([], 0, 3) else if s = [] then ([], 0, 0) else if (splitL 58 s).length > 200 then ([], 0, 3) else goP (splitL 58 s) 0 ([], [])
theorem codesIn_sub (L : List (List UInt8)) : (codesIn L suitesL).Sublist (suitesL.map CSuite.code) := (List.filter_sublist (l := suitesL)).map _
theorem codes_nd : (suitesL.map CSuite.code).Nodup := by decide
theorem codes_rg : ∀ x ∈ suitesL.map CSuite.code, 1 ≤ x ∧ x ≤ 16 := by decide
theorem setS_nd (s : List UInt8) : (setS s).1.Nodup := by
  unfold setS; split
  · exact codes_nd.sublist (codesIn_sub _)
  · exact List.nodup_nil
theorem setS_rg (s : List UInt8) : ∀ x ∈ (setS s).1, 1 ≤ x ∧ x ≤ 16 := by
  unfold setS; split
  · exact fun x hx => codes_rg x ((codesIn_sub _).subset hx)
  · intro x hx; cases hx
theorem setS_len (s : List UInt8) : (setS s).1.length ≤ 16 := by
  unfold setS; split
  · have := (codesIn_sub (splitL 43 s)).length_le
    have e : (suitesL.map CSuite.code).length = 16 := by decide
    show (codesIn (splitL 43 s) suitesL).length ≤ 16
    omega
  · simp
theorem mem_withoutL {x : Int} {l m : List Int} : x ∈ withoutL l m ↔ x ∈ l ∧ x ∉ m := by simp [withoutL]
theorem doR_perm43 (p : RowP) (m : List Int) : (withoutL p.1 m ++ withoutL p.1 (withoutL p.1 m)).Perm p.1 := by
  have hp : withoutL p.1 (withoutL p.1 m) = p.1.filter fun x => m.contains x := by
    unfold withoutL
    refine List.filter_congr fun x hx => ?_
    cases hm : m.contains x <;> simp_all
  rw [hp, withoutL]
  have : ∀ l : List Int, ((l.filter fun x => !m.contains x) ++ (l.filter fun x => m.contains x)).Perm l := by
    intro l; induction l with
    | nil => exact .refl _
    | cons x r ih =>
      cases hx : m.contains x
      · simp only [List.filter_cons, hx, Bool.not_false, if_true, Bool.false_eq_true, if_false, List.cons_append]; exact ih.cons x
      · simp only [List.filter_cons, hx, Bool.not_true, if_true, Bool.false_eq_true, if_false]; exact List.perm_middle.trans (ih.cons x)
  exact this _
theorem doR_len (w : List UInt8) (p : RowP) : (doR w p).1.length ≤ p.1.length + 16 ∧ (doR w p).2.length ≤ p.2.length + 16 := by
  have h := setS_len (signS w).2
  unfold doR; split
  · simp [sortS_len]
  · unfold doG
    have a := withoutL_len p.1 (setS (signS w).2).1
    have b := withoutL_len (withoutL (setS (signS w).2).1 p.1) p.2
    have c := withoutL_len (setS (signS w).2).1 p.1
    have part : (withoutL p.1 (setS (signS w).2).1 ++ withoutL p.1 (withoutL p.1 (setS (signS w).2).1)).length ≤ p.1.length := Nat.le_of_eq (doR_perm43 _ _).length_eq
    split
    · simp; omega
    · split
      · simp; omega
      · split
        · simp only; omega
        · simp; omega
theorem insS_perm (out : List Int) (x : Int) : (insS out x).Perm (x :: out) := by
  unfold insS
  rw [List.append_assoc, List.singleton_append]
  exact List.perm_middle.trans (by rw [List.take_append_drop])
theorem foldl_perm : ∀ (l out : List Int), (l.foldl insS out).Perm (out ++ l)
  | [], out => by simp
  | x :: r, out => by
    rw [List.foldl_cons]
    refine (foldl_perm r _).trans ?_
    refine ((insS_perm out x).append_right r).trans ?_
    rw [List.cons_append]
    exact List.perm_middle.symm
theorem sortS_perm (l : List Int) : (sortS l).Perm l := by
  have := foldl_perm l []
  simpa [sortS] using this
structure RowOk (p : RowP) : Prop where
  nd : p.1.Nodup
  rg : ∀ x ∈ p.1, 1 ≤ x ∧ x ≤ 16
  dj : ∀ x ∈ p.1, x ∉ p.2
theorem doR_ok (w : List UInt8) (p : RowP) (h : RowOk p) : RowOk (doR w p) := by
  have nd := setS_nd (signS w).2
  have rg := setS_rg (signS w).2
  unfold doR; split
  · have hp := sortS_perm p.1
    exact ⟨hp.nodup_iff.2 h.nd, fun x hx => h.rg x (hp.mem_iff.1 hx), fun x hx => h.dj x (hp.mem_iff.1 hx)⟩
  · generalize (setS (signS w).2).1 = m at *
    unfold doG
    split
    · exact ⟨h.nd.sublist List.filter_sublist, fun x hx => h.rg x (mem_withoutL.1 hx).1, fun x hx => h.dj x (mem_withoutL.1 hx).1⟩
    · split
      · refine ⟨h.nd.sublist List.filter_sublist, fun x hx => h.rg x (mem_withoutL.1 hx).1, fun x hx hk => ?_⟩
        have hx := mem_withoutL.1 hx
        rcases List.mem_append.1 hk with hk | hk
        · exact h.dj x hx.1 hk
        · exact hx.2 hk
      · split
        · have hp := doR_perm43 p m
          exact ⟨hp.nodup_iff.2 h.nd, fun x hx => h.rg x (hp.mem_iff.1 hx), fun x hx => h.dj x (hp.mem_iff.1 hx)⟩
        · refine ⟨?_, fun x hx => ?_, fun x hx => ?_⟩
          · refine List.nodup_append.2 ⟨h.nd, (nd.sublist List.filter_sublist).sublist List.filter_sublist, fun a ha b hb e => ?_⟩
            subst e
            exact (mem_withoutL.1 (mem_withoutL.1 hb).1).2 ha
          · rcases List.mem_append.1 hx with hx | hx
            · exact h.rg x hx
            · exact rg x (mem_withoutL.1 (mem_withoutL.1 hx).1).1
          · rcases List.mem_append.1 hx with hx | hx
            · exact h.dj x hx
            · exact (mem_withoutL.1 hx).2
theorem row0_ok : RowOk ([], []) := ⟨List.nodup_nil, fun x h => by simp at h, fun x h => by simp at h⟩
theorem nd_len {l : List Int} (hn : l.Nodup) (hr : ∀ x ∈ l, 1 ≤ x ∧ x ≤ 16) : l.length ≤ 16 := by
  have hs : l ⊆ suitesL.map CSuite.code := by
    intro x hx
    have h := hr x hx
    have e : suitesL.map CSuite.code = [1, 2, 3, 4, 5, 6, 7, 8, 9, 10, 11, 12, 13, 14, 15, 16] := by decide
    rw [e]; simp; omega
  have := hn.length_le_of_subset hs
  have e : (suitesL.map CSuite.code).length = 16 := by decide
  omega
theorem RowOk.len {p : RowP} (h : RowOk p) : p.1.length ≤ 16 := nd_len h.nd h.rg
end Av
end
section
set_option linter.unusedSimpArgs false
set_option linter.unusedVariables false
set_option maxRecDepth 10000
set_option maxHeartbeats 4000000
namespace Av
open Go
attribute [local irreducible] AWp runO runP runG awS awC awCv awQ awRd awCallR awCvR awQR awR awRdR awB okR plan ris
theorem splitA_app (c : UInt8) : ∀ (s cur t : List UInt8), splitA c cur (s ++ c :: t) = splitA c cur s ++ splitA c [] t
  | [], cur, t => by simp [splitA]
  | x :: r, cur, t => by
    rw [List.cons_append, splitA, splitA]
    split
    · rw [splitA_app c r [] t]; rfl
    · exact splitA_app c r _ t
theorem splitL_app (c : UInt8) (s t : List UInt8) : splitL c (s ++ [c] ++ t) = splitL c s ++ splitL c t := by
  rw [List.append_assoc, List.singleton_append]; exact splitA_app c s [] t
theorem splitA_none (c : UInt8) : ∀ (s cur : List UInt8), c ∉ s → splitA c cur s = [cur ++ s]
  | [], cur, _ => by simp [splitA]
  | x :: r, cur, h => by
    simp only [List.mem_cons, not_or] at h
    rw [splitA, if_neg (fun e => h.1 e.symm), splitA_none c r _ h.2]; simp
theorem splitL_none {c : UInt8} {s : List UInt8} (h : c ∉ s) : splitL c s = [s] := splitA_none c s [] h
def runW (ws : List (List UInt8)) (p : RowP) : RowP := ws.foldl (fun p w => doR w p) p
theorem runW_ok : ∀ (ws : List (List UInt8)) (p : RowP), RowOk p → RowOk (runW ws p)
  | [], p, h => h
  | w :: r, p, h => runW_ok r _ (doR_ok w p h)
theorem goP_ok : ∀ (ws : List (List UInt8)) (i : Nat) (p : RowP), (∀ w ∈ ws, wordOk w = true) → goP ws i p = ((runW ws p).1, 0, 0)
  | [], i, p, _ => rfl
  | w :: r, i, p, h => by
    rw [goP, if_pos (h w (by simp)), goP_ok r _ _ (fun w hw => h w (by simp [hw]))]; rfl
theorem parseW_ok {s : List UInt8} (hs : s ≠ []) (hl : s.length ≤ 8192) (hw : (splitL 58 s).length ≤ 200) (h : ∀ w ∈ splitL 58 s, wordOk w = true) : parseW s = ((runW (splitL 58 s) ([], [])).1, 0, 0) := by
  rw [parseW, if_neg (by omega), if_neg hs, if_neg (by omega), goP_ok _ _ _ h]
end Av
end
section
set_option linter.unusedSimpArgs false
set_option linter.unusedVariables false
set_option maxRecDepth 10000
set_option maxHeartbeats 4000000
namespace Av
open Go
attribute [local irreducible] AWp runO runP runG awS awC awCv awQ awRd awCallR awCvR awQR awR awRdR awB okR plan ris
theorem take_lm {α β : Type} (f : α → β) (l : List α) : (l.map f).take l.length = l.map f := by rw [List.take_of_length_le (by simp)]
theorem signS_cons (c : UInt8) (r : List UInt8) : signS (c :: r) = if c = 45 ∨ c = 33 ∨ c = 43 then (c, r) else (0, c :: r) := rfl
theorem str_ne {w : List UInt8} (h : w ≠ strW) : (w == strW) = false := by simpa using h

-- REGION ref08_row__do 0: 6 operations, 1 orders, L [], X false, ok true
end Av
end
section
set_option linter.unusedSimpArgs false
set_option linter.unusedVariables false
set_option maxRecDepth 10000
set_option maxHeartbeats 4000000
namespace Av
open Go
attribute [local irreducible] AWp runO runP runG awS awC awCv awQ awRd awCallR awCvR awQR awR awRdR awB okR plan ris
def parseV (r : List Int × Int × Int) : V := .tup [.sl 1 (r.1.map V.int), V.int r.2.1, V.int r.2.2]
theorem parseV_closed (r : List Int × Int × Int) : (parseV r).closed := by simp only [parseV, V.closed, closedL, and_self]
theorem splitA_sub (c : UInt8) : ∀ (r cur w : List UInt8), w ∈ splitA c cur r → w.length ≤ cur.length + r.length
  | [], cur, w, h => by simp only [splitA, List.mem_singleton] at h; subst h; simp
  | x :: r, cur, w, h => by
    rw [splitA] at h
    split at h
    · rcases List.mem_cons.1 h with rfl | h
      · simp
      · have := splitA_sub c r [] w h; simp at this ⊢; omega
    · have := splitA_sub c r _ w h; simp at this ⊢; omega
theorem splitL_mem {c : UInt8} {s w : List UInt8} (h : w ∈ splitL c s) : w.length ≤ s.length := by simpa using splitA_sub c s [] w h
end Av
end

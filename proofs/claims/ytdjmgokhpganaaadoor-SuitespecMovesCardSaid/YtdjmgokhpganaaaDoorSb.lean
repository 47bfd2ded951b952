/- Sb -/
import Derived.Test.YtdjmgokhpganaaaDoorSa
import Derived.Test.YtdjmgokhpganaaaDoorAvM
set_option linter.unusedVariables false
set_option linter.unusedSimpArgs false
section
set_option linter.unusedSimpArgs false
set_option linter.unusedVariables false
set_option maxRecDepth 10000
set_option maxHeartbeats 4000000
namespace Av
open Go
attribute [local irreducible] AWp runO runP runG awS awC awCv awQ awRd awCallR awCvR awQR awR awRdR awB okR plan ris
def withoutL (l some : List Int) : List Int := l.filter fun x => !some.contains x
theorem withoutL_succ {l m : List Int} {k : Nat} {x : Int} (h : l[k]? = some x) : withoutL (l.take (k + 1)) m = withoutL (l.take k) m ++ (if m.contains x = true then [] else [x]) := by
  rw [withoutL, withoutL, List.take_add_one, h, List.filter_append]
  congr 1
  by_cases hx : m.contains x = true <;> simp at hx <;> simp [hx]
theorem withoutL_len (l m : List Int) : (withoutL l m).length ≤ l.length := List.length_filter_le _ _
def c_ref08_without (f_ref02_Has : Nat) : AC := seqK [0, 1] (.reg [xo 4 (.mknil 1)]) (seqK [0, 1, 5] (.reg [xo 5 (.mknil 1)]) (seqK [5] (seqK [0, 1, 5, 6] (.reg [mc 6 (V.int 0)]) (.block 0 (loopK [0, 1, 5, 6] (seqK [0, 1, 5, 6] (seqK [0, 1, 5, 6, 10] (.reg [mv 7 6, mv 8 0, ln 9 8, bn 10 .lss 7 9]) (.cond (.t 10) (.skip) (.exit 0))) (seqK [0, 1, 5, 6] (.block 1 (seqK [0, 1, 5, 6, 19] (.reg [mv 13 1, mv 14 0, mv 15 6, ia 16 1 14 15, ld 17 1 16, cl 18 f_ref02_Has [13, 17], xo 19 (.un .not (.t 18))]) (.cond (.t 19) (.reg [mv 20 5, mv 21 0, mv 22 6, ia 23 1 21 22, ld 24 1 23, xo 25 (.bslice 1 1 false [(.int .i64 0)] [(0, (.t 24))]), xo 26 (.append 1 8 [(.int .i64 0)] (.t 20) (.t 25)), mv 5 26]) (.skip)))) (.reg [mv 11 6, bc 12 .add 11 (V.int 1), mv 6 12])))))) (seqK [4] (.reg [mv 27 5, mv 4 27]) (.ret)))) def r_ref08_without : List ARes := [.tmp 4]
def CE_ref08_without (Γ : Env) (f : Nat) : Prop := ∀ (l m : List Int) (hl : l.length < 2 ^ 34) (hm : m.length < 2 ^ 62), EvW Γ f [.sl 1 (l.map V.int), .sl 1 (m.map V.int)] 1 ((withoutL l m).map V.int)
theorem ev_ref08_without {Γ : Env} {f f_ref02_Has : Nat} (h : Has Γ.P f 28 (c_ref08_without f_ref02_Has) r_ref08_without) (h_ref02_Has : CE_ref02_Has Γ f_ref02_Has) : CE_ref08_without Γ f := by
  intro l m hl hm
  refine evW_of_body h (by simp) (by first | exact ints_noSl _ | exact strs_noSl _) fun C hC hm => ?_
  subst hC
  unfold c_ref08_without
  repeat' (first | refine awp_seqR fun K' hK => ?_ | refine awp_regR fun K' hK => ?_ | refine awp_seqK ?_ | refine awp_skip ?_ | refine awp_block ?_ | ((first | refine awp_cond ⟨_, rfl, fun hc => ?_, fun hc => ?_⟩ | refine awB_t (fun hc => ?_) (fun hc => ?_) | refine awB_f (fun hc => ?_) (fun hc => ?_)) <;> first | exact Bool.noConfusion hc | ((try simp only [decide_eq_true_eq, decide_eq_false_iff_not, beq_iff_eq, beq_eq_false_iff_ne, ne_eq, Bool.not_eq_true', Bool.not_eq_false'] at hc); first | (exfalso; simp only [List.length_map] at hc; omega) | (exfalso; omega) | skip)) | refine awp_ret ?_ | refine awp_exit ?_ | simp (maxSteps := 1000000) only [go_sem, Nat.reduceAdd, Nat.reduceMul, Nat.reduceEqDiff, Nat.reduceLeDiff, Nat.reduceLT, Nat.reduceSub, Int.reduceEq, Int.reduceBEq, Int.reduceLT, Int.reduceLE, Int.reduceAdd, Int.reduceToNat, reduceIte, reduceCtorEq] | (refine hK _ ?_; clear hK; clear K') | refine And.intro ?_ ?_ | (apply awCs_A; (focus (first | exact (h_ref02_Has _ _ (by first | assumption | omega | (simp; done))).b))) | (simp only [List.length_append, List.length_cons, List.length_nil, List.length_map, Nat.reducePow, Nat.reduceAdd]; omega) | omega | exact List.mem_singleton_self _)
  refine awp_loopV (ι := Nat) (fun k => k ≤ l.length) (fun k => mkSt [(0, .sl 1 (l.map V.int)), (1, .sl 1 (m.map V.int)), (5, .hd 0 0 (withoutL (l.take k) m).length), (6, V.int k)] [(0, .buf true 1 ((withoutL (l.take k) m).map V.int))] 1) (fun k => l.length - k) 0 (by omega) (lookN [(0, 1000)]) (weak_g [(0, 1000)] (by simp only [go_sem, Nat.reduceAdd, Nat.reduceMul, Nat.reduceEqDiff, Nat.reduceLT, Int.reduceToNat, reduceIte, reduceCtorEq, and_true, true_and, implies_true, Option.some.injEq, exists_eq_left', closedL_ren, closed_ren]; (repeat' (first | rfl | refine And.intro ?_ ?_ | omega | exact fun h => h | exact Exists.intro _ rfl))) (by simp only [go_sem, Nat.reduceAdd, Nat.reduceMul, Nat.reduceEqDiff, Nat.reduceLT, Int.reduceToNat, reduceIte, reduceCtorEq, and_true, true_and, implies_true, Option.some.injEq, exists_eq_left', closedL_ren, closed_ren]; (repeat' (first | rfl | refine And.intro ?_ ?_ | omega | exact fun h => h | exact Exists.intro _ rfl))) (by simp) (by simp; omega) (by omega)) fun k hk K' hL => ?_
  rcases hd : l.drop k with _ | ⟨x, r⟩
  · have hkl := drop_nil hd
    have e1 : decide ((k : Int) < (((l.map V.int).length : Nat) : Int)) = false := by simp; omega
    have e3 : l.take k = l := List.take_of_length_le hkl
    rw [e3]
    repeat' (first | refine awp_seqR fun K' hK => ?_ | refine awp_regR fun K' hK => ?_ | refine awp_seqK ?_ | refine awp_skip ?_ | refine awp_block ?_ | ((first | refine awp_cond ⟨_, rfl, fun hc => ?_, fun hc => ?_⟩ | refine awB_t (fun hc => ?_) (fun hc => ?_) | refine awB_f (fun hc => ?_) (fun hc => ?_)) <;> first | exact Bool.noConfusion hc | ((try simp only [decide_eq_true_eq, decide_eq_false_iff_not, beq_iff_eq, beq_eq_false_iff_ne, ne_eq, Bool.not_eq_true', Bool.not_eq_false'] at hc); first | (exfalso; simp only [List.length_map] at hc; omega) | (exfalso; omega) | skip)) | refine awp_ret ?_ | refine awp_exit ?_ | simp (maxSteps := 1000000) only [go_sem, Nat.reduceAdd, Nat.reduceMul, Nat.reduceEqDiff, Nat.reduceLeDiff, Nat.reduceLT, Nat.reduceSub, Int.reduceEq, Int.reduceBEq, Int.reduceLT, Int.reduceLE, Int.reduceAdd, Int.reduceToNat, reduceIte, reduceCtorEq, mkSt, e1] | (refine hK _ ?_; clear hK; clear K') | refine And.intro ?_ ?_ | (apply awCs_A; (focus (first | exact (h_ref02_Has _ _ (by first | assumption | omega | (simp; done))).b))) | (simp only [List.length_append, List.length_cons, List.length_nil, List.length_map, Nat.reducePow, Nat.reduceAdd]; omega) | omega | exact List.mem_singleton_self _)
    all_goals (refine ends_w _ _ rfl ?_ ?_ <;> first | rfl | (simp; done))
  · obtain ⟨hk', hget, hr⟩ := drop_cons hd
    have hw := wrap_succ (k := k) (by omega)
    have e1 : decide ((k : Int) < (((l.map V.int).length : Nat) : Int)) = true := by simp; omega
    have hcs := withoutL_succ (m := m) hget
    have hol : (withoutL (l.take k) m).length ≤ 2 ^ 34 := by have := withoutL_len (l.take k) m; rw [List.length_take] at this; omega
    generalize withoutL (l.take k) m = out at *
    rcases hx : m.contains x with _ | _
    · rw [hx] at hcs
      simp only [Bool.false_eq_true, if_false] at hcs
      repeat' (first | refine awp_seqR fun K' hK => ?_ | refine awp_regR fun K' hK => ?_ | refine awp_seqK ?_ | refine awp_skip ?_ | refine awp_block ?_ | ((first | refine awp_cond ⟨_, rfl, fun hc => ?_, fun hc => ?_⟩ | refine awB_t (fun hc => ?_) (fun hc => ?_) | refine awB_f (fun hc => ?_) (fun hc => ?_)) <;> first | exact Bool.noConfusion hc | ((try simp only [decide_eq_true_eq, decide_eq_false_iff_not, beq_iff_eq, beq_eq_false_iff_ne, ne_eq, Bool.not_eq_true', Bool.not_eq_false'] at hc); first | (exfalso; simp only [List.length_map] at hc; omega) | (exfalso; omega) | skip)) | refine awp_ret ?_ | refine awp_exit ?_ | simp (maxSteps := 1000000) only [go_sem, Nat.reduceAdd, Nat.reduceMul, Nat.reduceEqDiff, Nat.reduceLeDiff, Nat.reduceLT, Nat.reduceSub, Int.reduceEq, Int.reduceBEq, Int.reduceLT, Int.reduceLE, Int.reduceAdd, Int.reduceToNat, reduceIte, reduceCtorEq, mkSt, e1, Int.toNat_natCast, List.getElem?_map, hget, hw, hx] | (refine hK _ ?_; clear hK; clear K') | refine And.intro ?_ ?_ | (apply awCs_A; (focus (first | exact (h_ref02_Has _ _ (by first | assumption | omega | (simp; done))).b))) | (simp only [List.length_append, List.length_cons, List.length_nil, List.length_map, Nat.reducePow, Nat.reduceAdd]; omega) | omega | exact List.mem_singleton_self _)
      have hb : List.take out.length (List.map V.int out) ++ [V.int x] = (out ++ [x]).map V.int := by
        rw [List.take_of_length_le (by simp), List.map_append]; rfl
      have hln : out.length + 1 = (out ++ [x]).length := by simp
      rw [hb, hln]
      refine hL _ (k + 1) (lookN [(0, 17001)]) (by omega) (by omega) ?_
      rw [hcs]
      exact weak_g [(0, 17001)] (by simp only [go_sem, Nat.reduceAdd, Nat.reduceMul, Nat.reduceEqDiff, Nat.reduceLT, Int.reduceToNat, reduceIte, reduceCtorEq, and_true, true_and, implies_true, Option.some.injEq, exists_eq_left', closedL_ren, closed_ren]; (repeat' (first | rfl | refine And.intro ?_ ?_ | omega | exact fun h => h | exact Exists.intro _ rfl))) (by simp only [go_sem, Nat.reduceAdd, Nat.reduceMul, Nat.reduceEqDiff, Nat.reduceLT, Int.reduceToNat, reduceIte, reduceCtorEq, and_true, true_and, implies_true, Option.some.injEq, exists_eq_left', closedL_ren, closed_ren]; (repeat' (first | rfl | refine And.intro ?_ ?_ | omega | exact fun h => h | exact Exists.intro _ rfl))) (by simp) (by simp; omega) (by omega)
    · rw [hx, if_pos rfl, List.append_nil] at hcs
      repeat' (first | refine awp_seqR fun K' hK => ?_ | refine awp_regR fun K' hK => ?_ | refine awp_seqK ?_ | refine awp_skip ?_ | refine awp_block ?_ | ((first | refine awp_cond ⟨_, rfl, fun hc => ?_, fun hc => ?_⟩ | refine awB_t (fun hc => ?_) (fun hc => ?_) | refine awB_f (fun hc => ?_) (fun hc => ?_)) <;> first | exact Bool.noConfusion hc | ((try simp only [decide_eq_true_eq, decide_eq_false_iff_not, beq_iff_eq, beq_eq_false_iff_ne, ne_eq, Bool.not_eq_true', Bool.not_eq_false'] at hc); first | (exfalso; simp only [List.length_map] at hc; omega) | (exfalso; omega) | skip)) | refine awp_ret ?_ | refine awp_exit ?_ | simp (maxSteps := 1000000) only [go_sem, Nat.reduceAdd, Nat.reduceMul, Nat.reduceEqDiff, Nat.reduceLeDiff, Nat.reduceLT, Nat.reduceSub, Int.reduceEq, Int.reduceBEq, Int.reduceLT, Int.reduceLE, Int.reduceAdd, Int.reduceToNat, reduceIte, reduceCtorEq, mkSt, e1, Int.toNat_natCast, List.getElem?_map, hget, hw, hx] | (refine hK _ ?_; clear hK; clear K') | refine And.intro ?_ ?_ | (apply awCs_A; (focus (first | exact (h_ref02_Has _ _ (by first | assumption | omega | (simp; done))).b))) | (simp only [List.length_append, List.length_cons, List.length_nil, List.length_map, Nat.reducePow, Nat.reduceAdd]; omega) | omega | exact List.mem_singleton_self _)
      refine hL _ (k + 1) (lookN []) (by omega) (by omega) ?_
      rw [hcs]
      exact weak_g [] (by simp only [go_sem, Nat.reduceAdd, Nat.reduceMul, Nat.reduceEqDiff, Nat.reduceLT, Int.reduceToNat, reduceIte, reduceCtorEq, and_true, true_and, implies_true, Option.some.injEq, exists_eq_left', closedL_ren, closed_ren]; (repeat' (first | rfl | refine And.intro ?_ ?_ | omega | exact fun h => h | exact Exists.intro _ rfl))) (by simp only [go_sem, Nat.reduceAdd, Nat.reduceMul, Nat.reduceEqDiff, Nat.reduceLT, Int.reduceToNat, reduceIte, reduceCtorEq, and_true, true_and, implies_true, Option.some.injEq, exists_eq_left', closedL_ren, closed_ren]; (repeat' (first | rfl | refine And.intro ?_ ?_ | omega | exact fun h => h | exact Exists.intro _ rfl))) (by simp) (by simp) (by omega)
end Av
end
section
set_option linter.unusedSimpArgs false
set_option linter.unusedVariables false
set_option maxRecDepth 10000
set_option maxHeartbeats 4000000
namespace Av
open Go
attribute [local irreducible] AWp runO runP runG awS awC awCv awQ awRd awCallR awCvR awQR awR awRdR awB okR plan ris
def insK (out : List Int) (x : Int) : Nat → Nat
  | 0 => 0
  | k + 1 => if sufS (out.getD k 0) < sufS x then insK out x k else k + 1
theorem insK_le (out : List Int) (x : Int) : ∀ k, insK out x k ≤ k
  | 0 => Nat.le_refl _
  | k + 1 => by
    rw [insK]; split
    · exact Nat.le_succ_of_le (insK_le out x k)
    · exact Nat.le_refl _
def insS (out : List Int) (x : Int) : List Int := out.take (insK out x out.length) ++ [x] ++ out.drop (insK out x out.length)
theorem insS_len (out : List Int) (x : Int) : (insS out x).length = out.length + 1 := by
  have := insK_le out x out.length
  simp [insS]; omega
def sortS (l : List Int) : List Int := l.foldl insS []
theorem sortS_succ {l : List Int} {k : Nat} {x : Int} (h : l[k]? = some x) : sortS (l.take (k + 1)) = insS (sortS (l.take k)) x := by
  rw [sortS, sortS, List.take_add_one, h, List.foldl_append]; rfl
theorem foldl_len : ∀ (l out : List Int), (l.foldl insS out).length = out.length + l.length
  | [], out => by simp
  | x :: r, out => by rw [List.foldl_cons, foldl_len r, insS_len]; simp; omega
theorem sortS_len (l : List Int) : (sortS l).length = l.length := by rw [sortS, foldl_len]; simp

-- REGION ref08_Sort 0: 16 operations, 1 orders, L [], X false, ok true
def o_ref08_Sort_0 (f_ref08_Strength : Nat) : List AO := [mv 14 5, bc 15 .gtr 14 (V.int 0), mv 16 15, mg 17 3 16 true, mg 18 5 16 true, xg 19 (.bin .sub (.t 18) (.c (V.int 1))) 16 true, xg 20 (.iaddr 1 (.t 17) (.t 19)) 16 true, xg 21 (.load false 1 (.t 20)) 16 true, xg 22 (.call f_ref08_Strength [(.t 21)]) 16 true, mg 23 0 16 true, mg 24 4 16 true, xg 25 (.iaddr 1 (.t 23) (.t 24)) 16 true, xg 26 (.load false 1 (.t 25)) 16 true, xg 27 (.call f_ref08_Strength [(.t 26)]) 16 true, xg 28 (.bin .lss (.t 22) (.t 27)) 16 true, xo 29 (.pick (.t 16) (.t 28) (.c (V.bool false)))]
def a_ref08_Sort_0 : List (List Nat) := [[], [0], [1], [2], [2], [4, 2], [3, 5, 2], [6, 2], [7, 2, 2], [2], [2], [9, 10, 2], [11, 2], [12, 8, 2], [8, 13, 2], [2, 14]]
def t_ref08_Sort_0 : OT := .one 0 (.one 1 (.one 2 (.one 3 (.one 4 (.one 5 (.one 6 (.one 7 (.one 9 (.one 10 (.one 11 (.one 12 (.or 8 (.or 13 (.one 14 (.one 15 (.done))) (.done)) (.done)))))))))))))
def p_ref08_Sort_0 (f_ref08_Strength : Nat) : OP := .one 0 false [] (mv 14 5) (.one 1 false [] (bc 15 .gtr 14 (V.int 0)) (.one 2 false [] (mv 16 15) (.one 3 false [] (mg 17 3 16 true) (.one 4 false [] (mg 18 5 16 true) (.one 5 false [] (xg 19 (.bin .sub (.t 18) (.c (V.int 1))) 16 true) (.one 6 false [] (xg 20 (.iaddr 1 (.t 17) (.t 19)) 16 true) (.one 7 false [] (xg 21 (.load false 1 (.t 20)) 16 true) (.one 9 false [] (mg 23 0 16 true) (.one 10 false [] (mg 24 4 16 true) (.one 11 false [] (xg 25 (.iaddr 1 (.t 23) (.t 24)) 16 true) (.one 12 false [] (xg 26 (.load false 1 (.t 25)) 16 true) (.or 8 false [] (xg 22 (.call f_ref08_Strength [(.t 21)]) 16 true) (.or 13 false [] (xg 27 (.call f_ref08_Strength [(.t 26)]) 16 true) (.one 14 false [13, 8] (xg 28 (.bin .lss (.t 22) (.t 27)) 16 true) (.one 15 false [13, 8] (xo 29 (.pick (.t 16) (.t 28) (.c (V.bool false)))) (.done))) (.done)) (.done)))))))))))))
theorem k_ref08_Sort_0 (f_ref08_Strength : Nat) : okR (o_ref08_Sort_0 f_ref08_Strength) a_ref08_Sort_0 [] t_ref08_Sort_0 = true := by kernel_rfl
theorem q_ref08_Sort_0 (f_ref08_Strength : Nat) : plan (ris (o_ref08_Sort_0 f_ref08_Strength) a_ref08_Sort_0 []) t_ref08_Sort_0 = p_ref08_Sort_0 f_ref08_Strength := by kernel_rfl -- REGION ref08_Sort 1: 16 operations, 3 orders, L [], X false, ok true
def o_ref08_Sort_1 : List AO := [xo 32 (.bslice 0 1 false [(.int .i64 0)] []), mv 33 3, mv 34 5, xo 35 (.slsl 1 (.t 33) none (some (.t 34))), xo 36 (.append 1 8 [(.int .i64 0)] (.t 32) (.t 35)), mv 37 0, mv 38 4, ia 39 1 37 38, ld 40 1 39, xo 41 (.bslice 1 1 false [(.int .i64 0)] [(0, (.t 40))]), xo 42 (.append 1 8 [(.int .i64 0)] (.t 36) (.t 41)), mv 43 3, mv 44 5, xo 45 (.slsl 1 (.t 43) (some (.t 44)) none), xo 46 (.append 1 8 [(.int .i64 0)] (.t 42) (.t 45)), mv 3 46]
def a_ref08_Sort_1 : List (List Nat) := [[], [], [], [1, 2], [0, 3], [], [], [5, 6], [7], [8], [4, 9, 4], [], [], [11, 12], [10, 13, 10], [14, 14, 0, 1, 2, 3, 4, 5, 6, 7, 8, 9, 10, 11, 12, 13, 14]]
def t_ref08_Sort_1 : OT := .one 1 (.one 2 (.one 3 (.one 5 (.one 6 (.one 7 (.one 8 (.one 11 (.one 12 (.one 13 (.or 0 (.or 4 (.or 9 (.one 10 (.one 14 (.one 15 (.done)))) (.done)) (.or 9 (.or 4 (.one 10 (.one 14 (.one 15 (.done)))) (.done)) (.done))) (.or 9 (.or 0 (.or 4 (.one 10 (.one 14 (.one 15 (.done)))) (.done)) (.done)) (.done))))))))))))
def p_ref08_Sort_1 : OP := .one 1 false [] (mv 33 3) (.one 2 false [] (mv 34 5) (.one 3 false [] (xo 35 (.slsl 1 (.t 33) none (some (.t 34)))) (.one 5 false [] (mv 37 0) (.one 6 false [] (mv 38 4) (.one 7 false [] (ia 39 1 37 38) (.one 8 false [] (ld 40 1 39) (.one 11 false [] (mv 43 3) (.one 12 false [] (mv 44 5) (.one 13 false [] (xo 45 (.slsl 1 (.t 43) (some (.t 44)) none)) (.or 0 false [] (xo 32 (.bslice 0 1 false [(.int .i64 0)] [])) (.or 4 true [0] (xo 36 (.append 1 8 [(.int .i64 0)] (.t 32) (.t 35))) (.or 9 false [] (xo 41 (.bslice 1 1 false [(.int .i64 0)] [(0, (.t 40))])) (.one 10 true [9, 4, 0] (xo 42 (.append 1 8 [(.int .i64 0)] (.t 36) (.t 41))) (.one 14 true [10, 9, 4, 0] (xo 46 (.append 1 8 [(.int .i64 0)] (.t 42) (.t 45))) (.one 15 false [14, 10, 9, 4, 0] (mv 3 46) (.done)))) (.done)) (.or 9 false [] (xo 41 (.bslice 1 1 false [(.int .i64 0)] [(0, (.t 40))])) (.or 4 true [0] (xo 36 (.append 1 8 [(.int .i64 0)] (.t 32) (.t 35))) (.one 10 true [9, 4, 0] (xo 42 (.append 1 8 [(.int .i64 0)] (.t 36) (.t 41))) (.one 14 true [10, 9, 4, 0] (xo 46 (.append 1 8 [(.int .i64 0)] (.t 42) (.t 45))) (.one 15 false [14, 10, 9, 4, 0] (mv 3 46) (.done)))) (.done)) (.done))) (.or 9 false [] (xo 41 (.bslice 1 1 false [(.int .i64 0)] [(0, (.t 40))])) (.or 0 false [] (xo 32 (.bslice 0 1 false [(.int .i64 0)] [])) (.or 4 true [0] (xo 36 (.append 1 8 [(.int .i64 0)] (.t 32) (.t 35))) (.one 10 true [9, 4, 0] (xo 42 (.append 1 8 [(.int .i64 0)] (.t 36) (.t 41))) (.one 14 true [10, 9, 4, 0] (xo 46 (.append 1 8 [(.int .i64 0)] (.t 42) (.t 45))) (.one 15 false [14, 10, 9, 4, 0] (mv 3 46) (.done)))) (.done)) (.done)) (.done))))))))))))
theorem k_ref08_Sort_1 : okR (o_ref08_Sort_1) a_ref08_Sort_1 [] t_ref08_Sort_1 = true := by kernel_rfl
theorem q_ref08_Sort_1 : plan (ris (o_ref08_Sort_1) a_ref08_Sort_1 []) t_ref08_Sort_1 = p_ref08_Sort_1 := by kernel_rfl def c_ref08_Sort (f_ref08_Strength : Nat) : AC := seqK [0] (.reg [xo 2 (.mknil 1)]) (seqK [0, 3] (.reg [xo 3 (.mknil 1)]) (seqK [3] (seqK [0, 3, 4] (.reg [mc 4 (V.int 0)]) (.block 0 (loopK [0, 3, 4] (seqK [0, 3, 4] (seqK [0, 3, 4, 9] (.reg [mv 6 4, mv 7 0, ln 8 7, bn 9 .lss 6 8]) (.cond (.t 9) (.skip) (.exit 0))) (seqK [0, 3, 4] (.block 1 (seqK [0, 3, 4, 5] (.reg [mv 12 3, ln 13 12, mv 5 13]) (seqK [0, 3, 4, 5] (.block 2 (loopK [0, 3, 4, 5] (seqK [0, 3, 4, 5] (seqK [0, 3, 4, 5, 29] (regK [] t_ref08_Sort_0 (p_ref08_Sort_0 f_ref08_Strength) (o_ref08_Sort_0 f_ref08_Strength) a_ref08_Sort_0) (.cond (.t 29) (.skip) (.exit 2))) (.block 3 (.reg [mv 30 5, bc 31 .sub 30 (V.int 1), mv 5 31]))))) (regK [] t_ref08_Sort_1 (p_ref08_Sort_1) (o_ref08_Sort_1) a_ref08_Sort_1)))) (.reg [mv 10 4, bc 11 .add 10 (V.int 1), mv 4 11])))))) (seqK [2] (.reg [mv 47 3, mv 2 47]) (.ret)))) def r_ref08_Sort : List ARes := [.tmp 2]
def CE_ref08_Sort (Γ : Env) (f : Nat) : Prop := ∀ (l : List Int) (hl : l.length < 2 ^ 34), EvW Γ f [.sl 1 (l.map V.int)] 1 ((sortS l).map V.int)
theorem ev_ref08_Sort {Γ : Env} {f f_ref08_Strength : Nat} (h : Has Γ.P f 48 (c_ref08_Sort f_ref08_Strength) r_ref08_Sort) (h_ref08_Strength : CE_ref08_Strength Γ f_ref08_Strength) : CE_ref08_Sort Γ f := by
  intro l hl
  refine evW_of_body h (by simp) (by first | exact ints_noSl _ | exact strs_noSl _) fun C hC hm => ?_
  subst hC
  unfold c_ref08_Sort
  repeat' (first | refine awp_seqR fun K' hK => ?_ | refine awp_regR fun K' hK => ?_ | refine awp_seqP 16 (fun _ => true) rfl (k_ref08_Sort_0 _) (q_ref08_Sort_0 _) fun K' hK => ?_ | refine awp_regP 16 (fun _ => true) rfl (k_ref08_Sort_0 _) (q_ref08_Sort_0 _) fun K' hK => ?_ | refine awp_seqP 16 (fun _ => true) rfl (k_ref08_Sort_1) (q_ref08_Sort_1) fun K' hK => ?_ | refine awp_regP 16 (fun _ => true) rfl (k_ref08_Sort_1) (q_ref08_Sort_1) fun K' hK => ?_ | refine awp_seqK ?_ | refine awp_skip ?_ | refine awp_block ?_ | ((first | refine awp_cond ⟨_, rfl, fun hc => ?_, fun hc => ?_⟩ | refine awB_t (fun hc => ?_) (fun hc => ?_) | refine awB_f (fun hc => ?_) (fun hc => ?_)) <;> first | exact Bool.noConfusion hc | ((try simp only [decide_eq_true_eq, decide_eq_false_iff_not, beq_iff_eq, beq_eq_false_iff_ne, ne_eq, Bool.not_eq_true', Bool.not_eq_false'] at hc); first | (exfalso; simp only [List.length_map] at hc; omega) | (exfalso; omega) | skip)) | refine awp_ret ?_ | refine awp_exit ?_ | simp (maxSteps := 1000000) only [go_sem, Nat.reduceAdd, Nat.reduceMul, Nat.reduceEqDiff, Nat.reduceLeDiff, Nat.reduceLT, Nat.reduceSub, Int.reduceEq, Int.reduceBEq, Int.reduceLT, Int.reduceLE, Int.reduceAdd, Int.reduceToNat, reduceIte, reduceCtorEq, p_ref08_Sort_0, p_ref08_Sort_1] | (refine hK _ ?_; clear hK; clear K') | refine And.intro ?_ ?_ | ((first | apply awCs_A | apply awCRs_A); (focus (first | exact (h_ref08_Strength _).b))) | (simp only [List.length_append, List.length_cons, List.length_nil, List.length_map, Nat.reducePow, Nat.reduceAdd]; omega) | omega | exact List.mem_singleton_self _)
  refine awp_loopV (ι := Nat) (fun k => k ≤ l.length) (fun k => mkSt [(0, .sl 1 (l.map V.int)), (3, .hd 0 0 (sortS (l.take k)).length), (4, V.int k)] [(0, .buf true 1 ((sortS (l.take k)).map V.int))] 1) (fun k => l.length - k) 0 (by omega) (lookN [(0, 1000)]) (weak_g [(0, 1000)] (by simp only [go_sem, Nat.reduceAdd, Nat.reduceMul, Nat.reduceEqDiff, Nat.reduceLT, Int.reduceToNat, reduceIte, reduceCtorEq, and_true, true_and, implies_true, Option.some.injEq, exists_eq_left', closedL_ren, closed_ren]; (repeat' (first | rfl | refine And.intro ?_ ?_ | omega | exact fun h => h | exact Exists.intro _ rfl))) (by simp only [go_sem, Nat.reduceAdd, Nat.reduceMul, Nat.reduceEqDiff, Nat.reduceLT, Int.reduceToNat, reduceIte, reduceCtorEq, and_true, true_and, implies_true, Option.some.injEq, exists_eq_left', closedL_ren, closed_ren]; (repeat' (first | rfl | refine And.intro ?_ ?_ | omega | exact fun h => h | exact Exists.intro _ rfl))) (by simp) (by simp; omega) (by omega)) fun k hk K' hL => ?_
  rcases hd : l.drop k with _ | ⟨x, r⟩
  · have hkl := drop_nil hd
    have e1 : decide ((k : Int) < (((l.map V.int).length : Nat) : Int)) = false := by simp; omega
    have e3 : l.take k = l := List.take_of_length_le hkl
    rw [e3]
    repeat' (first | refine awp_seqR fun K' hK => ?_ | refine awp_regR fun K' hK => ?_ | refine awp_seqP 16 (fun _ => true) rfl (k_ref08_Sort_0 _) (q_ref08_Sort_0 _) fun K' hK => ?_ | refine awp_regP 16 (fun _ => true) rfl (k_ref08_Sort_0 _) (q_ref08_Sort_0 _) fun K' hK => ?_ | refine awp_seqP 16 (fun _ => true) rfl (k_ref08_Sort_1) (q_ref08_Sort_1) fun K' hK => ?_ | refine awp_regP 16 (fun _ => true) rfl (k_ref08_Sort_1) (q_ref08_Sort_1) fun K' hK => ?_ | refine awp_seqK ?_ | refine awp_skip ?_ | refine awp_block ?_ | ((first | refine awp_cond ⟨_, rfl, fun hc => ?_, fun hc => ?_⟩ | refine awB_t (fun hc => ?_) (fun hc => ?_) | refine awB_f (fun hc => ?_) (fun hc => ?_)) <;> first | exact Bool.noConfusion hc | ((try simp only [decide_eq_true_eq, decide_eq_false_iff_not, beq_iff_eq, beq_eq_false_iff_ne, ne_eq, Bool.not_eq_true', Bool.not_eq_false'] at hc); first | (exfalso; simp only [List.length_map] at hc; omega) | (exfalso; omega) | skip)) | refine awp_ret ?_ | refine awp_exit ?_ | simp (maxSteps := 1000000) only [go_sem, Nat.reduceAdd, Nat.reduceMul, Nat.reduceEqDiff, Nat.reduceLeDiff, Nat.reduceLT, Nat.reduceSub, Int.reduceEq, Int.reduceBEq, Int.reduceLT, Int.reduceLE, Int.reduceAdd, Int.reduceToNat, reduceIte, reduceCtorEq, mkSt, e1, p_ref08_Sort_0, p_ref08_Sort_1] | (refine hK _ ?_; clear hK; clear K') | refine And.intro ?_ ?_ | ((first | apply awCs_A | apply awCRs_A); (focus (first | exact (h_ref08_Strength _).b))) | (simp only [List.length_append, List.length_cons, List.length_nil, List.length_map, Nat.reducePow, Nat.reduceAdd]; omega) | omega | exact List.mem_singleton_self _)
    all_goals (refine ends_w _ _ rfl ?_ ?_ <;> first | rfl | (simp; done))
  · obtain ⟨hk', hget, hr⟩ := drop_cons hd
    have hw := wrap_succ (k := k) (by omega)
    have e1 : decide ((k : Int) < (((l.map V.int).length : Nat) : Int)) = true := by simp; omega
    have hcs := sortS_succ hget
    have hol : (sortS (l.take k)).length = k := by rw [sortS_len, List.length_take]; omega
    generalize sortS (l.take k) = out at *
    repeat' (first | refine awp_seqR fun K' hK => ?_ | refine awp_regR fun K' hK => ?_ | refine awp_seqP 16 (fun _ => true) rfl (k_ref08_Sort_0 _) (q_ref08_Sort_0 _) fun K' hK => ?_ | refine awp_regP 16 (fun _ => true) rfl (k_ref08_Sort_0 _) (q_ref08_Sort_0 _) fun K' hK => ?_ | refine awp_seqP 16 (fun _ => true) rfl (k_ref08_Sort_1) (q_ref08_Sort_1) fun K' hK => ?_ | refine awp_regP 16 (fun _ => true) rfl (k_ref08_Sort_1) (q_ref08_Sort_1) fun K' hK => ?_ | refine awp_seqK ?_ | refine awp_skip ?_ | refine awp_block ?_ | ((first | refine awp_cond ⟨_, rfl, fun hc => ?_, fun hc => ?_⟩ | refine awB_t (fun hc => ?_) (fun hc => ?_) | refine awB_f (fun hc => ?_) (fun hc => ?_)) <;> first | exact Bool.noConfusion hc | ((try simp only [decide_eq_true_eq, decide_eq_false_iff_not, beq_iff_eq, beq_eq_false_iff_ne, ne_eq, Bool.not_eq_true', Bool.not_eq_false'] at hc); first | (exfalso; simp only [List.length_map] at hc; omega) | (exfalso; omega) | skip)) | refine awp_ret ?_ | refine awp_exit ?_ | simp (maxSteps := 1000000) only [go_sem, Nat.reduceAdd, Nat.reduceMul, Nat.reduceEqDiff, Nat.reduceLeDiff, Nat.reduceLT, Nat.reduceSub, Int.reduceEq, Int.reduceBEq, Int.reduceLT, Int.reduceLE, Int.reduceAdd, Int.reduceToNat, reduceIte, reduceCtorEq, mkSt, e1, p_ref08_Sort_0, p_ref08_Sort_1] | (refine hK _ ?_; clear hK; clear K') | refine And.intro ?_ ?_ | ((first | apply awCs_A | apply awCRs_A); (focus (first | exact (h_ref08_Strength _).b))) | (simp only [List.length_append, List.length_cons, List.length_nil, List.length_map, Nat.reducePow, Nat.reduceAdd]; omega) | omega | exact List.mem_singleton_self _)
    refine awp_loopP (ι := Nat) (fun j => j ≤ out.length ∧ insK out x j = insK out x out.length) (fun j => [(5, V.int j)]) (fun j => j) out.length (by omega) ⟨by omega, rfl⟩ (by repeat' first | exact ltO_none | refine ltO_upd (by omega) (by simp only [Ob.lt, ltL, V.lt, and_self, and_true]; try omega) ?_) (fun i hi => by simp only [ovT, lookD, Nat.reduceEqDiff, reduceIte]; (repeat' first | exact ltT_nil | refine ltT_cons ?_ ?_ | simp only [V.lt, ltL, and_self, and_true] | omega)) (by simp only [Nat.reduceAdd, ovT, lookD, Nat.reduceEqDiff, reduceIte, eqT_cons, eqT_nil, renI, u32, u33, u34, u35, u36, u37, u38, u39, and_self, and_true, true_and]) fun j hj K'' hL2 => ?_
    obtain ⟨hj, hinv⟩ := hj
    simp only [ovT, lookD, Nat.reduceEqDiff, reduceIte]
    rcases j with _ | j
    · have e2 : decide (((0 : Nat) : Int) > 0) = false := rfl
      have h0 : insK out x out.length = 0 := by rw [← hinv]; rfl
      have hfin : V.sc (Value.int .i64 x) :: List.take (out.length - 0) (out.map V.int) = (insS out x).map V.int := by
        rw [insS, h0, List.take_of_length_le (by simp)]; simp
      have hln : 1 + (List.take (out.length - 0) (out.map V.int)).length = (insS out x).length := by
        rw [insS_len]; simp; omega
      repeat' (first | refine awp_seqR fun K' hK => ?_ | refine awp_regR fun K' hK => ?_ | refine awp_seqP 16 (fun _ => true) rfl (k_ref08_Sort_0 _) (q_ref08_Sort_0 _) fun K' hK => ?_ | refine awp_regP 16 (fun _ => true) rfl (k_ref08_Sort_0 _) (q_ref08_Sort_0 _) fun K' hK => ?_ | refine awp_seqP 16 (fun _ => true) rfl (k_ref08_Sort_1) (q_ref08_Sort_1) fun K' hK => ?_ | refine awp_regP 16 (fun _ => true) rfl (k_ref08_Sort_1) (q_ref08_Sort_1) fun K' hK => ?_ | refine awp_seqK ?_ | refine awp_skip ?_ | refine awp_block ?_ | ((first | refine awp_cond ⟨_, rfl, fun hc => ?_, fun hc => ?_⟩ | refine awB_t (fun hc => ?_) (fun hc => ?_) | refine awB_f (fun hc => ?_) (fun hc => ?_)) <;> first | exact Bool.noConfusion hc | ((try simp only [decide_eq_true_eq, decide_eq_false_iff_not, beq_iff_eq, beq_eq_false_iff_ne, ne_eq, Bool.not_eq_true', Bool.not_eq_false'] at hc); first | (exfalso; simp only [List.length_map] at hc; omega) | (exfalso; omega) | skip)) | refine awp_ret ?_ | refine awp_exit ?_ | simp (maxSteps := 1000000) only [go_sem, Nat.reduceAdd, Nat.reduceMul, Nat.reduceEqDiff, Nat.reduceLeDiff, Nat.reduceLT, Nat.reduceSub, Int.reduceEq, Int.reduceBEq, Int.reduceLT, Int.reduceLE, Int.reduceAdd, Int.reduceToNat, reduceIte, reduceCtorEq, e2, hw, Int.toNat_natCast, List.getElem?_map, hget, p_ref08_Sort_0, p_ref08_Sort_1] | (refine hK _ ?_; clear hK; clear K') | refine And.intro ?_ ?_ | ((first | apply awCs_A | apply awCRs_A); (focus (first | exact (h_ref08_Strength _).b))) | (simp only [List.length_append, List.length_cons, List.length_nil, List.length_map, Nat.reducePow, Nat.reduceAdd]; omega) | omega | exact List.mem_singleton_self _)
      all_goals first
        | (intro y hy; have h9 := List.mem_of_mem_take hy; simp only [List.mem_map] at h9; obtain ⟨z, _, rfl⟩ := h9; rfl)
        | (rw [hln]; rw [insS_len]; omega)
        | (rw [hln, hfin]
           refine hL _ (k + 1) (lookN [(0, 37001)]) (by omega) (by omega) ?_
           rw [hcs]
           exact weak_g [(0, 37001)] (by simp only [go_sem, Nat.reduceAdd, Nat.reduceMul, Nat.reduceEqDiff, Nat.reduceLT, Int.reduceToNat, reduceIte, reduceCtorEq, and_true, true_and, implies_true, Option.some.injEq, exists_eq_left', closedL_ren, closed_ren]; (repeat' (first | rfl | refine And.intro ?_ ?_ | omega | exact fun h => h | exact Exists.intro _ rfl))) (by simp only [go_sem, Nat.reduceAdd, Nat.reduceMul, Nat.reduceEqDiff, Nat.reduceLT, Int.reduceToNat, reduceIte, reduceCtorEq, and_true, true_and, implies_true, Option.some.injEq, exists_eq_left', closedL_ren, closed_ren]; (repeat' (first | rfl | refine And.intro ?_ ?_ | omega | exact fun h => h | exact Exists.intro _ rfl))) (by simp) (by simp; omega) (by omega))
        | trace_state
    · have e2 : decide (((j + 1 : Nat) : Int) > 0) = true := decide_eq_true (by omega)
      have hwj : IntKind.i64.wrap (((j + 1 : Nat) : Int) - 1) = (j : Int) := by rw [wrap_id (by omega) (by omega)]; omega
      obtain ⟨y, hy⟩ : ∃ y, out[j]? = some y := ⟨out[j]'(by omega), List.getElem?_eq_getElem (by omega)⟩
      have hyd : out.getD j 0 = y := by rw [List.getD_eq_getElem?_getD, hy]; rfl
      rw [insK, hyd] at hinv
      have hyt : (List.take out.length (out.map V.int))[j]? = some (V.int y) := by rw [List.take_of_length_le (by simp), List.getElem?_map, hy]; rfl
      rcases hlt : decide (sufS y < sufS x) with _ | _
      · rw [if_neg (of_decide_eq_false hlt)] at hinv
        have hA : List.take (j + 1 - 0) (out.map V.int) = (out.take (j + 1)).map V.int := by rw [Nat.sub_zero, List.map_take]
        have hB : List.take (out.length - (j + 1)) (List.drop (j + 1) (out.map V.int)) = (out.drop (j + 1)).map V.int := by
          rw [List.take_of_length_le (by simp), List.map_drop]
        have hC : List.take ((out.take (j + 1)).map V.int).length ((out.take (j + 1)).map V.int) = (out.take (j + 1)).map V.int := List.take_length
        have hD : List.take (((out.take (j + 1)).map V.int).length + 1) ((out.take (j + 1)).map V.int ++ [V.sc (Value.int .i64 x)]) = (out.take (j + 1) ++ [x]).map V.int := by
          rw [List.take_of_length_le (by simp), List.map_append]; rfl
        have hfin : (out.take (j + 1) ++ [x]).map V.int ++ (out.drop (j + 1)).map V.int = (insS out x).map V.int := by
          rw [insS, ← hinv, List.map_append, List.map_append, List.map_append]
        have hln : ((out.take (j + 1)).map V.int).length + 1 + ((out.drop (j + 1)).map V.int).length = (insS out x).length := by
          rw [insS_len]; simp; omega
        repeat' (first | refine awp_seqR fun K' hK => ?_ | refine awp_regR fun K' hK => ?_ | refine awp_seqP 16 (fun _ => true) rfl (k_ref08_Sort_0 _) (q_ref08_Sort_0 _) fun K' hK => ?_ | refine awp_regP 16 (fun _ => true) rfl (k_ref08_Sort_0 _) (q_ref08_Sort_0 _) fun K' hK => ?_ | refine awp_seqP 16 (fun _ => true) rfl (k_ref08_Sort_1) (q_ref08_Sort_1) fun K' hK => ?_ | refine awp_regP 16 (fun _ => true) rfl (k_ref08_Sort_1) (q_ref08_Sort_1) fun K' hK => ?_ | refine awp_seqK ?_ | refine awp_skip ?_ | refine awp_block ?_ | ((first | refine awp_cond ⟨_, rfl, fun hc => ?_, fun hc => ?_⟩ | refine awB_t (fun hc => ?_) (fun hc => ?_) | refine awB_f (fun hc => ?_) (fun hc => ?_)) <;> first | exact Bool.noConfusion hc | ((try simp only [decide_eq_true_eq, decide_eq_false_iff_not, beq_iff_eq, beq_eq_false_iff_ne, ne_eq, Bool.not_eq_true', Bool.not_eq_false'] at hc); first | (exfalso; simp only [List.length_map] at hc; omega) | (exfalso; omega) | skip)) | refine awp_ret ?_ | refine awp_exit ?_ | simp (maxSteps := 1000000) only [go_sem, Nat.reduceAdd, Nat.reduceMul, Nat.reduceEqDiff, Nat.reduceLeDiff, Nat.reduceLT, Nat.reduceSub, Int.reduceEq, Int.reduceBEq, Int.reduceLT, Int.reduceLE, Int.reduceAdd, Int.reduceToNat, reduceIte, reduceCtorEq, e2, hw, hwj, Int.toNat_natCast, List.getElem?_map, hget, hy, hlt, p_ref08_Sort_0, p_ref08_Sort_1] | (refine hK _ ?_; clear hK; clear K') | refine And.intro ?_ ?_ | ((first | apply awCs_A | apply awCRs_A); (focus (first | exact (h_ref08_Strength _).b))) | (simp only [List.length_append, List.length_cons, List.length_nil, List.length_map, Nat.reducePow, Nat.reduceAdd]; omega) | omega | exact List.mem_singleton_self _)
        all_goals first
          | (intro z hz; rw [hA] at hz; simp only [List.mem_map] at hz; obtain ⟨w, _, rfl⟩ := hz; rfl)
          | (intro z hz; rw [hB] at hz; simp only [List.mem_map] at hz; obtain ⟨w, _, rfl⟩ := hz; rfl)
          | (simp; done)
          | (simp; omega)
          | (rw [hA, hB, hln, hC, hD, hfin]
             refine hL _ (k + 1) (lookN [(0, 37001)]) (by omega) (by omega) ?_
             rw [hcs]
             exact weak_g [(0, 37001)] (by simp only [go_sem, Nat.reduceAdd, Nat.reduceMul, Nat.reduceEqDiff, Nat.reduceLT, Int.reduceToNat, reduceIte, reduceCtorEq, and_true, true_and, implies_true, Option.some.injEq, exists_eq_left', closedL_ren, closed_ren]; (repeat' (first | rfl | refine And.intro ?_ ?_ | omega | exact fun h => h | exact Exists.intro _ rfl))) (by simp only [go_sem, Nat.reduceAdd, Nat.reduceMul, Nat.reduceEqDiff, Nat.reduceLT, Int.reduceToNat, reduceIte, reduceCtorEq, and_true, true_and, implies_true, Option.some.injEq, exists_eq_left', closedL_ren, closed_ren]; (repeat' (first | rfl | refine And.intro ?_ ?_ | omega | exact fun h => h | exact Exists.intro _ rfl))) (by simp) (by simp; omega) (by omega))
          | trace_state
      · repeat' (first | refine awp_seqR fun K' hK => ?_ | refine awp_regR fun K' hK => ?_ | refine awp_seqP 16 (fun _ => true) rfl (k_ref08_Sort_0 _) (q_ref08_Sort_0 _) fun K' hK => ?_ | refine awp_regP 16 (fun _ => true) rfl (k_ref08_Sort_0 _) (q_ref08_Sort_0 _) fun K' hK => ?_ | refine awp_seqP 16 (fun _ => true) rfl (k_ref08_Sort_1) (q_ref08_Sort_1) fun K' hK => ?_ | refine awp_regP 16 (fun _ => true) rfl (k_ref08_Sort_1) (q_ref08_Sort_1) fun K' hK => ?_ | refine awp_seqK ?_ | refine awp_skip ?_ | refine awp_block ?_ | ((first | refine awp_cond ⟨_, rfl, fun hc => ?_, fun hc => ?_⟩ | refine awB_t (fun hc => ?_) (fun hc => ?_) | refine awB_f (fun hc => ?_) (fun hc => ?_)) <;> first | exact Bool.noConfusion hc | ((try simp only [decide_eq_true_eq, decide_eq_false_iff_not, beq_iff_eq, beq_eq_false_iff_ne, ne_eq, Bool.not_eq_true', Bool.not_eq_false'] at hc); first | (exfalso; simp only [List.length_map] at hc; omega) | (exfalso; omega) | skip)) | refine awp_ret ?_ | refine awp_exit ?_ | simp (maxSteps := 1000000) only [go_sem, Nat.reduceAdd, Nat.reduceMul, Nat.reduceEqDiff, Nat.reduceLeDiff, Nat.reduceLT, Nat.reduceSub, Int.reduceEq, Int.reduceBEq, Int.reduceLT, Int.reduceLE, Int.reduceAdd, Int.reduceToNat, reduceIte, reduceCtorEq, e2, hw, hwj, Int.toNat_natCast, List.getElem?_map, hget, hy, hlt, p_ref08_Sort_0, p_ref08_Sort_1] | (refine hK _ ?_; clear hK; clear K') | refine And.intro ?_ ?_ | ((first | apply awCs_A | apply awCRs_A); (focus (first | exact (h_ref08_Strength _).b))) | (simp only [List.length_append, List.length_cons, List.length_nil, List.length_map, Nat.reducePow, Nat.reduceAdd]; omega) | omega | exact List.mem_singleton_self _)
        rw [if_pos (of_decide_eq_true hlt)] at hinv
        all_goals exact hL2 _ j (by simp only [Nat.reduceAdd, ovT, lookD, Nat.reduceEqDiff, reduceIte, eqT_cons, eqT_nil, renI, u32, u33, u34, u35, u36, u37, u38, u39, and_self, and_true, true_and]) ⟨by omega, hinv⟩ (by omega) (fun a ha => by simp only [u32, u33, u34, u35, u36, u37, u38, u39]; repeat rw [if_neg (by omega)])
end Av
end
section
set_option linter.unusedSimpArgs false
set_option linter.unusedVariables false
set_option maxRecDepth 10000
set_option maxHeartbeats 4000000
namespace Av
open Go
attribute [local irreducible] AWp runO runP runG awS awC awCv awQ awRd awCallR awCvR awQR awR awRdR awB okR plan ris
end Av
end
section
set_option linter.unusedSimpArgs false
set_option linter.unusedVariables false
set_option maxRecDepth 10000
set_option maxHeartbeats 4000000
namespace Av
open Go
attribute [local irreducible] AWp runO runP runG awS awC awCv awQ awRd awCallR awCvR awQR awR awRdR awB okR plan ris
def signS : List UInt8 → UInt8 × List UInt8
  | [] => (0, [])
  | c :: r => if c = 45 ∨ c = 33 ∨ c = 43 then (c, r) else (0, c :: r)
abbrev RowP := List Int × List Int
def doG (g : UInt8) (set : List Int) (p : RowP) : RowP :=
  if g = 45 then (withoutL p.1 set, p.2)
  else if g = 33 then (withoutL p.1 set, p.2 ++ set)
  else if g = 43 then (withoutL p.1 set ++ withoutL p.1 (withoutL p.1 set), p.2)
  else (p.1 ++ withoutL (withoutL set p.1) p.2, p.2)
def strW : List UInt8 := [64, 115, 116, 114, 101, 110, 103, 116, 104]
def wordOk (w : List UInt8) : Bool := w == strW || (setS (signS w).2).2
def doR (w : List UInt8) (p : RowP) : RowP := if w == strW then (sortS p.1, p.2) else doG (signS w).1 (setS (signS w).2).1 p
def goP : List (List UInt8) → Nat → RowP → List Int × Int × Int
  | [], _, p => (p.1, 0, 0)
  | w :: r, i, p => if wordOk w = true then goP r (i + 1) (doR w p) else ([], ((i + 1 : Nat) : Int), 17)
def parseW (s : List UInt8) : List Int × Int × Int :=
  if s.length > 8192 then ([], 0, 3) else if s = [] then ([], 0, 0) else if (splitL 58 s).length > 200 then ([], 0, 3) else goP (splitL 58 s) 0 ([], [])
theorem codesIn_sub (L : List (List UInt8)) : (codesIn L suitesL).Sublist (suitesL.map CSuite.code) := (List.filter_sublist (l := suitesL)).map _
theorem codes_nd : (suitesL.map CSuite.code).Nodup := by decide
theorem codes_rg : ∀ x ∈ suitesL.map CSuite.code, 1 ≤ x ∧ x ≤ 16 := by decide
theorem setS_nd (s : List UInt8) : (setS s).1.Nodup := by
  unfold setS; split
  · exact codes_nd.sublist (codesIn_sub _)
  · exact List.nodup_nil
theorem setS_rg (s : List UInt8) : ∀ x ∈ (setS s).1, 1 ≤ x ∧ x ≤ 16 := by
  unfold setS; split
  · exact fun x hx => codes_rg x ((codesIn_sub _).subset hx)
  · intro x hx; cases hx
theorem setS_len (s : List UInt8) : (setS s).1.length ≤ 16 := by
  unfold setS; split
  · have := (codesIn_sub (splitL 43 s)).length_le
    have e : (suitesL.map CSuite.code).length = 16 := by decide
    show (codesIn (splitL 43 s) suitesL).length ≤ 16
    omega
  · simp
theorem mem_withoutL {x : Int} {l m : List Int} : x ∈ withoutL l m ↔ x ∈ l ∧ x ∉ m := by simp [withoutL]
theorem doR_perm43 (p : RowP) (m : List Int) : (withoutL p.1 m ++ withoutL p.1 (withoutL p.1 m)).Perm p.1 := by
  have hp : withoutL p.1 (withoutL p.1 m) = p.1.filter fun x => m.contains x := by
    unfold withoutL
    refine List.filter_congr fun x hx => ?_
    cases hm : m.contains x <;> simp_all
  rw [hp, withoutL]
  have : ∀ l : List Int, ((l.filter fun x => !m.contains x) ++ (l.filter fun x => m.contains x)).Perm l := by
    intro l; induction l with
    | nil => exact .refl _
    | cons x r ih =>
      cases hx : m.contains x
      · simp only [List.filter_cons, hx, Bool.not_false, if_true, Bool.false_eq_true, if_false, List.cons_append]; exact ih.cons x
      · simp only [List.filter_cons, hx, Bool.not_true, if_true, Bool.false_eq_true, if_false]; exact List.perm_middle.trans (ih.cons x)
  exact this _
theorem doR_len (w : List UInt8) (p : RowP) : (doR w p).1.length ≤ p.1.length + 16 ∧ (doR w p).2.length ≤ p.2.length + 16 := by
  have h := setS_len (signS w).2
  unfold doR; split
  · simp [sortS_len]
  · unfold doG
    have a := withoutL_len p.1 (setS (signS w).2).1
    have b := withoutL_len (withoutL (setS (signS w).2).1 p.1) p.2
    have c := withoutL_len (setS (signS w).2).1 p.1
    have part : (withoutL p.1 (setS (signS w).2).1 ++ withoutL p.1 (withoutL p.1 (setS (signS w).2).1)).length ≤ p.1.length := Nat.le_of_eq (doR_perm43 _ _).length_eq
    split
    · simp; omega
    · split
      · simp; omega
      · split
        · simp only; omega
        · simp; omega
theorem insS_perm (out : List Int) (x : Int) : (insS out x).Perm (x :: out) := by
  unfold insS
  rw [List.append_assoc, List.singleton_append]
  exact List.perm_middle.trans (by rw [List.take_append_drop])
theorem foldl_perm : ∀ (l out : List Int), (l.foldl insS out).Perm (out ++ l)
  | [], out => by simp
  | x :: r, out => by
    rw [List.foldl_cons]
    refine (foldl_perm r _).trans ?_
    refine ((insS_perm out x).append_right r).trans ?_
    rw [List.cons_append]
    exact List.perm_middle.symm
theorem sortS_perm (l : List Int) : (sortS l).Perm l := by
  have := foldl_perm l []
  simpa [sortS] using this
structure RowOk (p : RowP) : Prop where
  nd : p.1.Nodup
  rg : ∀ x ∈ p.1, 1 ≤ x ∧ x ≤ 16
  dj : ∀ x ∈ p.1, x ∉ p.2
theorem doR_ok (w : List UInt8) (p : RowP) (h : RowOk p) : RowOk (doR w p) := by
  have nd := setS_nd (signS w).2
  have rg := setS_rg (signS w).2
  unfold doR; split
  · have hp := sortS_perm p.1
    exact ⟨hp.nodup_iff.2 h.nd, fun x hx => h.rg x (hp.mem_iff.1 hx), fun x hx => h.dj x (hp.mem_iff.1 hx)⟩
  · generalize (setS (signS w).2).1 = m at *
    unfold doG
    split
    · exact ⟨h.nd.sublist List.filter_sublist, fun x hx => h.rg x (mem_withoutL.1 hx).1, fun x hx => h.dj x (mem_withoutL.1 hx).1⟩
    · split
      · refine ⟨h.nd.sublist List.filter_sublist, fun x hx => h.rg x (mem_withoutL.1 hx).1, fun x hx hk => ?_⟩
        have hx := mem_withoutL.1 hx
        rcases List.mem_append.1 hk with hk | hk
        · exact h.dj x hx.1 hk
        · exact hx.2 hk
      · split
        · have hp := doR_perm43 p m
          exact ⟨hp.nodup_iff.2 h.nd, fun x hx => h.rg x (hp.mem_iff.1 hx), fun x hx => h.dj x (hp.mem_iff.1 hx)⟩
        · refine ⟨?_, fun x hx => ?_, fun x hx => ?_⟩
          · refine List.nodup_append.2 ⟨h.nd, (nd.sublist List.filter_sublist).sublist List.filter_sublist, fun a ha b hb e => ?_⟩
            subst e
            exact (mem_withoutL.1 (mem_withoutL.1 hb).1).2 ha
          · rcases List.mem_append.1 hx with hx | hx
            · exact h.rg x hx
            · exact rg x (mem_withoutL.1 (mem_withoutL.1 hx).1).1
          · rcases List.mem_append.1 hx with hx | hx
            · exact h.dj x hx
            · exact (mem_withoutL.1 hx).2
theorem row0_ok : RowOk ([], []) := ⟨List.nodup_nil, fun x h => by simp at h, fun x h => by simp at h⟩
theorem nd_len {l : List Int} (hn : l.Nodup) (hr : ∀ x ∈ l, 1 ≤ x ∧ x ≤ 16) : l.length ≤ 16 := by
  have hs : l ⊆ suitesL.map CSuite.code := by
    intro x hx
    have h := hr x hx
    have e : suitesL.map CSuite.code = [1, 2, 3, 4, 5, 6, 7, 8, 9, 10, 11, 12, 13, 14, 15, 16] := by decide
    rw [e]; simp; omega
  have := hn.length_le_of_subset hs
  have e : (suitesL.map CSuite.code).length = 16 := by decide
  omega
theorem RowOk.len {p : RowP} (h : RowOk p) : p.1.length ≤ 16 := nd_len h.nd h.rg
end Av
end
section
set_option linter.unusedSimpArgs false
set_option linter.unusedVariables false
set_option maxRecDepth 10000
set_option maxHeartbeats 4000000
namespace Av
open Go
attribute [local irreducible] AWp runO runP runG awS awC awCv awQ awRd awCallR awCvR awQR awR awRdR awB okR plan ris
abbrev DescS (l : List Int) : Prop := l.Pairwise fun a b => sufS b ≤ sufS a
theorem insK_stop (out : List Int) (x : Int) : ∀ k, insK out x k = 0 ∨ ∃ j, insK out x k = j + 1 ∧ ¬ sufS (out.getD j 0) < sufS x
  | 0 => .inl rfl
  | k + 1 => by
    rw [insK]; split
    · exact insK_stop out x k
    · rename_i h; exact .inr ⟨k, rfl, h⟩
theorem insK_above (out : List Int) (x : Int) : ∀ k i, insK out x k ≤ i → i < k → sufS (out.getD i 0) < sufS x
  | 0, i, _, h => absurd h (Nat.not_lt_zero _)
  | k + 1, i, h1, h2 => by
    rw [insK] at h1
    split at h1
    · rename_i hlt
      rcases Nat.lt_or_ge i k with h | h
      · exact insK_above out x k i h1 h
      · have : i = k := by omega
        subst this; exact hlt
    · omega
theorem insS_desc {out : List Int} (x : Int) (h : DescS out) : DescS (insS out x) := by
  have hle := insK_le out x out.length
  have habove := insK_above out x out.length
  have hstop := insK_stop out x out.length
  unfold insS
  generalize insK out x out.length = k at *
  have hget : ∀ i, (hi : i < out.length) → out.getD i 0 = out[i] := fun i hi => by simp [List.getD_eq_getElem?_getD, List.getElem?_eq_getElem hi]
  have hpre : ∀ a ∈ out.take k, sufS x ≤ sufS a := by
    intro a ha
    rcases hstop with h0 | ⟨j, hj, hnl⟩
    · subst h0; simp at ha
    · obtain ⟨i, hi, rfl⟩ := List.getElem_of_mem ha
      simp only [List.length_take] at hi
      rw [List.getElem_take]
      have hjl : j < out.length := by omega
      rw [hget j hjl] at hnl
      rcases Nat.lt_or_ge i j with hij | hij
      · have := List.pairwise_iff_getElem.1 h i j (by omega) hjl hij
        omega
      · have : i = j := by omega
        subst this; omega
  have hsuf : ∀ a ∈ out.drop k, sufS a ≤ sufS x := by
    intro a ha
    obtain ⟨i, hi, rfl⟩ := List.getElem_of_mem ha
    simp only [List.length_drop] at hi
    rw [List.getElem_drop]
    have := habove (k + i) (by omega) (by omega)
    rw [hget (k + i) (by omega)] at this
    omega
  rw [List.append_assoc]
  refine List.pairwise_append.2 ⟨h.sublist (List.take_sublist _ _), ?_, fun a ha b hb => ?_⟩
  · rw [List.singleton_append]
    exact List.pairwise_cons.2 ⟨hsuf, h.sublist (List.drop_sublist _ _)⟩
  · rw [List.singleton_append] at hb
    rcases List.mem_cons.1 hb with rfl | hb
    · exact hpre a ha
    · exact Int.le_trans (hsuf b hb) (hpre a ha)
theorem foldl_desc : ∀ (l out : List Int), DescS out → DescS (l.foldl insS out)
  | [], out, h => h
  | x :: r, out, h => foldl_desc r _ (insS_desc x h)
theorem sortS_desc (l : List Int) : DescS (sortS l) := foldl_desc l [] List.Pairwise.nil
theorem insS_end {out : List Int} {x : Int} (h : DescS (out ++ [x])) : insS out x = out ++ [x] := by
  have hk : insK out x out.length = out.length := by
    rcases hl : out.length with _ | n
    · rfl
    · rw [insK, if_neg]
      have hg : out.getD n 0 ∈ out := by
        rw [List.getD_eq_getElem?_getD, List.getElem?_eq_getElem (by omega)]; exact List.getElem_mem _
      have := (List.pairwise_append.1 h).2.2 _ hg x (by simp)
      omega
  rw [insS, hk, List.take_length, List.drop_length, List.append_nil]
theorem foldl_id : ∀ (l out : List Int), DescS (out ++ l) → l.foldl insS out = out ++ l
  | [], out, h => by simp
  | x :: r, out, h => by
    have h2 : DescS ((out ++ [x]) ++ r) := by simpa using h
    rw [List.foldl_cons, insS_end (h2.sublist (List.sublist_append_left _ _)), foldl_id r _ h2]; simp
theorem sortS_id {l : List Int} (h : DescS l) : sortS l = l := by
  have := foldl_id l [] (by simpa using h)
  simpa [sortS] using this
theorem sortS_twice (l : List Int) : sortS (sortS l) = sortS l := sortS_id (sortS_desc l)
theorem splitA_app (c : UInt8) : ∀ (s cur t : List UInt8), splitA c cur (s ++ c :: t) = splitA c cur s ++ splitA c [] t
  | [], cur, t => by simp [splitA]
  | x :: r, cur, t => by
    rw [List.cons_append, splitA, splitA]
    split
    · rw [splitA_app c r [] t]; rfl
    · exact splitA_app c r _ t
theorem splitL_app (c : UInt8) (s t : List UInt8) : splitL c (s ++ [c] ++ t) = splitL c s ++ splitL c t := by
  rw [List.append_assoc, List.singleton_append]; exact splitA_app c s [] t
theorem splitA_none (c : UInt8) : ∀ (s cur : List UInt8), c ∉ s → splitA c cur s = [cur ++ s]
  | [], cur, _ => by simp [splitA]
  | x :: r, cur, h => by
    simp only [List.mem_cons, not_or] at h
    rw [splitA, if_neg (fun e => h.1 e.symm), splitA_none c r _ h.2]; simp
theorem splitL_none {c : UInt8} {s : List UInt8} (h : c ∉ s) : splitL c s = [s] := splitA_none c s [] h
def runW (ws : List (List UInt8)) (p : RowP) : RowP := ws.foldl (fun p w => doR w p) p
theorem runW_app (a b : List (List UInt8)) (p : RowP) : runW (a ++ b) p = runW b (runW a p) := by simp [runW]
theorem runW_ok : ∀ (ws : List (List UInt8)) (p : RowP), RowOk p → RowOk (runW ws p)
  | [], p, h => h
  | w :: r, p, h => runW_ok r _ (doR_ok w p h)
theorem goP_ok : ∀ (ws : List (List UInt8)) (i : Nat) (p : RowP), (∀ w ∈ ws, wordOk w = true) → goP ws i p = ((runW ws p).1, 0, 0)
  | [], i, p, _ => rfl
  | w :: r, i, p, h => by
    rw [goP, if_pos (h w (by simp)), goP_ok r _ _ (fun w hw => h w (by simp [hw]))]; rfl
theorem parseW_ok {s : List UInt8} (hs : s ≠ []) (hl : s.length ≤ 8192) (hw : (splitL 58 s).length ≤ 200) (h : ∀ w ∈ splitL 58 s, wordOk w = true) : parseW s = ((runW (splitL 58 s) ([], [])).1, 0, 0) := by
  rw [parseW, if_neg (by omega), if_neg hs, if_neg (by omega), goP_ok _ _ _ h]
theorem doR_kills (w : List UInt8) (p : RowP) {x : Int} (h : x ∈ p.2) : x ∈ (doR w p).2 := by
  unfold doR; split
  · exact h
  · unfold doG; repeat' split
    all_goals first | exact h | exact List.mem_append_left _ h
theorem runW_kills : ∀ (ws : List (List UInt8)) (p : RowP) {x : Int}, x ∈ p.2 → x ∈ (runW ws p).2
  | [], p, x, h => h
  | w :: r, p, x, h => runW_kills r _ (doR_kills w p h)
end Av
end
section
set_option linter.unusedSimpArgs false
set_option linter.unusedVariables false
set_option maxRecDepth 10000
set_option maxHeartbeats 4000000
namespace Av
open Go
attribute [local irreducible] AWp runO runP runG awS awC awCv awQ awRd awCallR awCvR awQR awR awRdR awB okR plan ris
theorem u8_ne (c : UInt8) (n : Nat) (h : c ≠ UInt8.ofNat n) : (((c.toNat : Nat) : Int) == (n : Int)) = false := by
  simp only [beq_eq_false_iff_ne, ne_eq]
  intro e
  apply h
  have : c.toNat = n := by omega
  rw [← this]; simp
theorem take_lm {α β : Type} (f : α → β) (l : List α) : (l.map f).take l.length = l.map f := by rw [List.take_of_length_le (by simp)]
theorem signS_cons (c : UInt8) (r : List UInt8) : signS (c :: r) = if c = 45 ∨ c = 33 ∨ c = 43 then (c, r) else (0, c :: r) := rfl
theorem str_ne {w : List UInt8} (h : w ≠ strW) : (w == strW) = false := by simpa using h

-- REGION ref08_row__do 0: 6 operations, 1 orders, L [], X false, ok true
def o_ref08_row__do_0 : List AO := [mv 37 1, xo 38 (.idxS (.t 37) (.c (V.int 0))), mv 39 1, xo 40 (.slstr (.t 39) (some (.c (V.int 1))) none), mv 5 38, mv 1 40]
def a_ref08_row__do_0 : List (List Nat) := [[], [0], [], [2], [1, 0, 1], [3, 4, 0, 1, 2, 3, 4]]
def t_ref08_row__do_0 : OT := .one 0 (.one 1 (.one 2 (.one 3 (.one 4 (.one 5 (.done))))))
def p_ref08_row__do_0 : OP := .one 0 false [] (mv 37 1) (.one 1 false [] (xo 38 (.idxS (.t 37) (.c (V.int 0)))) (.one 2 false [] (mv 39 1) (.one 3 false [] (xo 40 (.slstr (.t 39) (some (.c (V.int 1))) none)) (.one 4 false [] (mv 5 38) (.one 5 false [] (mv 1 40) (.done))))))
theorem k_ref08_row__do_0 : okR (o_ref08_row__do_0) a_ref08_row__do_0 [] t_ref08_row__do_0 = true := by kernel_rfl
theorem q_ref08_row__do_0 : plan (ris (o_ref08_row__do_0) a_ref08_row__do_0 []) t_ref08_row__do_0 = p_ref08_row__do_0 := by kernel_rfl -- REGION ref08_row__do 1: 20 operations, 15 orders, L [4, 9, 10, 14, 15], X true, ok true
def o_ref08_row__do_1 (f_ref08_without : Nat) : List AO := [mv 68 0, mv 69 0, nk 70 69, fa 71 0 70, ld 72 1 71, mv 73 6, mv 74 0, nk 75 74, fa 76 0 75, ld 77 1 76, cl 78 f_ref08_without [73, 77], mv 79 0, nk 80 79, fa 81 1 80, ld 82 1 81, cl 83 f_ref08_without [78, 82], xo 84 (.append 1 8 [(.int .i64 0)] (.t 72) (.t 83)), nk 85 68, fa 86 0 85, xs 1 86 84]
def a_ref08_row__do_1 : List (List Nat) := [[], [], [1], [2], [3], [], [], [6], [7], [8], [5, 9], [], [11], [12], [13], [10, 14, 10], [4, 15, 15], [0, 0, 1, 2, 3, 4, 5, 6, 7, 8, 9, 10, 11, 12, 13, 14, 15, 16], [17, 0, 1, 2, 3, 4, 5, 6, 7, 8, 9, 10, 11, 12, 13, 14, 15, 16], [18, 16, 16, 0, 1, 2, 3, 4, 5, 6, 7, 8, 9, 10, 11, 12, 13, 14, 15, 16]]
def t_ref08_row__do_1 : OT := .one 0 (.one 1 (.one 2 (.one 3 (.one 5 (.one 6 (.one 7 (.one 8 (.one 11 (.one 12 (.one 13 (.or 4 (.or 9 (.or 10 (.or 14 (.one 15 (.one 16 (.one 17 (.one 18 (.one 19 (.done)))))) (.done)) (.or 14 (.or 10 (.one 15 (.one 16 (.one 17 (.one 18 (.one 19 (.done)))))) (.done)) (.done))) (.or 14 (.or 9 (.or 10 (.one 15 (.one 16 (.one 17 (.one 18 (.one 19 (.done)))))) (.done)) (.done)) (.done))) (.or 9 (.or 4 (.or 10 (.or 14 (.one 15 (.one 16 (.one 17 (.one 18 (.one 19 (.done)))))) (.done)) (.or 14 (.or 10 (.one 15 (.one 16 (.one 17 (.one 18 (.one 19 (.done)))))) (.done)) (.done))) (.or 10 (.or 4 (.or 14 (.one 15 (.one 16 (.one 17 (.one 18 (.one 19 (.done)))))) (.done)) (.or 14 (.or 4 (.one 15 (.one 16 (.one 17 (.one 18 (.one 19 (.done)))))) (.or 15 (.one 4 (.one 16 (.one 17 (.one 18 (.one 19 (.done)))))) (.done))) (.done))) (.or 14 (.or 4 (.or 10 (.one 15 (.one 16 (.one 17 (.one 18 (.one 19 (.done)))))) (.done)) (.or 10 (.or 4 (.one 15 (.one 16 (.one 17 (.one 18 (.one 19 (.done)))))) (.or 15 (.one 4 (.one 16 (.one 17 (.one 18 (.one 19 (.done)))))) (.done))) (.done))) (.done)))) (.or 14 (.or 4 (.or 9 (.or 10 (.one 15 (.one 16 (.one 17 (.one 18 (.one 19 (.done)))))) (.done)) (.done)) (.or 9 (.or 4 (.or 10 (.one 15 (.one 16 (.one 17 (.one 18 (.one 19 (.done)))))) (.done)) (.or 10 (.or 4 (.one 15 (.one 16 (.one 17 (.one 18 (.one 19 (.done)))))) (.or 15 (.one 4 (.one 16 (.one 17 (.one 18 (.one 19 (.done)))))) (.done))) (.done))) (.done))) (.done))))))))))))))
def p_ref08_row__do_1 (f_ref08_without : Nat) : OP := .one 0 false [] (mv 68 0) (.one 1 false [] (mv 69 0) (.one 2 false [] (nk 70 69) (.one 3 false [] (fa 71 0 70) (.one 5 false [] (mv 73 6) (.one 6 false [] (mv 74 0) (.one 7 false [] (nk 75 74) (.one 8 false [] (fa 76 0 75) (.one 11 false [] (mv 79 0) (.one 12 false [] (nk 80 79) (.one 13 false [] (fa 81 1 80) (.or 4 true [] (ld 72 1 71) (.or 9 true [] (ld 77 1 76) (.or 10 true [] (cl 78 f_ref08_without [73, 77]) (.or 14 true [] (ld 82 1 81) (.one 15 true [10] (cl 83 f_ref08_without [78, 82]) (.one 16 true [15, 10] (xo 84 (.append 1 8 [(.int .i64 0)] (.t 72) (.t 83))) (.one 17 false [] (nk 85 68) (.one 18 false [] (fa 86 0 85) (.one 19 true [16, 15, 10] (xs 1 86 84) (.done)))))) (.done)) (.or 14 true [] (ld 82 1 81) (.or 10 true [] (cl 78 f_ref08_without [73, 77]) (.one 15 true [10] (cl 83 f_ref08_without [78, 82]) (.one 16 true [15, 10] (xo 84 (.append 1 8 [(.int .i64 0)] (.t 72) (.t 83))) (.one 17 false [] (nk 85 68) (.one 18 false [] (fa 86 0 85) (.one 19 true [16, 15, 10] (xs 1 86 84) (.done)))))) (.done)) (.done))) (.or 14 true [] (ld 82 1 81) (.or 9 true [] (ld 77 1 76) (.or 10 true [] (cl 78 f_ref08_without [73, 77]) (.one 15 true [10] (cl 83 f_ref08_without [78, 82]) (.one 16 true [15, 10] (xo 84 (.append 1 8 [(.int .i64 0)] (.t 72) (.t 83))) (.one 17 false [] (nk 85 68) (.one 18 false [] (fa 86 0 85) (.one 19 true [16, 15, 10] (xs 1 86 84) (.done)))))) (.done)) (.done)) (.done))) (.or 9 true [] (ld 77 1 76) (.or 4 true [] (ld 72 1 71) (.or 10 true [] (cl 78 f_ref08_without [73, 77]) (.or 14 true [] (ld 82 1 81) (.one 15 true [10] (cl 83 f_ref08_without [78, 82]) (.one 16 true [15, 10] (xo 84 (.append 1 8 [(.int .i64 0)] (.t 72) (.t 83))) (.one 17 false [] (nk 85 68) (.one 18 false [] (fa 86 0 85) (.one 19 true [16, 15, 10] (xs 1 86 84) (.done)))))) (.done)) (.or 14 true [] (ld 82 1 81) (.or 10 true [] (cl 78 f_ref08_without [73, 77]) (.one 15 true [10] (cl 83 f_ref08_without [78, 82]) (.one 16 true [15, 10] (xo 84 (.append 1 8 [(.int .i64 0)] (.t 72) (.t 83))) (.one 17 false [] (nk 85 68) (.one 18 false [] (fa 86 0 85) (.one 19 true [16, 15, 10] (xs 1 86 84) (.done)))))) (.done)) (.done))) (.or 10 true [] (cl 78 f_ref08_without [73, 77]) (.or 4 true [] (ld 72 1 71) (.or 14 true [] (ld 82 1 81) (.one 15 true [10] (cl 83 f_ref08_without [78, 82]) (.one 16 true [15, 10] (xo 84 (.append 1 8 [(.int .i64 0)] (.t 72) (.t 83))) (.one 17 false [] (nk 85 68) (.one 18 false [] (fa 86 0 85) (.one 19 true [16, 15, 10] (xs 1 86 84) (.done)))))) (.done)) (.or 14 true [] (ld 82 1 81) (.or 4 true [] (ld 72 1 71) (.one 15 true [10] (cl 83 f_ref08_without [78, 82]) (.one 16 true [15, 10] (xo 84 (.append 1 8 [(.int .i64 0)] (.t 72) (.t 83))) (.one 17 false [] (nk 85 68) (.one 18 false [] (fa 86 0 85) (.one 19 true [16, 15, 10] (xs 1 86 84) (.done)))))) (.or 15 true [10] (cl 83 f_ref08_without [78, 82]) (.one 4 true [] (ld 72 1 71) (.one 16 true [15, 10] (xo 84 (.append 1 8 [(.int .i64 0)] (.t 72) (.t 83))) (.one 17 false [] (nk 85 68) (.one 18 false [] (fa 86 0 85) (.one 19 true [16, 15, 10] (xs 1 86 84) (.done)))))) (.done))) (.done))) (.or 14 true [] (ld 82 1 81) (.or 4 true [] (ld 72 1 71) (.or 10 true [] (cl 78 f_ref08_without [73, 77]) (.one 15 true [10] (cl 83 f_ref08_without [78, 82]) (.one 16 true [15, 10] (xo 84 (.append 1 8 [(.int .i64 0)] (.t 72) (.t 83))) (.one 17 false [] (nk 85 68) (.one 18 false [] (fa 86 0 85) (.one 19 true [16, 15, 10] (xs 1 86 84) (.done)))))) (.done)) (.or 10 true [] (cl 78 f_ref08_without [73, 77]) (.or 4 true [] (ld 72 1 71) (.one 15 true [10] (cl 83 f_ref08_without [78, 82]) (.one 16 true [15, 10] (xo 84 (.append 1 8 [(.int .i64 0)] (.t 72) (.t 83))) (.one 17 false [] (nk 85 68) (.one 18 false [] (fa 86 0 85) (.one 19 true [16, 15, 10] (xs 1 86 84) (.done)))))) (.or 15 true [10] (cl 83 f_ref08_without [78, 82]) (.one 4 true [] (ld 72 1 71) (.one 16 true [15, 10] (xo 84 (.append 1 8 [(.int .i64 0)] (.t 72) (.t 83))) (.one 17 false [] (nk 85 68) (.one 18 false [] (fa 86 0 85) (.one 19 true [16, 15, 10] (xs 1 86 84) (.done)))))) (.done))) (.done))) (.done)))) (.or 14 true [] (ld 82 1 81) (.or 4 true [] (ld 72 1 71) (.or 9 true [] (ld 77 1 76) (.or 10 true [] (cl 78 f_ref08_without [73, 77]) (.one 15 true [10] (cl 83 f_ref08_without [78, 82]) (.one 16 true [15, 10] (xo 84 (.append 1 8 [(.int .i64 0)] (.t 72) (.t 83))) (.one 17 false [] (nk 85 68) (.one 18 false [] (fa 86 0 85) (.one 19 true [16, 15, 10] (xs 1 86 84) (.done)))))) (.done)) (.done)) (.or 9 true [] (ld 77 1 76) (.or 4 true [] (ld 72 1 71) (.or 10 true [] (cl 78 f_ref08_without [73, 77]) (.one 15 true [10] (cl 83 f_ref08_without [78, 82]) (.one 16 true [15, 10] (xo 84 (.append 1 8 [(.int .i64 0)] (.t 72) (.t 83))) (.one 17 false [] (nk 85 68) (.one 18 false [] (fa 86 0 85) (.one 19 true [16, 15, 10] (xs 1 86 84) (.done)))))) (.done)) (.or 10 true [] (cl 78 f_ref08_without [73, 77]) (.or 4 true [] (ld 72 1 71) (.one 15 true [10] (cl 83 f_ref08_without [78, 82]) (.one 16 true [15, 10] (xo 84 (.append 1 8 [(.int .i64 0)] (.t 72) (.t 83))) (.one 17 false [] (nk 85 68) (.one 18 false [] (fa 86 0 85) (.one 19 true [16, 15, 10] (xs 1 86 84) (.done)))))) (.or 15 true [10] (cl 83 f_ref08_without [78, 82]) (.one 4 true [] (ld 72 1 71) (.one 16 true [15, 10] (xo 84 (.append 1 8 [(.int .i64 0)] (.t 72) (.t 83))) (.one 17 false [] (nk 85 68) (.one 18 false [] (fa 86 0 85) (.one 19 true [16, 15, 10] (xs 1 86 84) (.done)))))) (.done))) (.done))) (.done))) (.done))))))))))))))
theorem k_ref08_row__do_1 (f_ref08_without : Nat) : okR (o_ref08_row__do_1 f_ref08_without) a_ref08_row__do_1 [4, 9, 10, 14, 15] t_ref08_row__do_1 = true := by kernel_rfl
theorem q_ref08_row__do_1 (f_ref08_without : Nat) : plan (ris (o_ref08_row__do_1 f_ref08_without) a_ref08_row__do_1 [4, 9, 10, 14, 15]) t_ref08_row__do_1 = p_ref08_row__do_1 f_ref08_without := by kernel_rfl def c_ref08_row__do (f_ref08_Sort f_ref08_Set f_ref08_without : Nat) : AC := seqK [0, 1] (.reg [mc 4 (V.bool false)]) (seqK [0, 1] (seqK [0, 1, 10] (.reg [mv 9 1, bc 10 .eql 9 (V.str [64, 115, 116, 114, 101, 110, 103, 116, 104])]) (.cond (.t 10) (seqK [] (.reg [mv 11 0, mv 12 0, nk 13 12, fa 14 0 13, ld 15 1 14, cl 16 f_ref08_Sort [15], nk 17 11, fa 18 0 17, xs 1 18 16]) (seqK [4] (.reg [mc 4 (V.bool true)]) (.ret))) (.skip))) (seqK [0, 1, 5] (.reg [mc 5 (.sc (.int .u8 0))]) (seqK [0, 1, 5] (seqK [0, 1, 5, 36] (.reg [mv 19 1, xo 20 (.lenS (.t 19)), bc 21 .gtr 20 (V.int 0), mv 22 21, mg 23 1 22 true, xg 24 (.idxS (.t 23) (.c (V.int 0))) 22 true, xg 25 (.bin .eql (.t 24) (.c (.sc (.int .u8 45)))) 22 true, mg 26 25 22 true, mg 27 1 26 false, xg 28 (.idxS (.t 27) (.c (V.int 0))) 26 false, xg 29 (.bin .eql (.t 28) (.c (.sc (.int .u8 33)))) 26 false, xg 30 (.pick (.t 26) (.c (V.bool true)) (.t 29)) 22 true, mg 31 30 22 true, mg 32 1 31 false, xg 33 (.idxS (.t 32) (.c (V.int 0))) 31 false, xg 34 (.bin .eql (.t 33) (.c (.sc (.int .u8 43)))) 31 false, xg 35 (.pick (.t 31) (.c (V.bool true)) (.t 34)) 22 true, xo 36 (.pick (.t 22) (.t 35) (.c (V.bool false)))]) (.cond (.t 36) (regK [] t_ref08_row__do_0 (p_ref08_row__do_0) (o_ref08_row__do_0) a_ref08_row__do_0) (.skip))) (seqK [0, 5, 6, 7] (.reg [mv 42 1, cl 43 f_ref08_Set [42], mv 41 43, ex 44 41 0, ex 45 41 1, mv 6 44, mv 7 45]) (seqK [0, 5, 6] (seqK [0, 5, 6, 47] (.reg [mv 46 7, xo 47 (.un .not (.t 46))]) (.cond (.t 47) (seqK [4] (.reg [mc 4 (V.bool false)]) (.ret)) (.skip))) (seqK [] (seqK [0, 6, 48] (.reg [mv 48 5]) (.block 0 (seqK [0, 6, 48, 66] (.reg [bc 67 .eql 48 (.sc (.int .u8 0)), mv 66 67]) (.cond (.t 66) (regK [4, 9, 10, 14, 15] t_ref08_row__do_1 (p_ref08_row__do_1 f_ref08_without) (o_ref08_row__do_1 f_ref08_without) a_ref08_row__do_1) (seqK [0, 6, 48, 87] (.reg [bc 88 .eql 48 (.sc (.int .u8 45)), mv 87 88]) (.cond (.t 87) (.reg [mv 89 0, mv 90 0, nk 91 90, fa 92 0 91, ld 93 1 92, mv 94 6, cl 95 f_ref08_without [93, 94], nk 96 89, fa 97 0 96, xs 1 97 95]) (seqK [0, 6, 98] (.reg [bc 99 .eql 48 (.sc (.int .u8 33)), mv 98 99]) (.cond (.t 98) (seqK [0, 6] (.reg [mv 100 0, mv 101 0, nk 102 101, fa 103 0 102, ld 104 1 103, mv 105 6, cl 106 f_ref08_without [104, 105], nk 107 100, fa 108 0 107, xs 1 108 106]) (.reg [mv 109 0, mv 110 0, nk 111 110, fa 112 1 111, ld 113 1 112, mv 114 6, xo 115 (.append 1 8 [(.int .i64 0)] (.t 113) (.t 114)), nk 116 109, fa 117 1 116, xs 1 117 115])) (seqK [0, 8] (.reg [mv 49 0, nk 50 49, fa 51 0 50, ld 52 1 51, mv 53 6, cl 54 f_ref08_without [52, 53], mv 8 54]) (.reg [mv 55 0, mv 56 8, mv 57 0, nk 58 57, fa 59 0 58, ld 60 1 59, mv 61 8, cl 62 f_ref08_without [60, 61], xo 63 (.append 1 8 [(.int .i64 0)] (.t 56) (.t 62)), nk 64 55, fa 65 0 64, xs 1 65 63])))))))))) (seqK [4] (.reg [mc 4 (V.bool true)]) (.ret)))))))) def r_ref08_row__do : List ARes := [.tmp 4]
def CE_ref08_row__do (Γ : Env) (f : Nat) : Prop := ∀ (w : List UInt8) (l k : List Int) (hw : w.length < 2 ^ 30) (hl : l.length < 2 ^ 30) (hk : k.length < 2 ^ 30), EvT Γ f [V.str w] 1 1 (l.map V.int) (k.map V.int) (V.bool (wordOk w)) (((if wordOk w then doR w (l, k) else (l, k)).1).map V.int) (((if wordOk w then doR w (l, k) else (l, k)).2).map V.int)
theorem ev_ref08_row__do {Γ : Env} {f f_ref08_Sort f_ref08_Set f_ref08_without : Nat} (h : Has Γ.P f 118 (c_ref08_row__do f_ref08_Sort f_ref08_Set f_ref08_without) r_ref08_row__do) (h_ref08_Sort : CE_ref08_Sort Γ f_ref08_Sort) (h_ref08_Set : CE_ref08_Set Γ f_ref08_Set) (h_ref08_without : CE_ref08_without Γ f_ref08_without) : CE_ref08_row__do Γ f := by
  intro w l k hw hl hk
  refine evT_of_body h (by simp) (by simp only [V.closed, closedL, V.noSl, noSlL, and_self, and_true, true_and]) fun C hC hm => ?_
  subst hC
  unfold c_ref08_row__do
  by_cases h0 : w = strW
  · have e1 : wordOk w = true := by simp [wordOk, h0]
    have e2 : doR w (l, k) = (sortS l, k) := by simp [doR, h0]
    rw [e1, if_pos rfl, e2]
    have e3 : (w == [64, 115, 116, 114, 101, 110, 103, 116, 104]) = true := by simp [h0, strW]
    repeat' (first | refine awp_seqR fun K' hK => ?_ | refine awp_regR fun K' hK => ?_ | refine awp_seqP 6 (fun _ => true) rfl (k_ref08_row__do_0) (q_ref08_row__do_0) fun K' hK => ?_ | refine awp_regP 6 (fun _ => true) rfl (k_ref08_row__do_0) (q_ref08_row__do_0) fun K' hK => ?_ | refine awp_seqP 20 (fun _ => false) rfl (k_ref08_row__do_1 _) (q_ref08_row__do_1 _) fun K' hK => ?_ | refine awp_regP 20 (fun _ => false) rfl (k_ref08_row__do_1 _) (q_ref08_row__do_1 _) fun K' hK => ?_ | refine awp_seqK ?_ | refine awp_skip ?_ | refine awp_block ?_ | ((first | refine awp_cond ⟨_, rfl, fun hc => ?_, fun hc => ?_⟩ | refine awB_t (fun hc => ?_) (fun hc => ?_) | refine awB_f (fun hc => ?_) (fun hc => ?_)) <;> first | exact Bool.noConfusion hc | ((try simp only [decide_eq_true_eq, decide_eq_false_iff_not, beq_iff_eq, beq_eq_false_iff_ne, ne_eq, Bool.not_eq_true', Bool.not_eq_false'] at hc); first | (exfalso; simp only [List.length_map] at hc; omega) | (exfalso; omega) | skip)) | refine awp_ret ?_ | refine awp_exit ?_ | simp (maxSteps := 1000000) only [go_sem, Nat.reduceAdd, Nat.reduceMul, Nat.reduceEqDiff, Nat.reduceLeDiff, Nat.reduceLT, Nat.reduceSub, Int.reduceEq, Int.reduceBEq, Int.reduceLT, Int.reduceLE, Int.reduceAdd, Int.reduceToNat, reduceIte, reduceCtorEq, e3, List.take_length, p_ref08_row__do_0, p_ref08_row__do_1] | (refine hK _ ?_; clear hK; clear K') | refine And.intro ?_ ?_ | ((first | apply awCs_W | apply awCRs_W); (focus (first | exact (h_ref08_Sort _ (by first | assumption | omega | (simp; done))) | exact (h_ref08_without _ _ (by first | assumption | omega | (simp; done)) (by first | assumption | omega | (simp; done)))))) | ((first | apply awCs_A | apply awCRs_A); (focus (first | exact (h_ref08_Set _ (by first | assumption | omega | (simp; done))).b))) | (simp only [List.length_append, List.length_cons, List.length_nil, List.length_map, Nat.reducePow, Nat.reduceAdd]; omega) | omega | exact List.mem_singleton_self _)
    all_goals first
      | (refine ends_t _ _ _ _ _ rfl (by simp only [go_sem, Nat.reduceEqDiff, Nat.reduceAdd, reduceIte, reduceCtorEq]) rfl rfl rfl (by decide) (by decide) (by decide) ⟨_, rfl⟩ ⟨_, rfl⟩ ?_ ?_ ?_ ?_ <;> first | rfl | (simp; done))
      | trace_state
  · have e3 : (w == [64, 115, 116, 114, 101, 110, 103, 116, 104]) = false := str_ne h0
    have ed : doR w (l, k) = doG (signS w).1 (setS (signS w).2).1 (l, k) := by rw [doR, str_ne h0]; rfl
    have eo : wordOk w = (setS (signS w).2).2 := by rw [wordOk, str_ne h0, Bool.false_or]
    have hs := h_ref08_Set (signS w).2
    have hlen : (signS w).2.length ≤ w.length := by
      cases w with
      | nil => simp [signS]
      | cons c r => rw [signS_cons]; split <;> simp
    have hs := (hs (by omega)).b
    have hsl := setS_len (signS w).2
    rw [ed, eo]
    generalize setS (signS w).2 = S at *
    have e45 : (((45 : UInt8).toNat : Nat) : Int) = 45 := rfl
    have e33 : (((33 : UInt8).toNat : Nat) : Int) = 33 := rfl
    have e43 : (((43 : UInt8).toNat : Nat) : Int) = 43 := rfl
    obtain ⟨m, ok⟩ := S
    simp only at hs hsl ⊢
    have w1 := withoutL_len l m
    have w2 := withoutL_len m l
    have w3 := withoutL_len (withoutL m l) k
    have w4 := withoutL_len l (withoutL l m)
    rcases w with _ | ⟨c, r⟩
    · simp only [signS] at hs ⊢
      rcases ok with _ | _
      · repeat' (first | refine awp_seqR fun K' hK => ?_ | refine awp_regR fun K' hK => ?_ | refine awp_seqP 6 (fun _ => true) rfl (k_ref08_row__do_0) (q_ref08_row__do_0) fun K' hK => ?_ | refine awp_regP 6 (fun _ => true) rfl (k_ref08_row__do_0) (q_ref08_row__do_0) fun K' hK => ?_ | refine awp_seqP 20 (fun _ => false) rfl (k_ref08_row__do_1 _) (q_ref08_row__do_1 _) fun K' hK => ?_ | refine awp_regP 20 (fun _ => false) rfl (k_ref08_row__do_1 _) (q_ref08_row__do_1 _) fun K' hK => ?_ | refine awp_seqK ?_ | refine awp_skip ?_ | refine awp_block ?_ | ((first | refine awp_cond ⟨_, rfl, fun hc => ?_, fun hc => ?_⟩ | refine awB_t (fun hc => ?_) (fun hc => ?_) | refine awB_f (fun hc => ?_) (fun hc => ?_)) <;> first | exact Bool.noConfusion hc | ((try simp only [decide_eq_true_eq, decide_eq_false_iff_not, beq_iff_eq, beq_eq_false_iff_ne, ne_eq, Bool.not_eq_true', Bool.not_eq_false'] at hc); first | (exfalso; simp only [List.length_map] at hc; omega) | (exfalso; omega) | skip)) | refine awp_ret ?_ | refine awp_exit ?_ | simp (maxSteps := 1000000) only [go_sem, Nat.reduceAdd, Nat.reduceMul, Nat.reduceEqDiff, Nat.reduceLeDiff, Nat.reduceLT, Nat.reduceSub, Int.reduceEq, Int.reduceBEq, Int.reduceLT, Int.reduceLE, Int.reduceAdd, Int.reduceToNat, reduceIte, reduceCtorEq, List.take_length, p_ref08_row__do_0, p_ref08_row__do_1] | (refine hK _ ?_; clear hK; clear K') | refine And.intro ?_ ?_ | ((first | apply awCs_W | apply awCRs_W); (focus (first | exact (h_ref08_Sort _ (by first | assumption | omega | (simp; done))) | exact (h_ref08_without _ _ (by first | assumption | omega | (simp; done)) (by first | assumption | omega | (simp; done)))))) | ((first | apply awCs_A | apply awCRs_A); (focus (first | exact hs | exact (h_ref08_Set _ (by first | assumption | omega | (simp; done))).b))) | (simp only [List.length_append, List.length_cons, List.length_nil, List.length_map, Nat.reducePow, Nat.reduceAdd]; omega) | omega | exact List.mem_singleton_self _)
        all_goals first
          | (refine ends_t _ _ _ _ _ rfl (by simp only [go_sem, Nat.reduceEqDiff, Nat.reduceAdd, reduceIte, reduceCtorEq]) rfl rfl rfl (by decide) (by decide) (by decide) ⟨_, rfl⟩ ⟨_, rfl⟩ ?_ ?_ ?_ ?_ <;> first | rfl | (simp; done))
          | trace_state
      · have hd : doG 0 m (l, k) = (l ++ withoutL (withoutL m l) k, k) := rfl
        simp only [if_pos, hd]
        repeat' (first | refine awp_seqR fun K' hK => ?_ | refine awp_regR fun K' hK => ?_ | refine awp_seqP 6 (fun _ => true) rfl (k_ref08_row__do_0) (q_ref08_row__do_0) fun K' hK => ?_ | refine awp_regP 6 (fun _ => true) rfl (k_ref08_row__do_0) (q_ref08_row__do_0) fun K' hK => ?_ | refine awp_seqP 20 (fun _ => false) rfl (k_ref08_row__do_1 _) (q_ref08_row__do_1 _) fun K' hK => ?_ | refine awp_regP 20 (fun _ => false) rfl (k_ref08_row__do_1 _) (q_ref08_row__do_1 _) fun K' hK => ?_ | refine awp_seqK ?_ | refine awp_skip ?_ | refine awp_block ?_ | ((first | refine awp_cond ⟨_, rfl, fun hc => ?_, fun hc => ?_⟩ | refine awB_t (fun hc => ?_) (fun hc => ?_) | refine awB_f (fun hc => ?_) (fun hc => ?_)) <;> first | exact Bool.noConfusion hc | ((try simp only [decide_eq_true_eq, decide_eq_false_iff_not, beq_iff_eq, beq_eq_false_iff_ne, ne_eq, Bool.not_eq_true', Bool.not_eq_false'] at hc); first | (exfalso; simp only [List.length_map] at hc; omega) | (exfalso; omega) | skip)) | refine awp_ret ?_ | refine awp_exit ?_ | simp (maxSteps := 1000000) only [go_sem, Nat.reduceAdd, Nat.reduceMul, Nat.reduceEqDiff, Nat.reduceLeDiff, Nat.reduceLT, Nat.reduceSub, Int.reduceEq, Int.reduceBEq, Int.reduceLT, Int.reduceLE, Int.reduceAdd, Int.reduceToNat, reduceIte, reduceCtorEq, List.take_length, p_ref08_row__do_0, p_ref08_row__do_1] | (refine hK _ ?_; clear hK; clear K') | refine And.intro ?_ ?_ | ((first | apply awCs_W | apply awCRs_W); (focus (first | exact (h_ref08_Sort _ (by first | assumption | omega | (simp; done))) | exact (h_ref08_without _ _ (by first | assumption | omega | (simp; done)) (by first | assumption | omega | (simp; done)))))) | ((first | apply awCs_A | apply awCRs_A); (focus (first | exact hs | exact (h_ref08_Set _ (by first | assumption | omega | (simp; done))).b))) | (simp only [List.length_append, List.length_cons, List.length_nil, List.length_map, Nat.reducePow, Nat.reduceAdd]; omega) | omega | exact List.mem_singleton_self _)
        all_goals first
          | (refine ends_t _ _ _ _ _ rfl (by simp only [go_sem, Nat.reduceEqDiff, Nat.reduceAdd, reduceIte, reduceCtorEq]) rfl rfl rfl (by decide) (by decide) (by decide) ⟨_, rfl⟩ ⟨_, rfl⟩ ?_ ?_ ?_ ?_ <;> first | rfl | (simp; done))
          | trace_state
    · have g0 : decide ((((c :: r).length : Nat) : Int) > 0) = true := by simp
      by_cases c1 : c = 45
      · subst c1
        have hsg : signS (45 :: r) = (45, r) := rfl
        rw [hsg] at hs ⊢
        simp only at hs ⊢
        rcases ok with _ | _
        · repeat' (first | refine awp_seqR fun K' hK => ?_ | refine awp_regR fun K' hK => ?_ | refine awp_seqP 6 (fun _ => true) rfl (k_ref08_row__do_0) (q_ref08_row__do_0) fun K' hK => ?_ | refine awp_regP 6 (fun _ => true) rfl (k_ref08_row__do_0) (q_ref08_row__do_0) fun K' hK => ?_ | refine awp_seqP 20 (fun _ => false) rfl (k_ref08_row__do_1 _) (q_ref08_row__do_1 _) fun K' hK => ?_ | refine awp_regP 20 (fun _ => false) rfl (k_ref08_row__do_1 _) (q_ref08_row__do_1 _) fun K' hK => ?_ | refine awp_seqK ?_ | refine awp_skip ?_ | refine awp_block ?_ | ((first | refine awp_cond ⟨_, rfl, fun hc => ?_, fun hc => ?_⟩ | refine awB_t (fun hc => ?_) (fun hc => ?_) | refine awB_f (fun hc => ?_) (fun hc => ?_)) <;> first | exact Bool.noConfusion hc | ((try simp only [decide_eq_true_eq, decide_eq_false_iff_not, beq_iff_eq, beq_eq_false_iff_ne, ne_eq, Bool.not_eq_true', Bool.not_eq_false'] at hc); first | (exfalso; simp only [List.length_map] at hc; omega) | (exfalso; omega) | skip)) | refine awp_ret ?_ | refine awp_exit ?_ | simp (maxSteps := 1000000) only [go_sem, Nat.reduceAdd, Nat.reduceMul, Nat.reduceEqDiff, Nat.reduceLeDiff, Nat.reduceLT, Nat.reduceSub, Int.reduceEq, Int.reduceBEq, Int.reduceLT, Int.reduceLE, Int.reduceAdd, Int.reduceToNat, reduceIte, reduceCtorEq, g0, e45, List.take_length, Nat.add_sub_cancel, p_ref08_row__do_0, p_ref08_row__do_1] | (refine hK _ ?_; clear hK; clear K') | refine And.intro ?_ ?_ | ((first | apply awCs_W | apply awCRs_W); (focus (first | exact (h_ref08_Sort _ (by first | assumption | omega | (simp; done))) | exact (h_ref08_without _ _ (by first | assumption | omega | (simp; done)) (by first | assumption | omega | (simp; done)))))) | ((first | apply awCs_A | apply awCRs_A); (focus (first | exact hs | exact (h_ref08_Set _ (by first | assumption | omega | (simp; done))).b))) | (simp only [List.length_append, List.length_cons, List.length_nil, List.length_map, Nat.reducePow, Nat.reduceAdd]; omega) | omega | exact List.mem_singleton_self _)
          all_goals first
            | (refine ends_t _ _ _ _ _ rfl (by simp only [go_sem, Nat.reduceEqDiff, Nat.reduceAdd, reduceIte, reduceCtorEq]) rfl rfl rfl (by decide) (by decide) (by decide) ⟨_, rfl⟩ ⟨_, rfl⟩ ?_ ?_ ?_ ?_ <;> first | rfl | (simp; done))
            | trace_state
        · have hd : doG 45 m (l, k) = (withoutL l m, k) := rfl
          simp only [if_pos, hd]
          repeat' (first | refine awp_seqR fun K' hK => ?_ | refine awp_regR fun K' hK => ?_ | refine awp_seqP 6 (fun _ => true) rfl (k_ref08_row__do_0) (q_ref08_row__do_0) fun K' hK => ?_ | refine awp_regP 6 (fun _ => true) rfl (k_ref08_row__do_0) (q_ref08_row__do_0) fun K' hK => ?_ | refine awp_seqP 20 (fun _ => false) rfl (k_ref08_row__do_1 _) (q_ref08_row__do_1 _) fun K' hK => ?_ | refine awp_regP 20 (fun _ => false) rfl (k_ref08_row__do_1 _) (q_ref08_row__do_1 _) fun K' hK => ?_ | refine awp_seqK ?_ | refine awp_skip ?_ | refine awp_block ?_ | ((first | refine awp_cond ⟨_, rfl, fun hc => ?_, fun hc => ?_⟩ | refine awB_t (fun hc => ?_) (fun hc => ?_) | refine awB_f (fun hc => ?_) (fun hc => ?_)) <;> first | exact Bool.noConfusion hc | ((try simp only [decide_eq_true_eq, decide_eq_false_iff_not, beq_iff_eq, beq_eq_false_iff_ne, ne_eq, Bool.not_eq_true', Bool.not_eq_false'] at hc); first | (exfalso; simp only [List.length_map] at hc; omega) | (exfalso; omega) | skip)) | refine awp_ret ?_ | refine awp_exit ?_ | simp (maxSteps := 1000000) only [go_sem, Nat.reduceAdd, Nat.reduceMul, Nat.reduceEqDiff, Nat.reduceLeDiff, Nat.reduceLT, Nat.reduceSub, Int.reduceEq, Int.reduceBEq, Int.reduceLT, Int.reduceLE, Int.reduceAdd, Int.reduceToNat, reduceIte, reduceCtorEq, g0, e45, List.take_length, Nat.add_sub_cancel, p_ref08_row__do_0, p_ref08_row__do_1] | (refine hK _ ?_; clear hK; clear K') | refine And.intro ?_ ?_ | ((first | apply awCs_W | apply awCRs_W); (focus (first | exact (h_ref08_Sort _ (by first | assumption | omega | (simp; done))) | exact (h_ref08_without _ _ (by first | assumption | omega | (simp; done)) (by first | assumption | omega | (simp; done)))))) | ((first | apply awCs_A | apply awCRs_A); (focus (first | exact hs | exact (h_ref08_Set _ (by first | assumption | omega | (simp; done))).b))) | (simp only [List.length_append, List.length_cons, List.length_nil, List.length_map, Nat.reducePow, Nat.reduceAdd]; omega) | omega | exact List.mem_singleton_self _)
          all_goals first
            | (refine ends_t _ _ _ _ _ rfl (by simp only [go_sem, Nat.reduceEqDiff, Nat.reduceAdd, reduceIte, reduceCtorEq]) rfl rfl rfl (by decide) (by decide) (by decide) ⟨_, rfl⟩ ⟨_, rfl⟩ ?_ ?_ ?_ ?_ <;> first | rfl | (simp; done))
            | trace_state
      · by_cases c33 : c = 33
        · subst c33
          have hsg : signS (33 :: r) = (33, r) := rfl
          rw [hsg] at hs ⊢
          simp only at hs ⊢
          rcases ok with _ | _
          · repeat' (first | refine awp_seqR fun K' hK => ?_ | refine awp_regR fun K' hK => ?_ | refine awp_seqP 6 (fun _ => true) rfl (k_ref08_row__do_0) (q_ref08_row__do_0) fun K' hK => ?_ | refine awp_regP 6 (fun _ => true) rfl (k_ref08_row__do_0) (q_ref08_row__do_0) fun K' hK => ?_ | refine awp_seqP 20 (fun _ => false) rfl (k_ref08_row__do_1 _) (q_ref08_row__do_1 _) fun K' hK => ?_ | refine awp_regP 20 (fun _ => false) rfl (k_ref08_row__do_1 _) (q_ref08_row__do_1 _) fun K' hK => ?_ | refine awp_seqK ?_ | refine awp_skip ?_ | refine awp_block ?_ | ((first | refine awp_cond ⟨_, rfl, fun hc => ?_, fun hc => ?_⟩ | refine awB_t (fun hc => ?_) (fun hc => ?_) | refine awB_f (fun hc => ?_) (fun hc => ?_)) <;> first | exact Bool.noConfusion hc | ((try simp only [decide_eq_true_eq, decide_eq_false_iff_not, beq_iff_eq, beq_eq_false_iff_ne, ne_eq, Bool.not_eq_true', Bool.not_eq_false'] at hc); first | (exfalso; simp only [List.length_map] at hc; omega) | (exfalso; omega) | skip)) | refine awp_ret ?_ | refine awp_exit ?_ | simp (maxSteps := 1000000) only [go_sem, Nat.reduceAdd, Nat.reduceMul, Nat.reduceEqDiff, Nat.reduceLeDiff, Nat.reduceLT, Nat.reduceSub, Int.reduceEq, Int.reduceBEq, Int.reduceLT, Int.reduceLE, Int.reduceAdd, Int.reduceToNat, reduceIte, reduceCtorEq, g0, e45, e33, e43, List.take_length, Nat.add_sub_cancel, p_ref08_row__do_0, p_ref08_row__do_1] | (refine hK _ ?_; clear hK; clear K') | refine And.intro ?_ ?_ | ((first | apply awCs_W | apply awCRs_W); (focus (first | exact (h_ref08_Sort _ (by first | assumption | omega | (simp; done))) | exact (h_ref08_without _ _ (by first | assumption | omega | (simp; done)) (by first | assumption | omega | (simp; done)))))) | ((first | apply awCs_A | apply awCRs_A); (focus (first | exact hs | exact (h_ref08_Set _ (by first | assumption | omega | (simp; done))).b))) | (simp only [List.length_append, List.length_cons, List.length_nil, List.length_map, Nat.reducePow, Nat.reduceAdd]; omega) | omega | exact List.mem_singleton_self _)
            all_goals first
              | (refine ends_t _ _ _ _ _ rfl (by simp only [go_sem, Nat.reduceEqDiff, Nat.reduceAdd, reduceIte, reduceCtorEq]) rfl rfl rfl (by decide) (by decide) (by decide) ⟨_, rfl⟩ ⟨_, rfl⟩ ?_ ?_ ?_ ?_ <;> first | rfl | (simp; done))
              | trace_state
          · have hd : doG 33 m (l, k) = (withoutL l m, k ++ m) := rfl
            simp only [if_pos, hd]
            repeat' (first | refine awp_seqR fun K' hK => ?_ | refine awp_regR fun K' hK => ?_ | refine awp_seqP 6 (fun _ => true) rfl (k_ref08_row__do_0) (q_ref08_row__do_0) fun K' hK => ?_ | refine awp_regP 6 (fun _ => true) rfl (k_ref08_row__do_0) (q_ref08_row__do_0) fun K' hK => ?_ | refine awp_seqP 20 (fun _ => false) rfl (k_ref08_row__do_1 _) (q_ref08_row__do_1 _) fun K' hK => ?_ | refine awp_regP 20 (fun _ => false) rfl (k_ref08_row__do_1 _) (q_ref08_row__do_1 _) fun K' hK => ?_ | refine awp_seqK ?_ | refine awp_skip ?_ | refine awp_block ?_ | ((first | refine awp_cond ⟨_, rfl, fun hc => ?_, fun hc => ?_⟩ | refine awB_t (fun hc => ?_) (fun hc => ?_) | refine awB_f (fun hc => ?_) (fun hc => ?_)) <;> first | exact Bool.noConfusion hc | ((try simp only [decide_eq_true_eq, decide_eq_false_iff_not, beq_iff_eq, beq_eq_false_iff_ne, ne_eq, Bool.not_eq_true', Bool.not_eq_false'] at hc); first | (exfalso; simp only [List.length_map] at hc; omega) | (exfalso; omega) | skip)) | refine awp_ret ?_ | refine awp_exit ?_ | simp (maxSteps := 1000000) only [go_sem, Nat.reduceAdd, Nat.reduceMul, Nat.reduceEqDiff, Nat.reduceLeDiff, Nat.reduceLT, Nat.reduceSub, Int.reduceEq, Int.reduceBEq, Int.reduceLT, Int.reduceLE, Int.reduceAdd, Int.reduceToNat, reduceIte, reduceCtorEq, g0, e45, e33, e43, List.take_length, Nat.add_sub_cancel, p_ref08_row__do_0, p_ref08_row__do_1] | (refine hK _ ?_; clear hK; clear K') | refine And.intro ?_ ?_ | ((first | apply awCs_W | apply awCRs_W); (focus (first | exact (h_ref08_Sort _ (by first | assumption | omega | (simp; done))) | exact (h_ref08_without _ _ (by first | assumption | omega | (simp; done)) (by first | assumption | omega | (simp; done)))))) | ((first | apply awCs_A | apply awCRs_A); (focus (first | exact hs | exact (h_ref08_Set _ (by first | assumption | omega | (simp; done))).b))) | (simp only [List.length_append, List.length_cons, List.length_nil, List.length_map, Nat.reducePow, Nat.reduceAdd]; omega) | omega | exact List.mem_singleton_self _)
            all_goals first
              | (refine ends_t _ _ _ _ _ rfl (by simp only [go_sem, Nat.reduceEqDiff, Nat.reduceAdd, reduceIte, reduceCtorEq]) rfl rfl rfl (by decide) (by decide) (by decide) ⟨_, rfl⟩ ⟨_, rfl⟩ ?_ ?_ ?_ ?_ <;> first | rfl | (simp; done))
              | trace_state
        · by_cases c43 : c = 43
          · subst c43
            have hsg : signS (43 :: r) = (43, r) := rfl
            rw [hsg] at hs ⊢
            simp only at hs ⊢
            rcases ok with _ | _
            · repeat' (first | refine awp_seqR fun K' hK => ?_ | refine awp_regR fun K' hK => ?_ | refine awp_seqP 6 (fun _ => true) rfl (k_ref08_row__do_0) (q_ref08_row__do_0) fun K' hK => ?_ | refine awp_regP 6 (fun _ => true) rfl (k_ref08_row__do_0) (q_ref08_row__do_0) fun K' hK => ?_ | refine awp_seqP 20 (fun _ => false) rfl (k_ref08_row__do_1 _) (q_ref08_row__do_1 _) fun K' hK => ?_ | refine awp_regP 20 (fun _ => false) rfl (k_ref08_row__do_1 _) (q_ref08_row__do_1 _) fun K' hK => ?_ | refine awp_seqK ?_ | refine awp_skip ?_ | refine awp_block ?_ | ((first | refine awp_cond ⟨_, rfl, fun hc => ?_, fun hc => ?_⟩ | refine awB_t (fun hc => ?_) (fun hc => ?_) | refine awB_f (fun hc => ?_) (fun hc => ?_)) <;> first | exact Bool.noConfusion hc | ((try simp only [decide_eq_true_eq, decide_eq_false_iff_not, beq_iff_eq, beq_eq_false_iff_ne, ne_eq, Bool.not_eq_true', Bool.not_eq_false'] at hc); first | (exfalso; simp only [List.length_map] at hc; omega) | (exfalso; omega) | skip)) | refine awp_ret ?_ | refine awp_exit ?_ | simp (maxSteps := 1000000) only [go_sem, Nat.reduceAdd, Nat.reduceMul, Nat.reduceEqDiff, Nat.reduceLeDiff, Nat.reduceLT, Nat.reduceSub, Int.reduceEq, Int.reduceBEq, Int.reduceLT, Int.reduceLE, Int.reduceAdd, Int.reduceToNat, reduceIte, reduceCtorEq, g0, e45, e33, e43, List.take_length, Nat.add_sub_cancel, p_ref08_row__do_0, p_ref08_row__do_1] | (refine hK _ ?_; clear hK; clear K') | refine And.intro ?_ ?_ | ((first | apply awCs_W | apply awCRs_W); (focus (first | exact (h_ref08_Sort _ (by first | assumption | omega | (simp; done))) | exact (h_ref08_without _ _ (by first | assumption | omega | (simp; done)) (by first | assumption | omega | (simp; done)))))) | ((first | apply awCs_A | apply awCRs_A); (focus (first | exact hs | exact (h_ref08_Set _ (by first | assumption | omega | (simp; done))).b))) | (simp only [List.length_append, List.length_cons, List.length_nil, List.length_map, Nat.reducePow, Nat.reduceAdd]; omega) | omega | exact List.mem_singleton_self _)
              all_goals first
                | (refine ends_t _ _ _ _ _ rfl (by simp only [go_sem, Nat.reduceEqDiff, Nat.reduceAdd, reduceIte, reduceCtorEq]) rfl rfl rfl (by decide) (by decide) (by decide) ⟨_, rfl⟩ ⟨_, rfl⟩ ?_ ?_ ?_ ?_ <;> first | rfl | (simp; done))
                | trace_state
            · have hd : doG 43 m (l, k) = (withoutL l m ++ withoutL l (withoutL l m), k) := rfl
              simp only [if_pos, hd]
              repeat' (first | refine awp_seqR fun K' hK => ?_ | refine awp_regR fun K' hK => ?_ | refine awp_seqP 6 (fun _ => true) rfl (k_ref08_row__do_0) (q_ref08_row__do_0) fun K' hK => ?_ | refine awp_regP 6 (fun _ => true) rfl (k_ref08_row__do_0) (q_ref08_row__do_0) fun K' hK => ?_ | refine awp_seqP 20 (fun _ => false) rfl (k_ref08_row__do_1 _) (q_ref08_row__do_1 _) fun K' hK => ?_ | refine awp_regP 20 (fun _ => false) rfl (k_ref08_row__do_1 _) (q_ref08_row__do_1 _) fun K' hK => ?_ | refine awp_seqK ?_ | refine awp_skip ?_ | refine awp_block ?_ | ((first | refine awp_cond ⟨_, rfl, fun hc => ?_, fun hc => ?_⟩ | refine awB_t (fun hc => ?_) (fun hc => ?_) | refine awB_f (fun hc => ?_) (fun hc => ?_)) <;> first | exact Bool.noConfusion hc | ((try simp only [decide_eq_true_eq, decide_eq_false_iff_not, beq_iff_eq, beq_eq_false_iff_ne, ne_eq, Bool.not_eq_true', Bool.not_eq_false'] at hc); first | (exfalso; simp only [List.length_map] at hc; omega) | (exfalso; omega) | skip)) | refine awp_ret ?_ | refine awp_exit ?_ | simp (maxSteps := 1000000) only [go_sem, Nat.reduceAdd, Nat.reduceMul, Nat.reduceEqDiff, Nat.reduceLeDiff, Nat.reduceLT, Nat.reduceSub, Int.reduceEq, Int.reduceBEq, Int.reduceLT, Int.reduceLE, Int.reduceAdd, Int.reduceToNat, reduceIte, reduceCtorEq, g0, e45, e33, e43, List.take_length, Nat.add_sub_cancel, p_ref08_row__do_0, p_ref08_row__do_1] | (refine hK _ ?_; clear hK; clear K') | refine And.intro ?_ ?_ | ((first | apply awCs_W | apply awCRs_W); (focus (first | exact (h_ref08_Sort _ (by first | assumption | omega | (simp; done))) | exact (h_ref08_without _ _ (by first | assumption | omega | (simp; done)) (by first | assumption | omega | (simp; done)))))) | ((first | apply awCs_A | apply awCRs_A); (focus (first | exact hs | exact (h_ref08_Set _ (by first | assumption | omega | (simp; done))).b))) | (simp only [List.length_append, List.length_cons, List.length_nil, List.length_map, Nat.reducePow, Nat.reduceAdd]; omega) | omega | exact List.mem_singleton_self _)
              all_goals first
                | (refine ends_t _ _ _ _ _ rfl (by simp only [go_sem, Nat.reduceEqDiff, Nat.reduceAdd, reduceIte, reduceCtorEq]) rfl rfl rfl (by decide) (by decide) (by decide) ⟨_, rfl⟩ ⟨_, rfl⟩ ?_ ?_ ?_ ?_ <;> first | rfl | (simp; done))
                | trace_state
          · have t45 : (((c.toNat : Nat) : Int) == 45) = false := u8_ne c 45 c1
            have t33 : (((c.toNat : Nat) : Int) == 33) = false := u8_ne c 33 c33
            have t43 : (((c.toNat : Nat) : Int) == 43) = false := u8_ne c 43 c43
            have hsg : signS (c :: r) = (0, c :: r) := by rw [signS_cons, if_neg (by simp [c1, c33, c43])]
            rw [hsg] at hs ⊢
            simp only at hs ⊢
            rcases ok with _ | _
            · repeat' (first | refine awp_seqR fun K' hK => ?_ | refine awp_regR fun K' hK => ?_ | refine awp_seqP 6 (fun _ => true) rfl (k_ref08_row__do_0) (q_ref08_row__do_0) fun K' hK => ?_ | refine awp_regP 6 (fun _ => true) rfl (k_ref08_row__do_0) (q_ref08_row__do_0) fun K' hK => ?_ | refine awp_seqP 20 (fun _ => false) rfl (k_ref08_row__do_1 _) (q_ref08_row__do_1 _) fun K' hK => ?_ | refine awp_regP 20 (fun _ => false) rfl (k_ref08_row__do_1 _) (q_ref08_row__do_1 _) fun K' hK => ?_ | refine awp_seqK ?_ | refine awp_skip ?_ | refine awp_block ?_ | ((first | refine awp_cond ⟨_, rfl, fun hc => ?_, fun hc => ?_⟩ | refine awB_t (fun hc => ?_) (fun hc => ?_) | refine awB_f (fun hc => ?_) (fun hc => ?_)) <;> first | exact Bool.noConfusion hc | ((try simp only [decide_eq_true_eq, decide_eq_false_iff_not, beq_iff_eq, beq_eq_false_iff_ne, ne_eq, Bool.not_eq_true', Bool.not_eq_false'] at hc); first | (exfalso; simp only [List.length_map] at hc; omega) | (exfalso; omega) | skip)) | refine awp_ret ?_ | refine awp_exit ?_ | simp (maxSteps := 1000000) only [go_sem, Nat.reduceAdd, Nat.reduceMul, Nat.reduceEqDiff, Nat.reduceLeDiff, Nat.reduceLT, Nat.reduceSub, Int.reduceEq, Int.reduceBEq, Int.reduceLT, Int.reduceLE, Int.reduceAdd, Int.reduceToNat, reduceIte, reduceCtorEq, e3, g0, t45, t33, t43, List.take_length, p_ref08_row__do_0, p_ref08_row__do_1] | (refine hK _ ?_; clear hK; clear K') | refine And.intro ?_ ?_ | ((first | apply awCs_W | apply awCRs_W); (focus (first | exact (h_ref08_Sort _ (by first | assumption | omega | (simp; done))) | exact (h_ref08_without _ _ (by first | assumption | omega | (simp; done)) (by first | assumption | omega | (simp; done)))))) | ((first | apply awCs_A | apply awCRs_A); (focus (first | exact hs | exact (h_ref08_Set _ (by first | assumption | omega | (simp; done))).b))) | (simp only [List.length_append, List.length_cons, List.length_nil, List.length_map, Nat.reducePow, Nat.reduceAdd]; omega) | omega | exact List.mem_singleton_self _)
              all_goals first
                | (refine ends_t _ _ _ _ _ rfl (by simp only [go_sem, Nat.reduceEqDiff, Nat.reduceAdd, reduceIte, reduceCtorEq]) rfl rfl rfl (by decide) (by decide) (by decide) ⟨_, rfl⟩ ⟨_, rfl⟩ ?_ ?_ ?_ ?_ <;> first | rfl | (simp; done))
                | trace_state
            · have hd : doG 0 m (l, k) = (l ++ withoutL (withoutL m l) k, k) := rfl
              simp only [if_pos, hd]
              repeat' (first | refine awp_seqR fun K' hK => ?_ | refine awp_regR fun K' hK => ?_ | refine awp_seqP 6 (fun _ => true) rfl (k_ref08_row__do_0) (q_ref08_row__do_0) fun K' hK => ?_ | refine awp_regP 6 (fun _ => true) rfl (k_ref08_row__do_0) (q_ref08_row__do_0) fun K' hK => ?_ | refine awp_seqP 20 (fun _ => false) rfl (k_ref08_row__do_1 _) (q_ref08_row__do_1 _) fun K' hK => ?_ | refine awp_regP 20 (fun _ => false) rfl (k_ref08_row__do_1 _) (q_ref08_row__do_1 _) fun K' hK => ?_ | refine awp_seqK ?_ | refine awp_skip ?_ | refine awp_block ?_ | ((first | refine awp_cond ⟨_, rfl, fun hc => ?_, fun hc => ?_⟩ | refine awB_t (fun hc => ?_) (fun hc => ?_) | refine awB_f (fun hc => ?_) (fun hc => ?_)) <;> first | exact Bool.noConfusion hc | ((try simp only [decide_eq_true_eq, decide_eq_false_iff_not, beq_iff_eq, beq_eq_false_iff_ne, ne_eq, Bool.not_eq_true', Bool.not_eq_false'] at hc); first | (exfalso; simp only [List.length_map] at hc; omega) | (exfalso; omega) | skip)) | refine awp_ret ?_ | refine awp_exit ?_ | simp (maxSteps := 1000000) only [go_sem, Nat.reduceAdd, Nat.reduceMul, Nat.reduceEqDiff, Nat.reduceLeDiff, Nat.reduceLT, Nat.reduceSub, Int.reduceEq, Int.reduceBEq, Int.reduceLT, Int.reduceLE, Int.reduceAdd, Int.reduceToNat, reduceIte, reduceCtorEq, e3, g0, t45, t33, t43, List.take_length, p_ref08_row__do_0, p_ref08_row__do_1] | (refine hK _ ?_; clear hK; clear K') | refine And.intro ?_ ?_ | ((first | apply awCs_W | apply awCRs_W); (focus (first | exact (h_ref08_Sort _ (by first | assumption | omega | (simp; done))) | exact (h_ref08_without _ _ (by first | assumption | omega | (simp; done)) (by first | assumption | omega | (simp; done)))))) | ((first | apply awCs_A | apply awCRs_A); (focus (first | exact hs | exact (h_ref08_Set _ (by first | assumption | omega | (simp; done))).b))) | (simp only [List.length_append, List.length_cons, List.length_nil, List.length_map, Nat.reducePow, Nat.reduceAdd]; omega) | omega | exact List.mem_singleton_self _)
              all_goals first
                | (refine ends_t _ _ _ _ _ rfl (by simp only [go_sem, Nat.reduceEqDiff, Nat.reduceAdd, reduceIte, reduceCtorEq]) rfl rfl rfl (by decide) (by decide) (by decide) ⟨_, rfl⟩ ⟨_, rfl⟩ ?_ ?_ ?_ ?_ <;> first | rfl | (simp; done))
                | trace_state
end Av
end
section
set_option linter.unusedSimpArgs false
set_option linter.unusedVariables false
set_option maxRecDepth 10000
set_option maxHeartbeats 4000000
namespace Av
open Go
attribute [local irreducible] AWp runO runP runG awS awC awCv awQ awRd awCallR awCvR awQR awR awRdR awB okR plan ris
def parseV (r : List Int × Int × Int) : V := .tup [.sl 1 (r.1.map V.int), V.int r.2.1, V.int r.2.2]
theorem parseV_closed (r : List Int × Int × Int) : (parseV r).closed := by simp only [parseV, V.closed, closedL, and_self]
theorem splitA_sub (c : UInt8) : ∀ (r cur w : List UInt8), w ∈ splitA c cur r → w.length ≤ cur.length + r.length
  | [], cur, w, h => by simp only [splitA, List.mem_singleton] at h; subst h; simp
  | x :: r, cur, w, h => by
    rw [splitA] at h
    split at h
    · rcases List.mem_cons.1 h with rfl | h
      · simp
      · have := splitA_sub c r [] w h; simp at this ⊢; omega
    · have := splitA_sub c r _ w h; simp at this ⊢; omega
theorem splitL_mem {c : UInt8} {s w : List UInt8} (h : w ∈ splitL c s) : w.length ≤ s.length := by simpa using splitA_sub c s [] w h
def c_ref08_Parse (f_ref08_split f_ref08_row__do : Nat) : AC := seqK [0] (.reg [xo 2 (.mknil 1), mc 3 (V.int 0), mc 4 (V.int 0)]) (seqK [0] (seqK [0, 10] (.reg [mv 8 0, xo 9 (.lenS (.t 8)), bc 10 .gtr 9 (V.int 8192)]) (.cond (.t 10) (seqK [2, 3, 4] (.reg [xo 2 (.mknil 1), mc 3 (V.int 0), mc 4 (V.int 3)]) (.ret)) (.skip))) (seqK [0] (seqK [0, 12] (.reg [mv 11 0, bc 12 .eql 11 (V.str [])]) (.cond (.t 12) (seqK [2, 3, 4] (.reg [xo 2 (.mknil 1), mc 3 (V.int 0), mc 4 (V.int 0)]) (.ret)) (.skip))) (seqK [5] (.reg [mv 13 0, xo 14 (.call f_ref08_split [(.t 13), (.c (.sc (.int .u8 58)))]), mv 5 14]) (seqK [5] (seqK [5, 17] (.reg [mv 15 5, ln 16 15, bc 17 .gtr 16 (V.int 200)]) (.cond (.t 17) (seqK [2, 3, 4] (.reg [xo 2 (.mknil 1), mc 3 (V.int 0), mc 4 (V.int 3)]) (.ret)) (.skip))) (seqK [5, 6] (.reg [xo 18 (.build [(.slice none 0 0), (.slice none 0 0)] []), xo 19 (.box true 2 (.t 18)), mv 6 19]) (seqK [6] (seqK [5, 6, 7] (.reg [mc 7 (V.int 0)]) (.block 0 (loopK [5, 6, 7] (seqK [5, 6, 7] (seqK [5, 6, 7, 23] (.reg [mv 20 7, mv 21 5, ln 22 21, bn 23 .lss 20 22]) (.cond (.t 23) (.skip) (.exit 0))) (seqK [5, 6, 7] (.block 1 (seqK [5, 6, 7, 32] (.reg [mv 26 6, mv 27 5, mv 28 7, ia 29 1 27 28, ld 30 1 29, cl 31 f_ref08_row__do [26, 30], xo 32 (.un .not (.t 31))]) (.cond (.t 32) (seqK [2, 3, 4] (.reg [mv 33 7, bc 34 .add 33 (V.int 1), xo 2 (.mknil 1), mv 3 34, mc 4 (V.int 17)]) (.ret)) (.skip)))) (.reg [mv 24 7, bc 25 .add 24 (V.int 1), mv 7 25])))))) (seqK [2, 3, 4] (.reg [mv 35 6, nk 36 35, fa 37 0 36, ld 38 1 37, mv 2 38, mc 3 (V.int 0), mc 4 (V.int 0)]) (.ret)))))))) def r_ref08_Parse : List ARes := [.tmp 2, .tmp 3, .tmp 4]
def CE_ref08_Parse (Γ : Env) (f : Nat) : Prop := ∀ (s : List UInt8) (hs : s.length < 2 ^ 30), EvC Γ f [V.str s] (parseV (parseW s))
theorem ev_ref08_Parse {Γ : Env} {f f_ref08_split f_ref08_row__do : Nat} (h : Has Γ.P f 39 (c_ref08_Parse f_ref08_split f_ref08_row__do) r_ref08_Parse) (h_ref08_split : CE_ref08_split Γ f_ref08_split) (h_ref08_row__do : CE_ref08_row__do Γ f_ref08_row__do) : CE_ref08_Parse Γ f := by
  intro s hs
  refine evC_of_body h (by simp) (parseV_closed _) fun C hC hm => ?_
  subst hC
  unfold c_ref08_Parse
  by_cases h1 : s.length > 8192
  · have e1 : decide ((s.length : Int) > 8192) = true := by simp; omega
    have e2 : parseW s = ([], 0, 3) := by rw [parseW, if_pos h1]
    rw [e2, parseV]
    repeat' (first | refine awp_seqR fun K' hK => ?_ | refine awp_regR fun K' hK => ?_ | refine awp_seqK ?_ | refine awp_skip ?_ | refine awp_block ?_ | ((first | refine awp_cond ⟨_, rfl, fun hc => ?_, fun hc => ?_⟩ | refine awB_t (fun hc => ?_) (fun hc => ?_) | refine awB_f (fun hc => ?_) (fun hc => ?_)) <;> first | exact Bool.noConfusion hc | ((try simp only [decide_eq_true_eq, decide_eq_false_iff_not, beq_iff_eq, beq_eq_false_iff_ne, ne_eq, Bool.not_eq_true', Bool.not_eq_false'] at hc); first | (exfalso; simp only [List.length_map] at hc; omega) | (exfalso; omega) | skip)) | refine awp_ret ?_ | refine awp_exit ?_ | simp (maxSteps := 1000000) only [go_sem, Nat.reduceAdd, Nat.reduceMul, Nat.reduceEqDiff, Nat.reduceLeDiff, Nat.reduceLT, Nat.reduceSub, Int.reduceEq, Int.reduceBEq, Int.reduceLT, Int.reduceLE, Int.reduceAdd, Int.reduceToNat, reduceIte, reduceCtorEq, e1] | (refine hK _ ?_; clear hK; clear K') | refine And.intro ?_ ?_ | (apply awCs_T; (focus (exact rfl)); (focus (exact rfl)); (focus (exact rfl)); (focus (first | exact (h_ref08_row__do _ _ _ (by first | assumption | omega | (simp; done)) (by first | assumption | omega | (simp; done)) (by first | assumption | omega | (simp; done))))); (focus (exact rfl)); (focus (simp; done)); (focus (simp; done))) | (apply awCs_A; (focus (first | exact (h_ref08_split _ _ (by first | assumption | omega | (simp; done))).b))) | (simp only [List.length_append, List.length_cons, List.length_nil, List.length_map, Nat.reducePow, Nat.reduceAdd]; omega) | omega | exact List.mem_singleton_self _)
    all_goals (refine ends_r _ rfl ?_; simp only [go_sem, Nat.reduceEqDiff, Nat.reduceAdd, reduceIte, reduceCtorEq]; first | rfl | exact ⟨_, _, rfl⟩ | trace_state)
  · have e1 : decide ((s.length : Int) > 8192) = false := by simp; omega
    by_cases h2 : s = []
    · subst h2
      have e2 : parseW [] = ([], 0, 0) := rfl
      rw [e2, parseV]
      repeat' (first | refine awp_seqR fun K' hK => ?_ | refine awp_regR fun K' hK => ?_ | refine awp_seqK ?_ | refine awp_skip ?_ | refine awp_block ?_ | ((first | refine awp_cond ⟨_, rfl, fun hc => ?_, fun hc => ?_⟩ | refine awB_t (fun hc => ?_) (fun hc => ?_) | refine awB_f (fun hc => ?_) (fun hc => ?_)) <;> first | exact Bool.noConfusion hc | ((try simp only [decide_eq_true_eq, decide_eq_false_iff_not, beq_iff_eq, beq_eq_false_iff_ne, ne_eq, Bool.not_eq_true', Bool.not_eq_false'] at hc); first | (exfalso; simp only [List.length_map] at hc; omega) | (exfalso; omega) | skip)) | refine awp_ret ?_ | refine awp_exit ?_ | simp (maxSteps := 1000000) only [go_sem, Nat.reduceAdd, Nat.reduceMul, Nat.reduceEqDiff, Nat.reduceLeDiff, Nat.reduceLT, Nat.reduceSub, Int.reduceEq, Int.reduceBEq, Int.reduceLT, Int.reduceLE, Int.reduceAdd, Int.reduceToNat, reduceIte, reduceCtorEq, e1] | (refine hK _ ?_; clear hK; clear K') | refine And.intro ?_ ?_ | (apply awCs_T; (focus (exact rfl)); (focus (exact rfl)); (focus (exact rfl)); (focus (first | exact (h_ref08_row__do _ _ _ (by first | assumption | omega | (simp; done)) (by first | assumption | omega | (simp; done)) (by first | assumption | omega | (simp; done))))); (focus (exact rfl)); (focus (simp; done)); (focus (simp; done))) | (apply awCs_A; (focus (first | exact (h_ref08_split _ _ (by first | assumption | omega | (simp; done))).b))) | (simp only [List.length_append, List.length_cons, List.length_nil, List.length_map, Nat.reducePow, Nat.reduceAdd]; omega) | omega | exact List.mem_singleton_self _)
      all_goals (refine ends_r _ rfl ?_; simp only [go_sem, Nat.reduceEqDiff, Nat.reduceAdd, reduceIte, reduceCtorEq]; first | rfl | exact ⟨_, _, rfl⟩ | trace_state)
    · have e3 : (s == []) = false := by simpa using h2
      have hsp := (h_ref08_split s 58 (by omega)).b
      have hlen := splitL_len 58 s
      have hmem : ∀ w ∈ splitL 58 s, w.length < 2 ^ 30 := fun w hw => by have := splitL_mem hw; omega
      have e58 : (((58 : UInt8).toNat : Nat) : Int) = 58 := rfl
      rw [e58] at hsp
      by_cases h3 : (splitL 58 s).length > 200
      · have e2 : parseW s = ([], 0, 3) := by rw [parseW, if_neg h1, if_neg h2, if_pos h3]
        have e4 : decide ((((splitL 58 s).map V.str).length : Int) > 200) = true := by simp; omega
        rw [e2, parseV]
        repeat' (first | refine awp_seqR fun K' hK => ?_ | refine awp_regR fun K' hK => ?_ | refine awp_seqK ?_ | refine awp_skip ?_ | refine awp_block ?_ | ((first | refine awp_cond ⟨_, rfl, fun hc => ?_, fun hc => ?_⟩ | refine awB_t (fun hc => ?_) (fun hc => ?_) | refine awB_f (fun hc => ?_) (fun hc => ?_)) <;> first | exact Bool.noConfusion hc | ((try simp only [decide_eq_true_eq, decide_eq_false_iff_not, beq_iff_eq, beq_eq_false_iff_ne, ne_eq, Bool.not_eq_true', Bool.not_eq_false'] at hc); first | (exfalso; simp only [List.length_map] at hc; omega) | (exfalso; omega) | skip)) | refine awp_ret ?_ | refine awp_exit ?_ | simp (maxSteps := 1000000) only [go_sem, Nat.reduceAdd, Nat.reduceMul, Nat.reduceEqDiff, Nat.reduceLeDiff, Nat.reduceLT, Nat.reduceSub, Int.reduceEq, Int.reduceBEq, Int.reduceLT, Int.reduceLE, Int.reduceAdd, Int.reduceToNat, reduceIte, reduceCtorEq, e1, e3, e4] | (refine hK _ ?_; clear hK; clear K') | refine And.intro ?_ ?_ | (apply awCs_T; (focus (exact rfl)); (focus (exact rfl)); (focus (exact rfl)); (focus (first | exact (h_ref08_row__do _ _ _ (by first | assumption | omega | (simp; done)) (by first | assumption | omega | (simp; done)) (by first | assumption | omega | (simp; done))))); (focus (exact rfl)); (focus (simp; done)); (focus (simp; done))) | (apply awCs_A; (focus (first | exact hsp | exact (h_ref08_split _ _ (by first | assumption | omega | (simp; done))).b))) | (simp only [List.length_append, List.length_cons, List.length_nil, List.length_map, Nat.reducePow, Nat.reduceAdd]; omega) | omega | exact List.mem_singleton_self _)
        all_goals (refine ends_r _ rfl ?_; simp only [go_sem, Nat.reduceEqDiff, Nat.reduceAdd, reduceIte, reduceCtorEq]; first | rfl | exact ⟨_, _, rfl⟩ | trace_state)
      · have e2 : parseW s = goP (splitL 58 s) 0 ([], []) := by rw [parseW, if_neg h1, if_neg h2, if_neg h3]
        have e4 : decide ((((splitL 58 s).map V.str).length : Int) > 200) = false := by simp; omega
        rw [e2]
        generalize splitL 58 s = ws at *
        repeat' (first | refine awp_seqR fun K' hK => ?_ | refine awp_regR fun K' hK => ?_ | refine awp_seqK ?_ | refine awp_skip ?_ | refine awp_block ?_ | ((first | refine awp_cond ⟨_, rfl, fun hc => ?_, fun hc => ?_⟩ | refine awB_t (fun hc => ?_) (fun hc => ?_) | refine awB_f (fun hc => ?_) (fun hc => ?_)) <;> first | exact Bool.noConfusion hc | ((try simp only [decide_eq_true_eq, decide_eq_false_iff_not, beq_iff_eq, beq_eq_false_iff_ne, ne_eq, Bool.not_eq_true', Bool.not_eq_false'] at hc); first | (exfalso; simp only [List.length_map] at hc; omega) | (exfalso; omega) | skip)) | refine awp_ret ?_ | refine awp_exit ?_ | simp (maxSteps := 1000000) only [go_sem, Nat.reduceAdd, Nat.reduceMul, Nat.reduceEqDiff, Nat.reduceLeDiff, Nat.reduceLT, Nat.reduceSub, Int.reduceEq, Int.reduceBEq, Int.reduceLT, Int.reduceLE, Int.reduceAdd, Int.reduceToNat, reduceIte, reduceCtorEq, e1, e3, e4] | (refine hK _ ?_; clear hK; clear K') | refine And.intro ?_ ?_ | (apply awCs_T; (focus (exact rfl)); (focus (exact rfl)); (focus (exact rfl)); (focus (first | exact (h_ref08_row__do _ _ _ (by first | assumption | omega | (simp; done)) (by first | assumption | omega | (simp; done)) (by first | assumption | omega | (simp; done))))); (focus (exact rfl)); (focus (simp; done)); (focus (simp; done))) | (apply awCs_A; (focus (first | exact hsp | exact (h_ref08_split _ _ (by first | assumption | omega | (simp; done))).b))) | (simp only [List.length_append, List.length_cons, List.length_nil, List.length_map, Nat.reducePow, Nat.reduceAdd]; omega) | omega | exact List.mem_singleton_self _)
        refine awp_adopt 15000 0 1 rfl rfl ?_
        refine awp_adopt 15000 1 1 rfl rfl ?_
        refine awp_loopV (ι := Nat × RowP) (fun q => q.1 ≤ ws.length ∧ q.2.1.length ≤ 16 * q.1 ∧ q.2.2.length ≤ 16 * q.1 ∧ goP (ws.drop q.1) q.1 q.2 = goP ws 0 ([], []))
          (fun q => mkSt [(5, .sl 1 (ws.map V.str)), (6, .ptr 0 0), (7, V.int q.1)] [(0, .box true [.hd 1 0 (q.2.1.map V.int).length, .hd 2 0 (q.2.2.map V.int).length]), (1, .buf true 1 (q.2.1.map V.int)), (2, .buf true 1 (q.2.2.map V.int))] 3)
          (fun q => ws.length - q.1) (0, [], []) ⟨by simp, by simp, by simp, by simp⟩ (lookN [(0, 15000), (1, 18000), (2, 18001)]) (weak_g [(0, 15000), (1, 18000), (2, 18001)] (by simp only [go_sem, Nat.reduceAdd, Nat.reduceMul, Nat.reduceEqDiff, Nat.reduceLT, Int.reduceToNat, reduceIte, reduceCtorEq, and_true, true_and, implies_true, Option.some.injEq, exists_eq_left', closedL_ren, closed_ren]; (repeat' (first | rfl | refine And.intro ?_ ?_ | omega | exact fun h => h | exact Exists.intro _ rfl))) (by simp only [List.set_cons_zero, List.set_cons_succ, Nat.reduceAdd]; simp only [go_sem, Nat.reduceAdd, Nat.reduceMul, Nat.reduceEqDiff, Nat.reduceLT, Int.reduceToNat, reduceIte, reduceCtorEq, and_true, true_and, implies_true, Option.some.injEq, exists_eq_left', closedL_ren, closed_ren]; (repeat' (first | rfl | refine And.intro ?_ ?_ | omega | exact fun h => h | exact Exists.intro _ rfl))) (by simp [lookN]) (by simp; omega) (by omega)) fun q hq K' hL => ?_
        obtain ⟨k, l, m⟩ := q
        obtain ⟨q1, q2, q3, hinv⟩ := hq
        simp only at q1 q2 q3 hinv
        simp only
        rcases hd : ws.drop k with _ | ⟨w, r⟩
        · have hk := drop_nil hd
          rw [hd, goP] at hinv
          rw [← hinv]
          have e5 : decide ((k : Int) < (((ws.map V.str).length : Nat) : Int)) = false := by simp; omega
          simp only [parseV]
          repeat' (first | refine awp_seqR fun K' hK => ?_ | refine awp_regR fun K' hK => ?_ | refine awp_seqK ?_ | refine awp_skip ?_ | refine awp_block ?_ | ((first | refine awp_cond ⟨_, rfl, fun hc => ?_, fun hc => ?_⟩ | refine awB_t (fun hc => ?_) (fun hc => ?_) | refine awB_f (fun hc => ?_) (fun hc => ?_)) <;> first | exact Bool.noConfusion hc | ((try simp only [decide_eq_true_eq, decide_eq_false_iff_not, beq_iff_eq, beq_eq_false_iff_ne, ne_eq, Bool.not_eq_true', Bool.not_eq_false'] at hc); first | (exfalso; simp only [List.length_map] at hc; omega) | (exfalso; omega) | skip)) | refine awp_ret ?_ | refine awp_exit ?_ | simp (maxSteps := 1000000) only [go_sem, Nat.reduceAdd, Nat.reduceMul, Nat.reduceEqDiff, Nat.reduceLeDiff, Nat.reduceLT, Nat.reduceSub, Int.reduceEq, Int.reduceBEq, Int.reduceLT, Int.reduceLE, Int.reduceAdd, Int.reduceToNat, reduceIte, reduceCtorEq, mkSt, e5] | (refine hK _ ?_; clear hK; clear K') | refine And.intro ?_ ?_ | (apply awCs_T; (focus (exact rfl)); (focus (exact rfl)); (focus (exact rfl)); (focus (first | exact (h_ref08_row__do _ _ _ (by first | assumption | omega | (simp; done)) (by first | assumption | omega | (simp; done)) (by first | assumption | omega | (simp; done))))); (focus (exact rfl)); (focus (simp; done)); (focus (simp; done))) | (apply awCs_A; (focus (first | exact (h_ref08_split _ _ (by first | assumption | omega | (simp; done))).b))) | (simp only [List.length_append, List.length_cons, List.length_nil, List.length_map, Nat.reducePow, Nat.reduceAdd]; omega) | omega | exact List.mem_singleton_self _)
          all_goals (refine ends_r _ rfl ?_; simp only [go_sem, Nat.reduceEqDiff, Nat.reduceAdd, reduceIte, reduceCtorEq]; rw [List.take_of_length_le (by simp)])
        · obtain ⟨hk', hget, hr⟩ := drop_cons hd
          have hwm := hmem w (List.mem_of_getElem? hget)
          have hw := wrap_succ (k := k) (by omega)
          have e5 : decide ((k : Int) < (((ws.map V.str).length : Nat) : Int)) = true := by simp; omega
          rw [hd, goP] at hinv
          have hdo := h_ref08_row__do w l m hwm (by omega) (by omega)
          have hdl := doR_len w (l, m)
          rcases ho : wordOk w with _ | _
          · rw [ho] at hinv hdo
            simp only [Bool.false_eq_true, if_false] at hinv hdo
            rw [← hinv]
            simp only [parseV]
            repeat' (first | refine awp_seqR fun K' hK => ?_ | refine awp_regR fun K' hK => ?_ | refine awp_seqK ?_ | refine awp_skip ?_ | refine awp_block ?_ | ((first | refine awp_cond ⟨_, rfl, fun hc => ?_, fun hc => ?_⟩ | refine awB_t (fun hc => ?_) (fun hc => ?_) | refine awB_f (fun hc => ?_) (fun hc => ?_)) <;> first | exact Bool.noConfusion hc | ((try simp only [decide_eq_true_eq, decide_eq_false_iff_not, beq_iff_eq, beq_eq_false_iff_ne, ne_eq, Bool.not_eq_true', Bool.not_eq_false'] at hc); first | (exfalso; simp only [List.length_map] at hc; omega) | (exfalso; omega) | skip)) | refine awp_ret ?_ | refine awp_exit ?_ | simp (maxSteps := 1000000) only [go_sem, Nat.reduceAdd, Nat.reduceMul, Nat.reduceEqDiff, Nat.reduceLeDiff, Nat.reduceLT, Nat.reduceSub, Int.reduceEq, Int.reduceBEq, Int.reduceLT, Int.reduceLE, Int.reduceAdd, Int.reduceToNat, reduceIte, reduceCtorEq, mkSt, e5, hw, Int.toNat_natCast, List.getElem?_map, hget] | (refine hK _ ?_; clear hK; clear K') | refine And.intro ?_ ?_ | (apply awCs_T; (focus (exact rfl)); (focus (exact rfl)); (focus (exact rfl)); (focus (first | exact hdo | exact (h_ref08_row__do _ _ _ (by first | assumption | omega | (simp; done)) (by first | assumption | omega | (simp; done)) (by first | assumption | omega | (simp; done))))); (focus (exact rfl)); (focus (simp; done)); (focus (simp; done))) | (apply awCs_A; (focus (first | exact (h_ref08_split _ _ (by first | assumption | omega | (simp; done))).b))) | (simp only [List.length_append, List.length_cons, List.length_nil, List.length_map, Nat.reducePow, Nat.reduceAdd]; omega) | omega | exact List.mem_singleton_self _)
            all_goals (refine ends_r _ rfl ?_; simp only [go_sem, Nat.reduceEqDiff, Nat.reduceAdd, reduceIte, reduceCtorEq]; first | rfl | exact ⟨_, _, rfl⟩ | trace_state)
          · rw [ho] at hinv hdo
            simp only [if_true] at hinv hdo
            generalize doR w (l, m) = p at *
            obtain ⟨l2, m2⟩ := p
            simp only at hdo hdl hinv
            repeat' (first | refine awp_seqR fun K' hK => ?_ | refine awp_regR fun K' hK => ?_ | refine awp_seqK ?_ | refine awp_skip ?_ | refine awp_block ?_ | ((first | refine awp_cond ⟨_, rfl, fun hc => ?_, fun hc => ?_⟩ | refine awB_t (fun hc => ?_) (fun hc => ?_) | refine awB_f (fun hc => ?_) (fun hc => ?_)) <;> first | exact Bool.noConfusion hc | ((try simp only [decide_eq_true_eq, decide_eq_false_iff_not, beq_iff_eq, beq_eq_false_iff_ne, ne_eq, Bool.not_eq_true', Bool.not_eq_false'] at hc); first | (exfalso; simp only [List.length_map] at hc; omega) | (exfalso; omega) | skip)) | refine awp_ret ?_ | refine awp_exit ?_ | simp (maxSteps := 1000000) only [go_sem, Nat.reduceAdd, Nat.reduceMul, Nat.reduceEqDiff, Nat.reduceLeDiff, Nat.reduceLT, Nat.reduceSub, Int.reduceEq, Int.reduceBEq, Int.reduceLT, Int.reduceLE, Int.reduceAdd, Int.reduceToNat, reduceIte, reduceCtorEq, mkSt, e5, hw, Int.toNat_natCast, List.getElem?_map, hget] | (refine hK _ ?_; clear hK; clear K') | refine And.intro ?_ ?_ | (apply awCs_T; (focus (exact rfl)); (focus (exact rfl)); (focus (exact rfl)); (focus (first | exact hdo | exact (h_ref08_row__do _ _ _ (by first | assumption | omega | (simp; done)) (by first | assumption | omega | (simp; done)) (by first | assumption | omega | (simp; done))))); (focus (exact rfl)); (focus (simp; done)); (focus (simp; done))) | (apply awCs_A; (focus (first | exact (h_ref08_split _ _ (by first | assumption | omega | (simp; done))).b))) | (simp only [List.length_append, List.length_cons, List.length_nil, List.length_map, Nat.reducePow, Nat.reduceAdd]; omega) | omega | exact List.mem_singleton_self _)
            refine hL _ (k + 1, l2, m2) (lookN [(1, 9003), (2, 9004)]) ⟨by simp only; omega, by simp only; omega, by simp only; omega, by simp only; rw [hr]; exact hinv⟩ (by simp only; omega) (weak_g [(1, 9003), (2, 9004)] (by simp only [go_sem, Nat.reduceAdd, Nat.reduceMul, Nat.reduceEqDiff, Nat.reduceLT, Int.reduceToNat, reduceIte, reduceCtorEq, and_true, true_and, implies_true, Option.some.injEq, exists_eq_left', closedL_ren, closed_ren]; (repeat' (first | rfl | refine And.intro ?_ ?_ | omega | exact fun h => h | exact Exists.intro _ rfl))) (by simp only [go_sem, Nat.reduceAdd, Nat.reduceMul, Nat.reduceEqDiff, Nat.reduceLT, Int.reduceToNat, reduceIte, reduceCtorEq, and_true, true_and, implies_true, Option.some.injEq, exists_eq_left', closedL_ren, closed_ren]; (repeat' (first | rfl | refine And.intro ?_ ?_ | omega | exact fun h => h | exact Exists.intro _ rfl))) (by simp [lookN]) (by simp; omega) (by omega))
end Av
end

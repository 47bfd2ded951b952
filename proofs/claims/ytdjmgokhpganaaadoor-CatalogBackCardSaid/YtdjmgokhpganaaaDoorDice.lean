/- Dice -/
import Derived.Test.YtdjmgokhpganaaaDoorCat
import Derived.Test.YtdjmgokhpganaaaDoorAvM
set_option linter.unusedVariables false
set_option linter.unusedSimpArgs false
section
set_option linter.unusedSimpArgs false
set_option linter.unusedVariables false
set_option maxRecDepth 10000
set_option maxHeartbeats 4000000
namespace Av
open Go
attribute [local irreducible] AWp runO runP runG awS awC awCv awQ awRd awCallR awCvR awQR awR awRdR awB okR plan ris

/-! Dice: numbers that are given out one after the other. -/
def dcell (l : List Int) (k : Nat) : List V := [.sl 1 (l.map V.int), V.int k]
theorem dcell_closed (l : List Int) (k : Nat) : closedL (dcell l k) := by simp only [dcell, V.closed, closedL, and_self]
def nextD (l : List Int) (k : Nat) (n : Int) : Int × Nat := if k < l.length then (modV (l.getD k 0) n, k + 1) else (0, k)
theorem nextD_le {l : List Int} {k : Nat} {n : Int} (hk : k ≤ l.length) : (nextD l k n).2 ≤ l.length := by
  unfold nextD; split
  · show k + 1 ≤ l.length; omega
  · exact hk
theorem modV_range {a n : Int} (h1 : 1 ≤ n) (h2 : n < 2 ^ 62) : 0 ≤ modV a n ∧ modV a n < n := by
  unfold modV
  rw [if_neg (by omega)]
  have ha := Int.tmod_lt_of_pos a (show 0 < n by omega)
  have hb : -n < a.tmod n := by
    have := Int.tmod_lt_of_pos (-a) (show 0 < n by omega)
    rw [Int.neg_tmod] at this; omega
  rw [wrap_id (by omega) (by omega)]
  exact ⟨Int.tmod_nonneg _ (by omega), Int.tmod_lt_of_pos _ (by omega)⟩
theorem nextD_range {l : List Int} {k : Nat} {n : Int} (h1 : 1 ≤ n) (h2 : n < 2 ^ 62) : 0 ≤ (nextD l k n).1 ∧ (nextD l k n).1 < n := by
  unfold nextD; split
  · exact modV_range h1 h2
  · show (0 : Int) ≤ 0 ∧ (0 : Int) < n; omega

def c_cipherplanmake_Light : AC :=
  seqK [0] (.reg [⟨(some 2), .mov (.c (V.bool false)), none⟩])
  (seqK [2] (.reg [⟨(some 3), .mov (.t 0), none⟩,
      ⟨(some 4), .lenL (.t 3), none⟩,
      ⟨(some 5), .bin .leq (.t 4) (.c (V.int 400)), none⟩,
      ⟨(some 2), .mov (.t 5), none⟩])
   (.ret))

def r_cipherplanmake_Light : List ARes := [.tmp 2]
def CE_cipherplanmake_Light (Γ : Env) (f : Nat) : Prop := ∀ (l : List Int), EvN Γ f [.sl 1 (l.map V.int)] (V.bool (decide ((l.length : Int) ≤ 400)))
theorem ev_cipherplanmake_Light {Γ : Env} {f : Nat} (h : Has Γ.P f 6 c_cipherplanmake_Light r_cipherplanmake_Light)  : CE_cipherplanmake_Light Γ f := by
  intro l
  refine evN_of_body h (by simp) (by simp only [V.closed, closedL, V.noSl, noSlL, and_self, and_true, true_and]) (by simp only [V.closed, closedL, V.noSl, noSlL, and_self, and_true, true_and]) fun C hC hm => ?_
  subst hC
  unfold c_cipherplanmake_Light
  repeat' (first
    | refine awp_seqR fun K' hK => ?_
    | refine awp_regR fun K' hK => ?_
    | refine awp_seqK ?_
    | refine awp_skip ?_
    | refine awp_block ?_
    | ((first | refine awp_cond ⟨_, rfl, fun hc => ?_, fun hc => ?_⟩ | refine awB_t (fun hc => ?_) (fun hc => ?_) | refine awB_f (fun hc => ?_) (fun hc => ?_)) <;> first | exact Bool.noConfusion hc | (exfalso; simp only [decide_eq_true_eq, decide_eq_false_iff_not, List.length_map, Bool.not_eq_true', Bool.not_eq_false'] at hc; omega) | (try simp only [decide_eq_true_eq, decide_eq_false_iff_not, beq_iff_eq, beq_eq_false_iff_ne, ne_eq, Bool.not_eq_true', Bool.not_eq_false'] at hc))
    | refine awp_ret ?_
    | refine awp_exit ?_
    | simp (maxSteps := 1000000) only [go_sem, Nat.reduceAdd, Nat.reduceMul, Nat.reduceEqDiff, Nat.reduceLeDiff, Nat.reduceLT, Nat.reduceSub, Int.reduceEq, Int.reduceBEq, Int.reduceLT, Int.reduceLE, Int.reduceAdd, Int.reduceToNat, reduceIte, reduceCtorEq, List.length_map]
    | (refine hK _ ?_; clear hK; clear K')
    | refine And.intro ?_ ?_
    | (simp only [List.length_append, List.length_cons, List.length_nil, List.length_map, Nat.reducePow, Nat.reduceAdd]; omega)
    | omega)
  refine ends_r _ rfl ?_; simp only [go_sem, Nat.reduceAdd, Nat.reduceMul, Nat.reduceEqDiff, Nat.reduceLeDiff, Nat.reduceLT, Nat.reduceSub, Int.reduceEq, Int.reduceBEq, Int.reduceLT, Int.reduceLE, Int.reduceAdd, Int.reduceToNat, reduceIte, reduceCtorEq]

def c_cipherplanmake_Roll : AC :=
  seqK [0] (.reg [⟨(some 2), .mov (.c (.sc (.pointer none))), none⟩])
  (seqK [2] (.reg [⟨(some 3), .mov (.t 0), none⟩,
      ⟨(some 4), .build [(.slice none 0 0), (.int .i64 0)] [(0, 1, (.t 3))], none⟩,
      ⟨(some 5), .box true 2 (.t 4), none⟩,
      ⟨(some 2), .mov (.t 5), none⟩])
   (.ret))

def r_cipherplanmake_Roll : List ARes := [.tmp 2]
def CE_cipherplanmake_Roll (Γ : Env) (f : Nat) : Prop := ∀ (l : List Int), EvR Γ f [.sl 1 (l.map V.int)] (dcell l 0)
theorem ev_cipherplanmake_Roll {Γ : Env} {f : Nat} (h : Has Γ.P f 6 c_cipherplanmake_Roll r_cipherplanmake_Roll)  : CE_cipherplanmake_Roll Γ f := by
  intro l
  refine evR_of_body h (by simp) (by simp only [dcell, V.closed, closedL, and_self]) fun C hC hm => ?_
  subst hC
  unfold c_cipherplanmake_Roll
  repeat' (first
    | refine awp_seqR fun K' hK => ?_
    | refine awp_regR fun K' hK => ?_
    | refine awp_seqK ?_
    | refine awp_skip ?_
    | refine awp_block ?_
    | ((first | refine awp_cond ⟨_, rfl, fun hc => ?_, fun hc => ?_⟩ | refine awB_t (fun hc => ?_) (fun hc => ?_) | refine awB_f (fun hc => ?_) (fun hc => ?_)) <;> first | exact Bool.noConfusion hc | (exfalso; simp only [decide_eq_true_eq, decide_eq_false_iff_not, List.length_map, Bool.not_eq_true', Bool.not_eq_false'] at hc; omega) | (try simp only [decide_eq_true_eq, decide_eq_false_iff_not, beq_iff_eq, beq_eq_false_iff_ne, ne_eq, Bool.not_eq_true', Bool.not_eq_false'] at hc))
    | refine awp_ret ?_
    | refine awp_exit ?_
    | simp (maxSteps := 1000000) only [go_sem, Nat.reduceAdd, Nat.reduceMul, Nat.reduceEqDiff, Nat.reduceLeDiff, Nat.reduceLT, Nat.reduceSub, Int.reduceEq, Int.reduceBEq, Int.reduceLT, Int.reduceLE, Int.reduceAdd, Int.reduceToNat, reduceIte, reduceCtorEq]
    | (refine hK _ ?_; clear hK; clear K')
    | refine And.intro ?_ ?_
    | (simp only [List.length_append, List.length_cons, List.length_nil, List.length_map, Nat.reducePow, Nat.reduceAdd]; omega)
    | omega)
  refine ends_n _ rfl rfl (by simp only [dcell, V.closed, closedL, and_self])

-- REGION cipherplanmake_Dice__Next 0: 10 operations, 1 orders, L [], X false, ok true
def o_cipherplanmake_Dice__Next_0 : List AO :=
  [⟨(some 5), .mov (.t 0), none⟩,
    ⟨(some 6), .nilck (.t 5), none⟩,
    ⟨(some 7), .faddr 1 (.t 6), none⟩,
    ⟨(some 8), .load false 1 (.t 7), none⟩,
    ⟨(some 9), .mov (.t 0), none⟩,
    ⟨(some 10), .nilck (.t 9), none⟩,
    ⟨(some 11), .faddr 0 (.t 10), none⟩,
    ⟨(some 12), .load false 1 (.t 11), none⟩,
    ⟨(some 13), .lenL (.t 12), none⟩,
    ⟨(some 14), .bin .geq (.t 8) (.t 13), none⟩]
def a_cipherplanmake_Dice__Next_0 : List (List Nat) := [[], [0], [1], [2], [], [4], [5], [6], [7], [3, 8]]
def t_cipherplanmake_Dice__Next_0 : OT := .one 0 (.one 1 (.one 2 (.one 3 (.one 4 (.one 5 (.one 6 (.one 7 (.one 8 (.one 9 (.done))))))))))
def p_cipherplanmake_Dice__Next_0 : OP :=
  .one 0 false [] ⟨(some 5), .mov (.t 0), none⟩
  (.one 1 false [] ⟨(some 6), .nilck (.t 5), none⟩
  (.one 2 false [] ⟨(some 7), .faddr 1 (.t 6), none⟩
  (.one 3 false [] ⟨(some 8), .load false 1 (.t 7), none⟩
  (.one 4 false [] ⟨(some 9), .mov (.t 0), none⟩
  (.one 5 false [] ⟨(some 10), .nilck (.t 9), none⟩
  (.one 6 false [] ⟨(some 11), .faddr 0 (.t 10), none⟩
  (.one 7 false [] ⟨(some 12), .load false 1 (.t 11), none⟩
  (.one 8 false [] ⟨(some 13), .lenL (.t 12), none⟩
  (.one 9 false [] ⟨(some 14), .bin .geq (.t 8) (.t 13), none⟩
  (.done))))))))))
theorem k_cipherplanmake_Dice__Next_0 : okR (o_cipherplanmake_Dice__Next_0) a_cipherplanmake_Dice__Next_0 [] t_cipherplanmake_Dice__Next_0 = true := by kernel_rfl
theorem q_cipherplanmake_Dice__Next_0 : plan (ris (o_cipherplanmake_Dice__Next_0) a_cipherplanmake_Dice__Next_0 []) t_cipherplanmake_Dice__Next_0 = p_cipherplanmake_Dice__Next_0 := by kernel_rfl

-- REGION cipherplanmake_Dice__Next 1: 14 operations, 1 orders, L [], X false, ok true
def o_cipherplanmake_Dice__Next_1 (f_cipherplanmake_Mod : Nat) : List AO :=
  [⟨(some 22), .mov (.t 0), none⟩,
    ⟨(some 23), .nilck (.t 22), none⟩,
    ⟨(some 24), .faddr 0 (.t 23), none⟩,
    ⟨(some 25), .load false 1 (.t 24), none⟩,
    ⟨(some 26), .mov (.t 0), none⟩,
    ⟨(some 27), .nilck (.t 26), none⟩,
    ⟨(some 28), .faddr 1 (.t 27), none⟩,
    ⟨(some 29), .load false 1 (.t 28), none⟩,
    ⟨(some 30), .bin .sub (.t 29) (.c (V.int 1)), none⟩,
    ⟨(some 31), .iaddr 1 (.t 25) (.t 30), none⟩,
    ⟨(some 32), .load false 1 (.t 31), none⟩,
    ⟨(some 33), .mov (.t 1), none⟩,
    ⟨(some 34), .call f_cipherplanmake_Mod [(.t 32), (.t 33)], none⟩,
    ⟨(some 4), .mov (.t 34), none⟩]
def a_cipherplanmake_Dice__Next_1 : List (List Nat) := [[], [0], [1], [2], [], [4], [5], [6], [7], [3, 8], [9], [], [10, 11], [12, 12, 0, 1, 2, 3, 4, 5, 6, 7, 8, 9, 10, 11, 12]]
def t_cipherplanmake_Dice__Next_1 : OT := .one 0 (.one 1 (.one 2 (.one 3 (.one 4 (.one 5 (.one 6 (.one 7 (.one 8 (.one 9 (.one 10 (.one 11 (.one 12 (.one 13 (.done))))))))))))))
def p_cipherplanmake_Dice__Next_1 (f_cipherplanmake_Mod : Nat) : OP :=
  .one 0 false [] ⟨(some 22), .mov (.t 0), none⟩
  (.one 1 false [] ⟨(some 23), .nilck (.t 22), none⟩
  (.one 2 false [] ⟨(some 24), .faddr 0 (.t 23), none⟩
  (.one 3 false [] ⟨(some 25), .load false 1 (.t 24), none⟩
  (.one 4 false [] ⟨(some 26), .mov (.t 0), none⟩
  (.one 5 false [] ⟨(some 27), .nilck (.t 26), none⟩
  (.one 6 false [] ⟨(some 28), .faddr 1 (.t 27), none⟩
  (.one 7 false [] ⟨(some 29), .load false 1 (.t 28), none⟩
  (.one 8 false [] ⟨(some 30), .bin .sub (.t 29) (.c (V.int 1)), none⟩
  (.one 9 false [] ⟨(some 31), .iaddr 1 (.t 25) (.t 30), none⟩
  (.one 10 false [] ⟨(some 32), .load false 1 (.t 31), none⟩
  (.one 11 false [] ⟨(some 33), .mov (.t 1), none⟩
  (.one 12 false [] ⟨(some 34), .call f_cipherplanmake_Mod [(.t 32), (.t 33)], none⟩
  (.one 13 false [12] ⟨(some 4), .mov (.t 34), none⟩
  (.done))))))))))))))
theorem k_cipherplanmake_Dice__Next_1 (f_cipherplanmake_Mod : Nat) : okR (o_cipherplanmake_Dice__Next_1 f_cipherplanmake_Mod) a_cipherplanmake_Dice__Next_1 [] t_cipherplanmake_Dice__Next_1 = true := by kernel_rfl
theorem q_cipherplanmake_Dice__Next_1 (f_cipherplanmake_Mod : Nat) : plan (ris (o_cipherplanmake_Dice__Next_1 f_cipherplanmake_Mod) a_cipherplanmake_Dice__Next_1 []) t_cipherplanmake_Dice__Next_1 = p_cipherplanmake_Dice__Next_1 f_cipherplanmake_Mod := by kernel_rfl

def c_cipherplanmake_Dice__Next (f_cipherplanmake_Mod : Nat) : AC :=
  seqK [0, 1] (.reg [⟨(some 4), .mov (.c (V.int 0)), none⟩])
  (seqK [0, 1] (seqK [0, 1, 14] (regK [] t_cipherplanmake_Dice__Next_0 (p_cipherplanmake_Dice__Next_0) (o_cipherplanmake_Dice__Next_0) a_cipherplanmake_Dice__Next_0)
    (.cond (.t 14)
      (seqK [4] (.reg [⟨(some 4), .mov (.c (V.int 0)), none⟩])
       (.ret))
      (.skip)))
   (seqK [0, 1] (.reg [⟨(some 15), .mov (.t 0), none⟩,
       ⟨(some 16), .nilck (.t 15), none⟩,
       ⟨(some 17), .faddr 1 (.t 16), none⟩,
       ⟨(some 18), .load false 1 (.t 17), none⟩,
       ⟨(some 19), .bin .add (.t 18) (.c (V.int 1)), none⟩,
       ⟨(some 20), .nilck (.t 15), none⟩,
       ⟨(some 21), .faddr 1 (.t 20), none⟩,
       ⟨none, .store 1 (.t 21) (.t 19), none⟩])
    (seqK [4] (regK [] t_cipherplanmake_Dice__Next_1 (p_cipherplanmake_Dice__Next_1 f_cipherplanmake_Mod) (o_cipherplanmake_Dice__Next_1 f_cipherplanmake_Mod) a_cipherplanmake_Dice__Next_1)
     (.ret))))

def r_cipherplanmake_Dice__Next : List ARes := [.tmp 4]
def CE_cipherplanmake_Dice__Next (Γ : Env) (f : Nat) : Prop := ∀ (l : List Int) (k : Nat) (n : Int) (hl : l.length ≤ 400) (hk : k ≤ l.length), EvD Γ f [V.int n] (dcell l k) (V.int (nextD l k n).1) (dcell l (nextD l k n).2)
theorem ev_cipherplanmake_Dice__Next {Γ : Env} {f f_cipherplanmake_Mod : Nat} (h : Has Γ.P f 35 (c_cipherplanmake_Dice__Next f_cipherplanmake_Mod) r_cipherplanmake_Dice__Next) (h_cipherplanmake_Mod : CE_cipherplanmake_Mod Γ f_cipherplanmake_Mod) : CE_cipherplanmake_Dice__Next Γ f := by
  intro l k n hl hk
  refine evD_of_body h (by simp) (by simp only [V.closed, closedL, V.noSl, noSlL, and_self, and_true, true_and]) (by first | exact dcell_closed _ _ | simp only [V.closed, closedL, and_self, and_true, true_and]) (by first | exact dcell_closed _ _ | simp only [V.closed, closedL, and_self, and_true, true_and]) fun C hC hm => ?_
  subst hC
  unfold c_cipherplanmake_Dice__Next
  by_cases h1 : k < l.length
  · have e1 : decide ((k : Int) ≥ (((l.map V.int).length : Nat) : Int)) = false := by simp; omega
    have hget : l[k]? = some (l.getD k 0) := by simp [List.getD_eq_getElem?_getD, List.getElem?_eq_getElem h1]
    have hw := wrap_succ (k := k) (by omega)
    have hw2 : IntKind.i64.wrap (((k + 1 : Nat) : Int) - 1) = (k : Int) := by rw [wrap_id (by omega) (by omega)]; omega
    have hn : nextD l k n = (modV (l.getD k 0) n, k + 1) := by rw [nextD, if_pos h1]
    rw [hn]
    repeat' (first
    | refine awp_seqR fun K' hK => ?_
    | refine awp_regR fun K' hK => ?_
    | refine awp_seqP 10 (fun _ => true) rfl (k_cipherplanmake_Dice__Next_0) (q_cipherplanmake_Dice__Next_0) fun K' hK => ?_
    | refine awp_regP 10 (fun _ => true) rfl (k_cipherplanmake_Dice__Next_0) (q_cipherplanmake_Dice__Next_0) fun K' hK => ?_
    | refine awp_seqP 14 (fun _ => true) rfl (k_cipherplanmake_Dice__Next_1 _) (q_cipherplanmake_Dice__Next_1 _) fun K' hK => ?_
    | refine awp_regP 14 (fun _ => true) rfl (k_cipherplanmake_Dice__Next_1 _) (q_cipherplanmake_Dice__Next_1 _) fun K' hK => ?_
    | refine awp_seqK ?_
    | refine awp_skip ?_
    | refine awp_block ?_
    | ((first | refine awp_cond ⟨_, rfl, fun hc => ?_, fun hc => ?_⟩ | refine awB_t (fun hc => ?_) (fun hc => ?_) | refine awB_f (fun hc => ?_) (fun hc => ?_)) <;> first | exact Bool.noConfusion hc | (exfalso; simp only [decide_eq_true_eq, decide_eq_false_iff_not, List.length_map, Bool.not_eq_true', Bool.not_eq_false'] at hc; omega) | (try simp only [decide_eq_true_eq, decide_eq_false_iff_not, beq_iff_eq, beq_eq_false_iff_ne, ne_eq, Bool.not_eq_true', Bool.not_eq_false'] at hc))
    | refine awp_ret ?_
    | refine awp_exit ?_
    | simp (maxSteps := 1000000) only [go_sem, Nat.reduceAdd, Nat.reduceMul, Nat.reduceEqDiff, Nat.reduceLeDiff, Nat.reduceLT, Nat.reduceSub, Int.reduceEq, Int.reduceBEq, Int.reduceLT, Int.reduceLE, Int.reduceAdd, Int.reduceToNat, reduceIte, reduceCtorEq, dcell, e1, hw, hw2, Int.toNat_natCast, List.getElem?_map, hget, p_cipherplanmake_Dice__Next_0, p_cipherplanmake_Dice__Next_1]
    | (refine hK _ ?_; clear hK; clear K')
    | refine And.intro ?_ ?_
    | ((first | apply awC_A | apply awCR_A); (focus (simp only [go_sem, Nat.reduceAdd, Nat.reduceMul, Nat.reduceEqDiff, Nat.reduceLeDiff, Nat.reduceLT, Nat.reduceSub, Int.reduceEq, Int.reduceBEq, Int.reduceLT, Int.reduceLE, Int.reduceAdd, Int.reduceToNat, reduceIte, reduceCtorEq, dcell, e1, hw, hw2, Int.toNat_natCast, List.getElem?_map, hget]; first | exact (h_cipherplanmake_Mod _ _).b)); (focus (simp only [go_sem, Nat.reduceAdd, Nat.reduceMul, Nat.reduceEqDiff, Nat.reduceLeDiff, Nat.reduceLT, Nat.reduceSub, Int.reduceEq, Int.reduceBEq, Int.reduceLT, Int.reduceLE, Int.reduceAdd, Int.reduceToNat, reduceIte, reduceCtorEq, dcell, e1, hw, hw2, Int.toNat_natCast, List.getElem?_map, hget])))
    | (simp only [List.length_append, List.length_cons, List.length_nil, List.length_map, Nat.reducePow, Nat.reduceAdd]; omega)
    | omega)
    all_goals (refine ends_d _ rfl rfl (by simp only [V.closed, closedL, and_self, and_true, true_and]) ?_; simp only [go_sem, Nat.reduceAdd, Nat.reduceMul, Nat.reduceEqDiff, Nat.reduceLeDiff, Nat.reduceLT, Nat.reduceSub, Int.reduceEq, Int.reduceBEq, Int.reduceLT, Int.reduceLE, Int.reduceAdd, Int.reduceToNat, reduceIte, reduceCtorEq])
  · have e1 : decide ((k : Int) ≥ (((l.map V.int).length : Nat) : Int)) = true := by simp; omega
    have hn : nextD l k n = (0, k) := by rw [nextD, if_neg h1]
    rw [hn]
    repeat' (first
    | refine awp_seqR fun K' hK => ?_
    | refine awp_regR fun K' hK => ?_
    | refine awp_seqP 10 (fun _ => true) rfl (k_cipherplanmake_Dice__Next_0) (q_cipherplanmake_Dice__Next_0) fun K' hK => ?_
    | refine awp_regP 10 (fun _ => true) rfl (k_cipherplanmake_Dice__Next_0) (q_cipherplanmake_Dice__Next_0) fun K' hK => ?_
    | refine awp_seqP 14 (fun _ => true) rfl (k_cipherplanmake_Dice__Next_1 _) (q_cipherplanmake_Dice__Next_1 _) fun K' hK => ?_
    | refine awp_regP 14 (fun _ => true) rfl (k_cipherplanmake_Dice__Next_1 _) (q_cipherplanmake_Dice__Next_1 _) fun K' hK => ?_
    | refine awp_seqK ?_
    | refine awp_skip ?_
    | refine awp_block ?_
    | ((first | refine awp_cond ⟨_, rfl, fun hc => ?_, fun hc => ?_⟩ | refine awB_t (fun hc => ?_) (fun hc => ?_) | refine awB_f (fun hc => ?_) (fun hc => ?_)) <;> first | exact Bool.noConfusion hc | (exfalso; simp only [decide_eq_true_eq, decide_eq_false_iff_not, List.length_map, Bool.not_eq_true', Bool.not_eq_false'] at hc; omega) | (try simp only [decide_eq_true_eq, decide_eq_false_iff_not, beq_iff_eq, beq_eq_false_iff_ne, ne_eq, Bool.not_eq_true', Bool.not_eq_false'] at hc))
    | refine awp_ret ?_
    | refine awp_exit ?_
    | simp (maxSteps := 1000000) only [go_sem, Nat.reduceAdd, Nat.reduceMul, Nat.reduceEqDiff, Nat.reduceLeDiff, Nat.reduceLT, Nat.reduceSub, Int.reduceEq, Int.reduceBEq, Int.reduceLT, Int.reduceLE, Int.reduceAdd, Int.reduceToNat, reduceIte, reduceCtorEq, dcell, e1, p_cipherplanmake_Dice__Next_0, p_cipherplanmake_Dice__Next_1]
    | (refine hK _ ?_; clear hK; clear K')
    | refine And.intro ?_ ?_
    | ((first | apply awC_A | apply awCR_A); (focus (simp only [go_sem, Nat.reduceAdd, Nat.reduceMul, Nat.reduceEqDiff, Nat.reduceLeDiff, Nat.reduceLT, Nat.reduceSub, Int.reduceEq, Int.reduceBEq, Int.reduceLT, Int.reduceLE, Int.reduceAdd, Int.reduceToNat, reduceIte, reduceCtorEq, dcell, e1]; first | exact (h_cipherplanmake_Mod _ _).b)); (focus (simp only [go_sem, Nat.reduceAdd, Nat.reduceMul, Nat.reduceEqDiff, Nat.reduceLeDiff, Nat.reduceLT, Nat.reduceSub, Int.reduceEq, Int.reduceBEq, Int.reduceLT, Int.reduceLE, Int.reduceAdd, Int.reduceToNat, reduceIte, reduceCtorEq, dcell, e1])))
    | (simp only [List.length_append, List.length_cons, List.length_nil, List.length_map, Nat.reducePow, Nat.reduceAdd]; omega)
    | omega)
    all_goals (refine ends_d _ rfl rfl (by simp only [V.closed, closedL, and_self, and_true, true_and]) ?_; simp only [go_sem, Nat.reduceAdd, Nat.reduceMul, Nat.reduceEqDiff, Nat.reduceLeDiff, Nat.reduceLT, Nat.reduceSub, Int.reduceEq, Int.reduceBEq, Int.reduceLT, Int.reduceLE, Int.reduceAdd, Int.reduceToNat, reduceIte, reduceCtorEq])

def ofD (l : List Int) (k : Nat) (xs : List Int) : Int × Nat := (xs.getD (nextD l k xs.length).1.toNat 0, (nextD l k xs.length).2)
theorem ofD_mem {l : List Int} {k : Nat} {xs : List Int} (h : xs ≠ []) (h2 : xs.length < 2 ^ 62) : (ofD l k xs).1 ∈ xs := by
  have h1 : 1 ≤ xs.length := by cases xs with | nil => exact (h rfl).elim | cons _ _ => simp
  have := nextD_range (l := l) (k := k) (n := xs.length) (by omega) (by omega)
  have hk : (nextD l k xs.length).1.toNat < xs.length := by omega
  unfold ofD
  simp only [List.getD_eq_getElem?_getD, List.getElem?_eq_getElem hk, Option.getD_some]
  exact List.getElem_mem hk
theorem ofD_le {l : List Int} {k : Nat} {xs : List Int} (hk : k ≤ l.length) : (ofD l k xs).2 ≤ l.length := nextD_le hk

def c_cipherplanmake_Dice__Of (f_cipherplanmake_Dice__Next : Nat) : AC :=
  seqK [0, 1] (.reg [⟨(some 4), .mov (.c (V.int 0)), none⟩])
  (seqK [4] (.reg [⟨(some 5), .mov (.t 1), none⟩,
      ⟨(some 6), .mov (.t 0), none⟩,
      ⟨(some 7), .mov (.t 1), none⟩,
      ⟨(some 8), .lenL (.t 7), none⟩,
      ⟨(some 9), .call f_cipherplanmake_Dice__Next [(.t 6), (.t 8)], none⟩,
      ⟨(some 10), .iaddr 1 (.t 5) (.t 9), none⟩,
      ⟨(some 11), .load false 1 (.t 10), none⟩,
      ⟨(some 4), .mov (.t 11), none⟩])
   (.ret))

def r_cipherplanmake_Dice__Of : List ARes := [.tmp 4]
def CE_cipherplanmake_Dice__Of (Γ : Env) (f : Nat) : Prop := ∀ (l : List Int) (k : Nat) (xs : List Int) (hl : l.length ≤ 400) (hk : k ≤ l.length) (hx : 1 ≤ xs.length) (hx2 : xs.length < 2 ^ 62), EvD Γ f [.sl 1 (xs.map V.int)] (dcell l k) (V.int (ofD l k xs).1) (dcell l (ofD l k xs).2)
theorem ev_cipherplanmake_Dice__Of {Γ : Env} {f f_cipherplanmake_Dice__Next : Nat} (h : Has Γ.P f 12 (c_cipherplanmake_Dice__Of f_cipherplanmake_Dice__Next) r_cipherplanmake_Dice__Of) (h_cipherplanmake_Dice__Next : CE_cipherplanmake_Dice__Next Γ f_cipherplanmake_Dice__Next) : CE_cipherplanmake_Dice__Of Γ f := by
  intro l k xs hl hk hx hx2
  refine evD_of_body h (by simp) (by simp only [V.closed, closedL, V.noSl, noSlL, and_self, and_true, true_and]) (by first | exact dcell_closed _ _ | simp only [V.closed, closedL, and_self, and_true, true_and]) (by first | exact dcell_closed _ _ | simp only [V.closed, closedL, and_self, and_true, true_and]) fun C hC hm => ?_
  subst hC
  unfold c_cipherplanmake_Dice__Of
  have hr := nextD_range (l := l) (k := k) (n := xs.length) (by omega) (by omega)
  have hget : xs[(nextD l k xs.length).1.toNat]? = some (ofD l k xs).1 := by
    have hk : (nextD l k xs.length).1.toNat < xs.length := by omega
    simp [ofD, List.getD_eq_getElem?_getD, List.getElem?_eq_getElem hk]
  have hn := h_cipherplanmake_Dice__Next l k xs.length hl hk
  have e2 : dcell l (ofD l k xs).2 = dcell l (nextD l k xs.length).2 := rfl
  rw [e2]
  simp only [dcell] at hn
  repeat' (first
    | refine awp_seqR fun K' hK => ?_
    | refine awp_regR fun K' hK => ?_
    | refine awp_seqK ?_
    | refine awp_skip ?_
    | refine awp_block ?_
    | ((first | refine awp_cond ⟨_, rfl, fun hc => ?_, fun hc => ?_⟩ | refine awB_t (fun hc => ?_) (fun hc => ?_) | refine awB_f (fun hc => ?_) (fun hc => ?_)) <;> first | exact Bool.noConfusion hc | (exfalso; simp only [decide_eq_true_eq, decide_eq_false_iff_not, List.length_map, Bool.not_eq_true', Bool.not_eq_false'] at hc; omega) | (try simp only [decide_eq_true_eq, decide_eq_false_iff_not, beq_iff_eq, beq_eq_false_iff_ne, ne_eq, Bool.not_eq_true', Bool.not_eq_false'] at hc))
    | refine awp_ret ?_
    | refine awp_exit ?_
    | simp (maxSteps := 1000000) only [go_sem, Nat.reduceAdd, Nat.reduceMul, Nat.reduceEqDiff, Nat.reduceLeDiff, Nat.reduceLT, Nat.reduceSub, Int.reduceEq, Int.reduceBEq, Int.reduceLT, Int.reduceLE, Int.reduceAdd, Int.reduceToNat, reduceIte, reduceCtorEq, dcell, List.length_map, List.getElem?_map, hget]
    | (refine hK _ ?_; clear hK; clear K')
    | refine And.intro ?_ ?_
    | (apply awC_D1; (focus (exact rfl)); (focus (simp only [go_sem, Nat.reduceAdd, Nat.reduceMul, Nat.reduceEqDiff, Nat.reduceLeDiff, Nat.reduceLT, Nat.reduceSub, Int.reduceEq, Int.reduceBEq, Int.reduceLT, Int.reduceLE, Int.reduceAdd, Int.reduceToNat, reduceIte, reduceCtorEq, dcell, List.length_map, List.getElem?_map, hget]; first | exact hn | exact (h_cipherplanmake_Dice__Next _ _ _ (by first | assumption | omega | simp) (by first | assumption | omega | simp)))); (focus (simp only [go_sem, Nat.reduceAdd, Nat.reduceMul, Nat.reduceEqDiff, Nat.reduceLeDiff, Nat.reduceLT, Nat.reduceSub, Int.reduceEq, Int.reduceBEq, Int.reduceLT, Int.reduceLE, Int.reduceAdd, Int.reduceToNat, reduceIte, reduceCtorEq, dcell, List.length_map, List.getElem?_map, hget, List.mem_singleton])); (focus (simp only [go_sem, Nat.reduceAdd, Nat.reduceMul, Nat.reduceEqDiff, Nat.reduceLeDiff, Nat.reduceLT, Nat.reduceSub, Int.reduceEq, Int.reduceBEq, Int.reduceLT, Int.reduceLE, Int.reduceAdd, Int.reduceToNat, reduceIte, reduceCtorEq, dcell, List.length_map, List.getElem?_map, hget, List.mem_singleton])); (focus (simp only [go_sem, Nat.reduceAdd, Nat.reduceMul, Nat.reduceEqDiff, Nat.reduceLeDiff, Nat.reduceLT, Nat.reduceSub, Int.reduceEq, Int.reduceBEq, Int.reduceLT, Int.reduceLE, Int.reduceAdd, Int.reduceToNat, reduceIte, reduceCtorEq, dcell, List.length_map, List.getElem?_map, hget])))
    | (simp only [List.length_append, List.length_cons, List.length_nil, List.length_map, Nat.reducePow, Nat.reduceAdd]; omega)
    | omega)
  refine ends_d _ rfl rfl (by simp only [V.closed, closedL, and_self, and_true, true_and]) ?_; simp only [go_sem, Nat.reduceAdd, Nat.reduceMul, Nat.reduceEqDiff, Nat.reduceLeDiff, Nat.reduceLT, Nat.reduceSub, Int.reduceEq, Int.reduceBEq, Int.reduceLT, Int.reduceLE, Int.reduceAdd, Int.reduceToNat, reduceIte, reduceCtorEq]

def sizesOf (a : Int) : List Int :=
  if a = 5 ∨ a = 6 ∨ a = 10 ∨ a = 11 then [2048, 1024, 512, 3072, 1023, 4096, 16384]
  else if a = 7 ∨ a = 12 then [256, 160, 224, 384, 521]
  else if a = 9 then [65, 44, 87]
  else if a = 13 then [768, 512, 1024]
  else if a = 14 then [128, 40]
  else if a = 15 then [168, 112]
  else if a = 16 ∨ a = 17 then [128, 256]
  else []
def sizeD (l : List Int) (k : Nat) (a : Int) : Int × Nat := if sizesOf a = [] then (0, k) else ofD l k (sizesOf a)

def c_cipherplanmake_size (f_cipherplanmake_Dice__Of : Nat) : AC :=
  seqK [0, 1] (.reg [⟨(some 4), .mov (.c (V.int 0)), none⟩])
  (seqK [] (seqK [0, 5] (.reg [⟨(some 5), .mov (.t 1), none⟩])
    (.block 0 (seqK [0, 5, 6] (seqK [0, 5, 6] (.reg [⟨(some 7), .bin .eql (.t 5) (.c (V.int 5)), none⟩,
          ⟨(some 6), .mov (.t 7), none⟩])
       (.cond (.t 6)
         (.skip)
         (seqK [0, 5, 6] (.reg [⟨(some 8), .bin .eql (.t 5) (.c (V.int 6)), none⟩,
             ⟨(some 6), .mov (.t 8), none⟩])
          (.cond (.t 6)
            (.skip)
            (seqK [0, 5, 6] (.reg [⟨(some 9), .bin .eql (.t 5) (.c (V.int 10)), none⟩,
                ⟨(some 6), .mov (.t 9), none⟩])
             (.cond (.t 6)
               (.skip)
               (.reg [⟨(some 10), .bin .eql (.t 5) (.c (V.int 11)), none⟩,
                  ⟨(some 6), .mov (.t 10), none⟩])))))))
      (.cond (.t 6)
        (seqK [4] (.reg [⟨(some 11), .mov (.t 0), none⟩,
            ⟨(some 12), .bslice 7 1 false [(.int .i64 0)] [(0, (.c (V.int 2048))), (1, (.c (V.int 1024))), (2, (.c (V.int 512))), (3, (.c (V.int 3072))), (4, (.c (V.int 1023))), (5, (.c (V.int 4096))), (6, (.c (V.int 16384)))], none⟩,
            ⟨(some 13), .call f_cipherplanmake_Dice__Of [(.t 11), (.t 12)], none⟩,
            ⟨(some 4), .mov (.t 13), none⟩])
         (.ret))
        (seqK [0, 5, 14] (seqK [0, 5, 14] (.reg [⟨(some 15), .bin .eql (.t 5) (.c (V.int 7)), none⟩,
             ⟨(some 14), .mov (.t 15), none⟩])
          (.cond (.t 14)
            (.skip)
            (.reg [⟨(some 16), .bin .eql (.t 5) (.c (V.int 12)), none⟩,
               ⟨(some 14), .mov (.t 16), none⟩])))
         (.cond (.t 14)
           (seqK [4] (.reg [⟨(some 17), .mov (.t 0), none⟩,
               ⟨(some 18), .bslice 5 1 false [(.int .i64 0)] [(0, (.c (V.int 256))), (1, (.c (V.int 160))), (2, (.c (V.int 224))), (3, (.c (V.int 384))), (4, (.c (V.int 521)))], none⟩,
               ⟨(some 19), .call f_cipherplanmake_Dice__Of [(.t 17), (.t 18)], none⟩,
               ⟨(some 4), .mov (.t 19), none⟩])
            (.ret))
           (seqK [0, 5, 20] (.reg [⟨(some 21), .bin .eql (.t 5) (.c (V.int 9)), none⟩,
               ⟨(some 20), .mov (.t 21), none⟩])
            (.cond (.t 20)
              (seqK [4] (.reg [⟨(some 22), .mov (.t 0), none⟩,
                  ⟨(some 23), .bslice 3 1 false [(.int .i64 0)] [(0, (.c (V.int 65))), (1, (.c (V.int 44))), (2, (.c (V.int 87)))], none⟩,
                  ⟨(some 24), .call f_cipherplanmake_Dice__Of [(.t 22), (.t 23)], none⟩,
                  ⟨(some 4), .mov (.t 24), none⟩])
               (.ret))
              (seqK [0, 5, 25] (.reg [⟨(some 26), .bin .eql (.t 5) (.c (V.int 13)), none⟩,
                  ⟨(some 25), .mov (.t 26), none⟩])
               (.cond (.t 25)
                 (seqK [4] (.reg [⟨(some 27), .mov (.t 0), none⟩,
                     ⟨(some 28), .bslice 3 1 false [(.int .i64 0)] [(0, (.c (V.int 768))), (1, (.c (V.int 512))), (2, (.c (V.int 1024)))], none⟩,
                     ⟨(some 29), .call f_cipherplanmake_Dice__Of [(.t 27), (.t 28)], none⟩,
                     ⟨(some 4), .mov (.t 29), none⟩])
                  (.ret))
                 (seqK [0, 5, 30] (.reg [⟨(some 31), .bin .eql (.t 5) (.c (V.int 14)), none⟩,
                     ⟨(some 30), .mov (.t 31), none⟩])
                  (.cond (.t 30)
                    (seqK [4] (.reg [⟨(some 32), .mov (.t 0), none⟩,
                        ⟨(some 33), .bslice 2 1 false [(.int .i64 0)] [(0, (.c (V.int 128))), (1, (.c (V.int 40)))], none⟩,
                        ⟨(some 34), .call f_cipherplanmake_Dice__Of [(.t 32), (.t 33)], none⟩,
                        ⟨(some 4), .mov (.t 34), none⟩])
                     (.ret))
                    (seqK [0, 5, 35] (.reg [⟨(some 36), .bin .eql (.t 5) (.c (V.int 15)), none⟩,
                        ⟨(some 35), .mov (.t 36), none⟩])
                     (.cond (.t 35)
                       (seqK [4] (.reg [⟨(some 37), .mov (.t 0), none⟩,
                           ⟨(some 38), .bslice 2 1 false [(.int .i64 0)] [(0, (.c (V.int 168))), (1, (.c (V.int 112)))], none⟩,
                           ⟨(some 39), .call f_cipherplanmake_Dice__Of [(.t 37), (.t 38)], none⟩,
                           ⟨(some 4), .mov (.t 39), none⟩])
                        (.ret))
                       (seqK [0, 40] (seqK [0, 5, 40] (.reg [⟨(some 41), .bin .eql (.t 5) (.c (V.int 16)), none⟩,
                            ⟨(some 40), .mov (.t 41), none⟩])
                         (.cond (.t 40)
                           (.skip)
                           (.reg [⟨(some 42), .bin .eql (.t 5) (.c (V.int 17)), none⟩,
                              ⟨(some 40), .mov (.t 42), none⟩])))
                        (.cond (.t 40)
                          (seqK [4] (.reg [⟨(some 43), .mov (.t 0), none⟩,
                              ⟨(some 44), .bslice 2 1 false [(.int .i64 0)] [(0, (.c (V.int 128))), (1, (.c (V.int 256)))], none⟩,
                              ⟨(some 45), .call f_cipherplanmake_Dice__Of [(.t 43), (.t 44)], none⟩,
                              ⟨(some 4), .mov (.t 45), none⟩])
                           (.ret))
                          (.skip)))))))))))))))))
   (seqK [4] (.reg [⟨(some 4), .mov (.c (V.int 0)), none⟩])
    (.ret)))

def r_cipherplanmake_size : List ARes := [.tmp 4]
def CE_cipherplanmake_size (Γ : Env) (f : Nat) : Prop := ∀ (l : List Int) (k : Nat) (a : Int) (hl : l.length ≤ 400) (hk : k ≤ l.length), EvD Γ f [V.int a] (dcell l k) (V.int (sizeD l k a).1) (dcell l (sizeD l k a).2)
theorem ev_cipherplanmake_size {Γ : Env} {f f_cipherplanmake_Dice__Of : Nat} (h : Has Γ.P f 46 (c_cipherplanmake_size f_cipherplanmake_Dice__Of) r_cipherplanmake_size) (h_cipherplanmake_Dice__Of : CE_cipherplanmake_Dice__Of Γ f_cipherplanmake_Dice__Of) : CE_cipherplanmake_size Γ f := by
  intro l k a hl hk
  refine evD_of_body h (by simp) (by simp only [V.closed, closedL, V.noSl, noSlL, and_self, and_true, true_and]) (by first | exact dcell_closed _ _ | simp only [V.closed, closedL, and_self, and_true, true_and]) (by first | exact dcell_closed _ _ | simp only [V.closed, closedL, and_self, and_true, true_and]) fun C hC hm => ?_
  subst hC
  unfold c_cipherplanmake_size
  have o1 := h_cipherplanmake_Dice__Of l k [2048, 1024, 512, 3072, 1023, 4096, 16384] hl hk (by simp) (by simp)
  have o2 := h_cipherplanmake_Dice__Of l k [256, 160, 224, 384, 521] hl hk (by simp) (by simp)
  have o3 := h_cipherplanmake_Dice__Of l k [65, 44, 87] hl hk (by simp) (by simp)
  have o4 := h_cipherplanmake_Dice__Of l k [768, 512, 1024] hl hk (by simp) (by simp)
  have o5 := h_cipherplanmake_Dice__Of l k [128, 40] hl hk (by simp) (by simp)
  have o6 := h_cipherplanmake_Dice__Of l k [168, 112] hl hk (by simp) (by simp)
  have o7 := h_cipherplanmake_Dice__Of l k [128, 256] hl hk (by simp) (by simp)
  simp only [dcell] at o1 o2 o3 o4 o5 o6 o7
  repeat' (first
    | refine awp_seqR fun K' hK => ?_
    | refine awp_regR fun K' hK => ?_
    | refine awp_seqK ?_
    | refine awp_skip ?_
    | refine awp_block ?_
    | ((first | refine awp_cond ⟨_, rfl, fun hc => ?_, fun hc => ?_⟩ | refine awB_t (fun hc => ?_) (fun hc => ?_) | refine awB_f (fun hc => ?_) (fun hc => ?_)) <;> first | exact Bool.noConfusion hc | (exfalso; simp only [decide_eq_true_eq, decide_eq_false_iff_not, List.length_map, Bool.not_eq_true', Bool.not_eq_false'] at hc; omega) | (try simp only [decide_eq_true_eq, decide_eq_false_iff_not, beq_iff_eq, beq_eq_false_iff_ne, ne_eq, Bool.not_eq_true', Bool.not_eq_false'] at hc))
    | refine awp_ret ?_
    | refine awp_exit ?_
    | simp (maxSteps := 1000000) only [go_sem, Nat.reduceAdd, Nat.reduceMul, Nat.reduceEqDiff, Nat.reduceLeDiff, Nat.reduceLT, Nat.reduceSub, Int.reduceEq, Int.reduceBEq, Int.reduceLT, Int.reduceLE, Int.reduceAdd, Int.reduceToNat, reduceIte, reduceCtorEq, dcell]
    | (refine hK _ ?_; clear hK; clear K')
    | refine And.intro ?_ ?_
    | (apply awC_D1; (focus (exact rfl)); (focus (simp only [go_sem, Nat.reduceAdd, Nat.reduceMul, Nat.reduceEqDiff, Nat.reduceLeDiff, Nat.reduceLT, Nat.reduceSub, Int.reduceEq, Int.reduceBEq, Int.reduceLT, Int.reduceLE, Int.reduceAdd, Int.reduceToNat, reduceIte, reduceCtorEq, dcell]; first | exact o1 | exact o2 | exact o3 | exact o4 | exact o5 | exact o6 | exact o7 | exact (h_cipherplanmake_Dice__Of _ _ _ (by first | assumption | omega | simp) (by first | assumption | omega | simp) (by first | assumption | omega | simp) (by first | assumption | omega | simp)))); (focus (simp only [go_sem, Nat.reduceAdd, Nat.reduceMul, Nat.reduceEqDiff, Nat.reduceLeDiff, Nat.reduceLT, Nat.reduceSub, Int.reduceEq, Int.reduceBEq, Int.reduceLT, Int.reduceLE, Int.reduceAdd, Int.reduceToNat, reduceIte, reduceCtorEq, dcell, List.mem_singleton])); (focus (simp only [go_sem, Nat.reduceAdd, Nat.reduceMul, Nat.reduceEqDiff, Nat.reduceLeDiff, Nat.reduceLT, Nat.reduceSub, Int.reduceEq, Int.reduceBEq, Int.reduceLT, Int.reduceLE, Int.reduceAdd, Int.reduceToNat, reduceIte, reduceCtorEq, dcell, List.mem_singleton])); (focus (simp only [go_sem, Nat.reduceAdd, Nat.reduceMul, Nat.reduceEqDiff, Nat.reduceLeDiff, Nat.reduceLT, Nat.reduceSub, Int.reduceEq, Int.reduceBEq, Int.reduceLT, Int.reduceLE, Int.reduceAdd, Int.reduceToNat, reduceIte, reduceCtorEq, dcell])))
    | (simp only [List.length_append, List.length_cons, List.length_nil, List.length_map, Nat.reducePow, Nat.reduceAdd]; omega)
    | omega)
  all_goals (first | subst hc | skip)
  all_goals first
    | (have es : sizeD l k 5 = ofD l k [2048, 1024, 512, 3072, 1023, 4096, 16384] := rfl
       rw [es]; refine ends_d _ rfl rfl (by simp only [V.closed, closedL, and_self, and_true, true_and]) ?_; simp only [go_sem, Nat.reduceAdd, Nat.reduceMul, Nat.reduceEqDiff, Nat.reduceLeDiff, Nat.reduceLT, Nat.reduceSub, Int.reduceEq, Int.reduceBEq, Int.reduceLT, Int.reduceLE, Int.reduceAdd, Int.reduceToNat, reduceIte, reduceCtorEq]; done)
    | (simp only [show ∀ x, sizeD l k x = if sizesOf x = [] then (0, k) else ofD l k (sizesOf x) from fun _ => rfl]
       simp only [sizesOf, Int.reduceEq, reduceIte, or_self, or_true, or_false, true_or, false_or, reduceCtorEq, *]
       refine ends_d _ rfl rfl (by simp only [V.closed, closedL, and_self, and_true, true_and]) ?_; simp only [go_sem, Nat.reduceAdd, Nat.reduceMul, Nat.reduceEqDiff, Nat.reduceLeDiff, Nat.reduceLT, Nat.reduceSub, Int.reduceEq, Int.reduceBEq, Int.reduceLT, Int.reduceLE, Int.reduceAdd, Int.reduceToNat, reduceIte, reduceCtorEq]; done)
    | trace_state

def useD (l : List Int) (k : Nat) : (Int × Int) × Nat := ((1 + (nextD l k 22).1, (sizeD l (nextD l k 22).2 (1 + (nextD l k 22).1)).1), (sizeD l (nextD l k 22).2 (1 + (nextD l k 22).1)).2)
def c_cipherplanmake_Use (f_cipherplanmake_Dice__Next f_cipherplanmake_size : Nat) : AC :=
  seqK [0, 2] (.reg [⟨(some 2), .alloc [.val (.int .i64 0), .val (.int .i64 0)], none⟩])
  (seqK [0, 2, 3] (.reg [⟨(some 4), .mov (.t 0), none⟩,
      ⟨(some 5), .call f_cipherplanmake_Dice__Next [(.t 4), (.c (V.int 22))], none⟩,
      ⟨(some 6), .bin .add (.c (V.int 1)) (.t 5), none⟩,
      ⟨(some 3), .mov (.t 6), none⟩])
   (seqK [2] (.reg [⟨(some 7), .mov (.t 3), none⟩,
       ⟨(some 8), .mov (.t 0), none⟩,
       ⟨(some 9), .mov (.t 3), none⟩,
       ⟨(some 10), .call f_cipherplanmake_size [(.t 8), (.t 9)], none⟩,
       ⟨(some 11), .build [(.int .i64 0), (.int .i64 0)] [(0, 1, (.t 7)), (1, 1, (.t 10))], none⟩,
       ⟨none, .store 2 (.t 2) (.t 11), none⟩])
    (.ret)))

def r_cipherplanmake_Use : List ARes := [.cell 2 true 2]
def CE_cipherplanmake_Use (Γ : Env) (f : Nat) : Prop := ∀ (l : List Int) (k : Nat) (hl : l.length ≤ 400) (hk : k ≤ l.length), EvD Γ f [] (dcell l k) (.agg [V.int (useD l k).1.1, V.int (useD l k).1.2]) (dcell l (useD l k).2)
theorem ev_cipherplanmake_Use {Γ : Env} {f f_cipherplanmake_Dice__Next f_cipherplanmake_size : Nat} (h : Has Γ.P f 12 (c_cipherplanmake_Use f_cipherplanmake_Dice__Next f_cipherplanmake_size) r_cipherplanmake_Use) (h_cipherplanmake_Dice__Next : CE_cipherplanmake_Dice__Next Γ f_cipherplanmake_Dice__Next) (h_cipherplanmake_size : CE_cipherplanmake_size Γ f_cipherplanmake_size) : CE_cipherplanmake_Use Γ f := by
  intro l k hl hk
  refine evD_of_body h (by simp) (by simp only [V.closed, closedL, V.noSl, noSlL, and_self, and_true, true_and]) (by first | exact dcell_closed _ _ | simp only [V.closed, closedL, and_self, and_true, true_and]) (by first | exact dcell_closed _ _ | simp only [V.closed, closedL, and_self, and_true, true_and]) fun C hC hm => ?_
  subst hC
  unfold c_cipherplanmake_Use
  have hr := nextD_range (l := l) (k := k) (n := 22) (by omega) (by omega)
  have hle := nextD_le (n := 22) hk
  have hw : IntKind.i64.wrap (1 + (nextD l k 22).1) = 1 + (nextD l k 22).1 := wrap_id (by omega) (by omega)
  have n1 := h_cipherplanmake_Dice__Next l k 22 hl hk
  have n2 := h_cipherplanmake_size l (nextD l k 22).2 (1 + (nextD l k 22).1) hl hle
  simp only [dcell] at n1 n2
  repeat' (first
    | refine awp_seqR fun K' hK => ?_
    | refine awp_regR fun K' hK => ?_
    | refine awp_seqK ?_
    | refine awp_skip ?_
    | refine awp_block ?_
    | ((first | refine awp_cond ⟨_, rfl, fun hc => ?_, fun hc => ?_⟩ | refine awB_t (fun hc => ?_) (fun hc => ?_) | refine awB_f (fun hc => ?_) (fun hc => ?_)) <;> first | exact Bool.noConfusion hc | (exfalso; simp only [decide_eq_true_eq, decide_eq_false_iff_not, List.length_map, Bool.not_eq_true', Bool.not_eq_false'] at hc; omega) | (try simp only [decide_eq_true_eq, decide_eq_false_iff_not, beq_iff_eq, beq_eq_false_iff_ne, ne_eq, Bool.not_eq_true', Bool.not_eq_false'] at hc))
    | refine awp_ret ?_
    | refine awp_exit ?_
    | simp (maxSteps := 1000000) only [go_sem, Nat.reduceAdd, Nat.reduceMul, Nat.reduceEqDiff, Nat.reduceLeDiff, Nat.reduceLT, Nat.reduceSub, Int.reduceEq, Int.reduceBEq, Int.reduceLT, Int.reduceLE, Int.reduceAdd, Int.reduceToNat, reduceIte, reduceCtorEq, dcell, hw]
    | (refine hK _ ?_; clear hK; clear K')
    | refine And.intro ?_ ?_
    | (apply awC_D1; (focus (exact rfl)); (focus (simp only [go_sem, Nat.reduceAdd, Nat.reduceMul, Nat.reduceEqDiff, Nat.reduceLeDiff, Nat.reduceLT, Nat.reduceSub, Int.reduceEq, Int.reduceBEq, Int.reduceLT, Int.reduceLE, Int.reduceAdd, Int.reduceToNat, reduceIte, reduceCtorEq, dcell, hw]; first | exact n1 | exact n2 | exact (h_cipherplanmake_Dice__Next _ _ _ (by first | assumption | omega | simp) (by first | assumption | omega | simp)) | exact (h_cipherplanmake_size _ _ _ (by first | assumption | omega | simp) (by first | assumption | omega | simp)))); (focus (simp only [go_sem, Nat.reduceAdd, Nat.reduceMul, Nat.reduceEqDiff, Nat.reduceLeDiff, Nat.reduceLT, Nat.reduceSub, Int.reduceEq, Int.reduceBEq, Int.reduceLT, Int.reduceLE, Int.reduceAdd, Int.reduceToNat, reduceIte, reduceCtorEq, dcell, hw, List.mem_singleton])); (focus (simp only [go_sem, Nat.reduceAdd, Nat.reduceMul, Nat.reduceEqDiff, Nat.reduceLeDiff, Nat.reduceLT, Nat.reduceSub, Int.reduceEq, Int.reduceBEq, Int.reduceLT, Int.reduceLE, Int.reduceAdd, Int.reduceToNat, reduceIte, reduceCtorEq, dcell, hw, List.mem_singleton])); (focus (simp only [go_sem, Nat.reduceAdd, Nat.reduceMul, Nat.reduceEqDiff, Nat.reduceLeDiff, Nat.reduceLT, Nat.reduceSub, Int.reduceEq, Int.reduceBEq, Int.reduceLT, Int.reduceLE, Int.reduceAdd, Int.reduceToNat, reduceIte, reduceCtorEq, dcell, hw])))
    | (simp only [List.length_append, List.length_cons, List.length_nil, List.length_map, Nat.reducePow, Nat.reduceAdd]; omega)
    | omega)
  refine ends_d _ rfl rfl (by simp only [V.closed, closedL, and_self, and_true, true_and]) ?_; simp only [go_sem, Nat.reduceAdd, Nat.reduceMul, Nat.reduceEqDiff, Nat.reduceLeDiff, Nat.reduceLT, Nat.reduceSub, Int.reduceEq, Int.reduceBEq, Int.reduceLT, Int.reduceLE, Int.reduceAdd, Int.reduceToNat, reduceIte, reduceCtorEq]
  simp only [useD, and_self]
end Av
end

/- Ref -/
import Derived.Test.YtdjmgokhpganaaaDoorCat
set_option linter.unusedVariables false
set_option linter.unusedSimpArgs false
section
set_option linter.unusedSimpArgs false
set_option linter.unusedVariables false
set_option maxHeartbeats 4000000
set_option maxRecDepth 10000
namespace Av
open Go
attribute [local irreducible] AWp runO runP runG awS awC awCv awQ awRd awCallR awCvR awQR awR awRdR awB okR plan ris
def amongL (b : Int) : List Int → List Int → Int
  | x :: xs, y :: ys => if x = b then y else amongL b xs ys
  | _, _ => 0
def c_ref02_among : AC := seqK [0, 1, 2] (.reg [mc 6 (V.int 0)]) (seqK [] (seqK [0, 1, 2, 7] (.reg [mc 7 (V.int 0)]) (.block 0 (loopK [0, 1, 2, 7] (seqK [0, 1, 2, 7] (seqK [0, 1, 2, 7, 11] (.reg [mv 8 7, mv 9 1, ln 10 9, bn 11 .lss 8 10]) (.cond (.t 11) (.skip) (.exit 0))) (seqK [0, 1, 2, 7] (.block 1 (seqK [0, 1, 2, 7, 19] (.reg [mv 14 1, mv 15 7, ia 16 1 14 15, ld 17 1 16, mv 18 0, bn 19 .eql 17 18]) (.cond (.t 19) (seqK [6] (.reg [mv 20 2, mv 21 7, ia 22 1 20 21, ld 23 1 22, mv 6 23]) (.ret)) (.skip)))) (.reg [mv 12 7, bc 13 .add 12 (V.int 1), mv 7 13])))))) (seqK [6] (.reg [mc 6 (V.int 0)]) (.ret))) def r_ref02_among : List ARes := [.tmp 6]
def CE_ref02_among (Γ : Env) (f : Nat) : Prop := ∀ (b : Int) (xs ys : List Int) (hs : xs.length ≤ ys.length) (h2 : xs.length < 2 ^ 62), EvN Γ f [V.int b, .sl 1 (xs.map V.int), .sl 1 (ys.map V.int)] (V.int (amongL b xs ys))
theorem ev_ref02_among {Γ : Env} {f : Nat} (h : Has Γ.P f 24 c_ref02_among r_ref02_among)  : CE_ref02_among Γ f := by
  intro b xs ys hs h2
  refine evN_of_body h (by simp) (by simp only [V.closed, closedL, V.noSl, noSlL, and_self, and_true, true_and]) (by simp only [V.closed, closedL, V.noSl, noSlL, and_self, and_true, true_and]) fun C hC hm => ?_
  subst hC
  unfold c_ref02_among
  repeat' (first | refine awp_seqR fun K' hK => ?_ | refine awp_regR fun K' hK => ?_ | refine awp_seqK ?_ | refine awp_skip ?_ | refine awp_block ?_ | ((first | refine awp_cond ⟨_, rfl, fun hc => ?_, fun hc => ?_⟩ | refine awB_t (fun hc => ?_) (fun hc => ?_) | refine awB_f (fun hc => ?_) (fun hc => ?_)) <;> first | exact Bool.noConfusion hc | ((try simp only [decide_eq_true_eq, decide_eq_false_iff_not, beq_iff_eq, beq_eq_false_iff_ne, ne_eq, Bool.not_eq_true', Bool.not_eq_false'] at hc); first | (exfalso; simp only [List.length_map] at hc; omega) | (exfalso; omega) | skip)) | refine awp_ret ?_ | refine awp_exit ?_ | simp (maxSteps := 1000000) only [go_sem, Nat.reduceAdd, Nat.reduceMul, Nat.reduceEqDiff, Nat.reduceLeDiff, Nat.reduceLT, Nat.reduceSub, Int.reduceEq, Int.reduceBEq, Int.reduceLT, Int.reduceLE, Int.reduceAdd, Int.reduceToNat, reduceIte, reduceCtorEq] | (refine hK _ ?_; clear hK; clear K') | refine And.intro ?_ ?_ | (simp only [List.length_append, List.length_cons, List.length_nil, List.length_map, Nat.reducePow, Nat.reduceAdd]; omega) | omega | exact List.mem_singleton_self _)
  refine awp_loopP (ι := Nat) (fun k => k ≤ xs.length ∧ amongL b (xs.drop k) (ys.drop k) = amongL b xs ys) (fun k => [(7, V.int k)]) (fun k => xs.length - k) 0 (by omega) ⟨by simp, by simp⟩ (by repeat' first | exact ltO_none | refine ltO_upd (by omega) (by simp only [Ob.lt, ltL, V.lt, and_self, and_true]; try omega) ?_) (fun i hi => by simp only [ovT, lookD, Nat.reduceEqDiff, reduceIte]; (repeat' first | exact ltT_nil | refine ltT_cons ?_ ?_ | simp only [V.lt, ltL, and_self, and_true] | omega)) (by simp only [Nat.reduceAdd, ovT, lookD, Nat.reduceEqDiff, reduceIte, eqT_cons, eqT_nil, renI, u32, u33, u34, u35, u36, u37, u38, u39, and_self, and_true, true_and]; rfl) fun k hk K' hL => ?_
  obtain ⟨hk, hinv⟩ := hk
  simp only [ovT, lookD, Nat.reduceEqDiff, reduceIte]
  rcases hd : xs.drop k with _ | ⟨x, r⟩
  · have := drop_nil hd
    rw [hd] at hinv
    repeat' (first | refine awp_seqR fun K' hK => ?_ | refine awp_regR fun K' hK => ?_ | refine awp_seqK ?_ | refine awp_skip ?_ | refine awp_block ?_ | ((first | refine awp_cond ⟨_, rfl, fun hc => ?_, fun hc => ?_⟩ | refine awB_t (fun hc => ?_) (fun hc => ?_) | refine awB_f (fun hc => ?_) (fun hc => ?_)) <;> first | exact Bool.noConfusion hc | ((try simp only [decide_eq_true_eq, decide_eq_false_iff_not, beq_iff_eq, beq_eq_false_iff_ne, ne_eq, Bool.not_eq_true', Bool.not_eq_false'] at hc); first | (exfalso; simp only [List.length_map] at hc; omega) | (exfalso; omega) | skip)) | refine awp_ret ?_ | refine awp_exit ?_ | simp (maxSteps := 1000000) only [go_sem, Nat.reduceAdd, Nat.reduceMul, Nat.reduceEqDiff, Nat.reduceLeDiff, Nat.reduceLT, Nat.reduceSub, Int.reduceEq, Int.reduceBEq, Int.reduceLT, Int.reduceLE, Int.reduceAdd, Int.reduceToNat, reduceIte, reduceCtorEq] | (refine hK _ ?_; clear hK; clear K') | refine And.intro ?_ ?_ | (simp only [List.length_append, List.length_cons, List.length_nil, List.length_map, Nat.reducePow, Nat.reduceAdd]; omega) | omega | exact List.mem_singleton_self _)
    refine ends_r _ rfl ?_; simp only [go_sem, Nat.reduceEqDiff, Nat.reduceAdd, reduceIte, reduceCtorEq]
    rw [← hinv]; simp [amongL]
  · obtain ⟨hk', hget, hr⟩ := drop_cons hd
    rcases hd2 : ys.drop k with _ | ⟨y, r2⟩
    · have := drop_nil hd2; omega
    · obtain ⟨hk2, hget2, hr2⟩ := drop_cons hd2
      rw [hd, hd2] at hinv
      have hw := wrap_succ (k := k) (by omega)
      repeat' (first | refine awp_seqR fun K' hK => ?_ | refine awp_regR fun K' hK => ?_ | refine awp_seqK ?_ | refine awp_skip ?_ | refine awp_block ?_ | ((first | refine awp_cond ⟨_, rfl, fun hc => ?_, fun hc => ?_⟩ | refine awB_t (fun hc => ?_) (fun hc => ?_) | refine awB_f (fun hc => ?_) (fun hc => ?_)) <;> first | exact Bool.noConfusion hc | ((try simp only [decide_eq_true_eq, decide_eq_false_iff_not, beq_iff_eq, beq_eq_false_iff_ne, ne_eq, Bool.not_eq_true', Bool.not_eq_false'] at hc); first | (exfalso; simp only [List.length_map] at hc; omega) | (exfalso; omega) | skip)) | refine awp_ret ?_ | refine awp_exit ?_ | simp (maxSteps := 1000000) only [go_sem, Nat.reduceAdd, Nat.reduceMul, Nat.reduceEqDiff, Nat.reduceLeDiff, Nat.reduceLT, Nat.reduceSub, Int.reduceEq, Int.reduceBEq, Int.reduceLT, Int.reduceLE, Int.reduceAdd, Int.reduceToNat, reduceIte, reduceCtorEq, Int.toNat_natCast, List.getElem?_map, hget, hget2, hw] | (refine hK _ ?_; clear hK; clear K') | refine And.intro ?_ ?_ | (simp only [List.length_append, List.length_cons, List.length_nil, List.length_map, Nat.reducePow, Nat.reduceAdd]; omega) | omega | exact List.mem_singleton_self _)
      · refine ends_r _ rfl ?_; simp only [go_sem, Nat.reduceEqDiff, Nat.reduceAdd, reduceIte, reduceCtorEq]
        rw [← hinv]; simp [amongL, hc]
      · refine hL _ (k + 1) (by simp only [Nat.reduceAdd, ovT, lookD, Nat.reduceEqDiff, reduceIte, eqT_cons, eqT_nil, renI, u32, u33, u34, u35, u36, u37, u38, u39, and_self, and_true, true_and]) ⟨by omega, ?_⟩ (by omega) (fun a ha => by simp only [u32, u33, u34, u35, u36, u37, u38, u39]; repeat rw [if_neg (by omega)])
        rw [hr, hr2, ← hinv, amongL, if_neg hc]
def singleV (a : Int) : Int := if a = 1 then 18 else if a = 2 then 60 else if a = 3 ∨ a = 8 ∨ a = 21 then 128 else if a = 4 then 192 else if a = 18 ∨ a = 22 then 256 else if a = 19 then 64 else if a = 20 then 80 else 0
def modR (b : Int) : Int := if b < 512 ∨ 16384 < b then 0 else modL b modT
def c_ref02_single : AC := seqK [0] (.reg [mc 2 (V.int 0)]) (seqK [] (seqK [3] (.reg [mv 3 0]) (.block 0 (seqK [3, 4] (.reg [bc 5 .eql 3 (V.int 1), mv 4 5]) (.cond (.t 4) (seqK [2] (.reg [mc 2 (V.int 18)]) (.ret)) (seqK [3, 6] (.reg [bc 7 .eql 3 (V.int 2), mv 6 7]) (.cond (.t 6) (seqK [2] (.reg [mc 2 (V.int 60)]) (.ret)) (seqK [3, 8] (seqK [3, 8] (.reg [bc 9 .eql 3 (V.int 3), mv 8 9]) (.cond (.t 8) (.skip) (seqK [3, 8] (.reg [bc 10 .eql 3 (V.int 8), mv 8 10]) (.cond (.t 8) (.skip) (.reg [bc 11 .eql 3 (V.int 21), mv 8 11]))))) (.cond (.t 8) (seqK [2] (.reg [mc 2 (V.int 128)]) (.ret)) (seqK [3, 12] (.reg [bc 13 .eql 3 (V.int 4), mv 12 13]) (.cond (.t 12) (seqK [2] (.reg [mc 2 (V.int 192)]) (.ret)) (seqK [3, 14] (seqK [3, 14] (.reg [bc 15 .eql 3 (V.int 18), mv 14 15]) (.cond (.t 14) (.skip) (.reg [bc 16 .eql 3 (V.int 22), mv 14 16]))) (.cond (.t 14) (seqK [2] (.reg [mc 2 (V.int 256)]) (.ret)) (seqK [3, 17] (.reg [bc 18 .eql 3 (V.int 19), mv 17 18]) (.cond (.t 17) (seqK [2] (.reg [mc 2 (V.int 64)]) (.ret)) (seqK [19] (.reg [bc 20 .eql 3 (V.int 20), mv 19 20]) (.cond (.t 19) (seqK [2] (.reg [mc 2 (V.int 80)]) (.ret)) (.skip))))))))))))))))) (seqK [2] (.reg [mc 2 (V.int 0)]) (.ret))) def r_ref02_single : List ARes := [.tmp 2]
def CE_ref02_single (Γ : Env) (f : Nat) : Prop := ∀ (a : Int), EvN Γ f [V.int a] (V.int (singleV a))
theorem ev_ref02_single {Γ : Env} {f : Nat} (h : Has Γ.P f 21 c_ref02_single r_ref02_single)  : CE_ref02_single Γ f := by
  intro a
  refine evN_of_body h (by simp) (by simp only [V.closed, closedL, V.noSl, noSlL, and_self, and_true, true_and]) (by simp only [V.closed, closedL, V.noSl, noSlL, and_self, and_true, true_and]) fun C hC hm => ?_
  subst hC
  unfold c_ref02_single
  repeat' (first | refine awp_seqR fun K' hK => ?_ | refine awp_regR fun K' hK => ?_ | refine awp_seqK ?_ | refine awp_skip ?_ | refine awp_block ?_ | ((first | refine awp_cond ⟨_, rfl, fun hc => ?_, fun hc => ?_⟩ | refine awB_t (fun hc => ?_) (fun hc => ?_) | refine awB_f (fun hc => ?_) (fun hc => ?_)) <;> first | exact Bool.noConfusion hc | ((try simp only [decide_eq_true_eq, decide_eq_false_iff_not, beq_iff_eq, beq_eq_false_iff_ne, ne_eq, Bool.not_eq_true', Bool.not_eq_false'] at hc); first | (exfalso; simp only [List.length_map] at hc; omega) | (exfalso; omega) | skip)) | refine awp_ret ?_ | refine awp_exit ?_ | simp (maxSteps := 1000000) only [go_sem, Nat.reduceAdd, Nat.reduceMul, Nat.reduceEqDiff, Nat.reduceLeDiff, Nat.reduceLT, Nat.reduceSub, Int.reduceEq, Int.reduceBEq, Int.reduceLT, Int.reduceLE, Int.reduceAdd, Int.reduceToNat, reduceIte, reduceCtorEq] | (refine hK _ ?_; clear hK; clear K') | refine And.intro ?_ ?_ | (simp only [List.length_append, List.length_cons, List.length_nil, List.length_map, Nat.reducePow, Nat.reduceAdd]; omega) | omega | exact List.mem_singleton_self _)
  all_goals (refine ends_r _ rfl ?_; simp only [go_sem, Nat.reduceEqDiff, Nat.reduceAdd, reduceIte, reduceCtorEq]; simp [singleV, *])
def c_ref02_modulus : AC := seqK [0] (.reg [mc 2 (V.int 0)]) (seqK [] (.block 0 (seqK [0, 3] (.reg [mv 4 0, bc 5 .lss 4 (V.int 512), mv 6 5, mg 7 0 6 false, xg 8 (.bin .gtr (.t 7) (.c (V.int 16384))) 6 false, xo 9 (.pick (.t 6) (.c (V.bool true)) (.t 8)), mv 3 9]) (.cond (.t 3) (seqK [2] (.reg [mc 2 (V.int 0)]) (.ret)) (seqK [0, 10] (.reg [mv 11 0, bc 12 .lss 11 (V.int 1024), mv 10 12]) (.cond (.t 10) (seqK [2] (.reg [mc 2 (V.int 56)]) (.ret)) (seqK [0, 13] (.reg [mv 14 0, bc 15 .lss 14 (V.int 2048), mv 13 15]) (.cond (.t 13) (seqK [2] (.reg [mc 2 (V.int 80)]) (.ret)) (seqK [0, 16] (.reg [mv 17 0, bc 18 .lss 17 (V.int 3072), mv 16 18]) (.cond (.t 16) (seqK [2] (.reg [mc 2 (V.int 112)]) (.ret)) (seqK [0, 19] (.reg [mv 20 0, bc 21 .lss 20 (V.int 7680), mv 19 21]) (.cond (.t 19) (seqK [2] (.reg [mc 2 (V.int 128)]) (.ret)) (seqK [22] (.reg [mv 23 0, bc 24 .lss 23 (V.int 15360), mv 22 24]) (.cond (.t 22) (seqK [2] (.reg [mc 2 (V.int 192)]) (.ret)) (.skip)))))))))))))) (seqK [2] (.reg [mc 2 (V.int 256)]) (.ret))) def r_ref02_modulus : List ARes := [.tmp 2]
def CE_ref02_modulus (Γ : Env) (f : Nat) : Prop := ∀ (b : Int), EvN Γ f [V.int b] (V.int (modR b))
theorem ev_ref02_modulus {Γ : Env} {f : Nat} (h : Has Γ.P f 25 c_ref02_modulus r_ref02_modulus)  : CE_ref02_modulus Γ f := by
  intro b
  refine evN_of_body h (by simp) (by simp only [V.closed, closedL, V.noSl, noSlL, and_self, and_true, true_and]) (by simp only [V.closed, closedL, V.noSl, noSlL, and_self, and_true, true_and]) fun C hC hm => ?_
  subst hC
  unfold c_ref02_modulus
  repeat' (first | refine awp_seqR fun K' hK => ?_ | refine awp_regR fun K' hK => ?_ | refine awp_seqK ?_ | refine awp_skip ?_ | refine awp_block ?_ | ((first | refine awp_cond ⟨_, rfl, fun hc => ?_, fun hc => ?_⟩ | refine awB_t (fun hc => ?_) (fun hc => ?_) | refine awB_f (fun hc => ?_) (fun hc => ?_)) <;> first | exact Bool.noConfusion hc | ((try simp only [decide_eq_true_eq, decide_eq_false_iff_not, beq_iff_eq, beq_eq_false_iff_ne, ne_eq, Bool.not_eq_true', Bool.not_eq_false'] at hc); first | (exfalso; simp only [List.length_map] at hc; omega) | (exfalso; omega) | skip)) | refine awp_ret ?_ | refine awp_exit ?_ | simp (maxSteps := 1000000) only [go_sem, Nat.reduceAdd, Nat.reduceMul, Nat.reduceEqDiff, Nat.reduceLeDiff, Nat.reduceLT, Nat.reduceSub, Int.reduceEq, Int.reduceBEq, Int.reduceLT, Int.reduceLE, Int.reduceAdd, Int.reduceToNat, reduceIte, reduceCtorEq] | (refine hK _ ?_; clear hK; clear K') | refine And.intro ?_ ?_ | (simp only [List.length_append, List.length_cons, List.length_nil, List.length_map, Nat.reducePow, Nat.reduceAdd]; omega) | omega | exact List.mem_singleton_self _)
  all_goals (refine ends_r _ rfl ?_; simp only [go_sem, Nat.reduceEqDiff, Nat.reduceAdd, reduceIte, reduceCtorEq]; simp only [modR, modL, modT]; repeat' split) <;> omega
def refStrength (a b : Int) : Int :=
  if a = 5 ∨ a = 6 ∨ a = 10 ∨ a = 11 then modR b
  else if a = 7 ∨ a = 12 then (if b = 160 ∨ b = 224 ∨ b = 256 ∨ b = 384 ∨ b = 521 then IntKind.i64.wrap (b.tdiv 2) else 0)
  else if a = 9 then amongL b [44, 65, 87] [128, 192, 256]
  else if a = 13 then amongL b [512, 768, 1024] [128, 192, 256]
  else if a = 14 then amongL b [40, 128] [40, 60]
  else if a = 15 then amongL b [112, 168] [80, 112]
  else if a = 16 ∨ a = 17 then amongL b [128, 256] [128, 256]
  else amongL b [0] [singleV a]
theorem single_out (a : Int) (ha : ¬ (1 ≤ a ∧ a ≤ 22)) : singleV a = 0 := by
  simp only [singleV]; repeat' split
  all_goals omega
theorem refStrength_eq (a b : Int) : refStrength a b = strengthS a b := by
  by_cases ha : 1 ≤ a ∧ a ≤ 22
  · rcases (by omega : a = 1 ∨ a = 2 ∨ a = 3 ∨ a = 4 ∨ a = 5 ∨ a = 6 ∨ a = 7 ∨ a = 8 ∨ a = 9 ∨ a = 10 ∨ a = 11 ∨ a = 12 ∨ a = 13 ∨ a = 14 ∨ a = 15 ∨ a = 16 ∨ a = 17 ∨ a = 18 ∨ a = 19 ∨ a = 20 ∨ a = 21 ∨ a = 22) with rfl | rfl | rfl | rfl | rfl | rfl | rfl | rfl | rfl | rfl | rfl | rfl | rfl | rfl | rfl | rfl | rfl | rfl | rfl | rfl | rfl | rfl
    all_goals simp [refStrength, strengthS, strengthR, crowAt, rowsL, amongL, singleV, find0, modR]
    all_goals (repeat' split) <;> first | omega | rfl | simp_all
  · have hs := single_out a ha
    rw [strengthS, strengthR, if_pos (by simp [ha])]
    simp only [refStrength]
    rw [if_neg (by omega), if_neg (by omega), if_neg (by omega), if_neg (by omega), if_neg (by omega), if_neg (by omega), if_neg (by omega), hs]
    simp [amongL]
def c_ref02_Strength (f_ref02_modulus f_ref02_among f_ref02_single : Nat) : AC := seqK [1] (.reg [xo 1 (.box true 2 (.t 0)), mc 2 (V.int 0)]) (seqK [1, 3] (.reg [fa 4 1 1, ld 5 1 4, mv 3 5]) (seqK [1, 3] (seqK [1, 3, 7] (.reg [fa 6 0 1, ld 7 1 6]) (.block 0 (seqK [1, 3, 7, 8] (seqK [1, 3, 7, 8] (.reg [bc 9 .eql 7 (V.int 5), mv 8 9]) (.cond (.t 8) (.skip) (seqK [1, 3, 7, 8] (.reg [bc 10 .eql 7 (V.int 6), mv 8 10]) (.cond (.t 8) (.skip) (seqK [1, 3, 7, 8] (.reg [bc 11 .eql 7 (V.int 10), mv 8 11]) (.cond (.t 8) (.skip) (.reg [bc 12 .eql 7 (V.int 11), mv 8 12]))))))) (.cond (.t 8) (seqK [2] (.reg [mv 13 3, cl 14 f_ref02_modulus [13], mv 2 14]) (.ret)) (seqK [1, 3, 7, 15] (seqK [1, 3, 7, 15] (.reg [bc 16 .eql 7 (V.int 7), mv 15 16]) (.cond (.t 15) (.skip) (.reg [bc 17 .eql 7 (V.int 12), mv 15 17]))) (.cond (.t 15) (seqK [] (seqK [3, 35] (.reg [mv 18 3, bc 19 .eql 18 (V.int 160), mv 20 19, mg 21 3 20 false, xg 22 (.bin .eql (.t 21) (.c (V.int 224))) 20 false, xo 23 (.pick (.t 20) (.c (V.bool true)) (.t 22)), mv 24 23, mg 25 3 24 false, xg 26 (.bin .eql (.t 25) (.c (V.int 256))) 24 false, xo 27 (.pick (.t 24) (.c (V.bool true)) (.t 26)), mv 28 27, mg 29 3 28 false, xg 30 (.bin .eql (.t 29) (.c (V.int 384))) 28 false, xo 31 (.pick (.t 28) (.c (V.bool true)) (.t 30)), mv 32 31, mg 33 3 32 false, xg 34 (.bin .eql (.t 33) (.c (V.int 521))) 32 false, xo 35 (.pick (.t 32) (.c (V.bool true)) (.t 34))]) (.cond (.t 35) (seqK [2] (.reg [mv 36 3, bc 37 .quo 36 (V.int 2), mv 2 37]) (.ret)) (.skip))) (seqK [2] (.reg [mc 2 (V.int 0)]) (.ret))) (seqK [1, 3, 7, 38] (.reg [bc 39 .eql 7 (V.int 9), mv 38 39]) (.cond (.t 38) (seqK [2] (.reg [mv 40 3, xo 41 (.bslice 3 1 false [(.int .i64 0)] [(0, (.c (V.int 44))), (1, (.c (V.int 65))), (2, (.c (V.int 87)))]), xo 42 (.bslice 3 1 false [(.int .i64 0)] [(0, (.c (V.int 128))), (1, (.c (V.int 192))), (2, (.c (V.int 256)))]), cl 43 f_ref02_among [40, 41, 42], mv 2 43]) (.ret)) (seqK [1, 3, 7, 44] (.reg [bc 45 .eql 7 (V.int 13), mv 44 45]) (.cond (.t 44) (seqK [2] (.reg [mv 46 3, xo 47 (.bslice 3 1 false [(.int .i64 0)] [(0, (.c (V.int 512))), (1, (.c (V.int 768))), (2, (.c (V.int 1024)))]), xo 48 (.bslice 3 1 false [(.int .i64 0)] [(0, (.c (V.int 128))), (1, (.c (V.int 192))), (2, (.c (V.int 256)))]), cl 49 f_ref02_among [46, 47, 48], mv 2 49]) (.ret)) (seqK [1, 3, 7, 50] (.reg [bc 51 .eql 7 (V.int 14), mv 50 51]) (.cond (.t 50) (seqK [2] (.reg [mv 52 3, xo 53 (.bslice 2 1 false [(.int .i64 0)] [(0, (.c (V.int 40))), (1, (.c (V.int 128)))]), xo 54 (.bslice 2 1 false [(.int .i64 0)] [(0, (.c (V.int 40))), (1, (.c (V.int 60)))]), cl 55 f_ref02_among [52, 53, 54], mv 2 55]) (.ret)) (seqK [1, 3, 7, 56] (.reg [bc 57 .eql 7 (V.int 15), mv 56 57]) (.cond (.t 56) (seqK [2] (.reg [mv 58 3, xo 59 (.bslice 2 1 false [(.int .i64 0)] [(0, (.c (V.int 112))), (1, (.c (V.int 168)))]), xo 60 (.bslice 2 1 false [(.int .i64 0)] [(0, (.c (V.int 80))), (1, (.c (V.int 112)))]), cl 61 f_ref02_among [58, 59, 60], mv 2 61]) (.ret)) (seqK [1, 3, 62] (seqK [1, 3, 7, 62] (.reg [bc 63 .eql 7 (V.int 16), mv 62 63]) (.cond (.t 62) (.skip) (.reg [bc 64 .eql 7 (V.int 17), mv 62 64]))) (.cond (.t 62) (seqK [2] (.reg [mv 65 3, xo 66 (.bslice 2 1 false [(.int .i64 0)] [(0, (.c (V.int 128))), (1, (.c (V.int 256)))]), xo 67 (.bslice 2 1 false [(.int .i64 0)] [(0, (.c (V.int 128))), (1, (.c (V.int 256)))]), cl 68 f_ref02_among [65, 66, 67], mv 2 68]) (.ret)) (.skip))))))))))))))))) (seqK [2] (.reg [mv 69 3, xo 70 (.bslice 1 1 false [(.int .i64 0)] [(0, (.c (V.int 0)))]), fa 71 0 1, ld 72 1 71, cl 73 f_ref02_single [72], xo 74 (.bslice 1 1 false [(.int .i64 0)] [(0, (.t 73))]), cl 75 f_ref02_among [69, 70, 74], mv 2 75]) (.ret)))) def r_ref02_Strength : List ARes := [.tmp 2]
def CE_ref02_Strength (Γ : Env) (f : Nat) : Prop := ∀ (a b : Int), EvN Γ f [.agg [V.int a, V.int b]] (V.int (strengthS a b))
theorem ev_ref02_Strength {Γ : Env} {f f_ref02_modulus f_ref02_among f_ref02_single : Nat} (h : Has Γ.P f 76 (c_ref02_Strength f_ref02_modulus f_ref02_among f_ref02_single) r_ref02_Strength) (h_ref02_modulus : CE_ref02_modulus Γ f_ref02_modulus) (h_ref02_among : CE_ref02_among Γ f_ref02_among) (h_ref02_single : CE_ref02_single Γ f_ref02_single) : CE_ref02_Strength Γ f := by
  intro a b
  refine evN_of_body h (by simp) (by simp only [V.closed, closedL, V.noSl, noSlL, and_self, and_true, true_and]) (by simp only [V.closed, closedL, V.noSl, noSlL, and_self, and_true, true_and]) fun C hC hm => ?_
  subst hC
  unfold c_ref02_Strength
  rw [← refStrength_eq]
  have k1 := h_ref02_among b [44, 65, 87] [128, 192, 256] (by simp) (by simp)
  have k2 := h_ref02_among b [512, 768, 1024] [128, 192, 256] (by simp) (by simp)
  have k3 := h_ref02_among b [40, 128] [40, 60] (by simp) (by simp)
  have k4 := h_ref02_among b [112, 168] [80, 112] (by simp) (by simp)
  have k5 := h_ref02_among b [128, 256] [128, 256] (by simp) (by simp)
  have k6 := h_ref02_among b [0] [singleV a] (by simp) (by simp)
  repeat' (first | refine awp_seqR fun K' hK => ?_ | refine awp_regR fun K' hK => ?_ | refine awp_seqK ?_ | refine awp_skip ?_ | refine awp_block ?_ | ((first | refine awp_cond ⟨_, rfl, fun hc => ?_, fun hc => ?_⟩ | refine awB_t (fun hc => ?_) (fun hc => ?_) | refine awB_f (fun hc => ?_) (fun hc => ?_)) <;> first | exact Bool.noConfusion hc | ((try simp only [decide_eq_true_eq, decide_eq_false_iff_not, beq_iff_eq, beq_eq_false_iff_ne, ne_eq, Bool.not_eq_true', Bool.not_eq_false'] at hc); first | (exfalso; simp only [List.length_map] at hc; omega) | (exfalso; omega) | skip)) | refine awp_ret ?_ | refine awp_exit ?_ | simp (maxSteps := 1000000) only [go_sem, Nat.reduceAdd, Nat.reduceMul, Nat.reduceEqDiff, Nat.reduceLeDiff, Nat.reduceLT, Nat.reduceSub, Int.reduceEq, Int.reduceBEq, Int.reduceLT, Int.reduceLE, Int.reduceAdd, Int.reduceToNat, reduceIte, reduceCtorEq] | (refine hK _ ?_; clear hK; clear K') | refine And.intro ?_ ?_ | (apply awCs_A; (focus (first | exact k1.b | exact k2.b | exact k3.b | exact k4.b | exact k5.b | exact k6.b | exact (h_ref02_modulus _).b | exact (h_ref02_among _ _ _ (by first | assumption | omega | (simp; done)) (by first | assumption | omega | (simp; done))).b | exact (h_ref02_single _).b))) | (simp only [List.length_append, List.length_cons, List.length_nil, List.length_map, Nat.reducePow, Nat.reduceAdd]; omega) | omega | exact List.mem_singleton_self _)
  all_goals (refine ends_r _ rfl ?_; simp only [go_sem, Nat.reduceEqDiff, Nat.reduceAdd, reduceIte, reduceCtorEq]; simp [refStrength, *])
end Av
end
section
set_option linter.unusedSimpArgs false
set_option linter.unusedVariables false
set_option maxRecDepth 10000
set_option maxHeartbeats 4000000
namespace Av
open Go
attribute [local irreducible] AWp runO runP runG awS awC awCv awQ awRd awCallR awCvR awQR awR awRdR awB okR plan ris
end Av
end

/- Ref -/
import Derived.Test.YtkaibdnlbdjhfaaDoorCat
set_option linter.unusedVariables false
set_option linter.unusedSimpArgs false
section
set_option linter.unusedSimpArgs false
set_option linter.unusedVariables false
set_option maxHeartbeats 4000000
set_option maxRecDepth 10000
namespace Av
open Go
attribute [local irreducible] AWp runO runP runG awS awC awCv awQ awRd awCallR awCvR awQR awR awRdR awB okR plan ris
end Av
end
section
set_option linter.unusedSimpArgs false
set_option linter.unusedVariables false
set_option maxRecDepth 10000
set_option maxHeartbeats 4000000
namespace Av
open Go
attribute [local irreducible] AWp runO runP runG awS awC awCv awQ awRd awCallR awCvR awQR awR awRdR awB okR plan ris
theorem itoa_small {n : Int} (h0 : 0 ≤ n) (h1 : n < 10) : Lib.itoa n = [UInt8.ofNat (48 + n.toNat)] := by
  rw [Lib.itoa, if_neg (by omega), Lib.decDigits_one (by omega)]
theorem itoa_big {n : Int} (h1 : 10 ≤ n) : Lib.itoa n = Lib.itoa (n / 10) ++ [UInt8.ofNat (48 + (n % 10).toNat)] := by
  have e : (n / 10).toNat = n.toNat / 10 := by omega
  have e2 : (n % 10).toNat = n.toNat % 10 := by omega
  rw [Lib.itoa, if_neg (by omega), Lib.itoa, if_neg (by omega), Lib.decDigits, dif_neg (by omega), e, e2]
theorem dig_wrap {d : Int} (h0 : 0 ≤ d) (h1 : d < 10) : IntKind.u8.wrap (IntKind.i64.wrap (48 + d)) = 48 + d := by
  rcases (by omega : d = 0 ∨ d = 1 ∨ d = 2 ∨ d = 3 ∨ d = 4 ∨ d = 5 ∨ d = 6 ∨ d = 7 ∨ d = 8 ∨ d = 9) with rfl | rfl | rfl | rfl | rfl | rfl | rfl | rfl | rfl | rfl <;> rfl
theorem dig_val {d : Int} (h0 : 0 ≤ d) (h1 : d < 10) : V.sc (.int .u8 (48 + d)) = V.sc (.int .u8 ((UInt8.ofNat (48 + d.toNat)).toNat)) := by
  rcases (by omega : d = 0 ∨ d = 1 ∨ d = 2 ∨ d = 3 ∨ d = 4 ∨ d = 5 ∨ d = 6 ∨ d = 7 ∨ d = 8 ∨ d = 9) with rfl | rfl | rfl | rfl | rfl | rfl | rfl | rfl | rfl | rfl <;> rfl
theorem one_bytes (c : UInt8) : (∃ l : List UInt8, [V.sc (.int .u8 c.toNat)] = l.map fun c => .sc (.int .u8 c.toNat)) = True := by
  simp only [eq_iff_iff, iff_true]; exact ⟨[c], rfl⟩
theorem byteOf_nat (c : UInt8) : byteOf (.sc (.int .u8 c.toNat)) = c := by simp [byteOf]

-- REGION ref02_Decimal 0: 11 operations, 1 orders, L [], X false, ok true
def o_ref02_Decimal_0 (f_ref02_Decimal : Nat) : List AO := [mv 10 0, bc 11 .quo 10 (V.int 10), cl 12 f_ref02_Decimal [11], mv 13 0, bc 14 .rem 13 (V.int 10), xo 15 (.bin .add (.c (V.int 48)) (.t 14)), xo 16 (.convI .u8 (.t 15)), xo 17 (.bslice 1 1 false [(.int .u8 0)] [(0, (.t 16))]), xo 18 (.convBS (.t 17)), bn 19 .add 12 18, mv 2 19]
def a_ref02_Decimal_0 : List (List Nat) := [[], [0], [1], [], [3], [4], [5], [6], [7], [2, 8], [9, 2, 0, 1, 2, 3, 4, 5, 6, 7, 8, 9]]
def t_ref02_Decimal_0 : OT := .one 0 (.one 1 (.one 2 (.one 3 (.one 4 (.one 5 (.one 6 (.or 7 (.one 8 (.one 9 (.one 10 (.done)))) (.done))))))))
def p_ref02_Decimal_0 (f_ref02_Decimal : Nat) : OP := .one 0 false [] (mv 10 0) (.one 1 false [] (bc 11 .quo 10 (V.int 10)) (.one 2 false [] (cl 12 f_ref02_Decimal [11]) (.one 3 false [] (mv 13 0) (.one 4 false [] (bc 14 .rem 13 (V.int 10)) (.one 5 false [] (xo 15 (.bin .add (.c (V.int 48)) (.t 14))) (.one 6 false [] (xo 16 (.convI .u8 (.t 15))) (.or 7 false [] (xo 17 (.bslice 1 1 false [(.int .u8 0)] [(0, (.t 16))])) (.one 8 false [7] (xo 18 (.convBS (.t 17))) (.one 9 false [7, 2] (bn 19 .add 12 18) (.one 10 false [7, 2] (mv 2 19) (.done)))) (.done))))))))
theorem k_ref02_Decimal_0 (f_ref02_Decimal : Nat) : okR (o_ref02_Decimal_0 f_ref02_Decimal) a_ref02_Decimal_0 [] t_ref02_Decimal_0 = true := by kernel_rfl
theorem q_ref02_Decimal_0 (f_ref02_Decimal : Nat) : plan (ris (o_ref02_Decimal_0 f_ref02_Decimal) a_ref02_Decimal_0 []) t_ref02_Decimal_0 = p_ref02_Decimal_0 f_ref02_Decimal := by kernel_rfl def c_ref02_Decimal (f_ref02_Decimal : Nat) : AC := seqK [0] (.reg [mc 2 (V.str [])]) (seqK [0] (seqK [0, 4] (.reg [mv 3 0, bc 4 .lss 3 (V.int 10)]) (.cond (.t 4) (seqK [2] (.reg [mv 5 0, xo 6 (.bin .add (.c (V.int 48)) (.t 5)), xo 7 (.convI .u8 (.t 6)), xo 8 (.bslice 1 1 false [(.int .u8 0)] [(0, (.t 7))]), xo 9 (.convBS (.t 8)), mv 2 9]) (.ret)) (.skip))) (seqK [2] (regK [] t_ref02_Decimal_0 (p_ref02_Decimal_0 f_ref02_Decimal) (o_ref02_Decimal_0 f_ref02_Decimal) a_ref02_Decimal_0) (.ret))) def r_ref02_Decimal : List ARes := [.tmp 2]
def CE_ref02_Decimal (Γ : Env) (f : Nat) : Prop := ∀ (n : Int) (h0 : 0 ≤ n) (h1 : n ≤ 9223372036854775807), EvN Γ f [V.int n] (V.str (Lib.itoa n))
theorem ev_ref02_Decimal {Γ : Env} {f : Nat} (h : Has Γ.P f 20 (c_ref02_Decimal f) r_ref02_Decimal)  : CE_ref02_Decimal Γ f := by
  suffices H : ∀ (kk : Nat), ∀ (n : Int) (h0 : 0 ≤ n) (h1 : n ≤ 9223372036854775807), n.toNat < kk → EvN Γ f [V.int n] (V.str (Lib.itoa n)) from fun n h0 h1 => H _ n h0 h1 (Nat.lt_succ_self _)
  intro kk; induction kk with
  | zero => intros; rename_i hk; exact absurd hk (Nat.not_lt_zero _)
  | succ kk ih =>
  intro n h0 h1 hk
  refine evN_of_body h (by simp) (by simp only [V.closed, closedL, V.noSl, noSlL, and_self, and_true, true_and]) (by simp only [V.closed, closedL, V.noSl, noSlL, and_self, and_true, true_and]) fun C hC hm => ?_
  subst hC
  unfold c_ref02_Decimal
  by_cases hn : n < 10
  · have e1 := dig_wrap h0 hn
    have e2 := dig_val h0 hn
    have e3 := itoa_small h0 hn
    have e4 : decide (n < 10) = true := by simp [hn]
    repeat' (first | refine awp_seqR fun K' hK => ?_ | refine awp_regR fun K' hK => ?_ | refine awp_seqP 11 (fun _ => true) rfl (k_ref02_Decimal_0 _) (q_ref02_Decimal_0 _) fun K' hK => ?_ | refine awp_regP 11 (fun _ => true) rfl (k_ref02_Decimal_0 _) (q_ref02_Decimal_0 _) fun K' hK => ?_ | refine awp_seqK ?_ | refine awp_skip ?_ | refine awp_block ?_ | ((first | refine awp_cond ⟨_, rfl, fun hc => ?_, fun hc => ?_⟩ | refine awB_t (fun hc => ?_) (fun hc => ?_) | refine awB_f (fun hc => ?_) (fun hc => ?_)) <;> first | exact Bool.noConfusion hc | ((try simp only [decide_eq_true_eq, decide_eq_false_iff_not, beq_iff_eq, beq_eq_false_iff_ne, ne_eq, Bool.not_eq_true', Bool.not_eq_false'] at hc); first | (exfalso; simp only [List.length_map] at hc; omega) | (exfalso; omega) | skip)) | refine awp_ret ?_ | refine awp_exit ?_ | simp (maxSteps := 1000000) only [go_sem, Nat.reduceAdd, Nat.reduceMul, Nat.reduceEqDiff, Nat.reduceLeDiff, Nat.reduceLT, Nat.reduceSub, Int.reduceEq, Int.reduceBEq, Int.reduceLT, Int.reduceLE, Int.reduceAdd, Int.reduceToNat, reduceIte, reduceCtorEq, e1, e2, e4, one_bytes, byteOf_nat, p_ref02_Decimal_0] | (refine hK _ ?_; clear hK; clear K') | refine And.intro ?_ ?_ | ((first | apply awCs_A | apply awCRs_A); (focus (first | exact (ih _ (by first | assumption | omega | (simp; done)) (by first | assumption | omega | (simp; done)) (by first | assumption | omega | (simp; done))).b))) | (simp only [List.length_append, List.length_cons, List.length_nil, List.length_map, Nat.reducePow, Nat.reduceAdd]; omega) | omega | exact List.mem_singleton_self _)
    all_goals first | (refine ends_r _ rfl ?_; simp only [go_sem, Nat.reduceEqDiff, Nat.reduceAdd, reduceIte, reduceCtorEq]; done) | (refine ends_r _ rfl ?_; simp only [go_sem, Nat.reduceEqDiff, Nat.reduceAdd, reduceIte, reduceCtorEq]; simp [e3, *]; done) | (subst hc; refine ends_r _ rfl ?_; simp only [go_sem, Nat.reduceEqDiff, Nat.reduceAdd, reduceIte, reduceCtorEq]; simp [e3, *]; done) | trace_state
  · have e0 : n.tdiv 10 = n / 10 := by rw [Int.tdiv_eq_ediv_of_nonneg h0]
    have e00 : n.tmod 10 = n % 10 := by rw [Int.tmod_eq_emod_of_nonneg h0]
    have e1 := dig_wrap (d := n % 10) (by omega) (by omega)
    have e2 := dig_val (d := n % 10) (by omega) (by omega)
    have e3 := itoa_big (n := n) (by omega)
    have e4 : decide (n < 10) = false := by simp [hn]
    have e5 : IntKind.i64.wrap (n / 10) = n / 10 := wrap_id (by omega) (by omega)
    have hl := Lib.itoa_length_le (n / 10) (by omega) (by omega)
    repeat' (first | refine awp_seqR fun K' hK => ?_ | refine awp_regR fun K' hK => ?_ | refine awp_seqP 11 (fun _ => true) rfl (k_ref02_Decimal_0 _) (q_ref02_Decimal_0 _) fun K' hK => ?_ | refine awp_regP 11 (fun _ => true) rfl (k_ref02_Decimal_0 _) (q_ref02_Decimal_0 _) fun K' hK => ?_ | refine awp_seqK ?_ | refine awp_skip ?_ | refine awp_block ?_ | ((first | refine awp_cond ⟨_, rfl, fun hc => ?_, fun hc => ?_⟩ | refine awB_t (fun hc => ?_) (fun hc => ?_) | refine awB_f (fun hc => ?_) (fun hc => ?_)) <;> first | exact Bool.noConfusion hc | ((try simp only [decide_eq_true_eq, decide_eq_false_iff_not, beq_iff_eq, beq_eq_false_iff_ne, ne_eq, Bool.not_eq_true', Bool.not_eq_false'] at hc); first | (exfalso; simp only [List.length_map] at hc; omega) | (exfalso; omega) | skip)) | refine awp_ret ?_ | refine awp_exit ?_ | simp (maxSteps := 1000000) only [go_sem, Nat.reduceAdd, Nat.reduceMul, Nat.reduceEqDiff, Nat.reduceLeDiff, Nat.reduceLT, Nat.reduceSub, Int.reduceEq, Int.reduceBEq, Int.reduceLT, Int.reduceLE, Int.reduceAdd, Int.reduceToNat, reduceIte, reduceCtorEq, e0, e00, e1, e2, e4, e5, one_bytes, byteOf_nat, p_ref02_Decimal_0] | (refine hK _ ?_; clear hK; clear K') | refine And.intro ?_ ?_ | ((first | apply awCs_A | apply awCRs_A); (focus (first | exact (ih _ (by first | assumption | omega | (simp; done)) (by first | assumption | omega | (simp; done)) (by first | assumption | omega | (simp; done))).b))) | (simp only [List.length_append, List.length_cons, List.length_nil, List.length_map, Nat.reducePow, Nat.reduceAdd]; omega) | omega | exact List.mem_singleton_self _)
    all_goals first | (refine ends_r _ rfl ?_; simp only [go_sem, Nat.reduceEqDiff, Nat.reduceAdd, reduceIte, reduceCtorEq]; done) | (refine ends_r _ rfl ?_; simp only [go_sem, Nat.reduceEqDiff, Nat.reduceAdd, reduceIte, reduceCtorEq]; simp [e3, *]; done) | (subst hc; refine ends_r _ rfl ?_; simp only [go_sem, Nat.reduceEqDiff, Nat.reduceAdd, reduceIte, reduceCtorEq]; simp [e3, *]; done) | trace_state
theorem wrap_u8 {n : Int} (h0 : 0 ≤ n) (h1 : n < 256) : IntKind.u8.wrap n = n := by
  have e1 : IntKind.u8.bits = 8 := rfl
  have e2 : IntKind.u8.signed = false := rfl
  simp only [IntKind.wrap, e1, e2, Bool.false_and]
  simp; omega
def numL (acc : Int) : List UInt8 → Option Int
  | [] => some acc
  | c :: r => if c.toNat < 48 ∨ 57 < c.toNat then none else numL (acc * 10 + ((c.toNat : Int) - 48)) r
def numR (s : List UInt8) : Int × Bool :=
  if s = [] ∨ 15 < s.length ∨ (1 < s.length ∧ s[0]? = some 48) then (0, false)
  else match numL 0 s with | none => (0, false) | some n => (n, true)
def numV (p : Int × Bool) : V := .tup [V.int p.1, V.bool p.2]
theorem pow_le {k : Nat} (h : k ≤ 15) : (10 : Nat) ^ k ≤ 1000000000000000 := Nat.le_trans (Nat.pow_le_pow_right (by omega) h) (by omega)
theorem u8_ofNat_eq (c : UInt8) (h : (c.toNat : Int) = 48) : c = 48 := by
  apply UInt8.toNat_inj.1; simp; omega
def c_ref02_Number : AC := seqK [0] (.reg [mc 2 (V.int 0), mc 3 (V.bool false)]) (seqK [0] (seqK [0, 23] (.reg [mv 6 0, xo 7 (.lenS (.t 6)), bc 8 .eql 7 (V.int 0), mv 9 8, mg 10 0 9 false, xg 11 (.lenS (.t 10)) 9 false, xg 12 (.bin .gtr (.t 11) (.c (V.int 15))) 9 false, xo 13 (.pick (.t 9) (.c (V.bool true)) (.t 12)), mv 14 13, mg 15 0 14 false, xg 16 (.lenS (.t 15)) 14 false, xg 17 (.bin .gtr (.t 16) (.c (V.int 1))) 14 false, mg 18 17 14 false, mg 19 0 18 true, xg 20 (.idxS (.t 19) (.c (V.int 0))) 18 true, xg 21 (.bin .eql (.t 20) (.c (.sc (.int .u8 48)))) 18 true, xg 22 (.pick (.t 18) (.t 21) (.c (V.bool false))) 14 false, xo 23 (.pick (.t 14) (.c (V.bool true)) (.t 22))]) (.cond (.t 23) (seqK [2, 3] (.reg [mc 2 (V.int 0), mc 3 (V.bool false)]) (.ret)) (.skip))) (seqK [0, 4] (.reg [mc 4 (V.int 0)]) (seqK [4] (seqK [0, 4, 5] (.reg [mc 5 (V.int 0)]) (.block 0 (loopK [0, 4, 5] (seqK [0, 4, 5] (seqK [0, 4, 5, 27] (.reg [mv 24 5, mv 25 0, xo 26 (.lenS (.t 25)), bn 27 .lss 24 26]) (.cond (.t 27) (.skip) (.exit 0))) (seqK [0, 4, 5] (.block 1 (seqK [0, 4, 5] (seqK [0, 4, 5, 39] (.reg [mv 30 0, mv 31 5, xo 32 (.idxS (.t 30) (.t 31)), bc 33 .lss 32 (.sc (.int .u8 48)), mv 34 33, mg 35 0 34 false, mg 36 5 34 false, xg 37 (.idxS (.t 35) (.t 36)) 34 false, xg 38 (.bin .gtr (.t 37) (.c (.sc (.int .u8 57)))) 34 false, xo 39 (.pick (.t 34) (.c (V.bool true)) (.t 38))]) (.cond (.t 39) (seqK [2, 3] (.reg [mc 2 (V.int 0), mc 3 (V.bool false)]) (.ret)) (.skip))) (.reg [mv 40 4, bc 41 .mul 40 (V.int 10), mv 42 0, mv 43 5, xo 44 (.idxS (.t 42) (.t 43)), bc 45 .sub 44 (.sc (.int .u8 48)), xo 46 (.convI .i64 (.t 45)), bn 47 .add 41 46, mv 4 47]))) (.reg [mv 28 5, bc 29 .add 28 (V.int 1), mv 5 29])))))) (seqK [2, 3] (.reg [mv 48 4, mv 2 48, mc 3 (V.bool true)]) (.ret))))) def r_ref02_Number : List ARes := [.tmp 2, .tmp 3]
def CE_ref02_Number (Γ : Env) (f : Nat) : Prop := ∀ (s : List UInt8), EvN Γ f [V.str s] (numV (numR s))
theorem ev_ref02_Number {Γ : Env} {f : Nat} (h : Has Γ.P f 49 c_ref02_Number r_ref02_Number)  : CE_ref02_Number Γ f := by
  intro s
  refine evN_of_body h (by simp) (by simp only [numV, V.closed, closedL, V.noSl, noSlL, and_self]) (by simp only [numV, V.closed, closedL, V.noSl, noSlL, and_self]) fun C hC hm => ?_
  subst hC
  unfold c_ref02_Number
  by_cases hbad : s = [] ∨ 15 < s.length ∨ (1 < s.length ∧ s[0]? = some 48)
  · have hr : numR s = (0, false) := by rw [numR, if_pos hbad]
    rw [hr]
    rcases s with _ | ⟨c, r⟩
    · repeat' (first | refine awp_seqR fun K' hK => ?_ | refine awp_regR fun K' hK => ?_ | refine awp_seqK ?_ | refine awp_skip ?_ | refine awp_block ?_ | ((first | refine awp_cond ⟨_, rfl, fun hc => ?_, fun hc => ?_⟩ | refine awB_t (fun hc => ?_) (fun hc => ?_) | refine awB_f (fun hc => ?_) (fun hc => ?_)) <;> first | exact Bool.noConfusion hc | ((try simp only [decide_eq_true_eq, decide_eq_false_iff_not, beq_iff_eq, beq_eq_false_iff_ne, ne_eq, Bool.not_eq_true', Bool.not_eq_false'] at hc); first | (exfalso; simp only [List.length_map] at hc; omega) | (exfalso; omega) | skip)) | refine awp_ret ?_ | refine awp_exit ?_ | simp (maxSteps := 1000000) only [go_sem, Nat.reduceAdd, Nat.reduceMul, Nat.reduceEqDiff, Nat.reduceLeDiff, Nat.reduceLT, Nat.reduceSub, Int.reduceEq, Int.reduceBEq, Int.reduceLT, Int.reduceLE, Int.reduceAdd, Int.reduceToNat, reduceIte, reduceCtorEq] | (refine hK _ ?_; clear hK; clear K') | refine And.intro ?_ ?_ | (simp only [List.length_append, List.length_cons, List.length_nil, List.length_map, Nat.reducePow, Nat.reduceAdd]; omega) | omega | exact List.mem_singleton_self _)
      all_goals first | (simp only [numV]; refine ends_r _ rfl ?_; simp only [go_sem, Nat.reduceEqDiff, Nat.reduceAdd, reduceIte, reduceCtorEq]; done) | trace_state
    · have hl3 : ((((r.length + 1 : Nat) : Int)) == 0) = false := by simp; omega
      by_cases hl : 15 < (c :: r).length
      · have hl4 : decide ((((r.length + 1 : Nat) : Int)) > 15) = true := by simp at hl ⊢; omega
        repeat' (first | refine awp_seqR fun K' hK => ?_ | refine awp_regR fun K' hK => ?_ | refine awp_seqK ?_ | refine awp_skip ?_ | refine awp_block ?_ | ((first | refine awp_cond ⟨_, rfl, fun hc => ?_, fun hc => ?_⟩ | refine awB_t (fun hc => ?_) (fun hc => ?_) | refine awB_f (fun hc => ?_) (fun hc => ?_)) <;> first | exact Bool.noConfusion hc | ((try simp only [decide_eq_true_eq, decide_eq_false_iff_not, beq_iff_eq, beq_eq_false_iff_ne, ne_eq, Bool.not_eq_true', Bool.not_eq_false'] at hc); first | (exfalso; simp only [List.length_map] at hc; omega) | (exfalso; omega) | skip)) | refine awp_ret ?_ | refine awp_exit ?_ | simp (maxSteps := 1000000) only [go_sem, Nat.reduceAdd, Nat.reduceMul, Nat.reduceEqDiff, Nat.reduceLeDiff, Nat.reduceLT, Nat.reduceSub, Int.reduceEq, Int.reduceBEq, Int.reduceLT, Int.reduceLE, Int.reduceAdd, Int.reduceToNat, reduceIte, reduceCtorEq, hl3, hl4] | (refine hK _ ?_; clear hK; clear K') | refine And.intro ?_ ?_ | (simp only [List.length_append, List.length_cons, List.length_nil, List.length_map, Nat.reducePow, Nat.reduceAdd]; omega) | omega | exact List.mem_singleton_self _)
        all_goals first | (simp only [numV]; refine ends_r _ rfl ?_; simp only [go_sem, Nat.reduceEqDiff, Nat.reduceAdd, reduceIte, reduceCtorEq]; done) | trace_state
      · have hc : 1 < (c :: r).length ∧ c = 48 := by
          rcases hbad with h | h | h
          · simp at h
          · omega
          · simpa using h
        obtain ⟨hc1, rfl⟩ := hc
        have hl4 : decide ((((r.length + 1 : Nat) : Int)) > 15) = false := by simp at hl ⊢; omega
        have hl5 : decide ((((r.length + 1 : Nat) : Int)) > 1) = true := by simp at hc1 ⊢; omega
        have hl6 : ((((48 : UInt8).toNat : Int)) == 48) = true := rfl
        repeat' (first | refine awp_seqR fun K' hK => ?_ | refine awp_regR fun K' hK => ?_ | refine awp_seqK ?_ | refine awp_skip ?_ | refine awp_block ?_ | ((first | refine awp_cond ⟨_, rfl, fun hc => ?_, fun hc => ?_⟩ | refine awB_t (fun hc => ?_) (fun hc => ?_) | refine awB_f (fun hc => ?_) (fun hc => ?_)) <;> first | exact Bool.noConfusion hc | ((try simp only [decide_eq_true_eq, decide_eq_false_iff_not, beq_iff_eq, beq_eq_false_iff_ne, ne_eq, Bool.not_eq_true', Bool.not_eq_false'] at hc); first | (exfalso; simp only [List.length_map] at hc; omega) | (exfalso; omega) | skip)) | refine awp_ret ?_ | refine awp_exit ?_ | simp (maxSteps := 1000000) only [go_sem, Nat.reduceAdd, Nat.reduceMul, Nat.reduceEqDiff, Nat.reduceLeDiff, Nat.reduceLT, Nat.reduceSub, Int.reduceEq, Int.reduceBEq, Int.reduceLT, Int.reduceLE, Int.reduceAdd, Int.reduceToNat, reduceIte, reduceCtorEq, hl3, hl4, hl5, hl6] | (refine hK _ ?_; clear hK; clear K') | refine And.intro ?_ ?_ | (simp only [List.length_append, List.length_cons, List.length_nil, List.length_map, Nat.reducePow, Nat.reduceAdd]; omega) | omega | exact List.mem_singleton_self _)
        all_goals first
          | (exfalso; exact hc rfl)
          | (simp only [numV]; refine ends_r _ rfl ?_; simp only [go_sem, Nat.reduceEqDiff, Nat.reduceAdd, reduceIte, reduceCtorEq])
  · obtain ⟨c0, r0, hs0⟩ : ∃ c r, s = c :: r := by
      rcases s with _ | ⟨c, r⟩
      · simp at hbad
      · exact ⟨_, _, rfl⟩
    have hl3 : ((s.length : Int) == 0) = false := by rw [hs0]; simp; omega
    have hl15 : s.length ≤ 15 := by omega
    have hl4 : decide ((s.length : Int) > 15) = false := by simp; omega
    have hg0 : s[0]? = some c0 := by rw [hs0]; rfl
    have hl6 : 1 < s.length → (c0.toNat : Int) ≠ 48 := fun h1 h => hbad (.inr (.inr ⟨h1, by rw [hg0, u8_ofNat_eq c0 h]⟩))
    have hr : numR s = (match numL 0 s with | none => (0, false) | some n => (n, true)) := by rw [numR, if_neg hbad]
    rw [hr]
    repeat' (first | refine awp_seqR fun K' hK => ?_ | refine awp_regR fun K' hK => ?_ | refine awp_seqK ?_ | refine awp_skip ?_ | refine awp_block ?_ | ((first | refine awp_cond ⟨_, rfl, fun hc => ?_, fun hc => ?_⟩ | refine awB_t (fun hc => ?_) (fun hc => ?_) | refine awB_f (fun hc => ?_) (fun hc => ?_)) <;> first | exact Bool.noConfusion hc | ((try simp only [decide_eq_true_eq, decide_eq_false_iff_not, beq_iff_eq, beq_eq_false_iff_ne, ne_eq, Bool.not_eq_true', Bool.not_eq_false'] at hc); first | (exfalso; simp only [List.length_map] at hc; omega) | (exfalso; omega) | skip)) | refine awp_ret ?_ | refine awp_exit ?_ | simp (maxSteps := 1000000) only [go_sem, Nat.reduceAdd, Nat.reduceMul, Nat.reduceEqDiff, Nat.reduceLeDiff, Nat.reduceLT, Nat.reduceSub, Int.reduceEq, Int.reduceBEq, Int.reduceLT, Int.reduceLE, Int.reduceAdd, Int.reduceToNat, reduceIte, reduceCtorEq, hl3, hl4, hg0, Int.toNat_zero] | (refine hK _ ?_; clear hK; clear K') | refine And.intro ?_ ?_ | (simp only [List.length_append, List.length_cons, List.length_nil, List.length_map, Nat.reducePow, Nat.reduceAdd]; omega) | omega | exact List.mem_singleton_self _)
    all_goals first
      | (exfalso; have := hl6 (by omega); omega)
      | skip
    all_goals
      refine awp_loopP (ι := Nat × Int) (fun p => p.1 ≤ s.length ∧ 0 ≤ p.2 ∧ p.2 < ((10 ^ p.1 : Nat) : Int) ∧ numL p.2 (s.drop p.1) = numL 0 s) (fun p => [(5, V.int p.1), (4, V.int p.2)]) (fun p => s.length - p.1) (0, 0) (by omega) ⟨by simp, by simp, by simp, by simp⟩ (by repeat' first | exact ltO_none | refine ltO_upd (by omega) (by simp only [Ob.lt, ltL, V.lt, and_self, and_true]; try omega) ?_) (fun i hi => by simp only [ovT, lookD, Nat.reduceEqDiff, reduceIte]; (repeat' first | exact ltT_nil | refine ltT_cons ?_ ?_ | simp only [V.lt, ltL, and_self, and_true] | omega)) (by simp only [Nat.reduceAdd, ovT, lookD, Nat.reduceEqDiff, reduceIte, eqT_cons, eqT_nil, renI, u32, u33, u34, u35, u36, u37, u38, u39, and_self, and_true, true_and]; rfl) fun p hk K' hL => ?_
      obtain ⟨k, n⟩ := p
      obtain ⟨hk, hn0, hn1, hinv⟩ := hk
      simp only [ovT, lookD, Nat.reduceEqDiff, reduceIte] at *
    all_goals
      rcases hd : s.drop k with _ | ⟨c, r⟩
      · have hk' := drop_nil hd
        rw [hd] at hinv
        repeat' (first | refine awp_seqR fun K' hK => ?_ | refine awp_regR fun K' hK => ?_ | refine awp_seqK ?_ | refine awp_skip ?_ | refine awp_block ?_ | ((first | refine awp_cond ⟨_, rfl, fun hc => ?_, fun hc => ?_⟩ | refine awB_t (fun hc => ?_) (fun hc => ?_) | refine awB_f (fun hc => ?_) (fun hc => ?_)) <;> first | exact Bool.noConfusion hc | ((try simp only [decide_eq_true_eq, decide_eq_false_iff_not, beq_iff_eq, beq_eq_false_iff_ne, ne_eq, Bool.not_eq_true', Bool.not_eq_false'] at hc); first | (exfalso; simp only [List.length_map] at hc; omega) | (exfalso; omega) | skip)) | refine awp_ret ?_ | refine awp_exit ?_ | simp (maxSteps := 1000000) only [go_sem, Nat.reduceAdd, Nat.reduceMul, Nat.reduceEqDiff, Nat.reduceLeDiff, Nat.reduceLT, Nat.reduceSub, Int.reduceEq, Int.reduceBEq, Int.reduceLT, Int.reduceLE, Int.reduceAdd, Int.reduceToNat, reduceIte, reduceCtorEq] | (refine hK _ ?_; clear hK; clear K') | refine And.intro ?_ ?_ | (simp only [List.length_append, List.length_cons, List.length_nil, List.length_map, Nat.reducePow, Nat.reduceAdd]; omega) | omega | exact List.mem_singleton_self _)
        rw [← hinv]
        simp only [numL, numV]
        refine ends_r _ rfl ?_; simp only [go_sem, Nat.reduceEqDiff, Nat.reduceAdd, reduceIte, reduceCtorEq]
      · obtain ⟨hk', hget, hrd⟩ := drop_cons hd
        rw [hd] at hinv
        have hw := wrap_succ (k := k) (by omega)
        have hp := pow_le (k := k) (by omega)
        have hps : (10 : Nat) ^ (k + 1) = 10 ^ k * 10 := Nat.pow_succ ..
        by_cases hdig : 48 ≤ c.toNat ∧ c.toNat ≤ 57
        · have e1 : IntKind.i64.wrap (n * 10) = n * 10 := wrap_id (by omega) (by omega)
          have e2 : IntKind.u8.wrap ((c.toNat : Int) - 48) = (c.toNat : Int) - 48 := wrap_u8 (by omega) (by omega)
          have e3 : IntKind.i64.wrap ((c.toNat : Int) - 48) = (c.toNat : Int) - 48 := wrap_id (by omega) (by omega)
          have e4 : IntKind.i64.wrap (n * 10 + ((c.toNat : Int) - 48)) = n * 10 + ((c.toNat : Int) - 48) := wrap_id (by omega) (by omega)
          have e5 : decide ((c.toNat : Int) < 48) = false := by simp; omega
          have e6 : decide ((c.toNat : Int) > 57) = false := by simp; omega
          repeat' (first | refine awp_seqR fun K' hK => ?_ | refine awp_regR fun K' hK => ?_ | refine awp_seqK ?_ | refine awp_skip ?_ | refine awp_block ?_ | ((first | refine awp_cond ⟨_, rfl, fun hc => ?_, fun hc => ?_⟩ | refine awB_t (fun hc => ?_) (fun hc => ?_) | refine awB_f (fun hc => ?_) (fun hc => ?_)) <;> first | exact Bool.noConfusion hc | ((try simp only [decide_eq_true_eq, decide_eq_false_iff_not, beq_iff_eq, beq_eq_false_iff_ne, ne_eq, Bool.not_eq_true', Bool.not_eq_false'] at hc); first | (exfalso; simp only [List.length_map] at hc; omega) | (exfalso; omega) | skip)) | refine awp_ret ?_ | refine awp_exit ?_ | simp (maxSteps := 1000000) only [go_sem, Nat.reduceAdd, Nat.reduceMul, Nat.reduceEqDiff, Nat.reduceLeDiff, Nat.reduceLT, Nat.reduceSub, Int.reduceEq, Int.reduceBEq, Int.reduceLT, Int.reduceLE, Int.reduceAdd, Int.reduceToNat, reduceIte, reduceCtorEq, Int.toNat_natCast, hget, hw, e1, e2, e3, e4, e5, e6] | (refine hK _ ?_; clear hK; clear K') | refine And.intro ?_ ?_ | (simp only [List.length_append, List.length_cons, List.length_nil, List.length_map, Nat.reducePow, Nat.reduceAdd]; omega) | omega | exact List.mem_singleton_self _)
          refine hL _ (k + 1, n * 10 + ((c.toNat : Int) - 48)) (by simp only [Nat.reduceAdd, ovT, lookD, Nat.reduceEqDiff, reduceIte, eqT_cons, eqT_nil, renI, u32, u33, u34, u35, u36, u37, u38, u39, and_self, and_true, true_and]) ⟨by omega, by omega, ?_, ?_⟩ (by omega) (fun a ha => by simp only [u32, u33, u34, u35, u36, u37, u38, u39]; repeat rw [if_neg (by omega)])
          · show n * 10 + ((c.toNat : Int) - 48) < ((10 ^ (k + 1) : Nat) : Int)
            rw [hps]; omega
          · show numL (n * 10 + ((c.toNat : Int) - 48)) (s.drop (k + 1)) = numL 0 s
            rw [hrd, ← hinv, numL, if_neg (by omega)]
        · have hno : numL n (c :: r) = none := by rw [numL, if_pos (by omega)]
          rw [hno] at hinv
          by_cases e5 : c.toNat < 48
          · have e6 : decide ((c.toNat : Int) < 48) = true := by simp; omega
            repeat' (first | refine awp_seqR fun K' hK => ?_ | refine awp_regR fun K' hK => ?_ | refine awp_seqK ?_ | refine awp_skip ?_ | refine awp_block ?_ | ((first | refine awp_cond ⟨_, rfl, fun hc => ?_, fun hc => ?_⟩ | refine awB_t (fun hc => ?_) (fun hc => ?_) | refine awB_f (fun hc => ?_) (fun hc => ?_)) <;> first | exact Bool.noConfusion hc | ((try simp only [decide_eq_true_eq, decide_eq_false_iff_not, beq_iff_eq, beq_eq_false_iff_ne, ne_eq, Bool.not_eq_true', Bool.not_eq_false'] at hc); first | (exfalso; simp only [List.length_map] at hc; omega) | (exfalso; omega) | skip)) | refine awp_ret ?_ | refine awp_exit ?_ | simp (maxSteps := 1000000) only [go_sem, Nat.reduceAdd, Nat.reduceMul, Nat.reduceEqDiff, Nat.reduceLeDiff, Nat.reduceLT, Nat.reduceSub, Int.reduceEq, Int.reduceBEq, Int.reduceLT, Int.reduceLE, Int.reduceAdd, Int.reduceToNat, reduceIte, reduceCtorEq, Int.toNat_natCast, hget, hw, e6] | (refine hK _ ?_; clear hK; clear K') | refine And.intro ?_ ?_ | (simp only [List.length_append, List.length_cons, List.length_nil, List.length_map, Nat.reducePow, Nat.reduceAdd]; omega) | omega | exact List.mem_singleton_self _)
            all_goals (rw [← hinv]; simp only [numV]; refine ends_r _ rfl ?_; simp only [go_sem, Nat.reduceEqDiff, Nat.reduceAdd, reduceIte, reduceCtorEq])
          · have e6 : decide ((c.toNat : Int) < 48) = false := by simp; omega
            have e7 : decide ((c.toNat : Int) > 57) = true := by simp; omega
            repeat' (first | refine awp_seqR fun K' hK => ?_ | refine awp_regR fun K' hK => ?_ | refine awp_seqK ?_ | refine awp_skip ?_ | refine awp_block ?_ | ((first | refine awp_cond ⟨_, rfl, fun hc => ?_, fun hc => ?_⟩ | refine awB_t (fun hc => ?_) (fun hc => ?_) | refine awB_f (fun hc => ?_) (fun hc => ?_)) <;> first | exact Bool.noConfusion hc | ((try simp only [decide_eq_true_eq, decide_eq_false_iff_not, beq_iff_eq, beq_eq_false_iff_ne, ne_eq, Bool.not_eq_true', Bool.not_eq_false'] at hc); first | (exfalso; simp only [List.length_map] at hc; omega) | (exfalso; omega) | skip)) | refine awp_ret ?_ | refine awp_exit ?_ | simp (maxSteps := 1000000) only [go_sem, Nat.reduceAdd, Nat.reduceMul, Nat.reduceEqDiff, Nat.reduceLeDiff, Nat.reduceLT, Nat.reduceSub, Int.reduceEq, Int.reduceBEq, Int.reduceLT, Int.reduceLE, Int.reduceAdd, Int.reduceToNat, reduceIte, reduceCtorEq, Int.toNat_natCast, hget, hw, e6, e7] | (refine hK _ ?_; clear hK; clear K') | refine And.intro ?_ ?_ | (simp only [List.length_append, List.length_cons, List.length_nil, List.length_map, Nat.reducePow, Nat.reduceAdd]; omega) | omega | exact List.mem_singleton_self _)
            all_goals (rw [← hinv]; simp only [numV]; refine ends_r _ rfl ?_; simp only [go_sem, Nat.reduceEqDiff, Nat.reduceAdd, reduceIte, reduceCtorEq])
end Av
end

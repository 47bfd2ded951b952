/- Ref -/
import Derived.Test.YtmclfdgmbfdacaaDoorCat
set_option linter.unusedVariables false
set_option linter.unusedSimpArgs false
section
set_option linter.unusedSimpArgs false
set_option linter.unusedVariables false
set_option maxHeartbeats 4000000
set_option maxRecDepth 10000
namespace Av
open Go
attribute [local irreducible] AWp runO runP runG awS awC awCv awQ awRd awCallR awCvR awQR awR awRdR awB okR plan ris
def refRow (r : CRow) : V := .agg [V.str r.name, V.int r.kind]
def refRows : List V := rowsL.map refRow
theorem refRows_get {k : Nat} {r : CRow} (h : rowsL[k]? = some r) : refRows[k]? = some (refRow r) := by
  rw [refRows, List.getElem?_map, h]; rfl
def c_ref02_rows : AC := seqK [] (.reg [xo 0 (.mknil 2)]) (seqK [0] (.reg [xo 1 (.build [(.string ⟨#[]⟩), (.int .i64 0)] []), xo 2 (.build [(.string ⟨#[]⟩), (.int .i64 0)] [(0, 1, (.c (V.str [109, 100, 53]))), (1, 1, (.c (V.int 1)))]), xo 3 (.build [(.string ⟨#[]⟩), (.int .i64 0)] [(0, 1, (.c (V.str [115, 104, 97, 49]))), (1, 1, (.c (V.int 1)))]), xo 4 (.build [(.string ⟨#[]⟩), (.int .i64 0)] [(0, 1, (.c (V.str [115, 104, 97, 50, 53, 54]))), (1, 1, (.c (V.int 1)))]), xo 5 (.build [(.string ⟨#[]⟩), (.int .i64 0)] [(0, 1, (.c (V.str [115, 104, 97, 51, 56, 52]))), (1, 1, (.c (V.int 1)))]), xo 6 (.build [(.string ⟨#[]⟩), (.int .i64 0)] [(0, 1, (.c (V.str [114, 115, 97]))), (1, 1, (.c (V.int 2)))]), xo 7 (.build [(.string ⟨#[]⟩), (.int .i64 0)] [(0, 1, (.c (V.str [100, 115, 97]))), (1, 1, (.c (V.int 2)))]), xo 8 (.build [(.string ⟨#[]⟩), (.int .i64 0)] [(0, 1, (.c (V.str [101, 99, 100, 115, 97]))), (1, 1, (.c (V.int 2)))]), xo 9 (.build [(.string ⟨#[]⟩), (.int .i64 0)] [(0, 1, (.c (V.str [101, 100, 50, 53, 53, 49, 57]))), (1, 1, (.c (V.int 2)))]), xo 10 (.build [(.string ⟨#[]⟩), (.int .i64 0)] [(0, 1, (.c (V.str [109, 108, 100, 115, 97]))), (1, 1, (.c (V.int 2)))]), xo 11 (.build [(.string ⟨#[]⟩), (.int .i64 0)] [(0, 1, (.c (V.str [114, 115, 97, 107, 120]))), (1, 1, (.c (V.int 3)))]), xo 12 (.build [(.string ⟨#[]⟩), (.int .i64 0)] [(0, 1, (.c (V.str [100, 104, 101]))), (1, 1, (.c (V.int 3)))]), xo 13 (.build [(.string ⟨#[]⟩), (.int .i64 0)] [(0, 1, (.c (V.str [101, 99, 100, 104, 101]))), (1, 1, (.c (V.int 3)))]), xo 14 (.build [(.string ⟨#[]⟩), (.int .i64 0)] [(0, 1, (.c (V.str [109, 108, 107, 101, 109]))), (1, 1, (.c (V.int 3)))]), xo 15 (.build [(.string ⟨#[]⟩), (.int .i64 0)] [(0, 1, (.c (V.str [114, 99, 52]))), (1, 1, (.c (V.int 4)))]), xo 16 (.build [(.string ⟨#[]⟩), (.int .i64 0)] [(0, 1, (.c (V.str [100, 101, 115, 51]))), (1, 1, (.c (V.int 4)))]), xo 17 (.build [(.string ⟨#[]⟩), (.int .i64 0)] [(0, 1, (.c (V.str [97, 101, 115, 99, 98, 99]))), (1, 1, (.c (V.int 4)))]), xo 18 (.build [(.string ⟨#[]⟩), (.int .i64 0)] [(0, 1, (.c (V.str [97, 101, 115, 103, 99, 109]))), (1, 1, (.c (V.int 4)))]), xo 19 (.build [(.string ⟨#[]⟩), (.int .i64 0)] [(0, 1, (.c (V.str [99, 104, 97, 99, 104, 97]))), (1, 1, (.c (V.int 4)))]), xo 20 (.build [(.string ⟨#[]⟩), (.int .i64 0)] [(0, 1, (.c (V.str [104, 109, 97, 99, 109, 100, 53]))), (1, 1, (.c (V.int 5)))]), xo 21 (.build [(.string ⟨#[]⟩), (.int .i64 0)] [(0, 1, (.c (V.str [104, 109, 97, 99, 115, 104, 97, 49]))), (1, 1, (.c (V.int 5)))]), xo 22 (.build [(.string ⟨#[]⟩), (.int .i64 0)] [(0, 1, (.c (V.str [104, 109, 97, 99, 115, 104, 97, 50, 53, 54]))), (1, 1, (.c (V.int 5)))]), xo 23 (.build [(.string ⟨#[]⟩), (.int .i64 0)] [(0, 1, (.c (V.str [97, 101, 97, 100]))), (1, 1, (.c (V.int 5)))]), xo 24 (.bslice 23 2 true [(.string ⟨#[]⟩), (.int .i64 0)] [(0, (.t 1)), (1, (.t 2)), (2, (.t 3)), (3, (.t 4)), (4, (.t 5)), (5, (.t 6)), (6, (.t 7)), (7, (.t 8)), (8, (.t 9)), (9, (.t 10)), (10, (.t 11)), (11, (.t 12)), (12, (.t 13)), (13, (.t 14)), (14, (.t 15)), (15, (.t 16)), (16, (.t 17)), (17, (.t 18)), (18, (.t 19)), (19, (.t 20)), (20, (.t 21)), (21, (.t 22)), (22, (.t 23))]), mv 0 24]) (.ret)) def r_ref02_rows : List ARes := [.tmp 0]
def CE_ref02_rows (Γ : Env) (f : Nat) : Prop := EvC Γ f [] (.sl 2 refRows)
theorem ev_ref02_rows {Γ : Env} {f : Nat} (h : Has Γ.P f 25 c_ref02_rows r_ref02_rows)  : CE_ref02_rows Γ f := by
  refine evC_of_body h (by simp) (by simp only [V.closed]) fun C hC hm => ?_
  subst hC
  unfold c_ref02_rows
  repeat' (first | refine awp_seqR fun K' hK => ?_ | refine awp_regR fun K' hK => ?_ | refine awp_seqK ?_ | refine awp_skip ?_ | refine awp_block ?_ | ((first | refine awp_cond ⟨_, rfl, fun hc => ?_, fun hc => ?_⟩ | refine awB_t (fun hc => ?_) (fun hc => ?_) | refine awB_f (fun hc => ?_) (fun hc => ?_)) <;> first | exact Bool.noConfusion hc | ((try simp only [decide_eq_true_eq, decide_eq_false_iff_not, beq_iff_eq, beq_eq_false_iff_ne, ne_eq, Bool.not_eq_true', Bool.not_eq_false'] at hc); first | (exfalso; simp only [List.length_map] at hc; omega) | (exfalso; omega) | skip)) | refine awp_ret ?_ | refine awp_exit ?_ | simp (maxSteps := 1000000) only [go_sem, Nat.reduceAdd, Nat.reduceMul, Nat.reduceEqDiff, Nat.reduceLeDiff, Nat.reduceLT, Nat.reduceSub, Int.reduceEq, Int.reduceBEq, Int.reduceLT, Int.reduceLE, Int.reduceAdd, Int.reduceToNat, reduceIte, reduceCtorEq] | (refine hK _ ?_; clear hK; clear K') | refine And.intro ?_ ?_ | (simp only [List.length_append, List.length_cons, List.length_nil, List.length_map, Nat.reducePow, Nat.reduceAdd]; omega) | omega | exact List.mem_singleton_self _)
  refine ends_r _ rfl ?_; simp only [go_sem, Nat.reduceEqDiff, Nat.reduceAdd, reduceIte, reduceCtorEq]
  rfl
theorem find_one (s : List UInt8) : findR s 1 (rowsL.drop 1) = findR s 0 rowsL := by rfl
def c_ref02_Find (f_ref02_rows : Nat) : AC := seqK [0] (.reg [mc 2 (V.int 0)]) (seqK [] (seqK [0, 3] (.reg [mc 3 (V.int 1)]) (.block 0 (loopK [0, 3] (seqK [0, 3] (seqK [0, 3, 5] (.reg [mv 4 3, bc 5 .leq 4 (V.int 22)]) (.cond (.t 5) (.skip) (.exit 0))) (seqK [0, 3] (.block 1 (seqK [0, 3, 14] (.reg [cl 8 f_ref02_rows [], mv 9 3, ia 10 2 8 9, fa 11 0 10, ld 12 1 11, mv 13 0, bn 14 .eql 12 13]) (.cond (.t 14) (seqK [2] (.reg [mv 15 3, mv 2 15]) (.ret)) (.skip)))) (.reg [mv 6 3, bc 7 .add 6 (V.int 1), mv 3 7])))))) (seqK [2] (.reg [mc 2 (V.int 0)]) (.ret))) def r_ref02_Find : List ARes := [.tmp 2]
def CE_ref02_Find (Γ : Env) (f : Nat) : Prop := ∀ (s : List UInt8), EvN Γ f [V.str s] (V.int (findR s 0 rowsL))
theorem ev_ref02_Find {Γ : Env} {f f_ref02_rows : Nat} (h : Has Γ.P f 16 (c_ref02_Find f_ref02_rows) r_ref02_Find) (h_ref02_rows : CE_ref02_rows Γ f_ref02_rows) : CE_ref02_Find Γ f := by
  intro s
  refine evN_of_body h (by simp) (by simp only [V.closed, closedL, V.noSl, noSlL, and_self, and_true, true_and]) (by simp only [V.closed, closedL, V.noSl, noSlL, and_self, and_true, true_and]) fun C hC hm => ?_
  subst hC
  unfold c_ref02_Find
  repeat' (first | refine awp_seqR fun K' hK => ?_ | refine awp_regR fun K' hK => ?_ | refine awp_seqK ?_ | refine awp_skip ?_ | refine awp_block ?_ | ((first | refine awp_cond ⟨_, rfl, fun hc => ?_, fun hc => ?_⟩ | refine awB_t (fun hc => ?_) (fun hc => ?_) | refine awB_f (fun hc => ?_) (fun hc => ?_)) <;> first | exact Bool.noConfusion hc | ((try simp only [decide_eq_true_eq, decide_eq_false_iff_not, beq_iff_eq, beq_eq_false_iff_ne, ne_eq, Bool.not_eq_true', Bool.not_eq_false'] at hc); first | (exfalso; simp only [List.length_map] at hc; omega) | (exfalso; omega) | skip)) | refine awp_ret ?_ | refine awp_exit ?_ | simp (maxSteps := 1000000) only [go_sem, Nat.reduceAdd, Nat.reduceMul, Nat.reduceEqDiff, Nat.reduceLeDiff, Nat.reduceLT, Nat.reduceSub, Int.reduceEq, Int.reduceBEq, Int.reduceLT, Int.reduceLE, Int.reduceAdd, Int.reduceToNat, reduceIte, reduceCtorEq] | (refine hK _ ?_; clear hK; clear K') | refine And.intro ?_ ?_ | (apply awCs_A; (focus (first | exact EvC.b h_ref02_rows))) | (simp only [List.length_append, List.length_cons, List.length_nil, List.length_map, Nat.reducePow, Nat.reduceAdd]; omega) | omega | exact List.mem_singleton_self _)
  refine awp_loopP (ι := Nat) (fun k => 1 ≤ k ∧ k ≤ 23 ∧ findR s k (rowsL.drop k) = findR s 0 rowsL) (fun k => [(3, V.int k)]) (fun k => 23 - k) 1 (by omega) ⟨by simp, by simp, find_one s⟩ (by repeat' first | exact ltO_none | refine ltO_upd (by omega) (by simp only [Ob.lt, ltL, V.lt, and_self, and_true]; try omega) ?_) (fun i hi => by simp only [ovT, lookD, Nat.reduceEqDiff, reduceIte]; (repeat' first | exact ltT_nil | refine ltT_cons ?_ ?_ | simp only [V.lt, ltL, and_self, and_true] | omega)) (by simp only [Nat.reduceAdd, ovT, lookD, Nat.reduceEqDiff, reduceIte, eqT_cons, eqT_nil, renI, u32, u33, u34, u35, u36, u37, u38, u39, and_self, and_true, true_and]; rfl) fun k hk K' hL => ?_
  obtain ⟨hk1, hk, hinv⟩ := hk
  have hl : rowsL.length = 23 := rfl
  simp only [ovT, lookD, Nat.reduceEqDiff, reduceIte]
  by_cases hk2 : k = 23
  · subst hk2
    repeat' (first | refine awp_seqR fun K' hK => ?_ | refine awp_regR fun K' hK => ?_ | refine awp_seqK ?_ | refine awp_skip ?_ | refine awp_block ?_ | ((first | refine awp_cond ⟨_, rfl, fun hc => ?_, fun hc => ?_⟩ | refine awB_t (fun hc => ?_) (fun hc => ?_) | refine awB_f (fun hc => ?_) (fun hc => ?_)) <;> first | exact Bool.noConfusion hc | ((try simp only [decide_eq_true_eq, decide_eq_false_iff_not, beq_iff_eq, beq_eq_false_iff_ne, ne_eq, Bool.not_eq_true', Bool.not_eq_false'] at hc); first | (exfalso; simp only [List.length_map] at hc; omega) | (exfalso; omega) | skip)) | refine awp_ret ?_ | refine awp_exit ?_ | simp (maxSteps := 1000000) only [go_sem, Nat.reduceAdd, Nat.reduceMul, Nat.reduceEqDiff, Nat.reduceLeDiff, Nat.reduceLT, Nat.reduceSub, Int.reduceEq, Int.reduceBEq, Int.reduceLT, Int.reduceLE, Int.reduceAdd, Int.reduceToNat, reduceIte, reduceCtorEq] | (refine hK _ ?_; clear hK; clear K') | refine And.intro ?_ ?_ | (apply awCs_A; (focus (first | exact EvC.b h_ref02_rows))) | (simp only [List.length_append, List.length_cons, List.length_nil, List.length_map, Nat.reducePow, Nat.reduceAdd]; omega) | omega | exact List.mem_singleton_self _)
    refine ends_r _ rfl ?_; simp only [go_sem, Nat.reduceEqDiff, Nat.reduceAdd, reduceIte, reduceCtorEq]
    rw [← hinv]; rfl
  · obtain ⟨r, hr⟩ : ∃ r, rowsL[k]? = some r := ⟨rowsL[k]'(by omega), List.getElem?_eq_getElem (by omega)⟩
    have hg := refRows_get hr
    have hd : rowsL.drop k = r :: rowsL.drop (k + 1) := by
      rw [List.drop_eq_getElem_cons (by omega)]
      rw [List.getElem?_eq_getElem (by omega)] at hr
      cases hr; rfl
    have hw := wrap_succ (k := k) (by omega)
    rw [hd] at hinv
    repeat' (first | refine awp_seqR fun K' hK => ?_ | refine awp_regR fun K' hK => ?_ | refine awp_seqK ?_ | refine awp_skip ?_ | refine awp_block ?_ | ((first | refine awp_cond ⟨_, rfl, fun hc => ?_, fun hc => ?_⟩ | refine awB_t (fun hc => ?_) (fun hc => ?_) | refine awB_f (fun hc => ?_) (fun hc => ?_)) <;> first | exact Bool.noConfusion hc | ((try simp only [decide_eq_true_eq, decide_eq_false_iff_not, beq_iff_eq, beq_eq_false_iff_ne, ne_eq, Bool.not_eq_true', Bool.not_eq_false'] at hc); first | (exfalso; simp only [List.length_map] at hc; omega) | (exfalso; omega) | skip)) | refine awp_ret ?_ | refine awp_exit ?_ | simp (maxSteps := 1000000) only [go_sem, Nat.reduceAdd, Nat.reduceMul, Nat.reduceEqDiff, Nat.reduceLeDiff, Nat.reduceLT, Nat.reduceSub, Int.reduceEq, Int.reduceBEq, Int.reduceLT, Int.reduceLE, Int.reduceAdd, Int.reduceToNat, reduceIte, reduceCtorEq, Int.toNat_natCast, hg, refRow, hw] | (refine hK _ ?_; clear hK; clear K') | refine And.intro ?_ ?_ | (apply awCs_A; (focus (first | exact EvC.b h_ref02_rows))) | (simp only [List.length_append, List.length_cons, List.length_nil, List.length_map, Nat.reducePow, Nat.reduceAdd]; omega) | omega | exact List.mem_singleton_self _)
    · refine ends_r _ rfl ?_; simp only [go_sem, Nat.reduceEqDiff, Nat.reduceAdd, reduceIte, reduceCtorEq]
      rw [← hinv]; simp [findR, hc]; omega
    · refine hL _ (k + 1) (by simp only [Nat.reduceAdd, ovT, lookD, Nat.reduceEqDiff, reduceIte, eqT_cons, eqT_nil, renI, u32, u33, u34, u35, u36, u37, u38, u39, and_self, and_true, true_and]) ⟨by omega, by omega, ?_⟩ (by omega) (fun a ha => by simp only [u32, u33, u34, u35, u36, u37, u38, u39]; repeat rw [if_neg (by omega)])
      rw [← hinv, findR, if_neg (by first | omega | simp [hc])]
end Av
end
section
set_option linter.unusedSimpArgs false
set_option linter.unusedVariables false
set_option maxRecDepth 10000
set_option maxHeartbeats 4000000
namespace Av
open Go
attribute [local irreducible] AWp runO runP runG awS awC awCv awQ awRd awCallR awCvR awQR awR awRdR awB okR plan ris
theorem wrap_u8 {n : Int} (h0 : 0 ≤ n) (h1 : n < 256) : IntKind.u8.wrap n = n := by
  have e1 : IntKind.u8.bits = 8 := rfl
  have e2 : IntKind.u8.signed = false := rfl
  simp only [IntKind.wrap, e1, e2, Bool.false_and]
  simp; omega
def numL (acc : Int) : List UInt8 → Option Int
  | [] => some acc
  | c :: r => if c.toNat < 48 ∨ 57 < c.toNat then none else numL (acc * 10 + ((c.toNat : Int) - 48)) r
def numR (s : List UInt8) : Int × Bool :=
  if s = [] ∨ 15 < s.length ∨ (1 < s.length ∧ s[0]? = some 48) then (0, false)
  else match numL 0 s with | none => (0, false) | some n => (n, true)
def numV (p : Int × Bool) : V := .tup [V.int p.1, V.bool p.2]
theorem pow_le {k : Nat} (h : k ≤ 15) : (10 : Nat) ^ k ≤ 1000000000000000 := Nat.le_trans (Nat.pow_le_pow_right (by omega) h) (by omega)
theorem u8_ofNat_eq (c : UInt8) (h : (c.toNat : Int) = 48) : c = 48 := by
  apply UInt8.toNat_inj.1; simp; omega
def c_ref02_Number : AC := seqK [0] (.reg [mc 2 (V.int 0), mc 3 (V.bool false)]) (seqK [0] (seqK [0, 23] (.reg [mv 6 0, xo 7 (.lenS (.t 6)), bc 8 .eql 7 (V.int 0), mv 9 8, mg 10 0 9 false, xg 11 (.lenS (.t 10)) 9 false, xg 12 (.bin .gtr (.t 11) (.c (V.int 15))) 9 false, xo 13 (.pick (.t 9) (.c (V.bool true)) (.t 12)), mv 14 13, mg 15 0 14 false, xg 16 (.lenS (.t 15)) 14 false, xg 17 (.bin .gtr (.t 16) (.c (V.int 1))) 14 false, mg 18 17 14 false, mg 19 0 18 true, xg 20 (.idxS (.t 19) (.c (V.int 0))) 18 true, xg 21 (.bin .eql (.t 20) (.c (.sc (.int .u8 48)))) 18 true, xg 22 (.pick (.t 18) (.t 21) (.c (V.bool false))) 14 false, xo 23 (.pick (.t 14) (.c (V.bool true)) (.t 22))]) (.cond (.t 23) (seqK [2, 3] (.reg [mc 2 (V.int 0), mc 3 (V.bool false)]) (.ret)) (.skip))) (seqK [0, 4] (.reg [mc 4 (V.int 0)]) (seqK [4] (seqK [0, 4, 5] (.reg [mc 5 (V.int 0)]) (.block 0 (loopK [0, 4, 5] (seqK [0, 4, 5] (seqK [0, 4, 5, 27] (.reg [mv 24 5, mv 25 0, xo 26 (.lenS (.t 25)), bn 27 .lss 24 26]) (.cond (.t 27) (.skip) (.exit 0))) (seqK [0, 4, 5] (.block 1 (seqK [0, 4, 5] (seqK [0, 4, 5, 39] (.reg [mv 30 0, mv 31 5, xo 32 (.idxS (.t 30) (.t 31)), bc 33 .lss 32 (.sc (.int .u8 48)), mv 34 33, mg 35 0 34 false, mg 36 5 34 false, xg 37 (.idxS (.t 35) (.t 36)) 34 false, xg 38 (.bin .gtr (.t 37) (.c (.sc (.int .u8 57)))) 34 false, xo 39 (.pick (.t 34) (.c (V.bool true)) (.t 38))]) (.cond (.t 39) (seqK [2, 3] (.reg [mc 2 (V.int 0), mc 3 (V.bool false)]) (.ret)) (.skip))) (.reg [mv 40 4, bc 41 .mul 40 (V.int 10), mv 42 0, mv 43 5, xo 44 (.idxS (.t 42) (.t 43)), bc 45 .sub 44 (.sc (.int .u8 48)), xo 46 (.convI .i64 (.t 45)), bn 47 .add 41 46, mv 4 47]))) (.reg [mv 28 5, bc 29 .add 28 (V.int 1), mv 5 29])))))) (seqK [2, 3] (.reg [mv 48 4, mv 2 48, mc 3 (V.bool true)]) (.ret))))) def r_ref02_Number : List ARes := [.tmp 2, .tmp 3]
def CE_ref02_Number (Γ : Env) (f : Nat) : Prop := ∀ (s : List UInt8), EvN Γ f [V.str s] (numV (numR s))
theorem ev_ref02_Number {Γ : Env} {f : Nat} (h : Has Γ.P f 49 c_ref02_Number r_ref02_Number)  : CE_ref02_Number Γ f := by
  intro s
  refine evN_of_body h (by simp) (by simp only [numV, V.closed, closedL, V.noSl, noSlL, and_self]) (by simp only [numV, V.closed, closedL, V.noSl, noSlL, and_self]) fun C hC hm => ?_
  subst hC
  unfold c_ref02_Number
  by_cases hbad : s = [] ∨ 15 < s.length ∨ (1 < s.length ∧ s[0]? = some 48)
  · have hr : numR s = (0, false) := by rw [numR, if_pos hbad]
    rw [hr]
    rcases s with _ | ⟨c, r⟩
    · repeat' (first | refine awp_seqR fun K' hK => ?_ | refine awp_regR fun K' hK => ?_ | refine awp_seqK ?_ | refine awp_skip ?_ | refine awp_block ?_ | ((first | refine awp_cond ⟨_, rfl, fun hc => ?_, fun hc => ?_⟩ | refine awB_t (fun hc => ?_) (fun hc => ?_) | refine awB_f (fun hc => ?_) (fun hc => ?_)) <;> first | exact Bool.noConfusion hc | ((try simp only [decide_eq_true_eq, decide_eq_false_iff_not, beq_iff_eq, beq_eq_false_iff_ne, ne_eq, Bool.not_eq_true', Bool.not_eq_false'] at hc); first | (exfalso; simp only [List.length_map] at hc; omega) | (exfalso; omega) | skip)) | refine awp_ret ?_ | refine awp_exit ?_ | simp (maxSteps := 1000000) only [go_sem, Nat.reduceAdd, Nat.reduceMul, Nat.reduceEqDiff, Nat.reduceLeDiff, Nat.reduceLT, Nat.reduceSub, Int.reduceEq, Int.reduceBEq, Int.reduceLT, Int.reduceLE, Int.reduceAdd, Int.reduceToNat, reduceIte, reduceCtorEq] | (refine hK _ ?_; clear hK; clear K') | refine And.intro ?_ ?_ | (simp only [List.length_append, List.length_cons, List.length_nil, List.length_map, Nat.reducePow, Nat.reduceAdd]; omega) | omega | exact List.mem_singleton_self _)
      all_goals first | (simp only [numV]; refine ends_r _ rfl ?_; simp only [go_sem, Nat.reduceEqDiff, Nat.reduceAdd, reduceIte, reduceCtorEq]; done) | trace_state
    · have hl3 : ((((r.length + 1 : Nat) : Int)) == 0) = false := by simp; omega
      by_cases hl : 15 < (c :: r).length
      · have hl4 : decide ((((r.length + 1 : Nat) : Int)) > 15) = true := by simp at hl ⊢; omega
        repeat' (first | refine awp_seqR fun K' hK => ?_ | refine awp_regR fun K' hK => ?_ | refine awp_seqK ?_ | refine awp_skip ?_ | refine awp_block ?_ | ((first | refine awp_cond ⟨_, rfl, fun hc => ?_, fun hc => ?_⟩ | refine awB_t (fun hc => ?_) (fun hc => ?_) | refine awB_f (fun hc => ?_) (fun hc => ?_)) <;> first | exact Bool.noConfusion hc | ((try simp only [decide_eq_true_eq, decide_eq_false_iff_not, beq_iff_eq, beq_eq_false_iff_ne, ne_eq, Bool.not_eq_true', Bool.not_eq_false'] at hc); first | (exfalso; simp only [List.length_map] at hc; omega) | (exfalso; omega) | skip)) | refine awp_ret ?_ | refine awp_exit ?_ | simp (maxSteps := 1000000) only [go_sem, Nat.reduceAdd, Nat.reduceMul, Nat.reduceEqDiff, Nat.reduceLeDiff, Nat.reduceLT, Nat.reduceSub, Int.reduceEq, Int.reduceBEq, Int.reduceLT, Int.reduceLE, Int.reduceAdd, Int.reduceToNat, reduceIte, reduceCtorEq, hl3, hl4] | (refine hK _ ?_; clear hK; clear K') | refine And.intro ?_ ?_ | (simp only [List.length_append, List.length_cons, List.length_nil, List.length_map, Nat.reducePow, Nat.reduceAdd]; omega) | omega | exact List.mem_singleton_self _)
        all_goals first | (simp only [numV]; refine ends_r _ rfl ?_; simp only [go_sem, Nat.reduceEqDiff, Nat.reduceAdd, reduceIte, reduceCtorEq]; done) | trace_state
      · have hc : 1 < (c :: r).length ∧ c = 48 := by
          rcases hbad with h | h | h
          · simp at h
          · omega
          · simpa using h
        obtain ⟨hc1, rfl⟩ := hc
        have hl4 : decide ((((r.length + 1 : Nat) : Int)) > 15) = false := by simp at hl ⊢; omega
        have hl5 : decide ((((r.length + 1 : Nat) : Int)) > 1) = true := by simp at hc1 ⊢; omega
        have hl6 : ((((48 : UInt8).toNat : Int)) == 48) = true := rfl
        repeat' (first | refine awp_seqR fun K' hK => ?_ | refine awp_regR fun K' hK => ?_ | refine awp_seqK ?_ | refine awp_skip ?_ | refine awp_block ?_ | ((first | refine awp_cond ⟨_, rfl, fun hc => ?_, fun hc => ?_⟩ | refine awB_t (fun hc => ?_) (fun hc => ?_) | refine awB_f (fun hc => ?_) (fun hc => ?_)) <;> first | exact Bool.noConfusion hc | ((try simp only [decide_eq_true_eq, decide_eq_false_iff_not, beq_iff_eq, beq_eq_false_iff_ne, ne_eq, Bool.not_eq_true', Bool.not_eq_false'] at hc); first | (exfalso; simp only [List.length_map] at hc; omega) | (exfalso; omega) | skip)) | refine awp_ret ?_ | refine awp_exit ?_ | simp (maxSteps := 1000000) only [go_sem, Nat.reduceAdd, Nat.reduceMul, Nat.reduceEqDiff, Nat.reduceLeDiff, Nat.reduceLT, Nat.reduceSub, Int.reduceEq, Int.reduceBEq, Int.reduceLT, Int.reduceLE, Int.reduceAdd, Int.reduceToNat, reduceIte, reduceCtorEq, hl3, hl4, hl5, hl6] | (refine hK _ ?_; clear hK; clear K') | refine And.intro ?_ ?_ | (simp only [List.length_append, List.length_cons, List.length_nil, List.length_map, Nat.reducePow, Nat.reduceAdd]; omega) | omega | exact List.mem_singleton_self _)
        all_goals first
          | (exfalso; exact hc rfl)
          | (simp only [numV]; refine ends_r _ rfl ?_; simp only [go_sem, Nat.reduceEqDiff, Nat.reduceAdd, reduceIte, reduceCtorEq])
  · obtain ⟨c0, r0, hs0⟩ : ∃ c r, s = c :: r := by
      rcases s with _ | ⟨c, r⟩
      · simp at hbad
      · exact ⟨_, _, rfl⟩
    have hl3 : ((s.length : Int) == 0) = false := by rw [hs0]; simp; omega
    have hl15 : s.length ≤ 15 := by omega
    have hl4 : decide ((s.length : Int) > 15) = false := by simp; omega
    have hg0 : s[0]? = some c0 := by rw [hs0]; rfl
    have hl6 : 1 < s.length → (c0.toNat : Int) ≠ 48 := fun h1 h => hbad (.inr (.inr ⟨h1, by rw [hg0, u8_ofNat_eq c0 h]⟩))
    have hr : numR s = (match numL 0 s with | none => (0, false) | some n => (n, true)) := by rw [numR, if_neg hbad]
    rw [hr]
    repeat' (first | refine awp_seqR fun K' hK => ?_ | refine awp_regR fun K' hK => ?_ | refine awp_seqK ?_ | refine awp_skip ?_ | refine awp_block ?_ | ((first | refine awp_cond ⟨_, rfl, fun hc => ?_, fun hc => ?_⟩ | refine awB_t (fun hc => ?_) (fun hc => ?_) | refine awB_f (fun hc => ?_) (fun hc => ?_)) <;> first | exact Bool.noConfusion hc | ((try simp only [decide_eq_true_eq, decide_eq_false_iff_not, beq_iff_eq, beq_eq_false_iff_ne, ne_eq, Bool.not_eq_true', Bool.not_eq_false'] at hc); first | (exfalso; simp only [List.length_map] at hc; omega) | (exfalso; omega) | skip)) | refine awp_ret ?_ | refine awp_exit ?_ | simp (maxSteps := 1000000) only [go_sem, Nat.reduceAdd, Nat.reduceMul, Nat.reduceEqDiff, Nat.reduceLeDiff, Nat.reduceLT, Nat.reduceSub, Int.reduceEq, Int.reduceBEq, Int.reduceLT, Int.reduceLE, Int.reduceAdd, Int.reduceToNat, reduceIte, reduceCtorEq, hl3, hl4, hg0, Int.toNat_zero] | (refine hK _ ?_; clear hK; clear K') | refine And.intro ?_ ?_ | (simp only [List.length_append, List.length_cons, List.length_nil, List.length_map, Nat.reducePow, Nat.reduceAdd]; omega) | omega | exact List.mem_singleton_self _)
    all_goals first
      | (exfalso; have := hl6 (by omega); omega)
      | skip
    all_goals
      refine awp_loopP (ι := Nat × Int) (fun p => p.1 ≤ s.length ∧ 0 ≤ p.2 ∧ p.2 < ((10 ^ p.1 : Nat) : Int) ∧ numL p.2 (s.drop p.1) = numL 0 s) (fun p => [(5, V.int p.1), (4, V.int p.2)]) (fun p => s.length - p.1) (0, 0) (by omega) ⟨by simp, by simp, by simp, by simp⟩ (by repeat' first | exact ltO_none | refine ltO_upd (by omega) (by simp only [Ob.lt, ltL, V.lt, and_self, and_true]; try omega) ?_) (fun i hi => by simp only [ovT, lookD, Nat.reduceEqDiff, reduceIte]; (repeat' first | exact ltT_nil | refine ltT_cons ?_ ?_ | simp only [V.lt, ltL, and_self, and_true] | omega)) (by simp only [Nat.reduceAdd, ovT, lookD, Nat.reduceEqDiff, reduceIte, eqT_cons, eqT_nil, renI, u32, u33, u34, u35, u36, u37, u38, u39, and_self, and_true, true_and]; rfl) fun p hk K' hL => ?_
      obtain ⟨k, n⟩ := p
      obtain ⟨hk, hn0, hn1, hinv⟩ := hk
      simp only [ovT, lookD, Nat.reduceEqDiff, reduceIte] at *
    all_goals
      rcases hd : s.drop k with _ | ⟨c, r⟩
      · have hk' := drop_nil hd
        rw [hd] at hinv
        repeat' (first | refine awp_seqR fun K' hK => ?_ | refine awp_regR fun K' hK => ?_ | refine awp_seqK ?_ | refine awp_skip ?_ | refine awp_block ?_ | ((first | refine awp_cond ⟨_, rfl, fun hc => ?_, fun hc => ?_⟩ | refine awB_t (fun hc => ?_) (fun hc => ?_) | refine awB_f (fun hc => ?_) (fun hc => ?_)) <;> first | exact Bool.noConfusion hc | ((try simp only [decide_eq_true_eq, decide_eq_false_iff_not, beq_iff_eq, beq_eq_false_iff_ne, ne_eq, Bool.not_eq_true', Bool.not_eq_false'] at hc); first | (exfalso; simp only [List.length_map] at hc; omega) | (exfalso; omega) | skip)) | refine awp_ret ?_ | refine awp_exit ?_ | simp (maxSteps := 1000000) only [go_sem, Nat.reduceAdd, Nat.reduceMul, Nat.reduceEqDiff, Nat.reduceLeDiff, Nat.reduceLT, Nat.reduceSub, Int.reduceEq, Int.reduceBEq, Int.reduceLT, Int.reduceLE, Int.reduceAdd, Int.reduceToNat, reduceIte, reduceCtorEq] | (refine hK _ ?_; clear hK; clear K') | refine And.intro ?_ ?_ | (simp only [List.length_append, List.length_cons, List.length_nil, List.length_map, Nat.reducePow, Nat.reduceAdd]; omega) | omega | exact List.mem_singleton_self _)
        rw [← hinv]
        simp only [numL, numV]
        refine ends_r _ rfl ?_; simp only [go_sem, Nat.reduceEqDiff, Nat.reduceAdd, reduceIte, reduceCtorEq]
      · obtain ⟨hk', hget, hrd⟩ := drop_cons hd
        rw [hd] at hinv
        have hw := wrap_succ (k := k) (by omega)
        have hp := pow_le (k := k) (by omega)
        have hps : (10 : Nat) ^ (k + 1) = 10 ^ k * 10 := Nat.pow_succ ..
        by_cases hdig : 48 ≤ c.toNat ∧ c.toNat ≤ 57
        · have e1 : IntKind.i64.wrap (n * 10) = n * 10 := wrap_id (by omega) (by omega)
          have e2 : IntKind.u8.wrap ((c.toNat : Int) - 48) = (c.toNat : Int) - 48 := wrap_u8 (by omega) (by omega)
          have e3 : IntKind.i64.wrap ((c.toNat : Int) - 48) = (c.toNat : Int) - 48 := wrap_id (by omega) (by omega)
          have e4 : IntKind.i64.wrap (n * 10 + ((c.toNat : Int) - 48)) = n * 10 + ((c.toNat : Int) - 48) := wrap_id (by omega) (by omega)
          have e5 : decide ((c.toNat : Int) < 48) = false := by simp; omega
          have e6 : decide ((c.toNat : Int) > 57) = false := by simp; omega
          repeat' (first | refine awp_seqR fun K' hK => ?_ | refine awp_regR fun K' hK => ?_ | refine awp_seqK ?_ | refine awp_skip ?_ | refine awp_block ?_ | ((first | refine awp_cond ⟨_, rfl, fun hc => ?_, fun hc => ?_⟩ | refine awB_t (fun hc => ?_) (fun hc => ?_) | refine awB_f (fun hc => ?_) (fun hc => ?_)) <;> first | exact Bool.noConfusion hc | ((try simp only [decide_eq_true_eq, decide_eq_false_iff_not, beq_iff_eq, beq_eq_false_iff_ne, ne_eq, Bool.not_eq_true', Bool.not_eq_false'] at hc); first | (exfalso; simp only [List.length_map] at hc; omega) | (exfalso; omega) | skip)) | refine awp_ret ?_ | refine awp_exit ?_ | simp (maxSteps := 1000000) only [go_sem, Nat.reduceAdd, Nat.reduceMul, Nat.reduceEqDiff, Nat.reduceLeDiff, Nat.reduceLT, Nat.reduceSub, Int.reduceEq, Int.reduceBEq, Int.reduceLT, Int.reduceLE, Int.reduceAdd, Int.reduceToNat, reduceIte, reduceCtorEq, Int.toNat_natCast, hget, hw, e1, e2, e3, e4, e5, e6] | (refine hK _ ?_; clear hK; clear K') | refine And.intro ?_ ?_ | (simp only [List.length_append, List.length_cons, List.length_nil, List.length_map, Nat.reducePow, Nat.reduceAdd]; omega) | omega | exact List.mem_singleton_self _)
          refine hL _ (k + 1, n * 10 + ((c.toNat : Int) - 48)) (by simp only [Nat.reduceAdd, ovT, lookD, Nat.reduceEqDiff, reduceIte, eqT_cons, eqT_nil, renI, u32, u33, u34, u35, u36, u37, u38, u39, and_self, and_true, true_and]) ⟨by omega, by omega, ?_, ?_⟩ (by omega) (fun a ha => by simp only [u32, u33, u34, u35, u36, u37, u38, u39]; repeat rw [if_neg (by omega)])
          · show n * 10 + ((c.toNat : Int) - 48) < ((10 ^ (k + 1) : Nat) : Int)
            rw [hps]; omega
          · show numL (n * 10 + ((c.toNat : Int) - 48)) (s.drop (k + 1)) = numL 0 s
            rw [hrd, ← hinv, numL, if_neg (by omega)]
        · have hno : numL n (c :: r) = none := by rw [numL, if_pos (by omega)]
          rw [hno] at hinv
          by_cases e5 : c.toNat < 48
          · have e6 : decide ((c.toNat : Int) < 48) = true := by simp; omega
            repeat' (first | refine awp_seqR fun K' hK => ?_ | refine awp_regR fun K' hK => ?_ | refine awp_seqK ?_ | refine awp_skip ?_ | refine awp_block ?_ | ((first | refine awp_cond ⟨_, rfl, fun hc => ?_, fun hc => ?_⟩ | refine awB_t (fun hc => ?_) (fun hc => ?_) | refine awB_f (fun hc => ?_) (fun hc => ?_)) <;> first | exact Bool.noConfusion hc | ((try simp only [decide_eq_true_eq, decide_eq_false_iff_not, beq_iff_eq, beq_eq_false_iff_ne, ne_eq, Bool.not_eq_true', Bool.not_eq_false'] at hc); first | (exfalso; simp only [List.length_map] at hc; omega) | (exfalso; omega) | skip)) | refine awp_ret ?_ | refine awp_exit ?_ | simp (maxSteps := 1000000) only [go_sem, Nat.reduceAdd, Nat.reduceMul, Nat.reduceEqDiff, Nat.reduceLeDiff, Nat.reduceLT, Nat.reduceSub, Int.reduceEq, Int.reduceBEq, Int.reduceLT, Int.reduceLE, Int.reduceAdd, Int.reduceToNat, reduceIte, reduceCtorEq, Int.toNat_natCast, hget, hw, e6] | (refine hK _ ?_; clear hK; clear K') | refine And.intro ?_ ?_ | (simp only [List.length_append, List.length_cons, List.length_nil, List.length_map, Nat.reducePow, Nat.reduceAdd]; omega) | omega | exact List.mem_singleton_self _)
            all_goals (rw [← hinv]; simp only [numV]; refine ends_r _ rfl ?_; simp only [go_sem, Nat.reduceEqDiff, Nat.reduceAdd, reduceIte, reduceCtorEq])
          · have e6 : decide ((c.toNat : Int) < 48) = false := by simp; omega
            have e7 : decide ((c.toNat : Int) > 57) = true := by simp; omega
            repeat' (first | refine awp_seqR fun K' hK => ?_ | refine awp_regR fun K' hK => ?_ | refine awp_seqK ?_ | refine awp_skip ?_ | refine awp_block ?_ | ((first | refine awp_cond ⟨_, rfl, fun hc => ?_, fun hc => ?_⟩ | refine awB_t (fun hc => ?_) (fun hc => ?_) | refine awB_f (fun hc => ?_) (fun hc => ?_)) <;> first | exact Bool.noConfusion hc | ((try simp only [decide_eq_true_eq, decide_eq_false_iff_not, beq_iff_eq, beq_eq_false_iff_ne, ne_eq, Bool.not_eq_true', Bool.not_eq_false'] at hc); first | (exfalso; simp only [List.length_map] at hc; omega) | (exfalso; omega) | skip)) | refine awp_ret ?_ | refine awp_exit ?_ | simp (maxSteps := 1000000) only [go_sem, Nat.reduceAdd, Nat.reduceMul, Nat.reduceEqDiff, Nat.reduceLeDiff, Nat.reduceLT, Nat.reduceSub, Int.reduceEq, Int.reduceBEq, Int.reduceLT, Int.reduceLE, Int.reduceAdd, Int.reduceToNat, reduceIte, reduceCtorEq, Int.toNat_natCast, hget, hw, e6, e7] | (refine hK _ ?_; clear hK; clear K') | refine And.intro ?_ ?_ | (simp only [List.length_append, List.length_cons, List.length_nil, List.length_map, Nat.reducePow, Nat.reduceAdd]; omega) | omega | exact List.mem_singleton_self _)
            all_goals (rw [← hinv]; simp only [numV]; refine ends_r _ rfl ?_; simp only [go_sem, Nat.reduceEqDiff, Nat.reduceAdd, reduceIte, reduceCtorEq])
end Av
end
